import Derived.Test.YtdcddenojjdmjaaGreatDoorM35
set_option linter.all false
set_option maxHeartbeats 8000000
set_option maxRecDepth 100000
namespace Go.Proofs.YtdcddenojjdmjaaGreatDoor.T
open Go.RowKit Go.Proofs.YtdcddenojjdmjaaGreatDoorW.PrintWords Go.Proofs.YtdcddenojjdmjaaGreatDoorW.PrintLast Go.Proofs.YtdcddenojjdmjaaGreatDoorW.PrintMore
def mayC(a0:ByteArray)(a1:Int)(a2 a3:ByteArray)(a4 a5:Int)(l7:List Int)(a8 a9 dH:Int)(dF:List aN)(eG:List fo):Bool:=
 (!(a0.toList.isEmpty||(decide (a0.size>16)||(decide (a1<1)||decide (a1>1048576))))&&(!((!a2.toList.isEmpty&& !rq a2)||(!rq a3||(decide (a4<0)||decide (a4>256))))&&(EA a5 l7 a8 a9 dH dF&&(!decide (eG.length>256)&& !eG.any Be))))
def Fp.f(a0:ByteArray)(a1:Int)(a2 a3:ByteArray)(a4 a5:Int)(a6:Bool)(l7:List Int)(a8 a9 dH:Int)(dF:List aN)(eG:List fo):Option Bool:=some (mayC a0 a1 a2 a3 a4 a5 l7 a8 a9 dH dF eG)
theorem YF(a0:ByteArray)(a1:Int)(a2 a3:ByteArray)(a4 a5:Int)(a6:Bool)(l7:List Int)(a8 a9 dH:Int)(dF:List aN)(eG:List fo):∃b,Fp.f a0 a1 a2 a3 a4 a5 a6 l7 a8 a9 dH dF eG=some b:=⟨_,rfl⟩
theorem Fp.calls(a0:ByteArray)(a1:Int)(a2:ByteArray)(a3:ByteArray)(a4:Int)(a5:Int)(a6:Bool)(A7:Option Addr)(c7:Nat)(l7:List Int)(a8:Int)(a9:Int)(dH:Int)(iF:Option Addr)(c11:Nat)(dF:List (aN))(jC:Option Addr)(c12:Nat)(eG:List (fo))(r:Bool)(w:World)(hr7:Kd.C (Kd.int .i64) w A7 l7.length l7)(hc7:l7.length≤c7)(hr11:Kd.C fZ w iF dF.length dF)(Fw:dF.length≤c11)(hr12:Kd.C vJ w jC eG.length eG)(hc12:eG.length≤c12)(h:Fp.f a0 a1 a2 a3 a4 a5 a6 l7 a8 a9 dH dF eG=some r):
  Calls Tryz.prog 23 #[.agg #[.string a0,.int .i64 a1,.string a2,.string a3,.int .i64 a4,.int .i64 a5,.bool a6,.slice A7 l7.length c7,.int .i64 a8,.int .i64 a9,.int .i64 dH,.slice iF dF.length c11,.slice jC eG.length c12]] w fun e w'=>e=.returned (.bool r)∧Below w.heap.size w w':=by
 have hE:=af.mk (show r=(!(a0.toList.isEmpty||(decide (a0.size>16)||(decide (a1<1)||decide (a1>1048576))))&&(!((!a2.toList.isEmpty&& !rq a2)||(!rq a3||(decide (a4<0)||decide (a4>256))))&&(EA a5 l7 a8 a9 dH dF&&(!decide (eG.length>256)&& !eG.any Be))))from(Option.some.inj h).symm);have HR7:=af.mk hr7;have EO:=af.mk hr11;have HR12:=af.mk hr12;have hlen12:eG.length≤9223372036854775807:=hr12.2.1;clear hr7 hr11 hr12 h
 cases h1:a0.toList.isEmpty with
 |true=>
  have tH:=af.mk h1;have HE:=af.mk (hE.out.trans (by rw[h1];rfl):r=false);clear hE
  go_enter Tryz.func23,Tryz.ntmps23
  go_wp2_with (first|fail)
  go_ret
  exact⟨by rw[HE.out];rfl,by repeat(first|apply dm|apply ax|exact Below.refl _ _)⟩
 |false=>
  have tH:=af.mk h1
  by_cases c2:a0.size>16
  ·have HE:=af.mk (hE.out.trans (by rw[h1,decide_eq_true c2];rfl):r=false);clear hE;have sG:decide (16<(a0.size:Int))=true:=decide_eq_true (by omega)
   go_enter Tryz.func23,Tryz.ntmps23
   go_wp2_with (first|fail)
   go_ret
   exact⟨by rw[HE.out];rfl,by repeat(first|apply dm|apply ax|exact Below.refl _ _)⟩
  ·by_cases c3:a1<1
   ·have HE:=af.mk (hE.out.trans (by rw[h1,decide_eq_false c2,decide_eq_true c3];rfl):r=false);clear hE;have sG:decide (16<(a0.size:Int))=false:=decide_eq_false (by omega)
    go_enter Tryz.func23,Tryz.ntmps23
    go_wp2_with (first|fail)
    go_ret
    exact⟨by rw[HE.out];rfl,by repeat(first|apply dm|apply ax|exact Below.refl _ _)⟩
   ·by_cases c4:a1>1048576
    ·have HE:=af.mk (hE.out.trans (by rw[h1,decide_eq_false c2,decide_eq_false c3,decide_eq_true c4];rfl):r=false);clear hE;have sG:decide (16<(a0.size:Int))=false:=decide_eq_false (by omega)
     go_enter Tryz.func23,Tryz.ntmps23
     go_wp2_with (first|fail)
     go_ret
     exact⟨by rw[HE.out];rfl,by repeat(first|apply dm|apply ax|exact Below.refl _ _)⟩
    ·cases h5:a2.toList.isEmpty with
     |true=>
      cases h7:rq a3 with
      |false=>
       have nU:=af.mk h7;have HE:=af.mk (hE.out.trans (by rw[h1,decide_eq_false c2,decide_eq_false c3,decide_eq_false c4,h5,h7];rfl):r=false);clear hE;have sG:decide (16<(a0.size:Int))=false:=decide_eq_false (by omega)
       go_enter Tryz.func23,Tryz.ntmps23
       go_wp2_with (first|(go_at_call 69;with_reducible refine(mg.calls a3 false _ (pE nU.out)).mono ?_;rintro e _ ⟨rfl,⟨⟨n,rfl⟩⟩⟩))
       go_ret
       exact⟨by rw[HE.out];rfl,by repeat(first|apply dm|apply ax|exact Below.refl _ _)⟩
      |true=>
       have nU:=af.mk h7
       by_cases c8:a4<0
       ·have HE:=af.mk (hE.out.trans (by rw[h1,decide_eq_false c2,decide_eq_false c3,decide_eq_false c4,h5,h7,decide_eq_true c8];rfl):r=false);clear hE;have sG:decide (16<(a0.size:Int))=false:=decide_eq_false (by omega)
        go_enter Tryz.func23,Tryz.ntmps23
        go_wp2_with (first|(go_at_call 69;with_reducible refine(mg.calls a3 true _ (pE nU.out)).mono ?_;rintro e _ ⟨rfl,⟨⟨n,rfl⟩⟩⟩))
        go_ret
        exact⟨by rw[HE.out];rfl,by repeat(first|apply dm|apply ax|exact Below.refl _ _)⟩
       ·by_cases c9:a4>256
        ·have HE:=af.mk (hE.out.trans (by rw[h1,decide_eq_false c2,decide_eq_false c3,decide_eq_false c4,h5,h7,decide_eq_false c8,decide_eq_true c9];rfl):r=false);clear hE;have sG:decide (16<(a0.size:Int))=false:=decide_eq_false (by omega)
         go_enter Tryz.func23,Tryz.ntmps23
         go_wp2_with (first|(go_at_call 69;with_reducible refine(mg.calls a3 true _ (pE nU.out)).mono ?_;rintro e _ ⟨rfl,⟨⟨n,rfl⟩⟩⟩))
         go_ret
         exact⟨by rw[HE.out];rfl,by repeat(first|apply dm|apply ax|exact Below.refl _ _)⟩
        ·cases h10:EA a5 l7 a8 a9 dH dF with
         |false=>
          have zM:=af.mk h10;have HE:=af.mk (hE.out.trans (by rw[h1,decide_eq_false c2,decide_eq_false c3,decide_eq_false c4,h5,h7,decide_eq_false c8,decide_eq_false c9,h10];rfl):r=false);clear hE;have sG:decide (16<(a0.size:Int))=false:=decide_eq_false (by omega)
          go_enter Tryz.func23,Tryz.ntmps23
          go_wp2_with (first|(go_at_call 69;with_reducible refine(mg.calls a3 true _ (pE nU.out)).mono ?_;rintro e _ ⟨rfl,⟨⟨n,rfl⟩⟩⟩)|(go_at_call 70;with_reducible refine(Gs a5 a6 A7 c7 l7 a8 a9 dH iF c11 dF _ (Kd.dN HR7.out (by repeat(first|apply dm|apply ax|exact Below.refl _ _))) hc7 (Kd.dN EO.out (by repeat(first|apply dm|apply ax|exact Below.refl _ _))) Fw).mono ?_;rw[zM.out];rintro e w2 ⟨rfl,hb⟩;have K2:=af.mk (aK (aU (bI w (.cells #[.string a0,.int .i64 a1,.string a2,.string a3,.int .i64 a4,.int .i64 a5,.bool a6,.slice A7 l7.length c7,.int .i64 a8,.int .i64 a9,.int .i64 dH,.slice iF dF.length c11,.slice jC eG.length c12] 35)) _) hb);have d12:w2.cell? ⟨w.heap.size,12,none⟩=some (.slice jC eG.length c12):=(ah K2.out 12).trans rfl;have B2:=af.mk (av (by repeat(first|apply dm|apply ax|exact Below.refl _ _)) hb);clear hb))
          go_ret
          exact⟨by rw[HE.out];rfl,B2.out⟩
         |true=>
          have zM:=af.mk h10
          by_cases cq:eG.length>256
          ·have HE:=af.mk (hE.out.trans (by rw[h1,decide_eq_false c2,decide_eq_false c3,decide_eq_false c4,h5,h7,decide_eq_false c8,decide_eq_false c9,h10,decide_eq_true cq];rfl):r=false);clear hE;have sG:decide (16<(a0.size:Int))=false:=decide_eq_false (by omega);have cqb:decide ((eG.length:Int)≤256)=false:=decide_eq_false (by omega)
           go_enter Tryz.func23,Tryz.ntmps23
           go_wp2_with (first|(go_at_call 69;with_reducible refine(mg.calls a3 true _ (pE nU.out)).mono ?_;rintro e _ ⟨rfl,⟨⟨n,rfl⟩⟩⟩)|(go_at_call 70;with_reducible refine(Gs a5 a6 A7 c7 l7 a8 a9 dH iF c11 dF _ (Kd.dN HR7.out (by repeat(first|apply dm|apply ax|exact Below.refl _ _))) hc7 (Kd.dN EO.out (by repeat(first|apply dm|apply ax|exact Below.refl _ _))) Fw).mono ?_;rw[zM.out];rintro e w2 ⟨rfl,hb⟩;have K2:=af.mk (aK (aU (bI w (.cells #[.string a0,.int .i64 a1,.string a2,.string a3,.int .i64 a4,.int .i64 a5,.bool a6,.slice A7 l7.length c7,.int .i64 a8,.int .i64 a9,.int .i64 dH,.slice iF dF.length c11,.slice jC eG.length c12] 35)) _) hb);have d12:w2.cell? ⟨w.heap.size,12,none⟩=some (.slice jC eG.length c12):=(ah K2.out 12).trans rfl;have B2:=af.mk (av (by repeat(first|apply dm|apply ax|exact Below.refl _ _)) hb);clear hb))
           go_ret
           exact⟨by rw[HE.out];rfl,B2.out⟩
          ·have HE:=af.mk (hE.out.trans (by rw[h1,decide_eq_false c2,decide_eq_false c3,decide_eq_false c4,h5,h7,decide_eq_false c8,decide_eq_false c9,h10,decide_eq_false cq];simp only[Bool.not_false,Bool.true_and,Bool.false_or,Bool.or_false,Bool.not_true,Bool.false_and,Bool.or_self]):r= !eG.any Be);clear hE;have sG:decide (16<(a0.size:Int))=false:=decide_eq_false (by omega);have cqb:decide ((eG.length:Int)≤256)=true:=decide_eq_true (by omega)
           go_enter Tryz.func23,Tryz.ntmps23
           go_wp2_with (first|(go_at_call 69;with_reducible refine(mg.calls a3 true _ (pE nU.out)).mono ?_;rintro e _ ⟨rfl,⟨⟨n,rfl⟩⟩⟩)|(go_at_call 70;with_reducible refine(Gs a5 a6 A7 c7 l7 a8 a9 dH iF c11 dF _ (Kd.dN HR7.out (by repeat(first|apply dm|apply ax|exact Below.refl _ _))) hc7 (Kd.dN EO.out (by repeat(first|apply dm|apply ax|exact Below.refl _ _))) Fw).mono ?_;rw[zM.out];rintro e w2 ⟨rfl,hb⟩;have K2:=af.mk (aK (aU (bI w (.cells #[.string a0,.int .i64 a1,.string a2,.string a3,.int .i64 a4,.int .i64 a5,.bool a6,.slice A7 l7.length c7,.int .i64 a8,.int .i64 a9,.int .i64 dH,.slice iF dF.length c11,.slice jC eG.length c12] 35)) _) hb);have d12:w2.cell? ⟨w.heap.size,12,none⟩=some (.slice jC eG.length c12):=(ah K2.out 12).trans rfl;have B2:=af.mk (av (by repeat(first|apply dm|apply ax|exact Below.refl _ _)) hb);clear hb)|(go_at_call 71;with_reducible refine(pxAny 64 (mO Tryz.func64 (by kernel_rfl) rfl) jC c12 eG Be _ (Kd.dN HR12.out B2.out) hc12 (fun x A5 c5 W _ _ hc hr=>WG x A5 c5 W hc hr)).mono ?_;rintro e w3 ⟨rfl,hb⟩;have B3:=af.mk (av B2.out hb);clear hb))
           go_ret
           exact⟨by rw[HE.out];rfl,B3.out⟩
     |false=>
      cases h6:rq a2 with
      |false=>
       have rX:=af.mk h6;have HE:=af.mk (hE.out.trans (by rw[h1,decide_eq_false c2,decide_eq_false c3,decide_eq_false c4,h5,h6];rfl):r=false);clear hE;have sG:decide (16<(a0.size:Int))=false:=decide_eq_false (by omega)
       go_enter Tryz.func23,Tryz.ntmps23
       go_wp2_with (first|(go_at_call 69;with_reducible refine(mg.calls a2 false _ (pE rX.out)).mono ?_;rintro e _ ⟨rfl,⟨⟨n,rfl⟩⟩⟩))
       go_ret
       exact⟨by rw[HE.out];rfl,by repeat(first|apply dm|apply ax|exact Below.refl _ _)⟩
      |true=>
       have rX:=af.mk h6
       cases h7:rq a3 with
       |false=>
        have nU:=af.mk h7;have HE:=af.mk (hE.out.trans (by rw[h1,decide_eq_false c2,decide_eq_false c3,decide_eq_false c4,h5,h6,h7];rfl):r=false);clear hE;have sG:decide (16<(a0.size:Int))=false:=decide_eq_false (by omega)
        go_enter Tryz.func23,Tryz.ntmps23
        go_wp2_with (first|(go_at_call 69;with_reducible refine(mg.calls a2 true _ (pE rX.out)).mono ?_;rintro e _ ⟨rfl,⟨⟨n,rfl⟩⟩⟩)|(go_at_call 69;with_reducible refine(mg.calls a3 false _ (pE nU.out)).mono ?_;rintro e _ ⟨rfl,⟨⟨n,rfl⟩⟩⟩))
        go_ret
        exact⟨by rw[HE.out];rfl,by repeat(first|apply dm|apply ax|exact Below.refl _ _)⟩
       |true=>
        have nU:=af.mk h7
        by_cases c8:a4<0
        ·have HE:=af.mk (hE.out.trans (by rw[h1,decide_eq_false c2,decide_eq_false c3,decide_eq_false c4,h5,h6,h7,decide_eq_true c8];rfl):r=false);clear hE;have sG:decide (16<(a0.size:Int))=false:=decide_eq_false (by omega)
         go_enter Tryz.func23,Tryz.ntmps23
         go_wp2_with (first|(go_at_call 69;with_reducible refine(mg.calls a2 true _ (pE rX.out)).mono ?_;rintro e _ ⟨rfl,⟨⟨n,rfl⟩⟩⟩)|(go_at_call 69;with_reducible refine(mg.calls a3 true _ (pE nU.out)).mono ?_;rintro e _ ⟨rfl,⟨⟨n,rfl⟩⟩⟩))
         go_ret
         exact⟨by rw[HE.out];rfl,by repeat(first|apply dm|apply ax|exact Below.refl _ _)⟩
        ·by_cases c9:a4>256
         ·have HE:=af.mk (hE.out.trans (by rw[h1,decide_eq_false c2,decide_eq_false c3,decide_eq_false c4,h5,h6,h7,decide_eq_false c8,decide_eq_true c9];rfl):r=false);clear hE;have sG:decide (16<(a0.size:Int))=false:=decide_eq_false (by omega)
          go_enter Tryz.func23,Tryz.ntmps23
          go_wp2_with (first|(go_at_call 69;with_reducible refine(mg.calls a2 true _ (pE rX.out)).mono ?_;rintro e _ ⟨rfl,⟨⟨n,rfl⟩⟩⟩)|(go_at_call 69;with_reducible refine(mg.calls a3 true _ (pE nU.out)).mono ?_;rintro e _ ⟨rfl,⟨⟨n,rfl⟩⟩⟩))
          go_ret
          exact⟨by rw[HE.out];rfl,by repeat(first|apply dm|apply ax|exact Below.refl _ _)⟩
         ·cases h10:EA a5 l7 a8 a9 dH dF with
          |false=>
           have zM:=af.mk h10;have HE:=af.mk (hE.out.trans (by rw[h1,decide_eq_false c2,decide_eq_false c3,decide_eq_false c4,h5,h6,h7,decide_eq_false c8,decide_eq_false c9,h10];rfl):r=false);clear hE;have sG:decide (16<(a0.size:Int))=false:=decide_eq_false (by omega)
           go_enter Tryz.func23,Tryz.ntmps23
           go_wp2_with (first|(go_at_call 69;with_reducible refine(mg.calls a2 true _ (pE rX.out)).mono ?_;rintro e _ ⟨rfl,⟨⟨n,rfl⟩⟩⟩)|(go_at_call 69;with_reducible refine(mg.calls a3 true _ (pE nU.out)).mono ?_;rintro e _ ⟨rfl,⟨⟨n,rfl⟩⟩⟩)|(go_at_call 70;with_reducible refine(Gs a5 a6 A7 c7 l7 a8 a9 dH iF c11 dF _ (Kd.dN HR7.out (by repeat(first|apply dm|apply ax|exact Below.refl _ _))) hc7 (Kd.dN EO.out (by repeat(first|apply dm|apply ax|exact Below.refl _ _))) Fw).mono ?_;rw[zM.out];rintro e w2 ⟨rfl,hb⟩;have K2:=af.mk (aK (aU (bI w (.cells #[.string a0,.int .i64 a1,.string a2,.string a3,.int .i64 a4,.int .i64 a5,.bool a6,.slice A7 l7.length c7,.int .i64 a8,.int .i64 a9,.int .i64 dH,.slice iF dF.length c11,.slice jC eG.length c12] 35)) _) hb);have d12:w2.cell? ⟨w.heap.size,12,none⟩=some (.slice jC eG.length c12):=(ah K2.out 12).trans rfl;have B2:=af.mk (av (by repeat(first|apply dm|apply ax|exact Below.refl _ _)) hb);clear hb))
           go_ret
           exact⟨by rw[HE.out];rfl,B2.out⟩
          |true=>
           have zM:=af.mk h10
           by_cases cq:eG.length>256
           ·have HE:=af.mk (hE.out.trans (by rw[h1,decide_eq_false c2,decide_eq_false c3,decide_eq_false c4,h5,h6,h7,decide_eq_false c8,decide_eq_false c9,h10,decide_eq_true cq];rfl):r=false);clear hE;have sG:decide (16<(a0.size:Int))=false:=decide_eq_false (by omega);have cqb:decide ((eG.length:Int)≤256)=false:=decide_eq_false (by omega)
            go_enter Tryz.func23,Tryz.ntmps23
            go_wp2_with (first|(go_at_call 69;with_reducible refine(mg.calls a2 true _ (pE rX.out)).mono ?_;rintro e _ ⟨rfl,⟨⟨n,rfl⟩⟩⟩)|(go_at_call 69;with_reducible refine(mg.calls a3 true _ (pE nU.out)).mono ?_;rintro e _ ⟨rfl,⟨⟨n,rfl⟩⟩⟩)|(go_at_call 70;with_reducible refine(Gs a5 a6 A7 c7 l7 a8 a9 dH iF c11 dF _ (Kd.dN HR7.out (by repeat(first|apply dm|apply ax|exact Below.refl _ _))) hc7 (Kd.dN EO.out (by repeat(first|apply dm|apply ax|exact Below.refl _ _))) Fw).mono ?_;rw[zM.out];rintro e w2 ⟨rfl,hb⟩;have K2:=af.mk (aK (aU (bI w (.cells #[.string a0,.int .i64 a1,.string a2,.string a3,.int .i64 a4,.int .i64 a5,.bool a6,.slice A7 l7.length c7,.int .i64 a8,.int .i64 a9,.int .i64 dH,.slice iF dF.length c11,.slice jC eG.length c12] 35)) _) hb);have d12:w2.cell? ⟨w.heap.size,12,none⟩=some (.slice jC eG.length c12):=(ah K2.out 12).trans rfl;have B2:=af.mk (av (by repeat(first|apply dm|apply ax|exact Below.refl _ _)) hb);clear hb))
            go_ret
            exact⟨by rw[HE.out];rfl,B2.out⟩
           ·have HE:=af.mk (hE.out.trans (by rw[h1,decide_eq_false c2,decide_eq_false c3,decide_eq_false c4,h5,h6,h7,decide_eq_false c8,decide_eq_false c9,h10,decide_eq_false cq];simp only[Bool.not_false,Bool.true_and,Bool.false_or,Bool.or_false,Bool.not_true,Bool.false_and,Bool.or_self]):r= !eG.any Be);clear hE;have sG:decide (16<(a0.size:Int))=false:=decide_eq_false (by omega);have cqb:decide ((eG.length:Int)≤256)=true:=decide_eq_true (by omega)
            go_enter Tryz.func23,Tryz.ntmps23
            go_wp2_with (first|(go_at_call 69;with_reducible refine(mg.calls a2 true _ (pE rX.out)).mono ?_;rintro e _ ⟨rfl,⟨⟨n,rfl⟩⟩⟩)|(go_at_call 69;with_reducible refine(mg.calls a3 true _ (pE nU.out)).mono ?_;rintro e _ ⟨rfl,⟨⟨n,rfl⟩⟩⟩)|(go_at_call 70;with_reducible refine(Gs a5 a6 A7 c7 l7 a8 a9 dH iF c11 dF _ (Kd.dN HR7.out (by repeat(first|apply dm|apply ax|exact Below.refl _ _))) hc7 (Kd.dN EO.out (by repeat(first|apply dm|apply ax|exact Below.refl _ _))) Fw).mono ?_;rw[zM.out];rintro e w2 ⟨rfl,hb⟩;have K2:=af.mk (aK (aU (bI w (.cells #[.string a0,.int .i64 a1,.string a2,.string a3,.int .i64 a4,.int .i64 a5,.bool a6,.slice A7 l7.length c7,.int .i64 a8,.int .i64 a9,.int .i64 dH,.slice iF dF.length c11,.slice jC eG.length c12] 35)) _) hb);have d12:w2.cell? ⟨w.heap.size,12,none⟩=some (.slice jC eG.length c12):=(ah K2.out 12).trans rfl;have B2:=af.mk (av (by repeat(first|apply dm|apply ax|exact Below.refl _ _)) hb);clear hb)|(go_at_call 71;with_reducible refine(pxAny 64 (mO Tryz.func64 (by kernel_rfl) rfl) jC c12 eG Be _ (Kd.dN HR12.out B2.out) hc12 (fun x A5 c5 W _ _ hc hr=>WG x A5 c5 W hc hr)).mono ?_;rintro e w3 ⟨rfl,hb⟩;have B3:=af.mk (av B2.out hb);clear hb))
            go_ret
            exact⟨by rw[HE.out];rfl,B3.out⟩
end Go.Proofs.YtdcddenojjdmjaaGreatDoor.T
