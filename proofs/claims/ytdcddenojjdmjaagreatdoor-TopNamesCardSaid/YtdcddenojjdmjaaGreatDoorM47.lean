import Derived.Test.YtdcddenojjdmjaaGreatDoorM19
set_option linter.all false
set_option maxHeartbeats 8000000
set_option maxRecDepth 100000
namespace Go.Proofs.YtdcddenojjdmjaaGreatDoor.T
open Go.RowKit Go.Proofs.YtdcddenojjdmjaaGreatDoorW.PrintWords Go.Proofs.YtdcddenojjdmjaaGreatDoorW.PrintLast Go.Proofs.YtdcddenojjdmjaaGreatDoorW.PrintMore
attribute [local go_sem] kH kL kK kP kJ kN kI kM
def pq.f(a0:ByteArray):Option (Int×ByteArray×Int):=if a0.toList=([]:List UInt8)then(some (0,(⟨#[]⟩:ByteArray),2))else(if 0<(a0.size:Int)then(if(wrap64 (bt a0 0))<251 then(if 1≤(a0.size:Int)then(some (wrap64 (bt a0 0),a0.extract 1 a0.size,0))else(none))else(if(wrap64 (bt a0 0))>251 then(some (0,(⟨#[]⟩:ByteArray),3))else(if(a0.size:Int)<3 then(some (0,(⟨#[]⟩:ByteArray),2))else(if 1<(a0.size:Int)then(if 2<(a0.size:Int)then(if(Go.bits .or .i64 (wrap64 ((wrap64 (bt a0 1))*256)) (wrap64 (bt a0 2)))≤250 then(some (0,(⟨#[]⟩:ByteArray),3))else(if 3≤(a0.size:Int)then(some (Go.bits .or .i64 (wrap64 ((wrap64 (bt a0 1))*256)) (wrap64 (bt a0 2)),a0.extract 3 a0.size,0))else(none)))else(none))else(none)))))else(none))
theorem pq.calls(a0:ByteArray)(r1:Int)(r2:ByteArray)(r3:Int)(w:World)(h:pq.f a0=some (r1,r2,r3)):
  Calls Tryz.prog 83 #[.string a0] w fun e w'=>e=.returned (.tuple #[.int .i64 r1,.string r2,.int .i64 r3])∧aX w w':=by
 have H:(if a0.toList=([]:List UInt8)then(some (0,(⟨#[]⟩:ByteArray),2))else(if 0<(a0.size:Int)then(if(wrap64 (bt a0 0))<251 then(if 1≤(a0.size:Int)then(some (wrap64 (bt a0 0),a0.extract 1 a0.size,0))else(none))else(if(wrap64 (bt a0 0))>251 then(some (0,(⟨#[]⟩:ByteArray),3))else(if(a0.size:Int)<3 then(some (0,(⟨#[]⟩:ByteArray),2))else(if 1<(a0.size:Int)then(if 2<(a0.size:Int)then(if(Go.bits .or .i64 (wrap64 ((wrap64 (bt a0 1))*256)) (wrap64 (bt a0 2)))≤250 then(some (0,(⟨#[]⟩:ByteArray),3))else(if 3≤(a0.size:Int)then(some (Go.bits .or .i64 (wrap64 ((wrap64 (bt a0 1))*256)) (wrap64 (bt a0 2)),a0.extract 3 a0.size,0))else(none)))else(none))else(none)))))else(none)))=some (r1,r2,r3):=h;clear h
 by_cases c2:a0.toList=([]:List UInt8)
 ·rw[if_pos c2]at H;have ig:(a0.toList==([]:List UInt8))=true:=beq_iff_eq.mpr c2;have nJ:(a0.toList != ([]:List UInt8))=false:=bne_eq_false_iff_eq.mpr c2;clear c2;simp only[Option.some.injEq,Prod.mk.injEq]at H;obtain⟨rfl,rfl,rfl⟩:=H
  go_enter Tryz.func83,Tryz.ntmps83
  go_wp2
  repeat(go_quiet (fail);try go_wp2)
  go_ret3
  exact⟨by first|rfl|(simp;done)|(simp[*];done),by repeat(first|exact aX.refl _|apply aX.step)⟩
 ·rw[if_neg c2]at H;have ig:(a0.toList==([]:List UInt8))=false:=beq_eq_false_iff_ne.mpr c2;have nJ:(a0.toList != ([]:List UInt8))=true:=bne_iff_ne.mpr c2
  by_cases c3:0<(a0.size:Int)
  ·rw[if_pos c3]at H;have fJ:decide (0<(a0.size:Int))=true:=decide_eq_true c3;have jV:decide (0<a0.size)=true:=decide_eq_true (by omega);clear c3
   by_cases c5:(wrap64 (bt a0 0))<251
   ·rw[if_pos c5]at H;have jW:decide ((wrap64 (bt a0 0))<251)=true:=decide_eq_true c5;clear c5
    by_cases c6:1≤(a0.size:Int)
    ·rw[if_pos c6]at H;have jv:=eq_true c6;have xU:decide (1≤(a0.size:Int))=true:=decide_eq_true c6;clear c6;simp only[Option.some.injEq,Prod.mk.injEq]at H;obtain⟨rfl,rfl,rfl⟩:=H;have p4:0≤(0:Int):=(by omega);have q4:0<a0.size:=(by have:(0:Int)<(a0.size:Int):=aG;omega);have hx4:∀h:0<a0.size,((a0[0]'h).toNat:Int)=bt a0 0:=jM a0 0;clear p4;have qi4:(0<(a0.size:Int))=True:=eq_true (aG);replace q4:=eq_true q4
     go_enter Tryz.func83,Tryz.ntmps83
     go_wp2
     repeat(go_quiet (fail);try go_wp2)
     go_ret3
     exact⟨by first|rfl|(simp;done)|(simp[*];done),by repeat(first|exact aX.refl _|apply aX.step)⟩
    ·rw[if_neg c6]at H;exact absurd H (by simp)
   ·rw[if_neg c5]at H;have jW:decide ((wrap64 (bt a0 0))<251)=false:=decide_eq_false c5;clear c5
    by_cases c7:(wrap64 (bt a0 0))>251
    ·rw[if_pos c7]at H;have kF:decide (251<(wrap64 (bt a0 0)))=true:=decide_eq_true c7;clear c7;simp only[Option.some.injEq,Prod.mk.injEq]at H;obtain⟨rfl,rfl,rfl⟩:=H;have p4:0≤(0:Int):=(by omega);have q4:0<a0.size:=(by have:(0:Int)<(a0.size:Int):=aG;omega);have hx4:∀h:0<a0.size,((a0[0]'h).toNat:Int)=bt a0 0:=jM a0 0;clear p4;have qi4:(0<(a0.size:Int))=True:=eq_true (aG);replace q4:=eq_true q4
     go_enter Tryz.func83,Tryz.ntmps83
     go_wp2
     repeat(go_quiet (fail);try go_wp2)
     go_ret3
     exact⟨by first|rfl|(simp;done)|(simp[*];done),by repeat(first|exact aX.refl _|apply aX.step)⟩
    ·rw[if_neg c7]at H;have kF:decide (251<(wrap64 (bt a0 0)))=false:=decide_eq_false c7;clear c7
     by_cases c8:(a0.size:Int)<3
     ·rw[if_pos c8]at H;have jw:decide ((a0.size:Int)<3)=true:=decide_eq_true c8;have sH:decide (a0.size<3)=true:=decide_eq_true (by omega);clear c8;simp only[Option.some.injEq,Prod.mk.injEq]at H;obtain⟨rfl,rfl,rfl⟩:=H;have p4:0≤(0:Int):=(by omega);have q4:0<a0.size:=(by have:(0:Int)<(a0.size:Int):=aG;omega);have hx4:∀h:0<a0.size,((a0[0]'h).toNat:Int)=bt a0 0:=jM a0 0;clear p4;have qi4:(0<(a0.size:Int))=True:=eq_true (aG);replace q4:=eq_true q4
      go_enter Tryz.func83,Tryz.ntmps83
      go_wp2
      repeat(go_quiet (fail);try go_wp2)
      go_ret3
      exact⟨by first|rfl|(simp;done)|(simp[*];done),by repeat(first|exact aX.refl _|apply aX.step)⟩
     ·rw[if_neg c8]at H;have jw:decide ((a0.size:Int)<3)=false:=decide_eq_false c8;have sH:decide (a0.size<3)=false:=decide_eq_false (by omega);clear c8
      by_cases c9:1<(a0.size:Int)
      ·rw[if_pos c9]at H;have Fg:decide (1<(a0.size:Int))=true:=decide_eq_true c9;have c9b1:decide (1<a0.size)=true:=decide_eq_true (by omega);clear c9
       by_cases c11:2<(a0.size:Int)
       ·rw[if_pos c11]at H;have lZ:decide (2<(a0.size:Int))=true:=decide_eq_true c11;have sF:decide (2<a0.size)=true:=decide_eq_true (by omega);clear c11
        by_cases c13:(Go.bits .or .i64 (wrap64 ((wrap64 (bt a0 1))*256)) (wrap64 (bt a0 2)))≤250
        ·rw[if_pos c13]at H;have uf:decide ((Go.bits .or .i64 (wrap64 ((wrap64 (bt a0 1))*256)) (wrap64 (bt a0 2)))≤250)=true:=decide_eq_true c13;clear c13;simp only[Option.some.injEq,Prod.mk.injEq]at H;obtain⟨rfl,rfl,rfl⟩:=H;have p4:0≤(0:Int):=(by omega);have q4:0<a0.size:=(by have:(0:Int)<(a0.size:Int):=aG;omega);have hx4:∀h:0<a0.size,((a0[0]'h).toNat:Int)=bt a0 0:=jM a0 0;clear p4;have qi4:(0<(a0.size:Int))=True:=eq_true (aG);replace q4:=eq_true q4;have p10:0≤(1:Int):=(by omega);have qZ:1<a0.size:=(by have:(1:Int)<(a0.size:Int):=aG;omega);have hx10:∀h:1<a0.size,((a0[1]'h).toNat:Int)=bt a0 1:=jM a0 1;clear p10;have qi10:(1<(a0.size:Int))=True:=eq_true (aG);replace qZ:=eq_true qZ;have wR:0≤(2:Int):=(by omega);have jP:2<a0.size:=(by have:(2:Int)<(a0.size:Int):=aG;omega);have JB:∀h:2<a0.size,((a0[2]'h).toNat:Int)=bt a0 2:=jM a0 2;clear wR;have KE:(2<(a0.size:Int))=True:=eq_true (aG);replace jP:=eq_true jP
         go_enter Tryz.func83,Tryz.ntmps83
         go_wp2
         repeat(go_quiet (fail);try go_wp2)
         go_ret3
         exact⟨by first|rfl|(simp;done)|(simp[*];done),by repeat(first|exact aX.refl _|apply aX.step)⟩
        ·rw[if_neg c13]at H;have uf:decide ((Go.bits .or .i64 (wrap64 ((wrap64 (bt a0 1))*256)) (wrap64 (bt a0 2)))≤250)=false:=decide_eq_false c13;clear c13
         by_cases c14:3≤(a0.size:Int)
         ·rw[if_pos c14]at H;have Fe:=eq_true c14;have c14b1:decide (3≤(a0.size:Int))=true:=decide_eq_true c14;clear c14;simp only[Option.some.injEq,Prod.mk.injEq]at H;obtain⟨rfl,rfl,rfl⟩:=H;have p4:0≤(0:Int):=(by omega);have q4:0<a0.size:=(by have:(0:Int)<(a0.size:Int):=aG;omega);have hx4:∀h:0<a0.size,((a0[0]'h).toNat:Int)=bt a0 0:=jM a0 0;clear p4;have qi4:(0<(a0.size:Int))=True:=eq_true (aG);replace q4:=eq_true q4;have p10:0≤(1:Int):=(by omega);have qZ:1<a0.size:=(by have:(1:Int)<(a0.size:Int):=aG;omega);have hx10:∀h:1<a0.size,((a0[1]'h).toNat:Int)=bt a0 1:=jM a0 1;clear p10;have qi10:(1<(a0.size:Int))=True:=eq_true (aG);replace qZ:=eq_true qZ;have wR:0≤(2:Int):=(by omega);have jP:2<a0.size:=(by have:(2:Int)<(a0.size:Int):=aG;omega);have JB:∀h:2<a0.size,((a0[2]'h).toNat:Int)=bt a0 2:=jM a0 2;clear wR;have KE:(2<(a0.size:Int))=True:=eq_true (aG);replace jP:=eq_true jP
          go_enter Tryz.func83,Tryz.ntmps83
          go_wp2
          repeat(go_quiet (fail);try go_wp2)
          go_ret3
          exact⟨by first|rfl|(simp;done)|(simp[*];done),by repeat(first|exact aX.refl _|apply aX.step)⟩
         ·rw[if_neg c14]at H;exact absurd H (by simp)
       ·rw[if_neg c11]at H;exact absurd H (by simp)
      ·rw[if_neg c9]at H;exact absurd H (by simp)
  ·rw[if_neg c3]at H;exact absurd H (by simp)
def vL.f(a0:ByteArray)(a1:Int):Option (ByteArray×ByteArray×Int):=(pq.f a0).bind fun lg=>(if lg.2.2=0 then(if a1<0 then(some ((⟨#[]⟩:ByteArray),(⟨#[]⟩:ByteArray),4))else(if lg.1>a1 then(some ((⟨#[]⟩:ByteArray),(⟨#[]⟩:ByteArray),4))else(if lg.1>(lg.2.1.size:Int)then(some ((⟨#[]⟩:ByteArray),(⟨#[]⟩:ByteArray),2))else(if 0≤lg.1 then(if lg.1≤(lg.2.1.size:Int)then(some (lg.2.1.extract 0 (lg.1:Int).toNat,lg.2.1.extract (lg.1:Int).toNat lg.2.1.size,0))else(none))else(none)))))else(some ((⟨#[]⟩:ByteArray),(⟨#[]⟩:ByteArray),lg.2.2)))
theorem vL.calls(a0:ByteArray)(a1:Int)(r1:ByteArray)(r2:ByteArray)(r3:Int)(w:World)(h:vL.f a0 a1=some (r1,r2,r3)):
  Calls Tryz.prog 34 #[.string a0,.int .i64 a1] w fun e w'=>e=.returned (.tuple #[.string r1,.string r2,.int .i64 r3])∧aX w w':=by
 have H:((pq.f a0).bind fun lg=>(if lg.2.2=0 then(if a1<0 then(some ((⟨#[]⟩:ByteArray),(⟨#[]⟩:ByteArray),4))else(if lg.1>a1 then(some ((⟨#[]⟩:ByteArray),(⟨#[]⟩:ByteArray),4))else(if lg.1>(lg.2.1.size:Int)then(some ((⟨#[]⟩:ByteArray),(⟨#[]⟩:ByteArray),2))else(if 0≤lg.1 then(if lg.1≤(lg.2.1.size:Int)then(some (lg.2.1.extract 0 (lg.1:Int).toNat,lg.2.1.extract (lg.1:Int).toNat lg.2.1.size,0))else(none))else(none)))))else(some ((⟨#[]⟩:ByteArray),(⟨#[]⟩:ByteArray),lg.2.2))))=some (r1,r2,r3):=h;clear h;replace H:=Option.bind_eq_some_iff.mp H;obtain⟨⟨t119,t120,t121⟩,jD,H⟩:=H;(try dsimp only at H);have A3:=af.mk jD;clear jD
 by_cases c4:t121=0
 ·rw[if_pos c4]at H;have iH:(t121==0)=true:=beq_iff_eq.mpr c4;have zm:(t121 != 0)=false:=bne_eq_false_iff_eq.mpr c4;clear c4
  by_cases c5:a1<0
  ·rw[if_pos c5]at H;have jW:decide (a1<0)=true:=decide_eq_true c5;clear c5;simp only[Option.some.injEq,Prod.mk.injEq]at H;obtain⟨rfl,rfl,rfl⟩:=H
   go_enter Tryz.func34,Tryz.ntmps34
   go_wp2_with (first|(go_at_call 83;(with_reducible refine(pq.calls a0 t119 t120 t121 _ A3.out).mono ?_);rintro e w' ⟨rfl,⟨nd,rfl⟩⟩;(try first|exact⟨rfl,_,World.drewN_drewN _ _ _⟩|exact⟨rfl,_,Eq.trans (World.drewN_drewN _ _ _) (congrArg (World.drewN _) (Nat.add_assoc _ _ _))⟩)))
   repeat(go_quiet (first|(go_at_call 83;(with_reducible refine(pq.calls a0 t119 t120 t121 _ A3.out).mono ?_);rintro e w' ⟨rfl,⟨nd,rfl⟩⟩;(try first|exact⟨rfl,_,World.drewN_drewN _ _ _⟩|exact⟨rfl,_,Eq.trans (World.drewN_drewN _ _ _) (congrArg (World.drewN _) (Nat.add_assoc _ _ _))⟩)));try go_wp2_with (first|(go_at_call 83;(with_reducible refine(pq.calls a0 t119 t120 t121 _ A3.out).mono ?_);rintro e w' ⟨rfl,⟨nd,rfl⟩⟩;(try first|exact⟨rfl,_,World.drewN_drewN _ _ _⟩|exact⟨rfl,_,Eq.trans (World.drewN_drewN _ _ _) (congrArg (World.drewN _) (Nat.add_assoc _ _ _))⟩))))
   go_ret3
   exact⟨by first|rfl|(simp;done)|(simp[*];done),by repeat(first|exact aX.refl _|apply aX.step)⟩
  ·rw[if_neg c5]at H;have jW:decide (a1<0)=false:=decide_eq_false c5;clear c5
   by_cases c6:t119>a1
   ·rw[if_pos c6]at H;have jv:decide (a1<t119)=true:=decide_eq_true c6;clear c6;simp only[Option.some.injEq,Prod.mk.injEq]at H;obtain⟨rfl,rfl,rfl⟩:=H
    go_enter Tryz.func34,Tryz.ntmps34
    go_wp2_with (first|(go_at_call 83;(with_reducible refine(pq.calls a0 t119 t120 t121 _ A3.out).mono ?_);rintro e w' ⟨rfl,⟨nd,rfl⟩⟩;(try first|exact⟨rfl,_,World.drewN_drewN _ _ _⟩|exact⟨rfl,_,Eq.trans (World.drewN_drewN _ _ _) (congrArg (World.drewN _) (Nat.add_assoc _ _ _))⟩)))
    repeat(go_quiet (first|(go_at_call 83;(with_reducible refine(pq.calls a0 t119 t120 t121 _ A3.out).mono ?_);rintro e w' ⟨rfl,⟨nd,rfl⟩⟩;(try first|exact⟨rfl,_,World.drewN_drewN _ _ _⟩|exact⟨rfl,_,Eq.trans (World.drewN_drewN _ _ _) (congrArg (World.drewN _) (Nat.add_assoc _ _ _))⟩)));try go_wp2_with (first|(go_at_call 83;(with_reducible refine(pq.calls a0 t119 t120 t121 _ A3.out).mono ?_);rintro e w' ⟨rfl,⟨nd,rfl⟩⟩;(try first|exact⟨rfl,_,World.drewN_drewN _ _ _⟩|exact⟨rfl,_,Eq.trans (World.drewN_drewN _ _ _) (congrArg (World.drewN _) (Nat.add_assoc _ _ _))⟩))))
    go_ret3
    exact⟨by first|rfl|(simp;done)|(simp[*];done),by repeat(first|exact aX.refl _|apply aX.step)⟩
   ·rw[if_neg c6]at H;have jv:decide (a1<t119)=false:=decide_eq_false c6;clear c6
    by_cases c7:t119>(t120.size:Int)
    ·rw[if_pos c7]at H;have kF:decide ((t120.size:Int)<t119)=true:=decide_eq_true c7;clear c7;simp only[Option.some.injEq,Prod.mk.injEq]at H;obtain⟨rfl,rfl,rfl⟩:=H
     go_enter Tryz.func34,Tryz.ntmps34
     go_wp2_with (first|(go_at_call 83;(with_reducible refine(pq.calls a0 t119 t120 t121 _ A3.out).mono ?_);rintro e w' ⟨rfl,⟨nd,rfl⟩⟩;(try first|exact⟨rfl,_,World.drewN_drewN _ _ _⟩|exact⟨rfl,_,Eq.trans (World.drewN_drewN _ _ _) (congrArg (World.drewN _) (Nat.add_assoc _ _ _))⟩)))
     repeat(go_quiet (first|(go_at_call 83;(with_reducible refine(pq.calls a0 t119 t120 t121 _ A3.out).mono ?_);rintro e w' ⟨rfl,⟨nd,rfl⟩⟩;(try first|exact⟨rfl,_,World.drewN_drewN _ _ _⟩|exact⟨rfl,_,Eq.trans (World.drewN_drewN _ _ _) (congrArg (World.drewN _) (Nat.add_assoc _ _ _))⟩)));try go_wp2_with (first|(go_at_call 83;(with_reducible refine(pq.calls a0 t119 t120 t121 _ A3.out).mono ?_);rintro e w' ⟨rfl,⟨nd,rfl⟩⟩;(try first|exact⟨rfl,_,World.drewN_drewN _ _ _⟩|exact⟨rfl,_,Eq.trans (World.drewN_drewN _ _ _) (congrArg (World.drewN _) (Nat.add_assoc _ _ _))⟩))))
     go_ret3
     exact⟨by first|rfl|(simp;done)|(simp[*];done),by repeat(first|exact aX.refl _|apply aX.step)⟩
    ·rw[if_neg c7]at H;have kF:decide ((t120.size:Int)<t119)=false:=decide_eq_false c7;clear c7
     by_cases c8:0≤t119
     ·rw[if_pos c8]at H;have jw:=eq_true c8;have sH:decide (0≤t119)=true:=decide_eq_true c8;clear c8
      by_cases c9:t119≤(t120.size:Int)
      ·rw[if_pos c9]at H;have Fg:=eq_true c9;have c9b1:decide (t119≤(t120.size:Int))=true:=decide_eq_true c9;clear c9;have xR:=eq_true (aG:0≤t119);have lZ:=eq_true (aG:t119≤(t120.size:Int));simp only[Option.some.injEq,Prod.mk.injEq]at H;obtain⟨rfl,rfl,rfl⟩:=H
       go_enter Tryz.func34,Tryz.ntmps34
       go_wp2_with (first|(go_at_call 83;(with_reducible refine(pq.calls a0 t119 t120 t121 _ A3.out).mono ?_);rintro e w' ⟨rfl,⟨nd,rfl⟩⟩;(try first|exact⟨rfl,_,World.drewN_drewN _ _ _⟩|exact⟨rfl,_,Eq.trans (World.drewN_drewN _ _ _) (congrArg (World.drewN _) (Nat.add_assoc _ _ _))⟩)))
       repeat(go_quiet (first|(go_at_call 83;(with_reducible refine(pq.calls a0 t119 t120 t121 _ A3.out).mono ?_);rintro e w' ⟨rfl,⟨nd,rfl⟩⟩;(try first|exact⟨rfl,_,World.drewN_drewN _ _ _⟩|exact⟨rfl,_,Eq.trans (World.drewN_drewN _ _ _) (congrArg (World.drewN _) (Nat.add_assoc _ _ _))⟩)));try go_wp2_with (first|(go_at_call 83;(with_reducible refine(pq.calls a0 t119 t120 t121 _ A3.out).mono ?_);rintro e w' ⟨rfl,⟨nd,rfl⟩⟩;(try first|exact⟨rfl,_,World.drewN_drewN _ _ _⟩|exact⟨rfl,_,Eq.trans (World.drewN_drewN _ _ _) (congrArg (World.drewN _) (Nat.add_assoc _ _ _))⟩))))
       go_ret3
       exact⟨by first|rfl|(simp;done)|(simp[*];done),by repeat(first|exact aX.refl _|apply aX.step)⟩
      ·rw[if_neg c9]at H;exact absurd H (by simp)
     ·rw[if_neg c8]at H;exact absurd H (by simp)
 ·rw[if_neg c4]at H;have iH:(t121==0)=false:=beq_eq_false_iff_ne.mpr c4;have zm:(t121 != 0)=true:=bne_iff_ne.mpr c4;simp only[Option.some.injEq,Prod.mk.injEq]at H;obtain⟨rfl,rfl,rfl⟩:=H
  go_enter Tryz.func34,Tryz.ntmps34
  go_wp2_with (first|(go_at_call 83;(with_reducible refine(pq.calls a0 t119 t120 t121 _ A3.out).mono ?_);rintro e w' ⟨rfl,⟨nd,rfl⟩⟩;(try first|exact⟨rfl,_,World.drewN_drewN _ _ _⟩|exact⟨rfl,_,Eq.trans (World.drewN_drewN _ _ _) (congrArg (World.drewN _) (Nat.add_assoc _ _ _))⟩)))
  repeat(go_quiet (first|(go_at_call 83;(with_reducible refine(pq.calls a0 t119 t120 t121 _ A3.out).mono ?_);rintro e w' ⟨rfl,⟨nd,rfl⟩⟩;(try first|exact⟨rfl,_,World.drewN_drewN _ _ _⟩|exact⟨rfl,_,Eq.trans (World.drewN_drewN _ _ _) (congrArg (World.drewN _) (Nat.add_assoc _ _ _))⟩)));try go_wp2_with (first|(go_at_call 83;(with_reducible refine(pq.calls a0 t119 t120 t121 _ A3.out).mono ?_);rintro e w' ⟨rfl,⟨nd,rfl⟩⟩;(try first|exact⟨rfl,_,World.drewN_drewN _ _ _⟩|exact⟨rfl,_,Eq.trans (World.drewN_drewN _ _ _) (congrArg (World.drewN _) (Nat.add_assoc _ _ _))⟩))))
  go_ret3
  exact⟨by first|rfl|(simp;done)|(simp[*];done),by repeat(first|exact aX.refl _|apply aX.step)⟩
mutual
def mo.j0:Nat→ByteArray→Option (Int×ByteArray×Int)
 |0,_=>none
 |k+1,x0=>if 0<(x0.size:Int)then(mo.l0 k x0 0 (wrap64 ((wrap64 (bt x0 0))+1)) (wrap64 ((wrap64 ((wrap64 (bt x0 0))+1))-1)) 0)else(none)
def mo.l0:Nat→ByteArray→Int→Int→Int→Int→Option (Int×ByteArray×Int)
 |0,_,_,_,_,_=>none
 |k+1,x0,x5,x6,x36,x37=>if x37<x36 then(if 0≤(wrap64 (x37+1))then(if(wrap64 (x37+1))<(x0.size:Int)then(mo.l0 k x0 (Go.bits .or .u64 (IntKind.u64.wrap (x5*256)) (IntKind.u64.wrap (bt x0 (wrap64 (x37+1))))) x6 x36 (wrap64 (x37+1)))else(none))else(none))else(if 0≤x6 then(if x6≤(x0.size:Int)then(some (x5,x0.extract (x6:Int).toNat x0.size,0))else(none))else(none))
end
def mo.f(k:Nat)(a0:ByteArray):Option (Int×ByteArray×Int):=if a0.toList=([]:List UInt8)then(some (0,(⟨#[]⟩:ByteArray),2))else(if 0<(a0.size:Int)then(if(bt a0 0)>8 then(some (0,(⟨#[]⟩:ByteArray),3))else(if(a0.size:Int)≤(wrap64 (bt a0 0))then(some (0,(⟨#[]⟩:ByteArray),2))else(if(bt a0 0)>0 then(if 1<(a0.size:Int)then(if(bt a0 1)=0 then(some (0,(⟨#[]⟩:ByteArray),3))else(mo.j0 k a0))else(none))else(mo.j0 k a0))))else(none))
theorem mo.calls(k:Nat)(a0:ByteArray)(r1:Int)(r2:ByteArray)(r3:Int)(w:World)(h:mo.f k a0=some (r1,r2,r3)):
  Calls Tryz.prog 134 #[.string a0] w fun e w'=>e=.returned (.tuple #[.int .u64 r1,.string r2,.int .i64 r3])∧aX w w':=by
 have H:(if a0.toList=([]:List UInt8)then(some (0,(⟨#[]⟩:ByteArray),2))else(if 0<(a0.size:Int)then(if(bt a0 0)>8 then(some (0,(⟨#[]⟩:ByteArray),3))else(if(a0.size:Int)≤(wrap64 (bt a0 0))then(some (0,(⟨#[]⟩:ByteArray),2))else(if(bt a0 0)>0 then(if 1<(a0.size:Int)then(if(bt a0 1)=0 then(some (0,(⟨#[]⟩:ByteArray),3))else(mo.j0 k a0))else(none))else(mo.j0 k a0))))else(none)))=some (r1,r2,r3):=h;clear h;have qm:=af.mk H;clear H
 go_enter Tryz.func134,Tryz.ntmps134
 go_upto_block 0 with (fail)
 repeat(go_quiet (fail);go_upto_block 0 with (fail))
 go_cut [] (fun wc=>∃(kq:Nat),af (mo.j0 kq a0=some (r1,r2,r3))∧af (kq≤k)∧aX w wc)
 case first=>
  have H:=qm.out;clear qm
  by_cases c3:a0.toList=([]:List UInt8)
  ·rw[if_pos c3]at H;have fJ:(a0.toList==([]:List UInt8))=true:=beq_iff_eq.mpr c3;have jV:(a0.toList != ([]:List UInt8))=false:=bne_eq_false_iff_eq.mpr c3;clear c3;(first|rw[fJ]|(simp only[lH,lX];rw[fJ])|skip);simp only[Option.some.injEq,Prod.mk.injEq]at H;obtain⟨rfl,rfl,rfl⟩:=H
   go_wp2
   repeat(go_quiet (fail);try go_wp2)
   go_ret3
   exact⟨by first|rfl|(simp;done)|(simp[*];done),by repeat(first|exact aX.refl _|apply aX.step)⟩
  ·rw[if_neg c3]at H;have fJ:(a0.toList==([]:List UInt8))=false:=beq_eq_false_iff_ne.mpr c3;have jV:(a0.toList != ([]:List UInt8))=true:=bne_iff_ne.mpr c3;(first|rw[fJ]|(simp only[lH,lX];rw[fJ])|skip)
   by_cases c4:0<(a0.size:Int)
   ·rw[if_pos c4]at H;have iH:decide (0<(a0.size:Int))=true:=decide_eq_true c4;have zm:decide (0<a0.size)=true:=decide_eq_true (by omega);clear c4
    by_cases c6:(bt a0 0)>8
    ·rw[if_pos c6]at H;have jv:decide (8<(bt a0 0))=true:=decide_eq_true c6;clear c6;simp only[Option.some.injEq,Prod.mk.injEq]at H;obtain⟨rfl,rfl,rfl⟩:=H;have p5:0≤(0:Int):=(by omega);have q5:0<a0.size:=(by have:(0:Int)<(a0.size:Int):=aG;omega);have hx5:∀h:0<a0.size,((a0[0]'h).toNat:Int)=bt a0 0:=jM a0 0;clear p5;have qi5:(0<(a0.size:Int))=True:=eq_true (aG);replace q5:=eq_true q5
     go_wp2
     repeat(go_quiet (fail);try go_wp2)
     go_ret3
     exact⟨by first|rfl|(simp;done)|(simp[*];done),by repeat(first|exact aX.refl _|apply aX.step)⟩
    ·rw[if_neg c6]at H;have jv:decide (8<(bt a0 0))=false:=decide_eq_false c6;clear c6
     by_cases c8:(a0.size:Int)≤(wrap64 (bt a0 0))
     ·rw[if_pos c8]at H;have jw:decide ((a0.size:Int)≤(wrap64 (bt a0 0)))=true:=decide_eq_true c8;clear c8;simp only[Option.some.injEq,Prod.mk.injEq]at H;obtain⟨rfl,rfl,rfl⟩:=H;have p5:0≤(0:Int):=(by omega);have q5:0<a0.size:=(by have:(0:Int)<(a0.size:Int):=aG;omega);have hx5:∀h:0<a0.size,((a0[0]'h).toNat:Int)=bt a0 0:=jM a0 0;clear p5;have qi5:(0<(a0.size:Int))=True:=eq_true (aG);replace q5:=eq_true q5;have p7:0≤(0:Int):=(by omega);have q7:0<a0.size:=(by have:(0:Int)<(a0.size:Int):=aG;omega);have hx7:∀h:0<a0.size,((a0[0]'h).toNat:Int)=bt a0 0:=jM a0 0;clear p7;have qi7:(0<(a0.size:Int))=True:=eq_true (aG);replace q7:=eq_true q7
      go_wp2
      repeat(go_quiet (fail);try go_wp2)
      go_ret3
      exact⟨by first|rfl|(simp;done)|(simp[*];done),by repeat(first|exact aX.refl _|apply aX.step)⟩
     ·rw[if_neg c8]at H;have jw:decide ((a0.size:Int)≤(wrap64 (bt a0 0)))=false:=decide_eq_false c8;clear c8
      by_cases c10:(bt a0 0)>0
      ·rw[if_pos c10]at H;have xR:decide (0<(bt a0 0))=true:=decide_eq_true c10;clear c10
       by_cases c11:1<(a0.size:Int)
       ·rw[if_pos c11]at H;have lZ:decide (1<(a0.size:Int))=true:=decide_eq_true c11;have sF:decide (1<a0.size)=true:=decide_eq_true (by omega);clear c11
        by_cases c13:(bt a0 1)=0
        ·rw[if_pos c13]at H;have uf:((bt a0 1)==0)=true:=beq_iff_eq.mpr c13;have Fb:((bt a0 1) != 0)=false:=bne_eq_false_iff_eq.mpr c13;clear c13;simp only[Option.some.injEq,Prod.mk.injEq]at H;obtain⟨rfl,rfl,rfl⟩:=H;have p5:0≤(0:Int):=(by omega);have q5:0<a0.size:=(by have:(0:Int)<(a0.size:Int):=aG;omega);have hx5:∀h:0<a0.size,((a0[0]'h).toNat:Int)=bt a0 0:=jM a0 0;clear p5;have qi5:(0<(a0.size:Int))=True:=eq_true (aG);replace q5:=eq_true q5;have p7:0≤(0:Int):=(by omega);have q7:0<a0.size:=(by have:(0:Int)<(a0.size:Int):=aG;omega);have hx7:∀h:0<a0.size,((a0[0]'h).toNat:Int)=bt a0 0:=jM a0 0;clear p7;have qi7:(0<(a0.size:Int))=True:=eq_true (aG);replace q7:=eq_true q7;have p9:0≤(0:Int):=(by omega);have q9:0<a0.size:=(by have:(0:Int)<(a0.size:Int):=aG;omega);have hx9:∀h:0<a0.size,((a0[0]'h).toNat:Int)=bt a0 0:=jM a0 0;clear p9;have qi9:(0<(a0.size:Int))=True:=eq_true (aG);replace q9:=eq_true q9;have wR:0≤(1:Int):=(by omega);have jP:1<a0.size:=(by have:(1:Int)<(a0.size:Int):=aG;omega);have JB:∀h:1<a0.size,((a0[1]'h).toNat:Int)=bt a0 1:=jM a0 1;clear wR;have KE:(1<(a0.size:Int))=True:=eq_true (aG);replace jP:=eq_true jP
         go_wp2
         repeat(go_quiet (fail);try go_wp2)
         go_ret3
         exact⟨by first|rfl|(simp;done)|(simp[*];done),by repeat(first|exact aX.refl _|apply aX.step)⟩
        ·rw[if_neg c13]at H;have uf:((bt a0 1)==0)=false:=beq_eq_false_iff_ne.mpr c13;have Fb:((bt a0 1) != 0)=true:=bne_iff_ne.mpr c13;have H':=af.mk H;clear H;have p5:0≤(0:Int):=(by omega);have q5:0<a0.size:=(by have:(0:Int)<(a0.size:Int):=aG;omega);have hx5:∀h:0<a0.size,((a0[0]'h).toNat:Int)=bt a0 0:=jM a0 0;clear p5;have qi5:(0<(a0.size:Int))=True:=eq_true (aG);replace q5:=eq_true q5;have p7:0≤(0:Int):=(by omega);have q7:0<a0.size:=(by have:(0:Int)<(a0.size:Int):=aG;omega);have hx7:∀h:0<a0.size,((a0[0]'h).toNat:Int)=bt a0 0:=jM a0 0;clear p7;have qi7:(0<(a0.size:Int))=True:=eq_true (aG);replace q7:=eq_true q7;have p9:0≤(0:Int):=(by omega);have q9:0<a0.size:=(by have:(0:Int)<(a0.size:Int):=aG;omega);have hx9:∀h:0<a0.size,((a0[0]'h).toNat:Int)=bt a0 0:=jM a0 0;clear p9;have qi9:(0<(a0.size:Int))=True:=eq_true (aG);replace q9:=eq_true q9;have wR:0≤(1:Int):=(by omega);have jP:1<a0.size:=(by have:(1:Int)<(a0.size:Int):=aG;omega);have JB:∀h:1<a0.size,((a0[1]'h).toNat:Int)=bt a0 1:=jM a0 1;clear wR;have KE:(1<(a0.size:Int))=True:=eq_true (aG);replace jP:=eq_true jP
         go_wp2
         repeat(go_quiet (fail);try go_wp2)
         go_meet
         case rel=>exact⟨_,H',⟨by first|omega|exact Nat.le_refl _⟩,by repeat(first|exact aX.refl _|apply aX.step)⟩
       ·rw[if_neg c11]at H;exact absurd H (by simp)
      ·rw[if_neg c10]at H;have xR:decide (0<(bt a0 0))=false:=decide_eq_false c10;clear c10;have H':=af.mk H;clear H;have p5:0≤(0:Int):=(by omega);have q5:0<a0.size:=(by have:(0:Int)<(a0.size:Int):=aG;omega);have hx5:∀h:0<a0.size,((a0[0]'h).toNat:Int)=bt a0 0:=jM a0 0;clear p5;have qi5:(0<(a0.size:Int))=True:=eq_true (aG);replace q5:=eq_true q5;have p7:0≤(0:Int):=(by omega);have q7:0<a0.size:=(by have:(0:Int)<(a0.size:Int):=aG;omega);have hx7:∀h:0<a0.size,((a0[0]'h).toNat:Int)=bt a0 0:=jM a0 0;clear p7;have qi7:(0<(a0.size:Int))=True:=eq_true (aG);replace q7:=eq_true q7;have p9:0≤(0:Int):=(by omega);have q9:0<a0.size:=(by have:(0:Int)<(a0.size:Int):=aG;omega);have hx9:∀h:0<a0.size,((a0[0]'h).toNat:Int)=bt a0 0:=jM a0 0;clear p9;have qi9:(0<(a0.size:Int))=True:=eq_true (aG);replace q9:=eq_true q9
       go_wp2
       repeat(go_quiet (fail);try go_wp2)
       go_meet
       case rel=>exact⟨_,H',⟨by first|omega|exact Nat.le_refl _⟩,by repeat(first|exact aX.refl _|apply aX.step)⟩
   ·rw[if_neg c4]at H;exact absurd H (by simp)
 case rest=>
  clear qm
  try clear c1
  try clear p1
  try clear q1
  try clear hx1
  try clear qi1
  try clear p2
  try clear c3
  try clear fJ
  try clear jV
  try clear c4
  try clear iH
  try clear zm
  try clear p5
  try clear q5
  try clear hx5
  try clear qi5
  try clear c6
  try clear jv
  try clear p6
  try clear p7
  try clear q7
  try clear hx7
  try clear qi7
  try clear c8
  try clear jw
  try clear p9
  try clear q9
  try clear hx9
  try clear qi9
  try clear c10
  try clear xR
  try clear c11
  try clear lZ
  try clear sF
  try clear wR
  try clear jP
  try clear JB
  try clear KE
  try clear c13
  try clear uf
  try clear Fb
  try clear wR
  try clear p5
  try clear p7
  try clear p9
  try clear jP
  try clear q5
  try clear q7
  try clear q9
  obtain⟨kq,HA,HJ1,⟨mc1,rfl⟩⟩:=hcut
  cases kq with
  |zero=>exact absurd HA.out (by simp[mo.j0])
  |succ kj1=>
   have H:=HA.out;clear HA;simp only[mo.j0]at H
   by_cases c14:0<(a0.size:Int)
   ·rw[if_pos c14]at H;have Fe:decide (0<(a0.size:Int))=true:=decide_eq_true c14;have c14b1:decide (0<a0.size)=true:=decide_eq_true (by omega);clear c14;have H':=af.mk H;clear H;have p15:0≤(0:Int):=(by omega);have q15:0<a0.size:=(by have:(0:Int)<(a0.size:Int):=aG;omega);have hx15:∀h:0<a0.size,((a0[0]'h).toNat:Int)=bt a0 0:=jM a0 0;clear p15;have qi15:(0<(a0.size:Int))=True:=eq_true (aG);replace q15:=eq_true q15
    go_wp2
    repeat(go_quiet (fail);try go_wp2)
    go_loopg [5,37] kj1 (fun kq v5 v37 w'=>∃(GH:Int) (CS:Int),v5=.int .u64 GH∧v37=.int .i64 CS∧af (mo.l0 kq a0 GH (wrap64 ((wrap64 (bt a0 0))+1)) (wrap64 ((wrap64 ((wrap64 (bt a0 0))+1))-1)) CS=some (r1,r2,r3))∧af (kq≤kj1)∧aX w w')
    case atStart=>exact⟨(0),(0),dx,dx,H',⟨Nat.le_refl _⟩,by repeat(first|exact aX.refl _|apply aX.step)⟩
    case round=>
     clear H'
     try clear c1
     try clear p1
     try clear q1
     try clear hx1
     try clear qi1
     try clear p2
     try clear c3
     try clear fJ
     try clear jV
     try clear c4
     try clear iH
     try clear zm
     try clear p5
     try clear q5
     try clear hx5
     try clear qi5
     try clear c6
     try clear jv
     try clear p6
     try clear p7
     try clear q7
     try clear hx7
     try clear qi7
     try clear c8
     try clear jw
     try clear p9
     try clear q9
     try clear hx9
     try clear qi9
     try clear c10
     try clear xR
     try clear c11
     try clear lZ
     try clear sF
     try clear wR
     try clear jP
     try clear JB
     try clear KE
     try clear c13
     try clear uf
     try clear Fb
     try clear c14
     try clear Fe
     try clear c14b1
     try clear p15
     try clear q15
     try clear hx15
     try clear qi15
     try clear p1
     try clear wR
     try clear p15
     try clear p2
     try clear p5
     try clear p6
     try clear p7
     try clear p9
     try clear q1
     try clear jP
     try clear q15
     try clear q5
     try clear q7
     try clear q9
     obtain⟨GH,CS,rfl,rfl,HA,gK,⟨m2,rfl⟩⟩:=hrel
     cases gk with
     |zero=>exact absurd HA.out (by simp[mo.l0])
     |succ k2=>
      have H:=HA.out;clear HA;simp only[mo.l0]at H
      by_cases c16:CS<(wrap64 ((wrap64 ((wrap64 (bt a0 0))+1))-1))
      ·rw[if_pos c16]at H;have ug:decide (CS<(wrap64 ((wrap64 ((wrap64 (bt a0 0))+1))-1)))=true:=decide_eq_true c16;clear c16;obtain⟨uq,Jv⟩:∃j_:Int,(wrap64 (CS+1))=j_:=⟨_,rfl⟩;replace H:(if 0≤(uq)then(if(uq)<(a0.size:Int)then(mo.l0 k2 a0 (Go.bits .or .u64 (IntKind.u64.wrap (GH*256)) (IntKind.u64.wrap (bt a0 (uq)))) (wrap64 ((wrap64 (bt a0 0))+1)) (wrap64 ((wrap64 ((wrap64 (bt a0 0))+1))-1)) uq)else(none))else(none))=some (r1,r2,r3):=by first|(rw[Jv]at H;exact H)|(simp only[Jv]at H ⊢;exact H)
       have hji17w:(IntKind.i64.wrap (CS+1))=uq:=(lH _).trans Jv
       by_cases c18:0≤(uq)
       ·rw[if_pos c18]at H;have c18b0:decide (0≤(uq))=true:=decide_eq_true c18;clear c18
        by_cases c19:(uq)<(a0.size:Int)
        ·rw[if_pos c19]at H;have c19b0:decide ((uq)<(a0.size:Int))=true:=decide_eq_true c19;clear c19;have H':=af.mk H;clear H;have p20:0≤((uq):Int):=aG;have q20:(uq)<(a0.size:Int):=aG;have hx20:=jM a0 (uq);replace p20:=eq_true p20;replace q20:=eq_true q20
         go_wp2
         repeat(go_quiet (fail);try go_wp2)
         go_roundg k2
         case measure=>have:=HJ1.out;have:=gK.out;omega
         case rel=>exact⟨(Go.bits .or .u64 (IntKind.u64.wrap (GH*256)) (IntKind.u64.wrap (bt a0 (uq)))),(uq),(by first|rfl|(simp;done)|(simp only[← Jv]<;>(first|rfl|simp))|(simp[*];done)),(by first|rfl|(simp;done)|(simp only[← Jv]<;>(first|rfl|simp))|(simp[*];done)),H',⟨by have:=HJ1.out;have:=gK.out;omega⟩,by repeat(first|exact aX.refl _|apply aX.step)⟩
        ·rw[if_neg c19]at H;exact absurd H (by simp)
       ·rw[if_neg c18]at H;exact absurd H (by simp)
      ·rw[if_neg c16]at H;have ug:decide (CS<(wrap64 ((wrap64 ((wrap64 (bt a0 0))+1))-1)))=false:=decide_eq_false c16;clear c16;obtain⟨Ck,Jw⟩:∃j_:Int,(wrap64 ((wrap64 (bt a0 0))+1))=j_:=⟨_,rfl⟩;replace H:(if 0≤(Ck)then(if(Ck)≤(a0.size:Int)then(some (GH,a0.extract ((Ck):Int).toNat a0.size,0))else(none))else(none))=some (r1,r2,r3):=by first|(rw[Jw]at H;exact H)|(simp only[Jw]at H ⊢;exact H)
       (try rw[Jw]at ug);have hji21w:(IntKind.i64.wrap ((wrap64 (bt a0 0))+1))=Ck:=(lH _).trans Jw
       by_cases nI:0≤(Ck)
       ·rw[if_pos nI]at H;have c22b0:=eq_true nI;have c22b1:decide (0≤(Ck))=true:=decide_eq_true nI;clear nI
        by_cases c23:(Ck)≤(a0.size:Int)
        ·rw[if_pos c23]at H;have c23b0:=eq_true c23;have c23b1:decide ((Ck)≤(a0.size:Int))=true:=decide_eq_true c23;clear c23;simp only[Option.some.injEq,Prod.mk.injEq]at H;obtain⟨rfl,rfl,rfl⟩:=H
         go_wp2
         repeat(go_quiet (fail);try go_wp2)
         go_ret3
         exact⟨by first|rfl|(simp;done)|(simp only[← Jw]<;>(first|rfl|simp))|(simp[*];done),by repeat(first|exact aX.refl _|apply aX.step)⟩
        ·rw[if_neg c23]at H;exact absurd H (by simp)
       ·rw[if_neg nI]at H;exact absurd H (by simp)
   ·rw[if_neg c14]at H;exact absurd H (by simp)
def KD.f(k:Nat)(a0:ByteArray):Option (ByteArray×Int×ByteArray×Int):=(vL.f a0 16).bind fun Aa=>((mo.f k Aa.2.1).bind fun Ab=>(if Aa.2.2=0 then(if Ab.2.2=0 then(if Aa.1.toList=([]:List UInt8)then(some ((⟨#[]⟩:ByteArray),0,(⟨#[]⟩:ByteArray),3))else(if(Ab.2.1.size:Int)=32 then(some (Aa.1,Ab.1,Ab.2.1,0))else(some ((⟨#[]⟩:ByteArray),0,(⟨#[]⟩:ByteArray),3))))else(some ((⟨#[]⟩:ByteArray),0,(⟨#[]⟩:ByteArray),3)))else(some ((⟨#[]⟩:ByteArray),0,(⟨#[]⟩:ByteArray),3))))
theorem KD.calls(k:Nat)(a0:ByteArray)(r1:ByteArray)(r2:Int)(r3:ByteArray)(r4:Int)(w:World)(h:KD.f k a0=some (r1,r2,r3,r4)):
  Calls Tryz.prog 80 #[.string a0] w fun e w'=>e=.returned (.tuple #[.string r1,.int .u64 r2,.string r3,.int .i64 r4])∧aX w w':=by
 have H:((vL.f a0 16).bind fun Aa=>((mo.f k Aa.2.1).bind fun Ab=>(if Aa.2.2=0 then(if Ab.2.2=0 then(if Aa.1.toList=([]:List UInt8)then(some ((⟨#[]⟩:ByteArray),0,(⟨#[]⟩:ByteArray),3))else(if(Ab.2.1.size:Int)=32 then(some (Aa.1,Ab.1,Ab.2.1,0))else(some ((⟨#[]⟩:ByteArray),0,(⟨#[]⟩:ByteArray),3))))else(some ((⟨#[]⟩:ByteArray),0,(⟨#[]⟩:ByteArray),3)))else(some ((⟨#[]⟩:ByteArray),0,(⟨#[]⟩:ByteArray),3)))))=some (r1,r2,r3,r4):=h;clear h;replace H:=Option.bind_eq_some_iff.mp H;obtain⟨⟨t122,t123,t124⟩,tF,H⟩:=H;(try dsimp only at H);have A2:=af.mk tF;clear tF;replace H:=Option.bind_eq_some_iff.mp H;obtain⟨⟨t125,t126,t127⟩,jD,H⟩:=H;(try dsimp only at H);have A3:=af.mk jD;clear jD
 by_cases c4:t124=0
 ·rw[if_pos c4]at H;have iH:(t124==0)=true:=beq_iff_eq.mpr c4;have zm:(t124 != 0)=false:=bne_eq_false_iff_eq.mpr c4;clear c4
  by_cases c5:t127=0
  ·rw[if_pos c5]at H;have jW:(t127==0)=true:=beq_iff_eq.mpr c5;have xS:(t127 != 0)=false:=bne_eq_false_iff_eq.mpr c5;clear c5
   by_cases c6:t122.toList=([]:List UInt8)
   ·rw[if_pos c6]at H;have jv:(t122.toList==([]:List UInt8))=true:=beq_iff_eq.mpr c6;have xU:(t122.toList != ([]:List UInt8))=false:=bne_eq_false_iff_eq.mpr c6;clear c6;simp only[Option.some.injEq,Prod.mk.injEq]at H;obtain⟨rfl,rfl,rfl,rfl⟩:=H
    go_enter Tryz.func80,Tryz.ntmps80
    go_wp2_with (first|((with_reducible refine bq (f:=34) rfl ?_);refine bC 13 Tryz.func34 #[.string a0,.int .i64 16] rfl ?_;(with_reducible refine(vL.calls a0 16 t122 t123 t124 _ A2.out).mono ?_);rintro e w' ⟨rfl,⟨nd,rfl⟩⟩;refine⟨_,rfl,?_⟩)|((with_reducible refine bq (f:=134) rfl ?_);refine bC 19 Tryz.func134 #[.string t123] rfl ?_;(with_reducible refine(mo.calls k t123 t125 t126 t127 _ A3.out).mono ?_);rintro e w' ⟨rfl,⟨nd,rfl⟩⟩;refine⟨_,rfl,?_⟩))
    refine bodyPost_ret (sW (rs:=[.tmp 2,.tmp 3,.tmp 4,.tmp 5]) rfl (by simp) (.tmp (.tmp (.tmp (.tmp .nil))))) rfl ?_;exact⟨by first|rfl|(simp;done)|(simp[*];done),by repeat(first|exact aX.refl _|apply aX.step)⟩
   ·rw[if_neg c6]at H;have jv:(t122.toList==([]:List UInt8))=false:=beq_eq_false_iff_ne.mpr c6;have xU:(t122.toList != ([]:List UInt8))=true:=bne_iff_ne.mpr c6
    by_cases c7:(t126.size:Int)=32
    ·rw[if_pos c7]at H;have kF:((t126.size:Int)==32)=true:=beq_iff_eq.mpr c7;have rJ:((t126.size:Int) != 32)=false:=bne_eq_false_iff_eq.mpr c7;clear c7;simp only[Option.some.injEq,Prod.mk.injEq]at H;obtain⟨rfl,rfl,rfl,rfl⟩:=H
     go_enter Tryz.func80,Tryz.ntmps80
     go_wp2_with (first|((with_reducible refine bq (f:=34) rfl ?_);refine bC 13 Tryz.func34 #[.string a0,.int .i64 16] rfl ?_;(with_reducible refine(vL.calls a0 16 t122 t123 t124 _ A2.out).mono ?_);rintro e w' ⟨rfl,⟨nd,rfl⟩⟩;refine⟨_,rfl,?_⟩)|((with_reducible refine bq (f:=134) rfl ?_);refine bC 19 Tryz.func134 #[.string t123] rfl ?_;(with_reducible refine(mo.calls k t123 t125 t126 t127 _ A3.out).mono ?_);rintro e w' ⟨rfl,⟨nd,rfl⟩⟩;refine⟨_,rfl,?_⟩))
     refine bodyPost_ret (sW (rs:=[.tmp 2,.tmp 3,.tmp 4,.tmp 5]) rfl (by simp) (.tmp (.tmp (.tmp (.tmp .nil))))) rfl ?_;exact⟨by first|rfl|(simp;done)|(simp[*];done),by repeat(first|exact aX.refl _|apply aX.step)⟩
    ·rw[if_neg c7]at H;have kF:((t126.size:Int)==32)=false:=beq_eq_false_iff_ne.mpr c7;have rJ:((t126.size:Int) != 32)=true:=bne_iff_ne.mpr c7;simp only[Option.some.injEq,Prod.mk.injEq]at H;obtain⟨rfl,rfl,rfl,rfl⟩:=H
     go_enter Tryz.func80,Tryz.ntmps80
     go_wp2_with (first|((with_reducible refine bq (f:=34) rfl ?_);refine bC 13 Tryz.func34 #[.string a0,.int .i64 16] rfl ?_;(with_reducible refine(vL.calls a0 16 t122 t123 t124 _ A2.out).mono ?_);rintro e w' ⟨rfl,⟨nd,rfl⟩⟩;refine⟨_,rfl,?_⟩)|((with_reducible refine bq (f:=134) rfl ?_);refine bC 19 Tryz.func134 #[.string t123] rfl ?_;(with_reducible refine(mo.calls k t123 t125 t126 t127 _ A3.out).mono ?_);rintro e w' ⟨rfl,⟨nd,rfl⟩⟩;refine⟨_,rfl,?_⟩))
     refine bodyPost_ret (sW (rs:=[.tmp 2,.tmp 3,.tmp 4,.tmp 5]) rfl (by simp) (.tmp (.tmp (.tmp (.tmp .nil))))) rfl ?_;exact⟨by first|rfl|(simp;done)|(simp[*];done),by repeat(first|exact aX.refl _|apply aX.step)⟩
  ·rw[if_neg c5]at H;have jW:(t127==0)=false:=beq_eq_false_iff_ne.mpr c5;have xS:(t127 != 0)=true:=bne_iff_ne.mpr c5;simp only[Option.some.injEq,Prod.mk.injEq]at H;obtain⟨rfl,rfl,rfl,rfl⟩:=H
   go_enter Tryz.func80,Tryz.ntmps80
   go_wp2_with (first|((with_reducible refine bq (f:=34) rfl ?_);refine bC 13 Tryz.func34 #[.string a0,.int .i64 16] rfl ?_;(with_reducible refine(vL.calls a0 16 t122 t123 t124 _ A2.out).mono ?_);rintro e w' ⟨rfl,⟨nd,rfl⟩⟩;refine⟨_,rfl,?_⟩)|((with_reducible refine bq (f:=134) rfl ?_);refine bC 19 Tryz.func134 #[.string t123] rfl ?_;(with_reducible refine(mo.calls k t123 t125 t126 t127 _ A3.out).mono ?_);rintro e w' ⟨rfl,⟨nd,rfl⟩⟩;refine⟨_,rfl,?_⟩))
   refine bodyPost_ret (sW (rs:=[.tmp 2,.tmp 3,.tmp 4,.tmp 5]) rfl (by simp) (.tmp (.tmp (.tmp (.tmp .nil))))) rfl ?_;exact⟨by first|rfl|(simp;done)|(simp[*];done),by repeat(first|exact aX.refl _|apply aX.step)⟩
 ·rw[if_neg c4]at H;have iH:(t124==0)=false:=beq_eq_false_iff_ne.mpr c4;have zm:(t124 != 0)=true:=bne_iff_ne.mpr c4;simp only[Option.some.injEq,Prod.mk.injEq]at H;obtain⟨rfl,rfl,rfl,rfl⟩:=H
  go_enter Tryz.func80,Tryz.ntmps80
  go_wp2_with (first|((with_reducible refine bq (f:=34) rfl ?_);refine bC 13 Tryz.func34 #[.string a0,.int .i64 16] rfl ?_;(with_reducible refine(vL.calls a0 16 t122 t123 t124 _ A2.out).mono ?_);rintro e w' ⟨rfl,⟨nd,rfl⟩⟩;refine⟨_,rfl,?_⟩)|((with_reducible refine bq (f:=134) rfl ?_);refine bC 19 Tryz.func134 #[.string t123] rfl ?_;(with_reducible refine(mo.calls k t123 t125 t126 t127 _ A3.out).mono ?_);rintro e w' ⟨rfl,⟨nd,rfl⟩⟩;refine⟨_,rfl,?_⟩))
  refine bodyPost_ret (sW (rs:=[.tmp 2,.tmp 3,.tmp 4,.tmp 5]) rfl (by simp) (.tmp (.tmp (.tmp (.tmp .nil))))) rfl ?_;exact⟨by first|rfl|(simp;done)|(simp[*];done),by repeat(first|exact aX.refl _|apply aX.step)⟩
def CF.f(k:Nat)(a0:ByteArray):Option (ByteArray×Bool):=(vL.f a0 64).bind fun Im=>(if Im.2.2=0 then((KD.f k Im.1).bind fun Io=>(some (Io.1,(Io.2.2.2==0))))else(some ((⟨#[]⟩:ByteArray),false)))
theorem CF.calls(k:Nat)(a0:ByteArray)(r1:ByteArray)(r2:Bool)(w:World)(h:CF.f k a0=some (r1,r2)):
  Calls Tryz.prog 32 #[.string a0] w fun e w'=>e=.returned (.tuple #[.string r1,.bool r2])∧aX w w':=by
 have H:((vL.f a0 64).bind fun Im=>(if Im.2.2=0 then((KD.f k Im.1).bind fun Io=>(some (Io.1,(Io.2.2.2==0))))else(some ((⟨#[]⟩:ByteArray),false))))=some (r1,r2):=h;clear h;replace H:=Option.bind_eq_some_iff.mp H;obtain⟨⟨t128,t129,t130⟩,tF,H⟩:=H;(try dsimp only at H);have A2:=af.mk tF;clear tF
 by_cases c3:t130=0
 ·rw[if_pos c3]at H;have fJ:(t130==0)=true:=beq_iff_eq.mpr c3;have jV:(t130 != 0)=false:=bne_eq_false_iff_eq.mpr c3;clear c3;replace H:=Option.bind_eq_some_iff.mp H;obtain⟨⟨t131,t132,t133,t134⟩,oC,H⟩:=H;(try dsimp only at H);have A4:=af.mk oC;clear oC;simp only[Option.some.injEq,Prod.mk.injEq]at H;obtain⟨rfl,rfl⟩:=H
  go_enter Tryz.func32,Tryz.ntmps32
  go_wp2_with (first|((with_reducible refine bq (f:=34) rfl ?_);refine bC 12 Tryz.func34 #[.string a0,.int .i64 64] rfl ?_;(with_reducible refine(vL.calls a0 64 t128 t129 t130 _ A2.out).mono ?_);rintro e w' ⟨rfl,⟨nd,rfl⟩⟩;refine⟨_,rfl,?_⟩)|((with_reducible refine bq (f:=80) rfl ?_);refine bC 20 Tryz.func80 #[.string t128] rfl ?_;(with_reducible refine(KD.calls k t128 t131 t132 t133 t134 _ A4.out).mono ?_);rintro e w' ⟨rfl,⟨nd,rfl⟩⟩;refine⟨_,rfl,?_⟩))
  go_ret2
  exact⟨by first|rfl|(simp;done)|(simp[*];done),by repeat(first|exact aX.refl _|apply aX.step)⟩
 ·rw[if_neg c3]at H;have fJ:(t130==0)=false:=beq_eq_false_iff_ne.mpr c3;have jV:(t130 != 0)=true:=bne_iff_ne.mpr c3;simp only[Option.some.injEq,Prod.mk.injEq]at H;obtain⟨rfl,rfl⟩:=H
  go_enter Tryz.func32,Tryz.ntmps32
  go_wp2_with (first|((with_reducible refine bq (f:=34) rfl ?_);refine bC 12 Tryz.func34 #[.string a0,.int .i64 64] rfl ?_;(with_reducible refine(vL.calls a0 64 t128 t129 t130 _ A2.out).mono ?_);rintro e w' ⟨rfl,⟨nd,rfl⟩⟩;refine⟨_,rfl,?_⟩))
  go_ret2
  exact⟨by first|rfl|(simp;done)|(simp[*];done),by repeat(first|exact aX.refl _|apply aX.step)⟩
end Go.Proofs.YtdcddenojjdmjaaGreatDoor.T
