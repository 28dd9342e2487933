import Derived.Test.YtdcddenojjdmjaaGreatDoorM37
import Derived.Test.YtdcddenojjdmjaaGreatDoorM39
import Derived.Test.YtdcddenojjdmjaaGreatDoorM45
import Derived.Test.YtdcddenojjdmjaaGreatDoorM49
set_option linter.all false
set_option maxHeartbeats 8000000
set_option maxRecDepth 100000
namespace Go.Proofs.YtdcddenojjdmjaaGreatDoor.T
open Go.RowKit Go.Proofs.YtdcddenojjdmjaaGreatDoorW.PrintWords Go.Proofs.YtdcddenojjdmjaaGreatDoorW.PrintLast Go.Proofs.YtdcddenojjdmjaaGreatDoorW.PrintMore
attribute [local go_sem] kH kL kK kP kJ kN kI kM
attribute [local go_sem high] eqA29 eqA136
def mJ.l0:Nat→List Int→List Int→Int→Option (Bool)
 |0,_,_,_=>none
 |k+1,x0,x1,x5=>if x5<(x0.length:Int)then(if 0≤x5 then(if x5<(x1.length:Int)then(if(rd x0 x5)=(rd x1 x5)then(mJ.l0 k x0 x1 (wrap64 (x5+1)))else(some false))else(none))else(none))else(some true)
def mJ.f(k:Nat)(l0:List Int)(l1:List Int):Option (Bool):=if(l0.length:Int)=(l1.length:Int)then(mJ.l0 k l0 l1 0)else(some false)
theorem mJ.calls(k:Nat)(A0:Option Addr)(c0:Nat)(l0:List Int)(A1:Option Addr)(c1:Nat)(l1:List Int)(r:Bool)(w:World)(hr0:Kd.C (Kd.int .i64) w A0 l0.length l0)(hc0:l0.length≤c0)(hr1:Kd.C (Kd.int .i64) w A1 l1.length l1)(hc1:l1.length≤c1)(h:mJ.f k l0 l1=some r):
  Calls Tryz.prog 11 #[.slice A0 l0.length c0,.slice A1 l1.length c1] w fun e w'=>e=.returned (.bool r)∧aX w w':=by
 have cZ:=af.mk hr0;have gT:=af.mk hc0;clear hr0 hc0;have HR1:=af.mk hr1;have tK:=af.mk hc1;clear hr1 hc1;have H:(if(l0.length:Int)=(l1.length:Int)then(mJ.l0 k l0 l1 0)else(some false))=some r:=h;clear h
 by_cases c3:(l0.length:Int)=(l1.length:Int)
 ·rw[if_pos c3]at H;have fJ:((l0.length:Int)==(l1.length:Int))=true:=beq_iff_eq.mpr c3;have jV:((l0.length:Int) != (l1.length:Int))=false:=bne_eq_false_iff_eq.mpr c3;have vz:(l0.length==l1.length)=true:=by first|simpa using c3|(simp at c3 ⊢;omega)
  clear c3;have H':=af.mk H;clear H
  go_enter Tryz.func11,Tryz.ntmps11
  go_wp2
  repeat(go_quiet (fail);try go_wp2)
  go_loopg [5] k (fun kq v5 w'=>∃(aY:Int),v5=.int .i64 aY∧af (mJ.l0 kq l0 l1 aY=some r)∧af (kq≤k)∧aX w w')
  case atStart=>exact⟨(0),dx,H',⟨Nat.le_refl _⟩,by repeat(first|exact aX.refl _|apply aX.step)⟩
  case round=>
   clear H'
   try clear c1
   try clear p2
   try clear c3
   try clear fJ
   try clear jV
   try clear vz
   obtain⟨aY,rfl,HA,dD,⟨m1,rfl⟩⟩:=hrel
   cases gk with
   |zero=>exact absurd HA.out (by simp[mJ.l0])
   |succ k1=>
    have H:=HA.out;clear HA;simp only[mJ.l0]at H
    by_cases c4:aY<(l0.length:Int)
    ·rw[if_pos c4]at H;have iH:decide (aY<(l0.length:Int))=true:=decide_eq_true c4;clear c4
     by_cases c5:0≤aY
     ·rw[if_pos c5]at H;have jW:decide (0≤aY)=true:=decide_eq_true c5;clear c5
      by_cases c6:aY<(l1.length:Int)
      ·rw[if_pos c6]at H;have jv:decide (aY<(l1.length:Int))=true:=decide_eq_true c6;clear c6
       by_cases c7:(rd l0 aY)=(rd l1 aY)
       ·rw[if_pos c7]at H;have kF:((rd l0 aY)==(rd l1 aY))=true:=beq_iff_eq.mpr c7;have rJ:((rd l0 aY) != (rd l1 aY))=false:=bne_eq_false_iff_eq.mpr c7;clear c7;have H':=af.mk H;clear H;have D8:0≤(aY:Int):=aG;have Ej:aY<(l0.length:Int):=aG;obtain⟨ad254,e254,hx254_0⟩:=Kd.Il cZ.out aY D8 Ej
        cases e254
        replace D8:=eq_true D8;replace Ej:=eq_true Ej;have D9:0≤(aY:Int):=aG;have El:aY<(l1.length:Int):=aG;obtain⟨ad255,e255,hx255_0⟩:=Kd.Il HR1.out aY D9 El
        cases e255
        replace D9:=eq_true D9;replace El:=eq_true El
        go_wp2
        repeat(go_quiet (fail);try go_wp2)
        go_roundg k1
        case measure=>have:=dD.out;omega
        case rel=>exact⟨(wrap64 (aY+1)),dx,H',⟨by have:=dD.out;omega⟩,by repeat(first|exact aX.refl _|apply aX.step)⟩
       ·rw[if_neg c7]at H;have kF:((rd l0 aY)==(rd l1 aY))=false:=beq_eq_false_iff_ne.mpr c7;have rJ:((rd l0 aY) != (rd l1 aY))=true:=bne_iff_ne.mpr c7;obtain rfl:=Option.some.inj H;have D8:0≤(aY:Int):=aG;have Ej:aY<(l0.length:Int):=aG;obtain⟨ad254,e254,hx254_0⟩:=Kd.Il cZ.out aY D8 Ej
        cases e254
        replace D8:=eq_true D8;replace Ej:=eq_true Ej;have D9:0≤(aY:Int):=aG;have El:aY<(l1.length:Int):=aG;obtain⟨ad255,e255,hx255_0⟩:=Kd.Il HR1.out aY D9 El
        cases e255
        replace D9:=eq_true D9;replace El:=eq_true El
        go_wp2
        repeat(go_quiet (fail);try go_wp2)
        go_ret
        exact⟨by first|rfl|(simp;done)|(simp[*];done),by repeat(first|exact aX.refl _|apply aX.step)⟩
      ·rw[if_neg c6]at H;exact absurd H (by simp)
     ·rw[if_neg c5]at H;exact absurd H (by simp)
    ·rw[if_neg c4]at H;have iH:decide (aY<(l0.length:Int))=false:=decide_eq_false c4;clear c4;obtain rfl:=Option.some.inj H
     go_wp2
     repeat(go_quiet (fail);try go_wp2)
     go_ret
     exact⟨by first|rfl|(simp;done)|(simp[*];done),by repeat(first|exact aX.refl _|apply aX.step)⟩
 ·rw[if_neg c3]at H;have fJ:((l0.length:Int)==(l1.length:Int))=false:=beq_eq_false_iff_ne.mpr c3;have jV:((l0.length:Int) != (l1.length:Int))=true:=bne_iff_ne.mpr c3;have vz:(l0.length==l1.length)=false:=by first|simpa using c3|(simp at c3 ⊢;omega)
  obtain rfl:=Option.some.inj H
  go_enter Tryz.func11,Tryz.ntmps11
  go_wp2
  repeat(go_quiet (fail);try go_wp2)
  go_ret
  exact⟨by first|rfl|(simp;done)|(simp[*];done),by repeat(first|exact aX.refl _|apply aX.step)⟩
def og.l0:Nat→List (aN)→List (aN)→Int→Option (Bool)
 |0,_,_,_=>none
 |k+1,x0,x1,x5=>if x5<(x0.length:Int)then(if 0≤x5 then(if x5<(x1.length:Int)then(if(!(((gG x0 x5).f0)==((gG x1 x5).f0))||(!(((gG x0 x5).f1)==((gG x1 x5).f1))||(!(((gG x0 x5).f2)==((gG x1 x5).f2))||(!(((gG x0 x5).f3)==((gG x1 x5).f3))||(!(((gG x0 x5).f4)==((gG x1 x5).f4)))))))=true then(some false)else(og.l0 k x0 x1 (wrap64 (x5+1))))else(none))else(none))else(some true)
def og.f(k:Nat)(l0:List (aN))(l1:List (aN)):Option (Bool):=if(l0.length:Int)=(l1.length:Int)then(og.l0 k l0 l1 0)else(some false)
theorem og.calls(k:Nat)(A0:Option Addr)(c0:Nat)(l0:List (aN))(A1:Option Addr)(c1:Nat)(l1:List (aN))(r:Bool)(w:World)(hr0:Kd.C fZ w A0 l0.length l0)(hc0:l0.length≤c0)(hr1:Kd.C fZ w A1 l1.length l1)(hc1:l1.length≤c1)(h:og.f k l0 l1=some r):
  Calls Tryz.prog 25 #[.slice A0 l0.length c0,.slice A1 l1.length c1] w fun e w'=>e=.returned (.bool r)∧aX w w':=by
 have hu136:=Tryz.underlying136;have cZ:=af.mk hr0;have gT:=af.mk hc0;clear hr0 hc0;have HR1:=af.mk hr1;have tK:=af.mk hc1;clear hr1 hc1;have H:(if(l0.length:Int)=(l1.length:Int)then(og.l0 k l0 l1 0)else(some false))=some r:=h;clear h
 by_cases c3:(l0.length:Int)=(l1.length:Int)
 ·rw[if_pos c3]at H;have fJ:((l0.length:Int)==(l1.length:Int))=true:=beq_iff_eq.mpr c3;have jV:((l0.length:Int) != (l1.length:Int))=false:=bne_eq_false_iff_eq.mpr c3;have vz:(l0.length==l1.length)=true:=by first|simpa using c3|(simp at c3 ⊢;omega)
  clear c3;have H':=af.mk H;clear H
  go_enter Tryz.func25,Tryz.ntmps25
  go_wp2
  repeat(go_quiet (fail);try go_wp2)
  go_loopg [5] k (fun kq v5 w'=>∃(aY:Int),v5=.int .i64 aY∧af (og.l0 kq l0 l1 aY=some r)∧af (kq≤k)∧aX w w')
  case atStart=>exact⟨(0),dx,H',⟨Nat.le_refl _⟩,by repeat(first|exact aX.refl _|apply aX.step)⟩
  case round=>
   clear H'
   try clear c1
   try clear c2
   try clear p2
   try clear c3
   try clear fJ
   try clear jV
   try clear vz
   obtain⟨aY,rfl,HA,dD,⟨m1,rfl⟩⟩:=hrel
   cases gk with
   |zero=>exact absurd HA.out (by simp[og.l0])
   |succ k1=>
    have H:=HA.out;clear HA;simp only[og.l0]at H
    by_cases c4:aY<(l0.length:Int)
    ·rw[if_pos c4]at H;have iH:decide (aY<(l0.length:Int))=true:=decide_eq_true c4;clear c4
     by_cases c5:0≤aY
     ·rw[if_pos c5]at H;have jW:decide (0≤aY)=true:=decide_eq_true c5;clear c5
      by_cases c6:aY<(l1.length:Int)
      ·rw[if_pos c6]at H;have jv:decide (aY<(l1.length:Int))=true:=decide_eq_true c6;clear c6
       by_cases c7:(!(((gG l0 aY).f0)==((gG l1 aY).f0))||(!(((gG l0 aY).f1)==((gG l1 aY).f1))||(!(((gG l0 aY).f2)==((gG l1 aY).f2))||(!(((gG l0 aY).f3)==((gG l1 aY).f3))||(!(((gG l0 aY).f4)==((gG l1 aY).f4)))))))=true
       ·rw[if_pos c7]at H;have kF:(!(((gG l0 aY).f0)==((gG l1 aY).f0))||(!(((gG l0 aY).f1)==((gG l1 aY).f1))||(!(((gG l0 aY).f2)==((gG l1 aY).f2))||(!(((gG l0 aY).f3)==((gG l1 aY).f3))||(!(((gG l0 aY).f4)==((gG l1 aY).f4)))))))=true:=c7;clear c7;obtain rfl:=Option.some.inj H;have Ea:0≤(aY:Int):=aG;have Em:aY<(l0.length:Int):=aG;obtain⟨ad256,e256,hx256_0,hx256_1,hx256_2,hx256_3,hx256_4⟩:=Ik cZ.out aY Ea Em
        cases e256
        replace Ea:=eq_true Ea;replace Em:=eq_true Em;have Eb:0≤(aY:Int):=aG;have En:aY<(l1.length:Int):=aG;obtain⟨ad257,e257,hx257_0,hx257_1,hx257_2,hx257_3,hx257_4⟩:=Ik HR1.out aY Eb En
        cases e257
        replace Eb:=eq_true Eb;replace En:=eq_true En
        go_wp2
        repeat(go_quiet (fail);try go_wp2)
        go_ret
        exact⟨by first|rfl|(simp;done)|(simp[*];done),by repeat(first|exact aX.refl _|apply aX.step)⟩
       ·rw[if_neg c7]at H;have kF:(!(((gG l0 aY).f0)==((gG l1 aY).f0))||(!(((gG l0 aY).f1)==((gG l1 aY).f1))||(!(((gG l0 aY).f2)==((gG l1 aY).f2))||(!(((gG l0 aY).f3)==((gG l1 aY).f3))||(!(((gG l0 aY).f4)==((gG l1 aY).f4)))))))=false:=by simpa using c7
        clear c7;have H':=af.mk H;clear H;have Ea:0≤(aY:Int):=aG;have Em:aY<(l0.length:Int):=aG;obtain⟨ad256,e256,hx256_0,hx256_1,hx256_2,hx256_3,hx256_4⟩:=Ik cZ.out aY Ea Em
        cases e256
        replace Ea:=eq_true Ea;replace Em:=eq_true Em;have Eb:0≤(aY:Int):=aG;have En:aY<(l1.length:Int):=aG;obtain⟨ad257,e257,hx257_0,hx257_1,hx257_2,hx257_3,hx257_4⟩:=Ik HR1.out aY Eb En
        cases e257
        replace Eb:=eq_true Eb;replace En:=eq_true En
        go_wp2
        repeat(go_quiet (fail);try go_wp2)
        go_roundg k1
        case measure=>have:=dD.out;omega
        case rel=>exact⟨(wrap64 (aY+1)),dx,H',⟨by have:=dD.out;omega⟩,by repeat(first|exact aX.refl _|apply aX.step)⟩
      ·rw[if_neg c6]at H;exact absurd H (by simp)
     ·rw[if_neg c5]at H;exact absurd H (by simp)
    ·rw[if_neg c4]at H;have iH:decide (aY<(l0.length:Int))=false:=decide_eq_false c4;clear c4;obtain rfl:=Option.some.inj H
     go_wp2
     repeat(go_quiet (fail);try go_wp2)
     go_ret
     exact⟨by first|rfl|(simp;done)|(simp[*];done),by repeat(first|exact aX.refl _|apply aX.step)⟩
 ·rw[if_neg c3]at H;have fJ:((l0.length:Int)==(l1.length:Int))=false:=beq_eq_false_iff_ne.mpr c3;have jV:((l0.length:Int) != (l1.length:Int))=true:=bne_iff_ne.mpr c3;have vz:(l0.length==l1.length)=false:=by first|simpa using c3|(simp at c3 ⊢;omega)
  obtain rfl:=Option.some.inj H
  go_enter Tryz.func25,Tryz.ntmps25
  go_wp2
  repeat(go_quiet (fail);try go_wp2)
  go_ret
  exact⟨by first|rfl|(simp;done)|(simp[*];done),by repeat(first|exact aX.refl _|apply aX.step)⟩
def Dm.f(k:Nat)(aH:Int)(aV:Bool)(mV:List Int)(bn:Int)(iT:Int)(iU:Int)(mW:List (aN))(dI:Int)(eT:Bool)(gP:List Int)(dR:Int)(jf:Int)(jE:Int)(fK:List (aN)):Option (Bool):=(mJ.f k mV gP).bind fun t260=>((og.f k mW fK).bind fun t261=>(if t260=true then(if t261=true then(if aH=dI then(if(aV==eT)=true then(some (bn==dR&&(iT==jf&&(iU==jE))))else(some false))else(some false))else(some false))else(some false)))
theorem Dm.calls(k:Nat)(aH:Int)(aV:Bool)(vS:Option Addr)(wz:Nat)(mV:List Int)(bn:Int)(iT:Int)(iU:Int)(vT:Option Addr)(wB:Nat)(mW:List (aN))(dI:Int)(eT:Bool)(jZ:Option Addr)(kr:Nat)(gP:List Int)(dR:Int)(jf:Int)(jE:Int)(kU:Option Addr)(jU:Nat)(fK:List (aN))(r:Bool)(w:World)(hr0_2:Kd.C (Kd.int .i64) w vS mV.length mV)(hc0_2:mV.length≤wz)(hr0_6:Kd.C fZ w vT mW.length mW)(hc0_6:mW.length≤wB)(MR:Kd.C (Kd.int .i64) w jZ gP.length gP)(Pv:gP.length≤kr)(FL:Kd.C fZ w kU fK.length fK)(Pw:fK.length≤jU)(h:Dm.f k aH aV mV bn iT iU mW dI eT gP dR jf jE fK=some r):
  Calls Tryz.prog 10 #[.agg #[.int .i64 aH,.bool aV,.slice vS mV.length wz,.int .i64 bn,.int .i64 iT,.int .i64 iU,.slice vT mW.length wB],.agg #[.int .i64 dI,.bool eT,.slice jZ gP.length kr,.int .i64 dR,.int .i64 jf,.int .i64 jE,.slice kU fK.length jU]] w fun e w'=>e=.returned (.bool r)∧Below w.heap.size w w':=by
 have hu32:=Tryz.underlying32;have hu29:=Tryz.underlying29;have Hg:=af.mk hr0_2;have G5:=af.mk hc0_2;clear hr0_2 hc0_2;have Hl:=af.mk hr0_6;have G6:=af.mk hc0_6;clear hr0_6 hc0_6;have Ho:=af.mk MR;have G7:=af.mk Pv;clear MR Pv;have Hq:=af.mk FL;have G8:=af.mk Pw;clear FL Pw;have HB:=af.mk (Below.refl w.heap.size w);have H:((mJ.f k mV gP).bind fun t260=>((og.f k mW fK).bind fun t261=>(if t260=true then(if t261=true then(if aH=dI then(if(aV==eT)=true then(some (bn==dR&&(iT==jf&&(iU==jE))))else(some false))else(some false))else(some false))else(some false))))=some r:=h;clear h;replace H:=Option.bind_eq_some_iff.mp H;obtain⟨t260,jD,H⟩:=H;(try dsimp only at H);have A3:=af.mk jD;clear jD;replace H:=Option.bind_eq_some_iff.mp H;obtain⟨t261,oC,H⟩:=H;(try dsimp only at H);have A4:=af.mk oC;clear oC
 by_cases c5:t260=true
 ·subst c5;rw[if_pos rfl]at H
  by_cases c6:t261=true
  ·subst c6;rw[if_pos rfl]at H
   by_cases c7:aH=dI
   ·rw[if_pos c7]at H;have kF:(aH==dI)=true:=beq_iff_eq.mpr c7;have rJ:(aH != dI)=false:=bne_eq_false_iff_eq.mpr c7;clear c7
    by_cases c8:(aV==eT)=true
    ·rw[if_pos c8]at H;have jw:(aV==eT)=true:=c8;(try(have sH:decide (aV=eT)=true:=by simpa using c8));(try(have c8b2:(aV==eT)=true:=by simpa using c8));clear c8;obtain rfl:=Option.some.inj H
     go_enter Tryz.func10,Tryz.ntmps10
     go_wp2_with (first|((with_reducible refine bZ (N:=2) rfl ?_);refine dn 2 (cs:=#[.int .i64 aH,.bool aV,.slice vS mV.length wz,.int .i64 bn,.int .i64 iT,.int .i64 iU,.slice vT mW.length wB]) (t:=32) ?_;intro um hg w9 aC hb;have j3:=af.mk (aC);have Lb:af (w.heap.size≤um):=aT hg;have K8:af (w.heap.size≤um):=aT hg;replace HB:=af.mk (av ai hb);clear hb aC hg)|((with_reducible refine bZ (N:=3) rfl ?_);refine dn 3 (cs:=#[.int .i64 dI,.bool eT,.slice jZ gP.length kr,.int .i64 dR,.int .i64 jf,.int .i64 jE,.slice kU fK.length jU]) (t:=32) ?_;intro uo hg w10 aC hb;have zP:=af.mk (aC);have Lc:af (w.heap.size≤uo):=aT hg;have La:af (w.heap.size≤uo):=aT hg;have zR:=kS hg j3;have zS:=kT hg j3;replace j3:=bQ j3 hb;replace HB:=af.mk (av ai hb);clear hb aC hg;have hnb11:=zR.out;have hnc11:=zS.out;obtain⟨BS,BU,BV,Px,hcz12_4,hcz12_5,hcz12_6,BX,BZ,Cb,P7,hfz12_4,hfz12_5,hfz12_6⟩:=iY j3;obtain⟨TB,TD,TF,TG,hcz13_4,hcz13_5,hcz13_6,Ue,Uf,Ug,Uh,hfz13_4,hfz13_5,hfz13_6⟩:=iY zP)|((with_reducible refine bq (f:=11) rfl ?_);refine bC 11 Tryz.func11 #[.slice vS mV.length wz,.slice jZ gP.length kr] rfl ?_;(with_reducible refine(mJ.calls k _ _ mV _ _ gP true _ ?aQ ?aW ?jA ?jB A3.out).mono ?_);(case aQ=>exact jr Hg);(case aW=>exact G5.out);(case jA=>exact jr Ho);(case jB=>exact G7.out);rintro e w' ⟨rfl,⟨nd,rfl⟩⟩;refine⟨_,rfl,?_⟩)|((with_reducible refine bq (f:=25) rfl ?_);refine bC 16 Tryz.func25 #[.slice vT mW.length wB,.slice kU fK.length jU] rfl ?_;(with_reducible refine(og.calls k _ _ mW _ _ fK true _ ?aQ ?aW ?jA ?jB A4.out).mono ?_);(case aQ=>repeat(first|exact(nT Hl)|(with_reducible refine Kd.gu ?_ _)|(with_reducible refine Kd.gB ?_ _)|(with_reducible refine Kd.gy ?_)));(case aW=>exact G6.out);(case jA=>repeat(first|exact(nT Hq)|(with_reducible refine Kd.gu ?_ _)|(with_reducible refine Kd.gB ?_ _)|(with_reducible refine Kd.gy ?_)));(case jB=>exact G8.out);rintro e w' ⟨rfl,⟨nd,rfl⟩⟩;refine⟨_,rfl,?_⟩))
     go_ret
     exact⟨bS,ai⟩
    ·rw[if_neg c8]at H;have jw:(aV==eT)=false:=by simpa using c8
     (try(have sH:decide (aV=eT)=false:=by simpa using c8));(try(have c8b2:(aV==eT)=false:=by simpa using c8));(try(have c8b3:¬(aV=eT):=by simpa using c8));clear c8;obtain rfl:=Option.some.inj H
     go_enter Tryz.func10,Tryz.ntmps10
     go_wp2_with (first|((with_reducible refine bZ (N:=2) rfl ?_);refine dn 2 (cs:=#[.int .i64 aH,.bool aV,.slice vS mV.length wz,.int .i64 bn,.int .i64 iT,.int .i64 iU,.slice vT mW.length wB]) (t:=32) ?_;intro um hg w14 aC hb;have j3:=af.mk (aC);have Lb:af (w.heap.size≤um):=aT hg;have K8:af (w.heap.size≤um):=aT hg;replace HB:=af.mk (av ai hb);clear hb aC hg)|((with_reducible refine bZ (N:=3) rfl ?_);refine dn 3 (cs:=#[.int .i64 dI,.bool eT,.slice jZ gP.length kr,.int .i64 dR,.int .i64 jf,.int .i64 jE,.slice kU fK.length jU]) (t:=32) ?_;intro uo hg wX aC hb;have zP:=af.mk (aC);have Lc:af (w.heap.size≤uo):=aT hg;have La:af (w.heap.size≤uo):=aT hg;have zR:=kS hg j3;have zS:=kT hg j3;replace j3:=bQ j3 hb;replace HB:=af.mk (av ai hb);clear hb aC hg;have hnb16:=zR.out;have hnc16:=zS.out;obtain⟨LV,LW,LX,LY,hcz17_4,hcz17_5,hcz17_6,Mr,Ms,Mt,Mv,hfz17_4,hfz17_5,hfz17_6⟩:=iY j3;obtain⟨Aq,Ar,Au,Aw,LZ,L6,L8,AO,AP,AQ,AU,Mw,Mx,MB⟩:=iY zP)|((with_reducible refine bq (f:=11) rfl ?_);refine bC 11 Tryz.func11 #[.slice vS mV.length wz,.slice jZ gP.length kr] rfl ?_;(with_reducible refine(mJ.calls k _ _ mV _ _ gP true _ ?aQ ?aW ?jA ?jB A3.out).mono ?_);(case aQ=>exact jr Hg);(case aW=>exact G5.out);(case jA=>exact jr Ho);(case jB=>exact G7.out);rintro e w' ⟨rfl,⟨nd,rfl⟩⟩;refine⟨_,rfl,?_⟩)|((with_reducible refine bq (f:=25) rfl ?_);refine bC 16 Tryz.func25 #[.slice vT mW.length wB,.slice kU fK.length jU] rfl ?_;(with_reducible refine(og.calls k _ _ mW _ _ fK true _ ?aQ ?aW ?jA ?jB A4.out).mono ?_);(case aQ=>repeat(first|exact(nT Hl)|(with_reducible refine Kd.gu ?_ _)|(with_reducible refine Kd.gB ?_ _)|(with_reducible refine Kd.gy ?_)));(case aW=>exact G6.out);(case jA=>repeat(first|exact(nT Hq)|(with_reducible refine Kd.gu ?_ _)|(with_reducible refine Kd.gB ?_ _)|(with_reducible refine Kd.gy ?_)));(case jB=>exact G8.out);rintro e w' ⟨rfl,⟨nd,rfl⟩⟩;refine⟨_,rfl,?_⟩))
     go_ret
     exact⟨bS,ai⟩
   ·rw[if_neg c7]at H;have kF:(aH==dI)=false:=beq_eq_false_iff_ne.mpr c7;have rJ:(aH != dI)=true:=bne_iff_ne.mpr c7;obtain rfl:=Option.some.inj H
    go_enter Tryz.func10,Tryz.ntmps10
    go_wp2_with (first|((with_reducible refine bZ (N:=2) rfl ?_);refine dn 2 (cs:=#[.int .i64 aH,.bool aV,.slice vS mV.length wz,.int .i64 bn,.int .i64 iT,.int .i64 iU,.slice vT mW.length wB]) (t:=32) ?_;intro um hg w19 aC hb;have j3:=af.mk (aC);have Lb:af (w.heap.size≤um):=aT hg;have K8:af (w.heap.size≤um):=aT hg;replace HB:=af.mk (av ai hb);clear hb aC hg)|((with_reducible refine bZ (N:=3) rfl ?_);refine dn 3 (cs:=#[.int .i64 dI,.bool eT,.slice jZ gP.length kr,.int .i64 dR,.int .i64 jf,.int .i64 jE,.slice kU fK.length jU]) (t:=32) ?_;intro uo hg w20 aC hb;have zP:=af.mk (aC);have Lc:af (w.heap.size≤uo):=aT hg;have La:af (w.heap.size≤uo):=aT hg;have zR:=kS hg j3;have zS:=kT hg j3;replace j3:=bQ j3 hb;replace HB:=af.mk (av ai hb);clear hb aC hg;have hnb21:=zR.out;have hnc21:=zS.out;obtain⟨Me,Mf,Mg,Mh,PI,PK,PL,MH,MI,MJ,MK,Qd,Qe,Qf⟩:=iY j3;obtain⟨hcz23_0,hcz23_1,hcz23_2,hcz23_3,hcz23_4,hcz23_5,hcz23_6,hfz23_0,hfz23_1,hfz23_2,hfz23_3,hfz23_4,hfz23_5,hfz23_6⟩:=iY zP)|((with_reducible refine bq (f:=11) rfl ?_);refine bC 11 Tryz.func11 #[.slice vS mV.length wz,.slice jZ gP.length kr] rfl ?_;(with_reducible refine(mJ.calls k _ _ mV _ _ gP true _ ?aQ ?aW ?jA ?jB A3.out).mono ?_);(case aQ=>exact jr Hg);(case aW=>exact G5.out);(case jA=>exact jr Ho);(case jB=>exact G7.out);rintro e w' ⟨rfl,⟨nd,rfl⟩⟩;refine⟨_,rfl,?_⟩)|((with_reducible refine bq (f:=25) rfl ?_);refine bC 16 Tryz.func25 #[.slice vT mW.length wB,.slice kU fK.length jU] rfl ?_;(with_reducible refine(og.calls k _ _ mW _ _ fK true _ ?aQ ?aW ?jA ?jB A4.out).mono ?_);(case aQ=>repeat(first|exact(nT Hl)|(with_reducible refine Kd.gu ?_ _)|(with_reducible refine Kd.gB ?_ _)|(with_reducible refine Kd.gy ?_)));(case aW=>exact G6.out);(case jA=>repeat(first|exact(nT Hq)|(with_reducible refine Kd.gu ?_ _)|(with_reducible refine Kd.gB ?_ _)|(with_reducible refine Kd.gy ?_)));(case jB=>exact G8.out);rintro e w' ⟨rfl,⟨nd,rfl⟩⟩;refine⟨_,rfl,?_⟩))
    go_ret
    exact⟨bS,ai⟩
  ·replace c6:=Bool.eq_false_iff.mpr c6;subst c6;rw[if_neg (show ¬(false=true) by decide)]at H;obtain rfl:=Option.some.inj H
   go_enter Tryz.func10,Tryz.ntmps10
   go_wp2_with (first|((with_reducible refine bZ (N:=2) rfl ?_);refine dn 2 (cs:=#[.int .i64 aH,.bool aV,.slice vS mV.length wz,.int .i64 bn,.int .i64 iT,.int .i64 iU,.slice vT mW.length wB]) (t:=32) ?_;intro um hg wY aC hb;have j3:=af.mk (aC);have Lb:af (w.heap.size≤um):=aT hg;have K8:af (w.heap.size≤um):=aT hg;replace HB:=af.mk (av ai hb);clear hb aC hg)|((with_reducible refine bZ (N:=3) rfl ?_);refine dn 3 (cs:=#[.int .i64 dI,.bool eT,.slice jZ gP.length kr,.int .i64 dR,.int .i64 jf,.int .i64 jE,.slice kU fK.length jU]) (t:=32) ?_;intro uo hg w25 aC hb;have zP:=af.mk (aC);have Lc:af (w.heap.size≤uo):=aT hg;have La:af (w.heap.size≤uo):=aT hg;have zR:=kS hg j3;have zS:=kT hg j3;replace j3:=bQ j3 hb;replace HB:=af.mk (av ai hb);clear hb aC hg;have hnb26:=zR.out;have Qs:=zS.out;obtain⟨TJ,TK,TL,TM,hcz27_4,hcz27_5,hcz27_6,Uk,Ul,Um,Un,hfz27_4,hfz27_5,hfz27_6⟩:=iY j3;obtain⟨Jd,Je,Jf,Mi,TN,TP,TQ,Jl,Jm,Jo,ML,Uo,Uq,Ur⟩:=iY zP)|((with_reducible refine bq (f:=11) rfl ?_);refine bC 11 Tryz.func11 #[.slice vS mV.length wz,.slice jZ gP.length kr] rfl ?_;(with_reducible refine(mJ.calls k _ _ mV _ _ gP true _ ?aQ ?aW ?jA ?jB A3.out).mono ?_);(case aQ=>exact jr Hg);(case aW=>exact G5.out);(case jA=>exact jr Ho);(case jB=>exact G7.out);rintro e w' ⟨rfl,⟨nd,rfl⟩⟩;refine⟨_,rfl,?_⟩)|((with_reducible refine bq (f:=25) rfl ?_);refine bC 16 Tryz.func25 #[.slice vT mW.length wB,.slice kU fK.length jU] rfl ?_;(with_reducible refine(og.calls k _ _ mW _ _ fK false _ ?aQ ?aW ?jA ?jB A4.out).mono ?_);(case aQ=>repeat(first|exact(nT Hl)|(with_reducible refine Kd.gu ?_ _)|(with_reducible refine Kd.gB ?_ _)|(with_reducible refine Kd.gy ?_)));(case aW=>exact G6.out);(case jA=>repeat(first|exact(nT Hq)|(with_reducible refine Kd.gu ?_ _)|(with_reducible refine Kd.gB ?_ _)|(with_reducible refine Kd.gy ?_)));(case jB=>exact G8.out);rintro e w' ⟨rfl,⟨nd,rfl⟩⟩;refine⟨_,rfl,?_⟩))
   go_ret
   exact⟨bS,ai⟩
 ·replace c5:=Bool.eq_false_iff.mpr c5;subst c5;rw[if_neg (show ¬(false=true) by decide)]at H;obtain rfl:=Option.some.inj H
  go_enter Tryz.func10,Tryz.ntmps10
  go_wp2_with (first|((with_reducible refine bZ (N:=2) rfl ?_);refine dn 2 (cs:=#[.int .i64 aH,.bool aV,.slice vS mV.length wz,.int .i64 bn,.int .i64 iT,.int .i64 iU,.slice vT mW.length wB]) (t:=32) ?_;intro um hg w29 aC hb;have j3:=af.mk (aC);have Lb:af (w.heap.size≤um):=aT hg;have K8:af (w.heap.size≤um):=aT hg;replace HB:=af.mk (av ai hb);clear hb aC hg)|((with_reducible refine bZ (N:=3) rfl ?_);refine dn 3 (cs:=#[.int .i64 dI,.bool eT,.slice jZ gP.length kr,.int .i64 dR,.int .i64 jf,.int .i64 jE,.slice kU fK.length jU]) (t:=32) ?_;intro uo hg w30 aC hb;have zP:=af.mk (aC);have Lc:af (w.heap.size≤uo):=aT hg;have La:af (w.heap.size≤uo):=aT hg;have zR:=kS hg j3;have zS:=kT hg j3;replace j3:=bQ j3 hb;replace HB:=af.mk (av ai hb);clear hb aC hg;have hnb31:=zR.out;have hnc31:=zS.out;obtain⟨PN,PO,PS,PU,hcz32_4,hcz32_5,hcz32_6,Qg,Qh,Qi,Qj,hfz32_4,hfz32_5,hfz32_6⟩:=iY j3;obtain⟨hcz33_0,hcz33_1,hcz33_2,hcz33_3,hcz33_4,hcz33_5,hcz33_6,hfz33_0,hfz33_1,hfz33_2,hfz33_3,hfz33_4,hfz33_5,hfz33_6⟩:=iY zP)|((with_reducible refine bq (f:=11) rfl ?_);refine bC 11 Tryz.func11 #[.slice vS mV.length wz,.slice jZ gP.length kr] rfl ?_;(with_reducible refine(mJ.calls k _ _ mV _ _ gP false _ ?aQ ?aW ?jA ?jB A3.out).mono ?_);(case aQ=>exact jr Hg);(case aW=>exact G5.out);(case jA=>exact jr Ho);(case jB=>exact G7.out);rintro e w' ⟨rfl,⟨nd,rfl⟩⟩;refine⟨_,rfl,?_⟩)|((with_reducible refine bq (f:=25) rfl ?_);refine bC 16 Tryz.func25 #[.slice vT mW.length wB,.slice kU fK.length jU] rfl ?_;(with_reducible refine(og.calls k _ _ mW _ _ fK t261 _ ?aQ ?aW ?jA ?jB A4.out).mono ?_);(case aQ=>repeat(first|exact(nT Hl)|(with_reducible refine Kd.gu ?_ _)|(with_reducible refine Kd.gB ?_ _)|(with_reducible refine Kd.gy ?_)));(case aW=>exact G6.out);(case jA=>repeat(first|exact(nT Hq)|(with_reducible refine Kd.gu ?_ _)|(with_reducible refine Kd.gB ?_ _)|(with_reducible refine Kd.gy ?_)));(case jB=>exact G8.out);rintro e w' ⟨rfl,⟨nd,rfl⟩⟩;refine⟨_,rfl,?_⟩))
  go_ret
  exact⟨bS,ai⟩
end Go.Proofs.YtdcddenojjdmjaaGreatDoor.T
namespace Go.Proofs.YtdcddenojjdmjaaGreatDoor.T
open Go.RowKit Go.Proofs.YtdcddenojjdmjaaGreatDoorW.PrintWords Go.Proofs.YtdcddenojjdmjaaGreatDoorW.PrintLast Go.Proofs.YtdcddenojjdmjaaGreatDoorW.PrintMore
structure Cf where
 t:ByteArray
 q:Int
 p:ByteArray
 r:ByteArray
 n:Int
 v0:Int
 v1:Bool
 l7:List Int
 v3:Int
 v4:Int
 v5:Int
 dF:List aN
 eG:List fo
structure Ca where
 A7:Option Addr
 c7:Nat
 iF:Option Addr
 c11:Nat
 jC:Option Addr
 c12:Nat
abbrev Cf.cells(x:Cf)(z:Ca):Array Value:=#[.string x.t,.int .i64 x.q,.string x.p,.string x.r,.int .i64 x.n,.int .i64 x.v0,.bool x.v1,.slice z.A7 x.l7.length z.c7,.int .i64 x.v3,.int .i64 x.v4,.int .i64 x.v5,.slice z.iF x.dF.length z.c11,.slice z.jC x.eG.length z.c12]
abbrev Cf.XW(x:Cf)(z:Ca):Array Value:=#[.int .i64 x.v0,.bool x.v1,.slice z.A7 x.l7.length z.c7,.int .i64 x.v3,.int .i64 x.v4,.int .i64 x.v5,.slice z.iF x.dF.length z.c11]
def rowAt{α:Type}(d:Kd α)(W:World)(A:Option Addr)(l:List α)(c:Nat):Prop:=Kd.C d W A l.length l∧l.length≤c
theorem rowAt.below{α:Type}{d:Kd α}{W W':World}{A:Option Addr}{l:List α}{c:Nat}(h:rowAt d W A l c)(hb:Below W.heap.size W W'):rowAt d W' A l c:=⟨Kd.dN h.1 hb,h.2⟩
def Cf.rows(x:Cf)(z:Ca)(W:World):Prop:=rowAt (Kd.int .i64) W z.A7 x.l7 z.c7∧rowAt fZ W z.iF x.dF z.c11∧rowAt vJ W z.jC x.eG z.c12
theorem Cf.rows.below{x:Cf}{z:Ca}{W W':World}(h:x.rows z W)(hb:Below W.heap.size W W'):x.rows z W':=⟨h.1.below hb,h.2.1.below hb,h.2.2.below hb⟩
theorem Cf.load{x:Cf}{z:Ca}{W:World}{b:Nat}(h:W.heap[b]? =some (.cells (x.cells z) 35 (0,0))):W.cell? ⟨b,0,none⟩=some (.string x.t)∧W.cell? ⟨b,1,none⟩=some (.int .i64 x.q)∧W.cell? ⟨b,2,none⟩=some (.string x.p)∧W.cell? ⟨b,3,none⟩=some (.string x.r)∧W.cell? ⟨b,4,none⟩=some (.int .i64 x.n)∧W.cell? ⟨b,5,none⟩=some (.int .i64 x.v0)∧W.cell? ⟨b,6,none⟩=some (.bool x.v1)∧W.cell? ⟨b,7,none⟩=some (.slice z.A7 x.l7.length z.c7)∧W.cell? ⟨b,8,none⟩=some (.int .i64 x.v3)∧W.cell? ⟨b,9,none⟩=some (.int .i64 x.v4)∧W.cell? ⟨b,10,none⟩=some (.int .i64 x.v5)∧W.cell? ⟨b,11,none⟩=some (.slice z.iF x.dF.length z.c11)∧W.cell? ⟨b,12,none⟩=some (.slice z.jC x.eG.length z.c12):=
 ⟨(ah h 0).trans rfl,(ah h 1).trans rfl,(ah h 2).trans rfl,(ah h 3).trans rfl,(ah h 4).trans rfl,(ah h 5).trans rfl,(ah h 6).trans rfl,(ah h 7).trans rfl,(ah h 8).trans rfl,(ah h 9).trans rfl,(ah h 10).trans rfl,(ah h 11).trans rfl,(ah h 12).trans rfl⟩
theorem Xl(k:Nat)(x:Cf)(z:Ca)(S:List aj)(W:World)(hr:x.rows z W)(h:pV.f k x.t x.q x.p x.r x.n x.v0 x.v1 x.l7 x.v3 x.v4 x.v5 x.dF x.eG=some S):Calls Tryz.prog 9 #[.agg (x.cells z)] W fun e w'=>∃A c,e=.returned (.slice A S.length c)∧rowAt dw w' A S c∧Below W.heap.size W w':=
 (pV.calls k x.t x.q x.p x.r x.n x.v0 x.v1 z.A7 z.c7 x.l7 x.v3 x.v4 x.v5 z.iF z.c11 x.dF z.jC z.c12 x.eG S W hr.1.1 hr.1.2 hr.2.1.1 hr.2.1.2 hr.2.2.1 hr.2.2.2 h).mono fun e w' h=>by
  obtain⟨v,e1,ho,hb⟩:=h;obtain⟨A,c,e2⟩:=Kd.fH ho;subst e2;exact⟨A,c,e1,⟨(Kd.dB ho).2.2,(Kd.dB ho).2.1⟩,hb⟩
theorem Xq(A:Option Addr)(c:Nat)(l r:List aj)(W:World)(hr:rowAt dw W A l c)(h:BJ.f l=some r):Calls Tryz.prog 8 #[.slice A l.length c] W fun e w'=>∃A' c',e=.returned (.slice A' r.length c')∧rowAt dw w' A' r c'∧Below W.heap.size W w':=
 (BJ.calls A c l r W hr.1 hr.2 h).mono fun e w' h=>by
  obtain⟨v,e1,ho,hb⟩:=h;obtain⟨A,c,e2⟩:=Kd.fH ho;subst e2;exact⟨A,c,e1,⟨(Kd.dB ho).2.2,(Kd.dB ho).2.1⟩,hb⟩
theorem SS(k:Nat)(x:Cf)(z:Ca)(r:List Int)(W:World)(hr:x.rows z W)(h:mK.f k x.t x.q x.p x.r x.n x.v0 x.v1 x.l7 x.v3 x.v4 x.v5 x.dF x.eG=some r):Calls Tryz.prog 12 #[.agg (x.cells z)] W fun e w'=>∃A c,e=.returned (.slice A r.length c)∧rowAt (Kd.int .i64) w' A r c∧Below W.heap.size W w':=
 (mK.calls k x.t x.q x.p x.r x.n x.v0 x.v1 z.A7 z.c7 x.l7 x.v3 x.v4 x.v5 z.iF z.c11 x.dF z.jC z.c12 x.eG r W hr.1.1 hr.1.2 hr.2.1.1 hr.2.1.2 hr.2.2.1 hr.2.2.2 h).mono fun e w' h=>by
  obtain⟨v,e1,ho,hb⟩:=h;obtain⟨A,c,e2⟩:=Kd.fH ho;subst e2;exact⟨A,c,e1,⟨(Kd.dB ho).2.2,(Kd.dB ho).2.1⟩,hb⟩
theorem abe(k:Nat)(x y:Cf)(z u:Ca)(r:Bool)(W:World)(hx:x.rows z W)(hy:y.rows u W)(h:Dm.f k x.v0 x.v1 x.l7 x.v3 x.v4 x.v5 x.dF y.v0 y.v1 y.l7 y.v3 y.v4 y.v5 y.dF=some r):Calls Tryz.prog 10 #[.agg (x.XW z),.agg (y.XW u)] W fun e w'=>e=.returned (.bool r)∧Below W.heap.size W w':=
 Dm.calls k x.v0 x.v1 z.A7 z.c7 x.l7 x.v3 x.v4 x.v5 z.iF z.c11 x.dF y.v0 y.v1 u.A7 u.c7 y.l7 y.v3 y.v4 y.v5 u.iF u.c11 y.dF r W hx.1.1 hx.1.2 hx.2.1.1 hx.2.1.2 hy.1.1 hy.1.2 hy.2.1.1 hy.2.1.2 h
theorem VX(k:Nat)(a0:ByteArray)(a1:Int)(a2 a3:ByteArray)(A:Option Addr)(c:Nat)(l:List aj)(a5:Int)(x:Cf)(e0:Int)(W:World)(hr:rowAt dw W A l c)(h:jh.f k a0 a1 a2 a3 l a5=some (x.t,x.q,x.p,x.r,x.n,x.v0,x.v1,x.l7,x.v3,x.v4,x.v5,x.dF,x.eG,e0))(hG:jR W):Calls Tryz.prog 6 #[.string a0,.int .i64 a1,.string a2,.string a3,.slice A l.length c,.int .i64 a5] W fun e w'=>∃z:Ca,e=.returned (.tuple #[.agg #[.string x.t,.int .i64 x.q,.string x.p,.string x.r,.int .i64 x.n,.int .i64 x.v0,.bool x.v1,.slice z.A7 x.l7.length z.c7,.int .i64 x.v3,.int .i64 x.v4,.int .i64 x.v5,.slice z.iF x.dF.length z.c11,.slice z.jC x.eG.length z.c12],.int .i64 e0])∧x.rows z w'∧Below W.heap.size W w':=
 (jh.calls k a0 a1 a2 a3 A c l a5 x.t x.q x.p x.r x.n x.v0 x.v1 x.l7 x.v3 x.v4 x.v5 x.dF x.eG e0 W hr.1 hr.2 h hG).mono fun e w' h=>by
  obtain⟨v7,v11,v12,e1,o7,o11,o12,hb⟩:=h;obtain⟨A7,c7,e2⟩:=Kd.fH o7;obtain⟨iF,c11,e3⟩:=Kd.fH o11;obtain⟨jC,c12,e4⟩:=Kd.Ic o12;subst e2;subst e3;subst e4;exact⟨⟨A7,c7,iF,c11,jC,c12⟩,e1,⟨⟨(Kd.dB o7).2.2,(Kd.dB o7).2.1⟩,⟨(Kd.dB o11).2.2,(Kd.dB o11).2.1⟩,⟨(Kd.EZ o12).2.2,(Kd.EZ o12).2.1⟩⟩,hb⟩
def Tn.S(w:World)(v24:Array Value)(jL b6 b8:Nat)(x y:Cf)(z u:Ca)(A:Option Addr)(c:Nat)(k':List aj)(W:World):Prop:=
 W.heap[jL]? =some (.cells v24 24 (0,0))∧W.heap[b6]? =some (.cells (x.cells z) 35 (0,0))∧W.heap[b8]? =some (.cells (y.cells u) 35 (0,0))∧x.rows z W∧y.rows u W∧rowAt dw W A k' c∧Below w.heap.size w W
theorem Tn.S.below{w W W':World}{v24:Array Value}{jL b6 b8:Nat}{x y:Cf}{z u:Ca}{A:Option Addr}{c:Nat}{k':List aj}(h:Tn.S w v24 jL b6 b8 x y z u A c k' W)(hb:Below W.heap.size W W'):Tn.S w v24 jL b6 b8 x y z u A c k' W':=
 ⟨aK h.1 hb,aK h.2.1 hb,aK h.2.2.1 hb,h.2.2.2.1.below hb,h.2.2.2.2.1.below hb,h.2.2.2.2.2.1.below hb,av h.2.2.2.2.2.2 hb⟩
structure Rest (k:Nat)(x y:Cf)(l k':List aj)(a2:ByteArray):Prop where
 out:∃(S1 S2 H1 H2:List aj) (sm:Bool) (E1 E2:List Int),pV.f k x.t x.q x.p x.r x.n x.v0 x.v1 x.l7 x.v3 x.v4 x.v5 x.dF x.eG=some S1∧pV.f k y.t y.q y.p y.r y.n y.v0 y.v1 y.l7 y.v3 y.v4 y.v5 y.dF y.eG=some S2∧BJ.f S1=some H1∧BJ.f S2=some H2∧qJ.f k H1 H2=some sm∧Dm.f k x.v0 x.v1 x.l7 x.v3 x.v4 x.v5 x.dF y.v0 y.v1 y.l7 y.v3 y.v4 y.v5 y.dF=some true∧mK.f k x.t x.q x.p x.r x.n x.v0 x.v1 x.l7 x.v3 x.v4 x.v5 x.dF x.eG=some E1∧mK.f k y.t y.q y.p y.r y.n y.v0 y.v1 y.l7 y.v3 y.v4 y.v5 y.dF y.eG=some E2∧mJ.f k E1 E2=some true∧x.n=y.n∧(sm=false→∃t,vC.f k a2 l=some t∧(t=false→vC.f k a2 k'=some true))
end Go.Proofs.YtdcddenojjdmjaaGreatDoor.T
