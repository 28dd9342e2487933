import Derived.Test.YtdcddenojjdmjaaGreatDoorM13
import Derived.Test.YtdcddenojjdmjaaGreatDoorM14
set_option linter.all false
set_option maxHeartbeats 8000000
set_option maxRecDepth 100000
namespace Go.Proofs.YtdcddenojjdmjaaGreatDoor.T
open Go.RowKit Go.Proofs.YtdcddenojjdmjaaGreatDoorW.PrintWords Go.Proofs.YtdcddenojjdmjaaGreatDoorW.PrintLast Go.Proofs.YtdcddenojjdmjaaGreatDoorW.PrintMore
attribute [local go_sem] kH kL kK kP kJ kN kI kM
attribute [local go_sem high] eqA67
def qJ.l0:Nat→List (aj)→List (aj)→Int→Option (Bool)
 |0,_,_,_=>none
 |k+1,x0,x1,x5=>if x5<(x0.length:Int)then(if 0≤x5 then(if x5<(x1.length:Int)then(if(!(((ak x0 x5).f0)==((ak x1 x5).f0))||(!(((ak x0 x5).f1)==((ak x1 x5).f1))||(!((((ak x0 x5).f2).toList)==(((ak x1 x5).f2).toList))||(!((((ak x0 x5).f3).toList)==(((ak x1 x5).f3).toList))))))=true then(some false)else(qJ.l0 k x0 x1 (wrap64 (x5+1))))else(none))else(none))else(some true)
def qJ.f(k:Nat)(l0:List (aj))(l1:List (aj)):Option (Bool):=if(l0.length:Int)=(l1.length:Int)then(qJ.l0 k l0 l1 0)else(some false)
theorem qJ.calls(k:Nat)(A0:Option Addr)(c0:Nat)(l0:List (aj))(A1:Option Addr)(c1:Nat)(l1:List (aj))(r:Bool)(w:World)(hr0:Kd.C dw w A0 l0.length l0)(hc0:l0.length≤c0)(hr1:Kd.C dw w A1 l1.length l1)(hc1:l1.length≤c1)(h:qJ.f k l0 l1=some r):
  Calls Tryz.prog 7 #[.slice A0 l0.length c0,.slice A1 l1.length c1] w fun e w'=>e=.returned (.bool r)∧aX w w':=by
 have wN:=Tryz.underlying67;have cZ:=af.mk hr0;have gT:=af.mk hc0;clear hr0 hc0;have HR1:=af.mk hr1;have tK:=af.mk hc1;clear hr1 hc1;have H:(if(l0.length:Int)=(l1.length:Int)then(qJ.l0 k l0 l1 0)else(some false))=some r:=h;clear h
 by_cases c3:(l0.length:Int)=(l1.length:Int)
 ·rw[if_pos c3]at H;have fJ:((l0.length:Int)==(l1.length:Int))=true:=beq_iff_eq.mpr c3;have jV:((l0.length:Int) != (l1.length:Int))=false:=bne_eq_false_iff_eq.mpr c3;have vz:(l0.length==l1.length)=true:=by first|simpa using c3|(simp at c3 ⊢;omega)
  clear c3;have H':=af.mk H;clear H
  go_enter Tryz.func7,Tryz.ntmps7
  go_wp2
  repeat(go_quiet (fail);try go_wp2)
  go_loopg [5] k (fun kq v5 w'=>∃(aY:Int),v5=.int .i64 aY∧af (qJ.l0 kq l0 l1 aY=some r)∧af (kq≤k)∧aX w w')
  case atStart=>exact⟨(0),dx,H',⟨Nat.le_refl _⟩,by repeat(first|exact aX.refl _|apply aX.step)⟩
  case round=>
   clear H'
   try clear c1
   try clear p2
   try clear c3
   try clear fJ
   try clear jV
   try clear vz
   obtain⟨aY,rfl,HA,dD,⟨m1,rfl⟩⟩:=hrel
   cases gk with
   |zero=>exact absurd HA.out (by simp[qJ.l0])
   |succ k1=>
    have H:=HA.out;clear HA;simp only[qJ.l0]at H
    by_cases c4:aY<(l0.length:Int)
    ·rw[if_pos c4]at H;have iH:decide (aY<(l0.length:Int))=true:=decide_eq_true c4;clear c4
     by_cases c5:0≤aY
     ·rw[if_pos c5]at H;have jW:decide (0≤aY)=true:=decide_eq_true c5;clear c5
      by_cases c6:aY<(l1.length:Int)
      ·rw[if_pos c6]at H;have jv:decide (aY<(l1.length:Int))=true:=decide_eq_true c6;clear c6
       by_cases c7:(!(((ak l0 aY).f0)==((ak l1 aY).f0))||(!(((ak l0 aY).f1)==((ak l1 aY).f1))||(!((((ak l0 aY).f2).toList)==(((ak l1 aY).f2).toList))||(!((((ak l0 aY).f3).toList)==(((ak l1 aY).f3).toList))))))=true
       ·rw[if_pos c7]at H;have kF:(!(((ak l0 aY).f0)==((ak l1 aY).f0))||(!(((ak l0 aY).f1)==((ak l1 aY).f1))||(!((((ak l0 aY).f2).toList)==(((ak l1 aY).f2).toList))||(!((((ak l0 aY).f3).toList)==(((ak l1 aY).f3).toList))))))=true:=c7;clear c7;obtain rfl:=Option.some.inj H;have DZ:0≤(aY:Int):=aG;have Eh:aY<(l0.length:Int):=aG;obtain⟨ad244,e244,hx244_0,hx244_1,hx244_2,hx244_3⟩:=gL cZ.out aY DZ Eh
        cases e244
        replace DZ:=eq_true DZ;replace Eh:=eq_true Eh;have D7:0≤(aY:Int):=aG;have Ei:aY<(l1.length:Int):=aG;obtain⟨ad245,e245,hx245_0,hx245_1,hx245_2,hx245_3⟩:=gL HR1.out aY D7 Ei
        cases e245
        replace D7:=eq_true D7;replace Ei:=eq_true Ei
        go_wp2
        repeat(go_quiet (fail);try go_wp2)
        go_ret
        exact⟨by first|rfl|(simp;done)|(simp[*];done),by repeat(first|exact aX.refl _|apply aX.step)⟩
       ·rw[if_neg c7]at H;have kF:(!(((ak l0 aY).f0)==((ak l1 aY).f0))||(!(((ak l0 aY).f1)==((ak l1 aY).f1))||(!((((ak l0 aY).f2).toList)==(((ak l1 aY).f2).toList))||(!((((ak l0 aY).f3).toList)==(((ak l1 aY).f3).toList))))))=false:=by simpa using c7
        clear c7;have H':=af.mk H;clear H;have DZ:0≤(aY:Int):=aG;have Eh:aY<(l0.length:Int):=aG;obtain⟨ad244,e244,hx244_0,hx244_1,hx244_2,hx244_3⟩:=gL cZ.out aY DZ Eh
        cases e244
        replace DZ:=eq_true DZ;replace Eh:=eq_true Eh;have D7:0≤(aY:Int):=aG;have Ei:aY<(l1.length:Int):=aG;obtain⟨ad245,e245,hx245_0,hx245_1,hx245_2,hx245_3⟩:=gL HR1.out aY D7 Ei
        cases e245
        replace D7:=eq_true D7;replace Ei:=eq_true Ei
        go_wp2
        repeat(go_quiet (fail);try go_wp2)
        go_roundg k1
        case measure=>have:=dD.out;omega
        case rel=>exact⟨(wrap64 (aY+1)),dx,H',⟨by have:=dD.out;omega⟩,by repeat(first|exact aX.refl _|apply aX.step)⟩
      ·rw[if_neg c6]at H;exact absurd H (by simp)
     ·rw[if_neg c5]at H;exact absurd H (by simp)
    ·rw[if_neg c4]at H;have iH:decide (aY<(l0.length:Int))=false:=decide_eq_false c4;clear c4;obtain rfl:=Option.some.inj H
     go_wp2
     repeat(go_quiet (fail);try go_wp2)
     go_ret
     exact⟨by first|rfl|(simp;done)|(simp[*];done),by repeat(first|exact aX.refl _|apply aX.step)⟩
 ·rw[if_neg c3]at H;have fJ:((l0.length:Int)==(l1.length:Int))=false:=beq_eq_false_iff_ne.mpr c3;have jV:((l0.length:Int) != (l1.length:Int))=true:=bne_iff_ne.mpr c3;have vz:(l0.length==l1.length)=false:=by first|simpa using c3|(simp at c3 ⊢;omega)
  obtain rfl:=Option.some.inj H
  go_enter Tryz.func7,Tryz.ntmps7
  go_wp2
  repeat(go_quiet (fail);try go_wp2)
  go_ret
  exact⟨by first|rfl|(simp;done)|(simp[*];done),by repeat(first|exact aX.refl _|apply aX.step)⟩
def oQ.l0:Nat→Int→ByteArray→Option (ByteArray)
 |0,_,_=>none
 |k+1,x0,x3=>(some (([(48+((Int.tmod x0 10)%256))%256]:List Int):List Int)).bind fun zf=>(if(strOfNums zf).size+x3.size≤9223372036854775807 then(if(wrap64 (Int.tdiv x0 10))=0 then(some ((strOfNums zf)++x3))else(oQ.l0 k (wrap64 (Int.tdiv x0 10)) ((strOfNums zf)++x3)))else(none))
def oQ.f(k:Nat)(a0:Int):Option (ByteArray):=oQ.l0 k a0 (⟨#[]⟩:ByteArray)
theorem oQ.calls(k:Nat)(a0:Int)(r:ByteArray)(w:World)(h:oQ.f k a0=some r):
  Calls Tryz.prog 24 #[.int .i64 a0] w fun e w'=>e=.returned (.string r)∧Below w.heap.size w w':=by
 have HB:=af.mk (Below.refl w.heap.size w);have H:(oQ.l0 k a0 (⟨#[]⟩:ByteArray))=some r:=h;clear h;have H':=af.mk H;clear H
 go_enter Tryz.func24,Tryz.ntmps24
 go_wp2
 go_loopg [0,3] k (fun kq v0 v3 w'=>∃(jq:Int) (dh:ByteArray),v0=.int .i64 jq∧v3=.string dh∧af (oQ.l0 kq jq dh=some r)∧af (kq≤k)∧af (Below w.heap.size w w'))
 case atStart=>exact⟨(a0),((⟨#[]⟩:ByteArray)),dx,dx,H',⟨Nat.le_refl _⟩,⟨ai⟩⟩
 case round=>
  clear H';obtain⟨jq,dh,rfl,rfl,HA,dD,HB⟩:=hrel
  cases gk with
  |zero=>exact absurd HA.out (by simp[oQ.l0])
  |succ k1=>
   have H:=HA.out;clear HA;simp only[oQ.l0]at H;obtain⟨zf,Kb⟩:∃y_:List Int,y_=(([(48+((Int.tmod jq 10)%256))%256]:List Int)):=⟨_,rfl⟩;replace H:(if(strOfNums zf).size+dh.size≤9223372036854775807 then(if(wrap64 (Int.tdiv jq 10))=0 then(some ((strOfNums zf)++dh))else(oQ.l0 k1 (wrap64 (Int.tdiv jq 10)) ((strOfNums zf)++dh)))else(none))=some r:=by first|(rw[Kb];with_reducible exact H)|(have bP:=(Option.bind_some _ _).symm.trans H;rw[Kb];with_reducible exact bP)|(have bP:=(Option.bind_some _ _).symm.trans H;with_reducible exact bP)|with_reducible exact H|(rw[Kb];exact H)|exact H
   have Li:=af.mk Kb;clear Kb
   by_cases c2:(strOfNums zf).size+dh.size≤9223372036854775807
   ·rw[if_pos c2]at H;have ig:=eq_true c2;have nJ:decide ((strOfNums zf).size+dh.size≤9223372036854775807)=true:=decide_eq_true c2
    try have c2b2:(9223372036854775807<(strOfNums zf).size+dh.size)=False:=eq_false (Nat.not_lt.2 c2)
    by_cases c3:(wrap64 (Int.tdiv jq 10))=0
    ·rw[if_pos c3]at H;have fJ:((wrap64 (Int.tdiv jq 10))==0)=true:=beq_iff_eq.mpr c3;have jV:((wrap64 (Int.tdiv jq 10)) != 0)=false:=bne_eq_false_iff_eq.mpr c3;clear c3;obtain rfl:=Option.some.inj H
     go_wp2_with (first|((with_reducible refine bZ (N:=8) rfl ?_);refine Kd.zl (Kd.int .u8) _ 5 ?hg (N:=8) ?hd (xs:=([(48+((Int.tmod jq 10)%256))%256]:List Int)) (inner:=[.int .u8 ((48+((Int.tmod jq 10)%256))%256)]) (ok:=fun _=>True) (iD:=fun _=>True) ?hr ?hp (fun _ hk=>hk) trivial (Below.refl _ _) (Nat.le_refl _) (by simp) ?_;(case hd=>rfl);(case hg=>rfl);(case hr=>first|(go_simp;done)|(go_simp;rfl));(case hp=>exact(fC.one (show Kd.M (Kd.int .u8) _ _ _ ((48+((Int.tmod jq 10)%256))%256) [.int .u8 ((48+((Int.tmod jq 10)%256))%256)]from rfl) (fC.none _ _)));intro v247 w4 yA hb oZ o8;clear oZ o8;(first|rw[← Li.out]at yA|(simp only[Int.reduceToNat]at yA;rw[← Li.out]at yA));have Om:=af.mk (Kd.gU yA (fI ai));replace HB:=af.mk (av ai hb);clear hb yA;have hcv6:=Co (P:=Tryz.prog) Tryz.underlying155 Tryz.underlying5 Tryz.underlying9 (Kd.wQ Om.out)))
     go_ret
     exact⟨bS,ai⟩
    ·rw[if_neg c3]at H;have fJ:((wrap64 (Int.tdiv jq 10))==0)=false:=beq_eq_false_iff_ne.mpr c3;have jV:((wrap64 (Int.tdiv jq 10)) != 0)=true:=bne_iff_ne.mpr c3;have H':=af.mk H;clear H
     go_wp2_with (first|((with_reducible refine bZ (N:=8) rfl ?_);refine Kd.zl (Kd.int .u8) _ 5 ?hg (N:=8) ?hd (xs:=([(48+((Int.tmod jq 10)%256))%256]:List Int)) (inner:=[.int .u8 ((48+((Int.tmod jq 10)%256))%256)]) (ok:=fun _=>True) (iD:=fun _=>True) ?hr ?hp (fun _ hk=>hk) trivial (Below.refl _ _) (Nat.le_refl _) (by simp) ?_;(case hd=>rfl);(case hg=>rfl);(case hr=>first|(go_simp;done)|(go_simp;rfl));(case hp=>exact(fC.one (show Kd.M (Kd.int .u8) _ _ _ ((48+((Int.tmod jq 10)%256))%256) [.int .u8 ((48+((Int.tmod jq 10)%256))%256)]from rfl) (fC.none _ _)));intro v247 w7 ho8 hb oZ o8;clear oZ o8;(first|rw[← Li.out]at ho8|(simp only[Int.reduceToNat]at ho8;rw[← Li.out]at ho8));have Om:=af.mk (Kd.gU ho8 (fI ai));replace HB:=af.mk (av ai hb);clear hb ho8;have hcv9:=Co (P:=Tryz.prog) Tryz.underlying155 Tryz.underlying5 Tryz.underlying9 (Kd.wQ Om.out)))
     go_roundg k1
     case measure=>have:=dD.out;omega
     case rel=>exact⟨(wrap64 (Int.tdiv jq 10)),((strOfNums zf)++dh),dx,dx,H',⟨by have:=dD.out;omega⟩,⟨ai⟩⟩
   ·rw[if_neg c2]at H;exact absurd H (by simp)
def pV.l0:Nat→List (aj)→Int→ByteArray→Int→ByteArray→ByteArray→Int→Int→Bool→List Int→Int→Int→Int→List (aN)→List (fo)→Option ((List (aj)))
 |0,_,_,_,_,_,_,_,_,_,_,_,_,_,_,_=>none
 |k+1,x3,x4,x250000,x250001,x250002,x250003,x250004,x250005,x250006,x250007,x250008,x250009,x250010,x250011,Gy=>if x4<(Gy.length:Int)then(if 0≤x4 then(if x3.length<2932031007402 then(pV.l0 k (x3++[(⟨(iO Gy x4).f1.f0,(iO Gy x4).f1.f1,(iO Gy x4).f1.f2,(iO Gy x4).f1.f3⟩:aj)]) (wrap64 (x4+1)) x250000 x250001 x250002 x250003 x250004 x250005 x250006 x250007 x250008 x250009 x250010 x250011 Gy)else(none))else(none))else(some x3)
def pV.f(k:Nat)(aH:ByteArray)(aV:Int)(bg:ByteArray)(bn:ByteArray)(iT:Int)(iU:Int)(kZ:Bool)(iw:List Int)(jb:Int)(jc:Int)(ja:Int)(jy:List (aN))(eZ:List (fo)):Option ((List (aj))):=pV.l0 k ([]:List (aj)) 0 aH aV bg bn iT iU kZ iw jb jc ja jy eZ
theorem pV.calls(k:Nat)(aH:ByteArray)(aV:Int)(bg:ByteArray)(bn:ByteArray)(iT:Int)(iU:Int)(kZ:Bool)(uM:Option Addr)(vw:Nat)(iw:List Int)(jb:Int)(jc:Int)(ja:Int)(uL:Option Addr)(vk:Nat)(jy:List (aN))(xu:Option Addr)(vo:Nat)(eZ:List (fo))(r:List (aj))(w:World)(JA:Kd.C (Kd.int .i64) w uM iw.length iw)(Jc:iw.length≤vw)(Jy:Kd.C fZ w uL jy.length jy)(Ja:jy.length≤vk)(Jz:Kd.C vJ w xu eZ.length eZ)(Jb:eZ.length≤vo)(h:pV.f k aH aV bg bn iT iU kZ iw jb jc ja jy eZ=some r):
  Calls Tryz.prog 9 #[.agg #[.string aH,.int .i64 aV,.string bg,.string bn,.int .i64 iT,.int .i64 iU,.bool kZ,.slice uM iw.length vw,.int .i64 jb,.int .i64 jc,.int .i64 ja,.slice uL jy.length vk,.slice xu eZ.length vo]] w fun e w'=>∃fE:Value,e=.returned (fE)∧Kd.R dw 67 w' w.heap.size (fun _=>True) fE r∧Below w.heap.size w w':=by
 have hu35:=Tryz.underlying35;have wN:=Tryz.underlying67;have HR0_7:=af.mk JA;have HC0_7:=af.mk Jc;clear JA Jc;have HR0_11:=af.mk Jy;have HC0_11:=af.mk Ja;clear Jy Ja;have Oq:=af.mk Jz;have HC0_12:=af.mk Jb;clear Jz Jb;have HB:=af.mk (Below.refl w.heap.size w);have H:(pV.l0 k ([]:List (aj)) 0 aH aV bg bn iT iU kZ iw jb jc ja jy eZ)=some r:=h;clear h;have H':=af.mk H;clear H
 go_enter Tryz.func9,Tryz.ntmps9
 go_wp2_with (first|((with_reducible refine bZ (N:=1) rfl ?_);refine dn 1 (cs:=#[.string aH,.int .i64 aV,.string bg,.string bn,.int .i64 iT,.int .i64 iU,.bool kZ,.slice uM iw.length vw,.int .i64 jb,.int .i64 jc,.int .i64 ja,.slice uL jy.length vk,.slice xu eZ.length vo]) (t:=35) ?_;intro LK hg w2 aC hb;have zO:=af.mk (aC);have GW249:af (w.heap.size≤LK):=aT hg;have GE249:af (w.heap.size≤LK):=aT hg;replace HB:=af.mk (av ai hb);clear hb aC hg))
 go_loopg [3,4] k (fun kq v3 v4 w'=>∃(dh:List (aj)) (dY:Int),v4=.int .i64 dY∧af (pV.l0 kq dh dY aH aV bg bn iT iU kZ iw jb jc ja jy eZ=some r)∧af (kq≤k)∧af (Kd.R dw 67 w' w.heap.size (fun _=>True) v3 dh)∧af (w'.heap[LK]? =some (.cells #[.string aH,.int .i64 aV,.string bg,.string bn,.int .i64 iT,.int .i64 iU,.bool kZ,(.slice uM iw.length vw),.int .i64 jb,.int .i64 jc,.int .i64 ja,(.slice uL jy.length vk),(.slice xu eZ.length vo)] 35 (0,0)))∧af (Below w.heap.size w w'))
 case atStart=>exact⟨(([]:List (aj))),(0),dx,H',⟨Nat.le_refl _⟩,⟨by first|exact Kd.dV _ _ _ _ _|exact Kd.iP _ _ _ _ _|exact Kd.iR _ _ _ _ _|exact Kd.iQ _ _ _ _ _|exact Kd.j5 _ _ _ _ _⟩,⟨fU zO⟩,⟨ai⟩⟩
 case round=>
  clear H'
  try clear p2
  obtain⟨dh,dY,rfl,HA,dD,dO,zO,HB⟩:=hrel
  cases gk with
  |zero=>exact absurd HA.out (by simp[pV.l0])
  |succ k1=>
   have H:=HA.out;clear HA;simp only[pV.l0]at H
   by_cases c3:dY<(eZ.length:Int)
   ·rw[if_pos c3]at H;have fJ:decide (dY<(eZ.length:Int))=true:=decide_eq_true c3;clear c3
    by_cases c4:0≤dY
    ·rw[if_pos c4]at H;have iH:decide (0≤dY)=true:=decide_eq_true c4;clear c4
     by_cases c5:dh.length<2932031007402
     ·rw[if_pos c5]at H;have Hu:=af.mk c5;clear c5;obtain⟨y251,Ke⟩:∃y_:List (aj),y_=(dh++[(⟨(iO eZ dY).f1.f0,(iO eZ dY).f1.f1,(iO eZ dY).f1.f2,(iO eZ dY).f1.f3⟩:aj)]):=⟨_,rfl⟩;replace H:(pV.l0 k1 y251 (wrap64 (dY+1)) aH aV bg bn iT iU kZ iw jb jc ja jy eZ)=some r:=by first|(rw[Ke];with_reducible exact H)|(have bP:=(Option.bind_some _ _).symm.trans H;rw[Ke];with_reducible exact bP)|(have bP:=(Option.bind_some _ _).symm.trans H;with_reducible exact bP)|with_reducible exact H|(rw[Ke];exact H)|exact H
      have Ny251:=af.mk Ke;clear Ke;have H':=af.mk H;clear H;obtain⟨PV,PW,PX,PY,hcz6_4,hcz6_5,hcz6_6,hcz6_7,hcz6_8,hcz6_9,hcz6_10,hcz6_11,hcz6_12,Qk,Ql,Qm,Qn,hfz6_4,hfz6_5,hfz6_6,hfz6_7,hfz6_8,hfz6_9,hfz6_10,hfz6_11,hfz6_12⟩:=rV zO;have p250:0≤(dY:Int):=aG;have q250:dY<(eZ.length:Int):=aG;obtain⟨ad250,A250_5,c250_5,e250,UZ,U9,Va,Vb,Vd,Ve,UI,UF⟩:=OI Oq.out dY p250 q250
      cases e250
      replace UZ:=aM UZ;replace U9:=aM U9;replace Va:=aM Va;replace Vb:=aM Vb;replace Vd:=aM Vd;replace Ve:=aM Ve;have HR250_5:=af.mk UF;have HC250_5:=af.mk UI;clear UF UI;replace p250:=eq_true p250;replace q250:=eq_true q250
      go_wp2_with (first|((with_reducible refine jN (b:=.append) (xs:=#[.tmp 12,.tmp 19]) rfl ?_);at_builtin;refine Kd.kY dw (w0:=w) w.heap.size rfl (.tmp 12) (.tmp 19) 22 67 (.agg #[(.int .i64 0),(.int .i64 0),(.string ⟨#[]⟩),(.string ⟨#[]⟩)]) 48 rfl Tryz.underlying22 wO rfl (by decide) (by omega) u3 dh (⟨(iO eZ dY).f1.f0,(iO eZ dY).f1.f1,(iO eZ dY).f1.f2,(iO eZ dY).f1.f3⟩:aj) [.int .i64 ((iO eZ dY).f1.f0),.int .i64 ((iO eZ dY).f1.f1),.string ((iO eZ dY).f1.f2),.string ((iO eZ dY).f1.f3)] (fun _=>True) (fun _=>False) rfl rfl ?aP (fun _ hk=>hk.elim) ?aF ?aO ?aB ?aS ?aL ?_;(case aP=>exact yG _ _ _ (⟨(iO eZ dY).f1.f0,(iO eZ dY).f1.f1,(iO eZ dY).f1.f2,(iO eZ dY).f1.f3⟩:aj));(case aB=>exact ai);(case aF=>exact(fun _ _=>trivial));(case aO=>exact(dZ dO));(case aS=>exact(fI ai));(case aL=>have:=Hu.out;omega);intro v252 w7 ho hb hg hat;rw[← Ny251.out]at ho;have dL:=af.mk (fP (g:=LK) (o:=.cells #[.string aH,.int .i64 aV,.string bg,.string bn,.int .i64 iT,.int .i64 iU,.bool kZ,.slice uM iw.length vw,.int .i64 jb,.int .i64 jc,.int .i64 ja,.slice uL jy.length vk,.slice (some ad250) eZ.length vo] 35 (0,0)) (fU zO) hg (Kd.jK dO.out zO.out (by decide)));have dW:=af.mk (hb);have dX:=af.mk (ho);clear zO HB dO;have zO:=dL;have HB:=dW;have HO253:=dX;clear dL dW dX ho hb hg hat))
      go_roundg k1
      case measure=>have:=dD.out;omega
      case rel=>exact⟨(y251),(wrap64 (dY+1)),dx,H',⟨by have:=dD.out;omega⟩,⟨dZ HO253⟩,⟨fU zO⟩,⟨ai⟩⟩
     ·rw[if_neg c5]at H;exact absurd H (by simp)
    ·rw[if_neg c4]at H;exact absurd H (by simp)
   ·rw[if_neg c3]at H;have fJ:decide (dY<(eZ.length:Int))=false:=decide_eq_false c3;clear c3;obtain rfl:=Option.some.inj H;obtain⟨Fy,Fz,FB,Jg,T9,hcz8_5,hcz8_6,hcz8_7,hcz8_8,hcz8_9,hcz8_10,hcz8_11,hcz8_12,FC,FD,FE,Jp,Uz,hfz8_5,hfz8_6,hfz8_7,hfz8_8,hfz8_9,hfz8_10,hfz8_11,hfz8_12⟩:=rV zO
    go_wp2
    go_ret
    exact⟨_,bS,by(with_reducible repeat(first|apply Kd.bX|apply Kd.dK|apply Kd.di));exact dO.out,ai⟩
end Go.Proofs.YtdcddenojjdmjaaGreatDoor.T
namespace Go.Proofs.YtdcddenojjdmjaaGreatDoor.T
open Go.RowKit Go.Proofs.YtdcddenojjdmjaaGreatDoorW.PrintWords Go.Proofs.YtdcddenojjdmjaaGreatDoorW.PrintLast Go.Proofs.YtdcddenojjdmjaaGreatDoorW.PrintMore
def gX(s:ByteArray)(a:ByteArray):ByteArray:=if a.size=0 then a else s++a
def aZ(φ:ByteArray→ByteArray)(x:aj):aj:=⟨x.f0,x.f1,φ x.f2,φ x.f3⟩
def Dn.f(l:List aj)(s:ByteArray):Option (List aj):=if l.length<2932031007402∧∀x ∈ l,s.size+x.f2.size≤9223372036854775807∧s.size+x.f3.size≤9223372036854775807 then some (l.map (aZ (gX s)))else none
def Ren.At(w:World)(l:List aj)(s:ByteArray)(v5 v6:Value)(wr:World):Prop:=
 ∃i:Nat,i≤l.length∧v6=.int .i64 i∧Kd.R dw 67 wr w.heap.size (fun _=>True) v5 ((l.take i).map (aZ (gX s)))∧Below w.heap.size w wr
theorem Dn.calls(A0:Option Addr)(c0:Nat)(l0:List aj)(a1:ByteArray)(r:List aj)(w:World)(hr0:Kd.C dw w A0 l0.length l0)(hc0:l0.length≤c0)(h:Dn.f l0 a1=some r):
  Calls Tryz.prog 5 #[.slice A0 l0.length c0,.string a1] w fun e w'=>∃fE:Value,e=.returned (fE)∧Kd.R dw 67 w' w.heap.size (fun _=>True) fE r∧Below w.heap.size w w':=by
 unfold Dn.f at h
 split at h
 case isFalse=>cases h
 rename_i hh
 obtain⟨hmax,hsz⟩:=hh
 cases h
 have hlen:l0.length≤9223372036854775807:=by omega
 have HR:=af.mk hr0;have HZ:=af.mk hsz;have H0:=af.mk (show Ren.At w l0 a1 (.slice none 0 0) (.int .i64 0) w from⟨0,by omega,rfl,Kd.dV _ _ _ _ _,Below.refl _ _⟩);clear hr0 hsz
 go_enter Tryz.func5,Tryz.ntmps5
 go_wp2_with fail
 go_loopw [5,6] (fun v5 v6 wr=>Ren.At w l0 a1 v5 v6 wr) (fun _ v6 _=>l0.length-(intOf v6).toNat)
 case atStart=>exact H0.out
 case round=>
  obtain⟨i,hi,rfl,hO,hB⟩:=hrel;clear H0;obtain⟨Av,cv,rfl⟩:=Kd.fH hO;have HO:=af.mk hO;have HB:=af.mk hB;clear hO hB
  by_cases hlt:i<l0.length
  ·obtain⟨ad,hA,q0,q1,q2,q3⟩:=pW HR.out hlt HB.out
   cases hA
   have HT:=af.mk (show(l0.take (i+1)).map (aZ (gX a1))=(l0.take i).map (aZ (gX a1))++[aZ (gX a1) (l0[i]'hlt)] by rw[← List.take_append_getElem hlt,List.map_append];rfl);have hsx:=HZ.out _ (List.getElem_mem hlt);have pG:=af.mk (show((l0.take i).map (aZ (gX a1))).length≤i by rw[List.length_map];exact List.length_take_le _ _);obtain⟨⟨x0,x1,x2,x3⟩,hx⟩:∃x,x=l0[i]'hlt:=⟨_,rfl⟩;rw[← hx]at q0 q1 q2 q3 HT hsx;clear hx;simp only at q0 q1 q2 q3 hsx;obtain⟨hs2,hs3⟩:=hsx;obtain⟨pre,hpre⟩:∃pre,pre=(l0.take i).map (aZ (gX a1)):=⟨_,rfl⟩;rw[← hpre]at HO HT pG;rw[← hpre];clear hpre;have rY:=af.mk (show(pre.length+1)*48≤140737488355328 by have:=pG.out;omega)
   have fe:∀z:ByteArray,z.toList.isEmpty=true→gX a1 z=z:=fun z h=>by
    unfold gX;split
    ·rfl
    ·rename_i h';exact absurd (by rw[ByteArray.toList_eq]at h;have:=List.isEmpty_iff.1 h;exact(show z.data.size=0 by rw[← Array.length_toList,this];rfl)) h'
   have fn:∀z:ByteArray,z.toList.isEmpty=false→gX a1 z=a1++z:=fun z h=>by
    unfold gX;split
    ·rename_i h'
     have:z.data.toList.length=0:=by rw[Array.length_toList];exact h'
     rw[ByteArray.toList_eq,List.length_eq_zero_iff.1 this]at h;cases h
    ·rfl
   have hE:aZ (gX a1) ⟨x0,x1,x2,x3⟩=⟨x0,x1,gX a1 x2,gX a1 x3⟩:=rfl
   cases h2:x2.toList.isEmpty with
   |true=>
    cases h3:x3.toList.isEmpty with
    |true=>
     have HE:=af.mk (hE.trans (by rw[fe x2 h2,fe x3 h3]):aZ (gX a1) ⟨x0,x1,x2,x3⟩=⟨x0,x1,x2,x3⟩);clear hE fe fn
     go_wp2_with ((with_reducible refine jN (b:=.append) (xs:=#[.tmp 34,.tmp 36]) rfl ?_);at_builtin;refine Kd.kY dw (w0:=w) w.heap.size rfl (.tmp 34) (.tmp 36) 22 67 (.agg #[(.int .i64 0),(.int .i64 0),(.string ⟨#[]⟩),(.string ⟨#[]⟩)]) 48 rfl Tryz.underlying22 wO rfl (by decide) (by omega) (.slice Av pre.length cv) pre ⟨x0,x1,x2,x3⟩ [.int .i64 x0,.int .i64 x1,.string x2,.string x3] (fun _=>True) (fun _=>False) rfl (by first|(go_simp;done)|(go_simp;rfl)) ?aP (fun _ h=>h.elim) (fun _ _=>trivial) ?aO ?aB ?aS rY.out ?_;(case aP=>exact yG _ _ _ ⟨x0,x1,x2,x3⟩);(case aO=>exact Kd.bX HO.out _);(case aB=>exact ax HB.out _);(case aS=>exact(ax HB.out _).size);intro v3 w3 ho3 hb3 hg3 mQ;have nY:=af.mk ho3;have HB3:=af.mk hb3;clear ho3 hb3 hg3 mQ)
     go_roundw
     case rel=>exact⟨i+1,by omega,by go_num,by rw[HT.out,HE.out];exact nY.out,HB3.out⟩
     case measure=>simp[intOf];omega
    |false=>
     have HE:=af.mk (hE.trans (by rw[fe x2 h2,fn x3 h3]):aZ (gX a1) ⟨x0,x1,x2,x3⟩=⟨x0,x1,x2,(a1++x3)⟩);clear hE fe fn
     go_wp2_with ((with_reducible refine jN (b:=.append) (xs:=#[.tmp 34,.tmp 36]) rfl ?_);at_builtin;refine Kd.kY dw (w0:=w) w.heap.size rfl (.tmp 34) (.tmp 36) 22 67 (.agg #[(.int .i64 0),(.int .i64 0),(.string ⟨#[]⟩),(.string ⟨#[]⟩)]) 48 rfl Tryz.underlying22 wO rfl (by decide) (by omega) (.slice Av pre.length cv) pre ⟨x0,x1,x2,(a1++x3)⟩ [.int .i64 x0,.int .i64 x1,.string x2,.string (a1++x3)] (fun _=>True) (fun _=>False) rfl (by first|(go_simp;done)|(go_simp;rfl)) ?aP (fun _ h=>h.elim) (fun _ _=>trivial) ?aO ?aB ?aS rY.out ?_;(case aP=>exact yG _ _ _ ⟨x0,x1,x2,(a1++x3)⟩);(case aO=>exact Kd.bX HO.out _);(case aB=>exact ax HB.out _);(case aS=>exact(ax HB.out _).size);intro v3 w3 ho3 hb3 hg3 mQ;have nY:=af.mk ho3;have HB3:=af.mk hb3;clear ho3 hb3 hg3 mQ)
     go_roundw
     case rel=>exact⟨i+1,by omega,by go_num,by rw[HT.out,HE.out];exact nY.out,HB3.out⟩
     case measure=>simp[intOf];omega
   |false=>
    cases h3:x3.toList.isEmpty with
    |true=>
     have HE:=af.mk (hE.trans (by rw[fn x2 h2,fe x3 h3]):aZ (gX a1) ⟨x0,x1,x2,x3⟩=⟨x0,x1,(a1++x2),x3⟩);clear hE fe fn
     go_wp2_with ((with_reducible refine jN (b:=.append) (xs:=#[.tmp 34,.tmp 36]) rfl ?_);at_builtin;refine Kd.kY dw (w0:=w) w.heap.size rfl (.tmp 34) (.tmp 36) 22 67 (.agg #[(.int .i64 0),(.int .i64 0),(.string ⟨#[]⟩),(.string ⟨#[]⟩)]) 48 rfl Tryz.underlying22 wO rfl (by decide) (by omega) (.slice Av pre.length cv) pre ⟨x0,x1,(a1++x2),x3⟩ [.int .i64 x0,.int .i64 x1,.string (a1++x2),.string x3] (fun _=>True) (fun _=>False) rfl (by first|(go_simp;done)|(go_simp;rfl)) ?aP (fun _ h=>h.elim) (fun _ _=>trivial) ?aO ?aB ?aS rY.out ?_;(case aP=>exact yG _ _ _ ⟨x0,x1,(a1++x2),x3⟩);(case aO=>exact Kd.bX HO.out _);(case aB=>exact ax HB.out _);(case aS=>exact(ax HB.out _).size);intro v3 w3 ho3 hb3 hg3 mQ;have nY:=af.mk ho3;have HB3:=af.mk hb3;clear ho3 hb3 hg3 mQ)
     go_roundw
     case rel=>exact⟨i+1,by omega,by go_num,by rw[HT.out,HE.out];exact nY.out,HB3.out⟩
     case measure=>simp[intOf];omega
    |false=>
     have HE:=af.mk (hE.trans (by rw[fn x2 h2,fn x3 h3]):aZ (gX a1) ⟨x0,x1,x2,x3⟩=⟨x0,x1,(a1++x2),(a1++x3)⟩);clear hE fe fn
     go_wp2_with ((with_reducible refine jN (b:=.append) (xs:=#[.tmp 34,.tmp 36]) rfl ?_);at_builtin;refine Kd.kY dw (w0:=w) w.heap.size rfl (.tmp 34) (.tmp 36) 22 67 (.agg #[(.int .i64 0),(.int .i64 0),(.string ⟨#[]⟩),(.string ⟨#[]⟩)]) 48 rfl Tryz.underlying22 wO rfl (by decide) (by omega) (.slice Av pre.length cv) pre ⟨x0,x1,(a1++x2),(a1++x3)⟩ [.int .i64 x0,.int .i64 x1,.string (a1++x2),.string (a1++x3)] (fun _=>True) (fun _=>False) rfl (by first|(go_simp;done)|(go_simp;rfl)) ?aP (fun _ h=>h.elim) (fun _ _=>trivial) ?aO ?aB ?aS rY.out ?_;(case aP=>exact yG _ _ _ ⟨x0,x1,(a1++x2),(a1++x3)⟩);(case aO=>exact Kd.bX HO.out _);(case aB=>exact ax HB.out _);(case aS=>exact(ax HB.out _).size);intro v3 w3 ho3 hb3 hg3 mQ;have nY:=af.mk ho3;have HB3:=af.mk hb3;clear ho3 hb3 hg3 mQ)
     go_roundw
     case rel=>exact⟨i+1,by omega,by go_num,by rw[HT.out,HE.out];exact nY.out,HB3.out⟩
     case measure=>simp[intOf];omega
  ·obtain rfl:i=l0.length:=by omega
   rw[List.take_length]at HO;rw[List.length_map,List.take_length]
   go_wp2_with fail
   go_ret
   exact⟨_,rfl,by simpa using HO.out,HB.out⟩
end Go.Proofs.YtdcddenojjdmjaaGreatDoor.T
