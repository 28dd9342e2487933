import Derived.Test.YtdcddenojjdmjaaGreatDoorM42
set_option linter.all false
set_option maxHeartbeats 8000000
set_option maxRecDepth 100000
namespace Go.Proofs.YtdcddenojjdmjaaGreatDoor.T
open Go.RowKit Go.Proofs.YtdcddenojjdmjaaGreatDoorW.PrintWords Go.Proofs.YtdcddenojjdmjaaGreatDoorW.PrintLast Go.Proofs.YtdcddenojjdmjaaGreatDoorW.PrintMore
attribute [local go_sem] kH kL kK kP kJ kN kI kM
def Fj.f(a0:ByteArray)(a1:ByteArray):Option (ByteArray×Int):=if 1+a1.size≤9223372036854775807 then((gI.f a0 ((⟨#[6]⟩:ByteArray)++a1)).bind fun Ae=>(if Ae.2=0 then(if a1.toList=([]:List UInt8)then(some ((⟨#[]⟩:ByteArray),Ae.2))else(some (Ae.1,0)))else(some ((⟨#[]⟩:ByteArray),Ae.2))))else(none)
theorem Fj.calls(a0:ByteArray)(a1:ByteArray)(r1:ByteArray)(r2:Int)(w:World)(h:Fj.f a0 a1=some (r1,r2)):
  Calls Tryz.prog 131 #[.string a0,.string a1] w fun e w'=>e=.returned (.tuple #[.string r1,.int .i64 r2])∧Below w.heap.size w w':=by
 have HB:=af.mk (Below.refl w.heap.size w);have H:(if 1+a1.size≤9223372036854775807 then((gI.f a0 ((⟨#[6]⟩:ByteArray)++a1)).bind fun Ae=>(if Ae.2=0 then(if a1.toList=([]:List UInt8)then(some ((⟨#[]⟩:ByteArray),Ae.2))else(some (Ae.1,0)))else(some ((⟨#[]⟩:ByteArray),Ae.2))))else(none))=some (r1,r2):=h;clear h
 by_cases c3:1+a1.size≤9223372036854775807
 ·rw[if_pos c3]at H;have fJ:=eq_true c3;have jV:decide (1+a1.size≤9223372036854775807)=true:=decide_eq_true c3
  try have vz:(9223372036854775807<1+a1.size)=False:=eq_false (Nat.not_lt.2 c3)
  replace H:=Option.bind_eq_some_iff.mp H;obtain⟨⟨t282,t283⟩,oC,H⟩:=H;(try dsimp only at H);have A4:=af.mk oC;clear oC
  by_cases c5:t283=0
  ·rw[if_pos c5]at H;have jW:(t283==0)=true:=beq_iff_eq.mpr c5;have xS:(t283 != 0)=false:=bne_eq_false_iff_eq.mpr c5;clear c5
   by_cases c6:a1.toList=([]:List UInt8)
   ·rw[if_pos c6]at H;have jv:(a1.toList==([]:List UInt8))=true:=beq_iff_eq.mpr c6;have xU:(a1.toList != ([]:List UInt8))=false:=bne_eq_false_iff_eq.mpr c6;clear c6;simp only[Option.some.injEq,Prod.mk.injEq]at H;obtain⟨rfl,rfl⟩:=H
    go_enter Tryz.func131,Tryz.ntmps131
    go_wp2_with (first|((with_reducible refine bq (f:=27) rfl ?_);refine bC 12 Tryz.func27 #[.string a0,.string ((⟨#[6]⟩:ByteArray)++a1)] rfl ?_;(with_reducible refine(gI.calls a0 ((⟨#[6]⟩:ByteArray)++a1) t282 t283 _ A4.out).mono ?_);rintro e w7 ⟨rfl,hb⟩;refine⟨_,rfl,?_⟩;replace HB:=af.mk (av ai hb);(try clear hb);(try clear hb2);(try clear hk);(try clear hi)))
    go_ret2
    exact⟨bS,ai⟩
   ·rw[if_neg c6]at H;have jv:(a1.toList==([]:List UInt8))=false:=beq_eq_false_iff_ne.mpr c6;have xU:(a1.toList != ([]:List UInt8))=true:=bne_iff_ne.mpr c6;simp only[Option.some.injEq,Prod.mk.injEq]at H;obtain⟨rfl,rfl⟩:=H
    go_enter Tryz.func131,Tryz.ntmps131
    go_wp2_with (first|((with_reducible refine bq (f:=27) rfl ?_);refine bC 12 Tryz.func27 #[.string a0,.string ((⟨#[6]⟩:ByteArray)++a1)] rfl ?_;(with_reducible refine(gI.calls a0 ((⟨#[6]⟩:ByteArray)++a1) t282 t283 _ A4.out).mono ?_);rintro e w8 ⟨rfl,hb⟩;refine⟨_,rfl,?_⟩;replace HB:=af.mk (av ai hb);(try clear hb);(try clear hb2);(try clear hk);(try clear hi)))
    go_ret2
    exact⟨bS,ai⟩
  ·rw[if_neg c5]at H;have jW:(t283==0)=false:=beq_eq_false_iff_ne.mpr c5;have xS:(t283 != 0)=true:=bne_iff_ne.mpr c5;simp only[Option.some.injEq,Prod.mk.injEq]at H;obtain⟨rfl,rfl⟩:=H
   go_enter Tryz.func131,Tryz.ntmps131
   go_wp2_with (first|((with_reducible refine bq (f:=27) rfl ?_);refine bC 12 Tryz.func27 #[.string a0,.string ((⟨#[6]⟩:ByteArray)++a1)] rfl ?_;(with_reducible refine(gI.calls a0 ((⟨#[6]⟩:ByteArray)++a1) t282 t283 _ A4.out).mono ?_);rintro e w9 ⟨rfl,hb⟩;refine⟨_,rfl,?_⟩;replace HB:=af.mk (av ai hb);(try clear hb);(try clear hb2);(try clear hk);(try clear hi)))
   go_ret2
   exact⟨bS,ai⟩
 ·rw[if_neg c3]at H;exact absurd H (by simp)
mutual
def lS.j0:Nat→ByteArray→Bool→Int→Int→ByteArray→ByteArray→Option (Int×Int×ByteArray×ByteArray×Int)
 |0,_,_,_,_,_,_=>none
 |k+1,x0,x20,ED,KZ,K5,K7=>if x20=true then(some (0,0,(⟨#[]⟩:ByteArray),(⟨#[]⟩:ByteArray),1))else(if ED=2 then(lS.j1 k x0 true ED KZ K5 K7)else(lS.j1 k x0 (ED==3) ED KZ K5 K7))
def lS.j1:Nat→ByteArray→Bool→Int→Int→ByteArray→ByteArray→Option (Int×Int×ByteArray×ByteArray×Int)
 |0,_,_,_,_,_,_=>none
 |k+1,x0,x29,ED,KZ,K5,K7=>if x29=true then((Fh.f x0 K5).bind fun bt287=>((Fj.f x0 K7).bind fun bt289=>(some (ED,KZ,bt287.1,bt289.1,0))))else(some (ED,KZ,K5,K7,0))
end
def lS.f(k:Nat)(a0:ByteArray)(dI:Int)(eT:Int)(jT:ByteArray)(dR:ByteArray):Option (Int×Int×ByteArray×ByteArray×Int):=(lq.f k dI eT jT dR).bind fun t286=>(if t286=true then(if(a0.size:Int)<1 then(lS.j0 k a0 true dI eT jT dR)else(lS.j0 k a0 (decide ((a0.size:Int)>32)) dI eT jT dR))else(lS.j0 k a0 true dI eT jT dR))
theorem lS.calls(k:Nat)(a0:ByteArray)(dI:Int)(eT:Int)(jT:ByteArray)(dR:ByteArray)(r1:Int)(r2:Int)(r3:ByteArray)(r4:ByteArray)(r5:Int)(w:World)(h:lS.f k a0 dI eT jT dR=some (r1,r2,r3,r4,r5)):
  Calls Tryz.prog 72 #[.string a0,.agg #[.int .i64 dI,.int .i64 eT,.string jT,.string dR]] w fun e w'=>e=.returned (.tuple #[.agg #[.int .i64 r1,.int .i64 r2,.string r3,.string r4],.int .i64 r5])∧Below w.heap.size w w':=by
 have wN:=Tryz.underlying67;have HB:=af.mk (Below.refl w.heap.size w);have H:((lq.f k dI eT jT dR).bind fun t286=>(if t286=true then(if(a0.size:Int)<1 then(lS.j0 k a0 true dI eT jT dR)else(lS.j0 k a0 (decide ((a0.size:Int)>32)) dI eT jT dR))else(lS.j0 k a0 true dI eT jT dR)))=some (r1,r2,r3,r4,r5):=h;clear h;replace H:=Option.bind_eq_some_iff.mp H;obtain⟨t286,jD,H⟩:=H;(try dsimp only at H);have A3:=af.mk jD;clear jD;have tL:=af.mk H;clear H
 go_enter Tryz.func72,Tryz.ntmps72
 go_upto_region 2 with (first|((with_reducible refine bZ (N:=3) rfl ?_);(try(refine xY (by rfl) ?_;dsimp only));refine dn 3 (cs:=#[.int .i64 dI,.int .i64 eT,.string jT,.string dR]) (t:=67) ?_;intro I8 hg w5 aC hb;have lY:=af.mk (aC);have GW284:af (w.heap.size≤I8):=aT hg;have GE284:af (w.heap.size≤I8):=aT hg;replace HB:=af.mk (av ai hb);clear hb aC hg)|((with_reducible refine bZ (N:=4) rfl ?_);(try(refine xY (by rfl) ?_;dsimp only));refine dn 4 (cs:=#[.int .i64 0,.int .i64 0,.string (⟨#[]⟩:ByteArray),.string (⟨#[]⟩:ByteArray)]) (t:=67) ?_;intro Dx hg w6 aC hb;have oN:=af.mk (aC);have GW285:af (w.heap.size≤Dx):=aT hg;have GE285:af (w.heap.size≤Dx):=aT hg;have ET:=kS hg lY;have Dg:=kT hg lY;replace lY:=bQ lY hb;replace HB:=af.mk (av ai hb);clear hb aC hg;have hnb7:=ET.out;have hnc7:=Dg.out;obtain⟨Fy,Fz,FB,Jg,FC,FD,FE,Jp⟩:=fB lY)|((with_reducible refine bq (f:=129) rfl ?_);refine bC 8 Tryz.func129 #[.agg #[.int .i64 dI,.int .i64 eT,.string jT,.string dR]] rfl ?_;(with_reducible refine(lq.calls k dI eT jT dR t286 _ A3.out).mono ?_);rintro e w9 ⟨rfl,hb⟩;refine⟨_,rfl,?_⟩;replace lY:=bQ lY hb;replace oN:=bQ oN hb;replace HB:=af.mk (av ai hb);(try clear hb);(try clear hb2);(try clear hk);(try clear hi)))
 (try simp only[Act.put,List.setIfInBounds_toArray,List.set_cons_zero,List.set_cons_succ])
 go_cut [20] (fun v20 wc=>∃(kq:Nat) (N9:Bool),v20=.bool N9∧af (lS.j0 kq a0 N9 dI eT jT dR=some (r1,r2,r3,r4,r5))∧af (kq≤k)∧af (wc.heap[I8]? =some (.cells #[.int .i64 dI,.int .i64 eT,.string jT,.string dR] 67 (0,0)))∧af (wc.heap[Dx]? =some (.cells #[.int .i64 0,.int .i64 0,.string (⟨#[]⟩:ByteArray),.string (⟨#[]⟩:ByteArray)] 67 (0,0)))∧af (Below w.heap.size w wc))
 case first=>
  have H:=tL.out;clear tL
  by_cases c10:t286=true
  ·subst c10;rw[if_pos rfl]at H
   by_cases c11:(a0.size:Int)<1
   ·rw[if_pos c11]at H;have lZ:decide ((a0.size:Int)<1)=true:=decide_eq_true c11;have sF:decide (a0.size<1)=true:=decide_eq_true (by omega);clear c11;(first|rw[lZ]|(simp only[lH,lX];rw[lZ])|skip);have H':=af.mk H;clear H
    go_wp2
    go_meet
    case rel=>exact⟨_,(true),dx,H',⟨by first|omega|exact Nat.le_refl _⟩,⟨fU lY⟩,⟨fU oN⟩,⟨ai⟩⟩
   ·rw[if_neg c11]at H;have lZ:decide ((a0.size:Int)<1)=false:=decide_eq_false c11;have sF:decide (a0.size<1)=false:=decide_eq_false (by omega);clear c11;(first|rw[lZ]|(simp only[lH,lX];rw[lZ])|skip);have H':=af.mk H;clear H
    go_wp2
    go_meet
    case rel=>exact⟨_,(decide ((a0.size:Int)>32)),dx,H',⟨by first|omega|exact Nat.le_refl _⟩,⟨fU lY⟩,⟨fU oN⟩,⟨ai⟩⟩
  ·replace c10:=Bool.eq_false_iff.mpr c10;subst c10;rw[if_neg (show ¬(false=true) by decide)]at H;have H':=af.mk H;clear H
   go_wp2
   go_meet
   case rel=>exact⟨_,(true),dx,H',⟨by first|omega|exact Nat.le_refl _⟩,⟨fU lY⟩,⟨fU oN⟩,⟨ai⟩⟩
 case rest=>
  clear tL
  try clear c1
  try clear p2
  try clear c7
  try clear c10
  try clear c11
  try clear lZ
  try clear sF
  try clear Fy
  try clear Fz
  try clear FB
  try clear Jg
  try clear FC
  try clear FD
  try clear FE
  try clear Jp
  obtain⟨kq,N9,rfl,HA,HJ3,lY,oN,HB⟩:=hcut
  cases kq with
  |zero=>exact absurd HA.out (by simp[lS.j0])
  |succ kj3=>
   have H:=HA.out;clear HA;simp only[lS.j0]at H
   by_cases c12:N9=true
   ·subst c12;rw[if_pos rfl]at H;simp only[Option.some.injEq,Prod.mk.injEq]at H;obtain⟨rfl,rfl,rfl,rfl,rfl⟩:=H;have hnb13:=Dg.out;have hnc13:=ET.out;obtain⟨Al,Am,Ao,Ap,AA,AB,AJ,AL⟩:=fB oN
    go_wp2
    refine bodyPost_ret (pz rfl _ _ Dx 67 #[.int .i64 0,.int .i64 0,.string (⟨#[]⟩:ByteArray),.string (⟨#[]⟩:ByteArray)] (0,0) _ rfl (by exact rW oN.out) Tryz.underlying67 rfl (by kernel_rfl)) rfl ?_;exact⟨bS,ai⟩
   ·replace c12:=Bool.eq_false_iff.mpr c12;subst c12;rw[if_neg (show ¬(false=true) by decide)]at H;have HC15:=af.mk H;clear H
    go_upto_region 4 with (fail)
    go_cut [29] (fun v29 wc=>∃(kq:Nat) (Od:Bool),v29=.bool Od∧af (lS.j1 kq a0 Od dI eT jT dR=some (r1,r2,r3,r4,r5))∧af (kq≤kj3)∧af (wc.heap[I8]? =some (.cells #[.int .i64 dI,.int .i64 eT,.string jT,.string dR] 67 (0,0)))∧af (wc.heap[Dx]? =some (.cells #[.int .i64 0,.int .i64 0,.string (⟨#[]⟩:ByteArray),.string (⟨#[]⟩:ByteArray)] 67 (0,0)))∧af (Below w.heap.size w wc))
    case first=>
     have H:=HC15.out;clear HC15
     by_cases c16:dI=2
     ·rw[if_pos c16]at H;have ug:(dI==2)=true:=beq_iff_eq.mpr c16;have Ff:(dI != 2)=false:=bne_eq_false_iff_eq.mpr c16;clear c16;(first|rw[ug]|(simp only[lH,lX];rw[ug])|skip);have H':=af.mk H;clear H;have hnb17:=ET.out;have Qr:=Dg.out;obtain⟨Aq,Ar,Au,Aw,AO,AP,AQ,AU⟩:=fB lY
      go_wp2
      go_meet
      case rel=>exact⟨_,(true),dx,H',⟨by have:=HJ3.out;first|omega|exact Nat.le_refl _⟩,⟨fU lY⟩,⟨fU oN⟩,⟨ai⟩⟩
     ·rw[if_neg c16]at H;have ug:(dI==2)=false:=beq_eq_false_iff_ne.mpr c16;have Ff:(dI != 2)=true:=bne_iff_ne.mpr c16;(first|rw[ug]|(simp only[lH,lX];rw[ug])|skip);have H':=af.mk H;clear H;have hnb19:=ET.out;have hnc19:=Dg.out;obtain⟨hcz20_0,hcz20_1,hcz20_2,hcz20_3,hfz20_0,hfz20_1,hfz20_2,hfz20_3⟩:=fB lY
      go_wp2
      go_meet
      case rel=>exact⟨_,((dI==3)),dx,H',⟨by have:=HJ3.out;first|omega|exact Nat.le_refl _⟩,⟨fU lY⟩,⟨fU oN⟩,⟨ai⟩⟩
    case rest=>
     clear HC15
     try clear c1
     try clear p2
     try clear c7
     try clear c10
     try clear c11
     try clear lZ
     try clear sF
     try clear c12
     try clear c13
     try clear c16
     try clear ug
     try clear Ff
     try clear c17
     try clear c19
     try clear Al
     try clear Am
     try clear Ao
     try clear Ap
     try clear Aq
     try clear Ar
     try clear Au
     try clear Aw
     try clear hcz20_0
     try clear hcz20_1
     try clear hcz20_2
     try clear hcz20_3
     try clear Fy
     try clear Fz
     try clear FB
     try clear Jg
     try clear AA
     try clear AB
     try clear AJ
     try clear AL
     try clear AO
     try clear AP
     try clear AQ
     try clear AU
     try clear hfz20_0
     try clear hfz20_1
     try clear hfz20_2
     try clear hfz20_3
     try clear FC
     try clear FD
     try clear FE
     try clear Jp
     try clear p2
     obtain⟨kq,Od,rfl,HA,HJ14,lY,oN,HB⟩:=hcut
     cases kq with
     |zero=>exact absurd HA.out (by simp[lS.j1])
     |succ kj14=>
      have H:=HA.out;clear HA;simp only[lS.j1]at H
      by_cases c21:Od=true
      ·subst c21;rw[if_pos rfl]at H;replace H:=Option.bind_eq_some_iff.mp H;obtain⟨⟨t287,t288⟩,A220,H⟩:=H;(try dsimp only at H);have A22:=af.mk A220;clear A220;replace H:=Option.bind_eq_some_iff.mp H;obtain⟨⟨t289,t290⟩,A230,H⟩:=H;(try dsimp only at H);have A23:=af.mk A230;clear A230;simp only[Option.some.injEq,Prod.mk.injEq]at H;obtain⟨rfl,rfl,rfl,rfl,rfl⟩:=H;have hnb24:=ET.out;have hnc24:=Dg.out;obtain⟨hcz25_0,hcz25_1,hcz25_2,hcz25_3,hfz25_0,hfz25_1,hfz25_2,hfz25_3⟩:=fB lY
       go_wp2_with (first|((with_reducible refine bq (f:=130) rfl ?_);refine bC 34 Tryz.func130 #[.string a0,.string jT] rfl ?_;(with_reducible refine(Fh.calls a0 jT t287 t288 _ A22.out).mono ?_);rintro e w26 ⟨rfl,hb⟩;refine⟨_,rfl,?_⟩;replace lY:=bQ lY hb;replace oN:=bQ oN hb;replace HB:=af.mk (av ai hb);(try clear hb);(try clear hb2);(try clear hk);(try clear hi);obtain⟨TJ,TK,TL,TM,Uk,Ul,Um,Un⟩:=fB lY)|((with_reducible refine bq (f:=131) rfl ?_);refine bC 42 Tryz.func131 #[.string a0,.string dR] rfl ?_;(with_reducible refine(Fj.calls a0 dR t289 t290 _ A23.out).mono ?_);rintro e w28 ⟨rfl,hb⟩;refine⟨_,rfl,?_⟩;replace lY:=af.mk (aK (g:=I8) (o:=.cells #[.int .i64 dI,.int .i64 eT,.string t287,.string dR] 67 (0,0)) (by(with_reducible repeat(first|refine aU ?_ _|refine bf ?_|refine ay ?_ _));refine bJ (cs:=#[.int .i64 dI,.int .i64 eT,.string jT,.string dR]) ?_ 2 _ rfl;(with_reducible repeat(first|refine aU ?_ _|refine bf ?_|refine ay ?_ _));exact lY.out) hb);replace oN:=bQ oN hb;replace HB:=af.mk (av ai hb);(try clear hb);(try clear hb2);(try clear hk);(try clear hi);obtain⟨hcz29_0,hcz29_1,hcz29_2,hcz29_3,hfz29_0,hfz29_1,hfz29_2,hfz29_3⟩:=fB lY;obtain⟨Mj,Mk,Ml,Mq,MN,MO,MP,MQ⟩:=fB oN))
       refine bodyPost_ret (pz rfl _ _ Dx 67 #[.int .i64 dI,.int .i64 eT,.string t287,.string t289] (0,0) _ rfl (by(with_reducible repeat(first|refine aU ?_ _|refine bf ?_|refine ay ?_ _));refine bJ (cs:=#[.int .i64 dI,.int .i64 eT,.string t287,.string (⟨#[]⟩:ByteArray)]) ?_ 3 _ rfl;(with_reducible repeat(first|refine aU ?_ _|refine bf ?_|refine ay ?_ _));refine bJ (cs:=#[.int .i64 dI,.int .i64 eT,.string (⟨#[]⟩:ByteArray),.string (⟨#[]⟩:ByteArray)]) ?_ 2 _ rfl;(with_reducible repeat(first|refine aU ?_ _|refine bf ?_|refine ay ?_ _));refine bJ (cs:=#[.int .i64 dI,.int .i64 0,.string (⟨#[]⟩:ByteArray),.string (⟨#[]⟩:ByteArray)]) ?_ 1 _ rfl;(with_reducible repeat(first|refine aU ?_ _|refine bf ?_|refine ay ?_ _));refine bJ (cs:=#[.int .i64 0,.int .i64 0,.string (⟨#[]⟩:ByteArray),.string (⟨#[]⟩:ByteArray)]) ?_ 0 _ rfl;(with_reducible repeat(first|refine aU ?_ _|refine bf ?_|refine ay ?_ _));refine gM ?_ Dg.out _;(with_reducible repeat(first|refine aU ?_ _|refine bf ?_|refine ay ?_ _));exact oN.out) Tryz.underlying67 rfl (by kernel_rfl)) rfl ?_;exact⟨bS,ai⟩
      ·replace c21:=Bool.eq_false_iff.mpr c21;subst c21;rw[if_neg (show ¬(false=true) by decide)]at H;simp only[Option.some.injEq,Prod.mk.injEq]at H;obtain⟨rfl,rfl,rfl,rfl,rfl⟩:=H;have hnb31:=ET.out;have hnc31:=Dg.out;obtain⟨PN,PO,PS,PU,Qg,Qh,Qi,Qj⟩:=fB lY;obtain⟨hcz33_0,hcz33_1,hcz33_2,hcz33_3,hfz33_0,hfz33_1,hfz33_2,hfz33_3⟩:=fB oN
       go_wp2
       refine bodyPost_ret (pz rfl _ _ Dx 67 #[.int .i64 dI,.int .i64 eT,.string jT,.string dR] (0,0) _ rfl (by exact rW oN.out) Tryz.underlying67 rfl (by kernel_rfl)) rfl ?_;exact⟨bS,ai⟩
end Go.Proofs.YtdcddenojjdmjaaGreatDoor.T
namespace Go.Proofs.YtdcddenojjdmjaaGreatDoor.T
open Go.RowKit Go.Proofs.YtdcddenojjdmjaaGreatDoorW.PrintWords Go.Proofs.YtdcddenojjdmjaaGreatDoorW.PrintLast Go.Proofs.YtdcddenojjdmjaaGreatDoorW.PrintMore
attribute [local go_sem] kH kL kK kP kJ kN kI kM
mutual
def fF.l0:Nat→ByteArray→List ByteArray→Int→Option (ByteArray×ByteArray×Bool)
 |0,_,_,_=>none
 |k+1,x0,x1,x7=>if x7<(x1.length:Int)then(fF.l1 k x0 x1 x7 0)else(some ((⟨#[]⟩:ByteArray),(⟨#[]⟩:ByteArray),false))
def fF.l1:Nat→ByteArray→List ByteArray→Int→Int→Option (ByteArray×ByteArray×Bool)
 |0,_,_,_,_=>none
 |k+1,x0,x1,x7,x8=>if x8<x7 then(if 0≤x7 then(if x7<(x1.length:Int)then(if(fT ByteArray.empty x1 x7).toList=([]:List UInt8)then(fF.j2 k x0 x1 x7 x8 true)else(if 0≤x8 then(if x8<(x1.length:Int)then(if(fT ByteArray.empty x1 x8).toList=([]:List UInt8)then(fF.j2 k x0 x1 x7 x8 true)else(fF.j2 k x0 x1 x7 x8 ((fT ByteArray.empty x1 x7).toList==(fT ByteArray.empty x1 x8).toList)))else(none))else(none)))else(none))else(none))else(fF.l0 k x0 x1 (wrap64 (x7+1)))
def fF.j2:Nat→ByteArray→List ByteArray→Int→Int→Bool→Option (ByteArray×ByteArray×Bool)
 |0,_,_,_,_,_=>none
 |k+1,x0,x1,x7,x8,x46=>if x46=true then(fF.l1 k x0 x1 x7 (wrap64 (x8+1)))else(if 0≤x7 then(if x7<(x1.length:Int)then((gI.f x0 (fT ByteArray.empty x1 x7)).bind fun bt296=>(if 0≤x8 then(if x8<(x1.length:Int)then((gI.f x0 (fT ByteArray.empty x1 x8)).bind fun bt299=>(if bt296.1.toList=bt299.1.toList then(some (fT ByteArray.empty x1 x8,fT ByteArray.empty x1 x7,true))else(fF.l1 k x0 x1 x7 (wrap64 (x8+1)))))else(none))else(none)))else(none))else(none))
end
def fF.f(k:Nat)(a0:ByteArray)(l1:List ByteArray):Option (ByteArray×ByteArray×Bool):=fF.l0 k a0 l1 0
theorem fF.calls(k:Nat)(a0:ByteArray)(A1:Option Addr)(c1:Nat)(l1:List ByteArray)(r1:ByteArray)(r2:ByteArray)(r3:Bool)(w:World)(hr1:Kd.C Kd.string w A1 l1.length l1)(hc1:l1.length≤c1)(h:fF.f k a0 l1=some (r1,r2,r3)):
  Calls Tryz.prog 73 #[.string a0,.slice A1 l1.length c1] w fun e w'=>e=.returned (.tuple #[.string r1,.string r2,.bool r3])∧Below w.heap.size w w':=by
 have HR1:=af.mk hr1;have tK:=af.mk hc1;clear hr1 hc1;have HB:=af.mk (Below.refl w.heap.size w);have H:(fF.l0 k a0 l1 0)=some (r1,r2,r3):=h;clear h;have H':=af.mk H;clear H
 go_enter Tryz.func73,Tryz.ntmps73
 go_wp2
 repeat(go_quiet (fail);try go_wp2)
 go_loopg [7] k (fun kq v7 w'=>∃(dz:Int),v7=.int .i64 dz∧af (fF.l0 kq a0 l1 dz=some (r1,r2,r3))∧af (kq≤k)∧af (Below w.heap.size w w'))
 case atStart=>exact⟨(0),dx,H',⟨Nat.le_refl _⟩,⟨ai⟩⟩
 case round=>
  clear H'
  try clear c1
  try clear p2
  obtain⟨dz,rfl,HA,dD,HB⟩:=hrel
  cases gk with
  |zero=>exact absurd HA.out (by simp[fF.l0])
  |succ k1=>
   have H:=HA.out;clear HA;simp only[fF.l0]at H
   by_cases c3:dz<(l1.length:Int)
   ·rw[if_pos c3]at H;have fJ:decide (dz<(l1.length:Int))=true:=decide_eq_true c3;clear c3;have H':=af.mk H;clear H
    go_wp2
    repeat(go_quiet (fail);try go_wp2)
    go_loopg [8] k1 (fun kq v8 w'=>∃(dU:Int),v8=.int .i64 dU∧af (fF.l1 kq a0 l1 dz dU=some (r1,r2,r3))∧af (kq≤k1)∧af (Below w.heap.size w w'))
    case atStart=>exact⟨(0),dx,H',⟨Nat.le_refl _⟩,⟨ai⟩⟩
    case round=>
     clear H'
     try clear c1
     try clear p2
     try clear c3
     try clear fJ
     try clear p2
     obtain⟨dU,rfl,HA,gK,HB⟩:=hrel
     cases gk with
     |zero=>exact absurd HA.out (by simp[fF.l1])
     |succ k2=>
      have H:=HA.out;clear HA;simp only[fF.l1]at H
      by_cases c4:dU<dz
      ·rw[if_pos c4]at H;have iH:decide (dU<dz)=true:=decide_eq_true c4;clear c4;have HC5:=af.mk H;clear H
       go_upto_region 7 with (fail)
       repeat(go_quiet (fail);go_upto_region 7 with (fail))
       go_cut [46] (fun v46 wc=>∃(kq:Nat) (Oe:Bool),v46=.bool Oe∧af (fF.j2 kq a0 l1 dz dU Oe=some (r1,r2,r3))∧af (kq≤k2)∧af (Below w.heap.size w wc))
       case first=>
        have H:=HC5.out;clear HC5
        by_cases c6:0≤dz
        ·rw[if_pos c6]at H;have jv:decide (0≤dz)=true:=decide_eq_true c6;clear c6;(first|rw[jv]|(simp only[lH,lX];rw[jv])|skip)
         by_cases c7:dz<(l1.length:Int)
         ·rw[if_pos c7]at H;have kF:decide (dz<(l1.length:Int))=true:=decide_eq_true c7;clear c7
          by_cases c8:(fT ByteArray.empty l1 dz).toList=([]:List UInt8)
          ·rw[if_pos c8]at H;have jw:((fT ByteArray.empty l1 dz).toList==([]:List UInt8))=true:=beq_iff_eq.mpr c8;have sH:((fT ByteArray.empty l1 dz).toList != ([]:List UInt8))=false:=bne_eq_false_iff_eq.mpr c8;clear c8;have H':=af.mk H;clear H;have wS:0≤(dz:Int):=aG;have wT:dz<(l1.length:Int):=aG;obtain⟨E5,e291,AY⟩:=Kd.nH HR1.out dz wS wT
           cases e291
           replace AY:=aM AY;replace wS:=eq_true wS;replace wT:=eq_true wT
           go_wp2
           repeat(go_quiet (fail);try go_wp2)
           go_meet
           case rel=>exact⟨_,(true),dx,H',⟨by have:=dD.out;have:=gK.out;first|omega|exact Nat.le_refl _⟩,⟨ai⟩⟩
          ·rw[if_neg c8]at H;have jw:((fT ByteArray.empty l1 dz).toList==([]:List UInt8))=false:=beq_eq_false_iff_ne.mpr c8;have sH:((fT ByteArray.empty l1 dz).toList != ([]:List UInt8))=true:=bne_iff_ne.mpr c8
           by_cases c9:0≤dU
           ·rw[if_pos c9]at H;have Fg:decide (0≤dU)=true:=decide_eq_true c9;clear c9
            by_cases c10:dU<(l1.length:Int)
            ·rw[if_pos c10]at H;have xR:decide (dU<(l1.length:Int))=true:=decide_eq_true c10;clear c10
             by_cases c11:(fT ByteArray.empty l1 dU).toList=([]:List UInt8)
             ·rw[if_pos c11]at H;have lZ:((fT ByteArray.empty l1 dU).toList==([]:List UInt8))=true:=beq_iff_eq.mpr c11;have sF:((fT ByteArray.empty l1 dU).toList != ([]:List UInt8))=false:=bne_eq_false_iff_eq.mpr c11;clear c11;have H':=af.mk H;clear H;have wS:0≤(dz:Int):=aG;have wT:dz<(l1.length:Int):=aG;obtain⟨E5,e291,AY⟩:=Kd.nH HR1.out dz wS wT
              cases e291
              replace AY:=aM AY;replace wS:=eq_true wS;replace wT:=eq_true wT;have Cq:0≤(dU:Int):=aG;have Ct:dU<(l1.length:Int):=aG;obtain⟨OD,e292,FW⟩:=Kd.nH HR1.out dU Cq Ct;obtain rfl:E5=OD:=(by injection e292);replace FW:=aM FW;replace Cq:=eq_true Cq;replace Ct:=eq_true Ct
              go_wp2
              repeat(go_quiet (fail);try go_wp2)
              go_meet
              case rel=>exact⟨_,(true),dx,H',⟨by have:=dD.out;have:=gK.out;first|omega|exact Nat.le_refl _⟩,⟨ai⟩⟩
             ·rw[if_neg c11]at H;have lZ:((fT ByteArray.empty l1 dU).toList==([]:List UInt8))=false:=beq_eq_false_iff_ne.mpr c11;have sF:((fT ByteArray.empty l1 dU).toList != ([]:List UInt8))=true:=bne_iff_ne.mpr c11;have H':=af.mk H;clear H;have wS:0≤(dz:Int):=aG;have wT:dz<(l1.length:Int):=aG;obtain⟨E5,e291,AY⟩:=Kd.nH HR1.out dz wS wT
              cases e291
              replace AY:=aM AY;replace wS:=eq_true wS;replace wT:=eq_true wT;have Cq:0≤(dU:Int):=aG;have Ct:dU<(l1.length:Int):=aG;obtain⟨OD,e292,FW⟩:=Kd.nH HR1.out dU Cq Ct;obtain rfl:E5=OD:=(by injection e292);replace FW:=aM FW;replace Cq:=eq_true Cq;replace Ct:=eq_true Ct;have p293:0≤(dz:Int):=aG;have q293:dz<(l1.length:Int):=aG;obtain⟨ad293,e293,QB⟩:=Kd.nH HR1.out dz p293 q293;obtain rfl:E5=ad293:=(by injection e293);replace QB:=aM QB;replace p293:=eq_true p293;replace q293:=eq_true q293;have p294:0≤(dU:Int):=aG;have q294:dU<(l1.length:Int):=aG;obtain⟨ad294,e294,QC⟩:=Kd.nH HR1.out dU p294 q294;obtain rfl:E5=ad294:=(by injection e294);replace QC:=aM QC;replace p294:=eq_true p294;replace q294:=eq_true q294
              go_wp2
              repeat(go_quiet (fail);try go_wp2)
              go_meet
              case rel=>exact⟨_,(((fT ByteArray.empty l1 dz).toList==(fT ByteArray.empty l1 dU).toList)),dx,H',⟨by have:=dD.out;have:=gK.out;first|omega|exact Nat.le_refl _⟩,⟨ai⟩⟩
            ·rw[if_neg c10]at H;exact absurd H (by simp)
           ·rw[if_neg c9]at H;exact absurd H (by simp)
         ·rw[if_neg c7]at H;exact absurd H (by simp)
        ·rw[if_neg c6]at H;exact absurd H (by simp)
       case rest=>
        clear HC5
        try clear c1
        try clear p2
        try clear q2
        try clear hx2
        try clear c3
        try clear fJ
        try clear c4
        try clear iH
        try clear c6
        try clear jv
        try clear c7
        try clear kF
        try clear c8
        try clear jw
        try clear sH
        try clear c9
        try clear Fg
        try clear c10
        try clear xR
        try clear c11
        try clear lZ
        try clear sF
        try clear AY
        try clear FW
        try clear QB
        try clear QC
        try clear p2
        try clear wS
        try clear Cq
        try clear p293
        try clear p294
        try clear wT
        try clear Ct
        try clear q293
        try clear q294
        obtain⟨kq,Oe,rfl,HA,HJ4,HB⟩:=hcut
        cases kq with
        |zero=>exact absurd HA.out (by simp[fF.j2])
        |succ kj4=>
         have H:=HA.out;clear HA;simp only[fF.j2]at H
         by_cases c12:Oe=true
         ·subst c12;rw[if_pos rfl]at H;have H':=af.mk H;clear H
          go_wp2
          repeat(go_quiet (fail);try go_wp2)
          go_roundg kj4
          case measure=>have:=dD.out;have:=gK.out;have:=HJ4.out;omega
          case rel=>exact⟨(wrap64 (dU+1)),dx,H',⟨by have:=dD.out;have:=gK.out;have:=HJ4.out;omega⟩,⟨ai⟩⟩
         ·replace c12:=Bool.eq_false_iff.mpr c12;subst c12;rw[if_neg (show ¬(false=true) by decide)]at H
          by_cases c13:0≤dz
          ·rw[if_pos c13]at H;have uf:decide (0≤dz)=true:=decide_eq_true c13;clear c13
           by_cases c14:dz<(l1.length:Int)
           ·rw[if_pos c14]at H;have Fe:decide (dz<(l1.length:Int))=true:=decide_eq_true c14;clear c14;replace H:=Option.bind_eq_some_iff.mp H;obtain⟨⟨t296,t297⟩,Bv,H⟩:=H;(try dsimp only at H);have uN:=af.mk Bv;clear Bv
            by_cases c16:0≤dU
            ·rw[if_pos c16]at H;have ug:decide (0≤dU)=true:=decide_eq_true c16;clear c16
             by_cases c17:dU<(l1.length:Int)
             ·rw[if_pos c17]at H;have c17b0:decide (dU<(l1.length:Int))=true:=decide_eq_true c17;clear c17;replace H:=Option.bind_eq_some_iff.mp H;obtain⟨⟨t299,t300⟩,A180,H⟩:=H;(try dsimp only at H);have A18:=af.mk A180;clear A180
              by_cases c19:t296.toList=t299.toList
              ·rw[if_pos c19]at H;have c19b0:(t296.toList==t299.toList)=true:=beq_iff_eq.mpr c19;have c19b1:(t296.toList != t299.toList)=false:=bne_eq_false_iff_eq.mpr c19;clear c19;simp only[Option.some.injEq,Prod.mk.injEq]at H;obtain⟨rfl,rfl,rfl⟩:=H;have Ec:0≤(dz:Int):=aG;have Eo:dz<(l1.length:Int):=aG;obtain⟨uZ,e295,JO⟩:=Kd.nH HR1.out dz Ec Eo
               cases e295
               replace JO:=aM JO;replace Ec:=eq_true Ec;replace Eo:=eq_true Eo
               go_wp2_with (first|(go_at_call 27;(with_reducible refine(gI.calls a0 (fT ByteArray.empty l1 dz) t296 t297 _ uN.out).mono ?_);rintro e w20 ⟨rfl,hb⟩;replace HB:=af.mk (av ai hb);(try clear hb);(try clear hb2);(try clear hk);(try clear hi);have ng:0≤(dU:Int):=aG;have nA:dU<(l1.length:Int):=aG;obtain⟨xO,e298,qX⟩:=Kd.nH HR1.out dU ng nA;obtain rfl:uZ=xO:=(by injection e298);replace qX:=aM qX;replace ng:=eq_true ng;replace nA:=eq_true nA)|(go_at_call 27;(with_reducible refine(gI.calls a0 (fT ByteArray.empty l1 dU) t299 t300 _ A18.out).mono ?_);rintro e w21 ⟨rfl,hb⟩;replace HB:=af.mk (av ai hb);(try clear hb);(try clear hb2);(try clear hk);(try clear hi);have yL:0≤(dU:Int):=aG;have yR:dU<(l1.length:Int):=aG;obtain⟨Ih,e301,Ch⟩:=Kd.nH HR1.out dU yL yR;obtain rfl:uZ=Ih:=(by injection e301);replace Ch:=aM Ch;replace yL:=eq_true yL;replace yR:=eq_true yR;have yM:0≤(dz:Int):=aG;have yS:dz<(l1.length:Int):=aG;obtain⟨Ii,e302,Ci⟩:=Kd.nH HR1.out dz yM yS;obtain rfl:uZ=Ii:=(by injection e302);replace Ci:=aM Ci;replace yM:=eq_true yM;replace yS:=eq_true yS))
               repeat(go_quiet (first|(go_at_call 27;(with_reducible refine(gI.calls a0 (fT ByteArray.empty l1 dz) t296 t297 _ uN.out).mono ?_);rintro e w20 ⟨rfl,hb⟩;replace HB:=af.mk (av ai hb);(try clear hb);(try clear hb2);(try clear hk);(try clear hi);have ng:0≤(dU:Int):=aG;have nA:dU<(l1.length:Int):=aG;obtain⟨xO,e298,qX⟩:=Kd.nH HR1.out dU ng nA;obtain rfl:uZ=xO:=(by injection e298);replace qX:=aM qX;replace ng:=eq_true ng;replace nA:=eq_true nA)|(go_at_call 27;(with_reducible refine(gI.calls a0 (fT ByteArray.empty l1 dU) t299 t300 _ A18.out).mono ?_);rintro e w21 ⟨rfl,hb⟩;replace HB:=af.mk (av ai hb);(try clear hb);(try clear hb2);(try clear hk);(try clear hi);have yL:0≤(dU:Int):=aG;have yR:dU<(l1.length:Int):=aG;obtain⟨Ih,e301,Ch⟩:=Kd.nH HR1.out dU yL yR;obtain rfl:uZ=Ih:=(by injection e301);replace Ch:=aM Ch;replace yL:=eq_true yL;replace yR:=eq_true yR;have yM:0≤(dz:Int):=aG;have yS:dz<(l1.length:Int):=aG;obtain⟨Ii,e302,Ci⟩:=Kd.nH HR1.out dz yM yS;obtain rfl:uZ=Ii:=(by injection e302);replace Ci:=aM Ci;replace yM:=eq_true yM;replace yS:=eq_true yS));try go_wp2_with (first|(go_at_call 27;(with_reducible refine(gI.calls a0 (fT ByteArray.empty l1 dz) t296 t297 _ uN.out).mono ?_);rintro e w20 ⟨rfl,hb⟩;replace HB:=af.mk (av ai hb);(try clear hb);(try clear hb2);(try clear hk);(try clear hi);have ng:0≤(dU:Int):=aG;have nA:dU<(l1.length:Int):=aG;obtain⟨xO,e298,qX⟩:=Kd.nH HR1.out dU ng nA;obtain rfl:uZ=xO:=(by injection e298);replace qX:=aM qX;replace ng:=eq_true ng;replace nA:=eq_true nA)|(go_at_call 27;(with_reducible refine(gI.calls a0 (fT ByteArray.empty l1 dU) t299 t300 _ A18.out).mono ?_);rintro e w21 ⟨rfl,hb⟩;replace HB:=af.mk (av ai hb);(try clear hb);(try clear hb2);(try clear hk);(try clear hi);have yL:0≤(dU:Int):=aG;have yR:dU<(l1.length:Int):=aG;obtain⟨Ih,e301,Ch⟩:=Kd.nH HR1.out dU yL yR;obtain rfl:uZ=Ih:=(by injection e301);replace Ch:=aM Ch;replace yL:=eq_true yL;replace yR:=eq_true yR;have yM:0≤(dz:Int):=aG;have yS:dz<(l1.length:Int):=aG;obtain⟨Ii,e302,Ci⟩:=Kd.nH HR1.out dz yM yS;obtain rfl:uZ=Ii:=(by injection e302);replace Ci:=aM Ci;replace yM:=eq_true yM;replace yS:=eq_true yS)))
               go_ret3
               exact⟨bS,ai⟩
              ·rw[if_neg c19]at H;have c19b0:(t296.toList==t299.toList)=false:=beq_eq_false_iff_ne.mpr c19;have c19b1:(t296.toList != t299.toList)=true:=bne_iff_ne.mpr c19;have H':=af.mk H;clear H;have Ec:0≤(dz:Int):=aG;have Eo:dz<(l1.length:Int):=aG;obtain⟨uZ,e295,JO⟩:=Kd.nH HR1.out dz Ec Eo
               cases e295
               replace JO:=aM JO;replace Ec:=eq_true Ec;replace Eo:=eq_true Eo
               go_wp2_with (first|(go_at_call 27;(with_reducible refine(gI.calls a0 (fT ByteArray.empty l1 dz) t296 t297 _ uN.out).mono ?_);rintro e w22 ⟨rfl,hb⟩;replace HB:=af.mk (av ai hb);(try clear hb);(try clear hb2);(try clear hk);(try clear hi);have ng:0≤(dU:Int):=aG;have nA:dU<(l1.length:Int):=aG;obtain⟨xO,e298,qX⟩:=Kd.nH HR1.out dU ng nA;obtain rfl:uZ=xO:=(by injection e298);replace qX:=aM qX;replace ng:=eq_true ng;replace nA:=eq_true nA)|(go_at_call 27;(with_reducible refine(gI.calls a0 (fT ByteArray.empty l1 dU) t299 t300 _ A18.out).mono ?_);rintro e w23 ⟨rfl,hb⟩;replace HB:=af.mk (av ai hb);(try clear hb);(try clear hb2);(try clear hk);(try clear hi)))
               repeat(go_quiet (first|(go_at_call 27;(with_reducible refine(gI.calls a0 (fT ByteArray.empty l1 dz) t296 t297 _ uN.out).mono ?_);rintro e w22 ⟨rfl,hb⟩;replace HB:=af.mk (av ai hb);(try clear hb);(try clear hb2);(try clear hk);(try clear hi);have ng:0≤(dU:Int):=aG;have nA:dU<(l1.length:Int):=aG;obtain⟨xO,e298,qX⟩:=Kd.nH HR1.out dU ng nA;obtain rfl:uZ=xO:=(by injection e298);replace qX:=aM qX;replace ng:=eq_true ng;replace nA:=eq_true nA)|(go_at_call 27;(with_reducible refine(gI.calls a0 (fT ByteArray.empty l1 dU) t299 t300 _ A18.out).mono ?_);rintro e w23 ⟨rfl,hb⟩;replace HB:=af.mk (av ai hb);(try clear hb);(try clear hb2);(try clear hk);(try clear hi)));try go_wp2_with (first|(go_at_call 27;(with_reducible refine(gI.calls a0 (fT ByteArray.empty l1 dz) t296 t297 _ uN.out).mono ?_);rintro e w22 ⟨rfl,hb⟩;replace HB:=af.mk (av ai hb);(try clear hb);(try clear hb2);(try clear hk);(try clear hi);have ng:0≤(dU:Int):=aG;have nA:dU<(l1.length:Int):=aG;obtain⟨xO,e298,qX⟩:=Kd.nH HR1.out dU ng nA;obtain rfl:uZ=xO:=(by injection e298);replace qX:=aM qX;replace ng:=eq_true ng;replace nA:=eq_true nA)|(go_at_call 27;(with_reducible refine(gI.calls a0 (fT ByteArray.empty l1 dU) t299 t300 _ A18.out).mono ?_);rintro e w23 ⟨rfl,hb⟩;replace HB:=af.mk (av ai hb);(try clear hb);(try clear hb2);(try clear hk);(try clear hi))))
               go_roundg kj4
               case measure=>have:=dD.out;have:=gK.out;have:=HJ4.out;omega
               case rel=>exact⟨(wrap64 (dU+1)),dx,H',⟨by have:=dD.out;have:=gK.out;have:=HJ4.out;omega⟩,⟨ai⟩⟩
             ·rw[if_neg c17]at H;exact absurd H (by simp)
            ·rw[if_neg c16]at H;exact absurd H (by simp)
           ·rw[if_neg c14]at H;exact absurd H (by simp)
          ·rw[if_neg c13]at H;exact absurd H (by simp)
      ·rw[if_neg c4]at H;have iH:decide (dU<dz)=false:=decide_eq_false c4;clear c4;have H':=af.mk H;clear H
       go_wp2
       repeat(go_quiet (fail);try go_wp2)
       go_roundg k2
       case measure=>have:=dD.out;have:=gK.out;omega
       case rel=>exact⟨(wrap64 (dz+1)),dx,H',⟨by have:=dD.out;have:=gK.out;omega⟩,⟨ai⟩⟩
   ·rw[if_neg c3]at H;have fJ:decide (dz<(l1.length:Int))=false:=decide_eq_false c3;clear c3;simp only[Option.some.injEq,Prod.mk.injEq]at H;obtain⟨rfl,rfl,rfl⟩:=H
    go_wp2
    repeat(go_quiet (fail);try go_wp2)
    go_ret3
    exact⟨bS,ai⟩
end Go.Proofs.YtdcddenojjdmjaaGreatDoor.T
