import Derived.Test.YtdcddenojjdmjaaGreatDoorM12
set_option linter.all false
set_option maxHeartbeats 8000000
set_option maxRecDepth 100000
namespace Go.Proofs.YtdcddenojjdmjaaGreatDoor.T
open Go.RowKit Go.Proofs.YtdcddenojjdmjaaGreatDoorW.PrintWords Go.Proofs.YtdcddenojjdmjaaGreatDoorW.PrintLast Go.Proofs.YtdcddenojjdmjaaGreatDoorW.PrintMore
attribute [local go_sem] kH kL kK kP kJ kN kI kM
def qI.j0:Nat→ByteArray→ByteArray→Int→Bool→Option (ByteArray×Int)
 |0,_,_,_,_=>none
 |k+1,x0,x1,x2,x28=>if x28=true then(some ((⟨#[]⟩:ByteArray),1))else((LA.f k x1 x2).bind fun t137=>(if 1+t137.size≤9223372036854775807 then((gI.f x0 ((⟨#[4]⟩:ByteArray)++t137)).bind fun bt138=>(if t137.size+bt138.1.size≤9223372036854775807 then(some (t137++bt138.1,0))else(none)))else(none)))
def qI.f(k:Nat)(a0:ByteArray)(a1:ByteArray)(a2:Int):Option (ByteArray×Int):=if(a1.size:Int)<1 then(qI.j0 k a0 a1 a2 true)else(if(a1.size:Int)>16 then(qI.j0 k a0 a1 a2 true)else(if(a0.size:Int)<1 then(qI.j0 k a0 a1 a2 true)else(qI.j0 k a0 a1 a2 (decide ((a0.size:Int)>32)))))
theorem qI.calls(k:Nat)(a0:ByteArray)(a1:ByteArray)(a2:Int)(r1:ByteArray)(r2:Int)(w:World)(h:qI.f k a0 a1 a2=some (r1,r2)):
  Calls Tryz.prog 41 #[.string a0,.string a1,.int .u64 a2] w fun e w'=>e=.returned (.tuple #[.string r1,.int .i64 r2])∧Below w.heap.size w w':=by
 have HB:=af.mk (Below.refl w.heap.size w);have H:(if(a1.size:Int)<1 then(qI.j0 k a0 a1 a2 true)else(if(a1.size:Int)>16 then(qI.j0 k a0 a1 a2 true)else(if(a0.size:Int)<1 then(qI.j0 k a0 a1 a2 true)else(qI.j0 k a0 a1 a2 (decide ((a0.size:Int)>32))))))=some (r1,r2):=h;clear h;have tL:=af.mk H;clear H
 go_enter Tryz.func41,Tryz.ntmps41
 go_upto_region 1 with (fail)
 go_cut [28] (fun v28 wc=>∃(kq:Nat) (Oc:Bool),v28=.bool Oc∧af (qI.j0 kq a0 a1 a2 Oc=some (r1,r2))∧af (kq≤k)∧af (Below w.heap.size w wc))
 case first=>
  have H:=tL.out;clear tL
  by_cases c5:(a1.size:Int)<1
  ·rw[if_pos c5]at H;have jW:decide ((a1.size:Int)<1)=true:=decide_eq_true c5;have xS:decide (a1.size<1)=true:=decide_eq_true (by omega);clear c5;(first|rw[jW]|(simp only[lH,lX];rw[jW])|skip);have H':=af.mk H;clear H
   go_wp2
   go_meet
   case rel=>exact⟨_,(true),dx,H',⟨by first|omega|exact Nat.le_refl _⟩,⟨ai⟩⟩
  ·rw[if_neg c5]at H;have jW:decide ((a1.size:Int)<1)=false:=decide_eq_false c5;have xS:decide (a1.size<1)=false:=decide_eq_false (by omega);clear c5;(first|rw[jW]|(simp only[lH,lX];rw[jW])|skip)
   by_cases c6:(a1.size:Int)>16
   ·rw[if_pos c6]at H;have jv:decide (16<(a1.size:Int))=true:=decide_eq_true c6;have xU:decide (16<a1.size)=true:=decide_eq_true (by omega);clear c6;have H':=af.mk H;clear H
    go_wp2
    go_meet
    case rel=>exact⟨_,(true),dx,H',⟨by first|omega|exact Nat.le_refl _⟩,⟨ai⟩⟩
   ·rw[if_neg c6]at H;have jv:decide (16<(a1.size:Int))=false:=decide_eq_false c6;have xU:decide (16<a1.size)=false:=decide_eq_false (by omega);clear c6
    by_cases c7:(a0.size:Int)<1
    ·rw[if_pos c7]at H;have kF:decide ((a0.size:Int)<1)=true:=decide_eq_true c7;have rJ:decide (a0.size<1)=true:=decide_eq_true (by omega);clear c7;have H':=af.mk H;clear H
     go_wp2
     go_meet
     case rel=>exact⟨_,(true),dx,H',⟨by first|omega|exact Nat.le_refl _⟩,⟨ai⟩⟩
    ·rw[if_neg c7]at H;have kF:decide ((a0.size:Int)<1)=false:=decide_eq_false c7;have rJ:decide (a0.size<1)=false:=decide_eq_false (by omega);clear c7;have H':=af.mk H;clear H
     go_wp2
     go_meet
     case rel=>exact⟨_,(decide ((a0.size:Int)>32)),dx,H',⟨by first|omega|exact Nat.le_refl _⟩,⟨ai⟩⟩
 case rest=>
  clear tL
  try clear p2
  try clear c4
  try clear c5
  try clear jW
  try clear xS
  try clear c6
  try clear jv
  try clear xU
  try clear c7
  try clear kF
  try clear rJ
  obtain⟨kq,Oc,rfl,HA,HJ3,HB⟩:=hcut
  cases kq with
  |zero=>exact absurd HA.out (by simp[qI.j0])
  |succ kj3=>
   have H:=HA.out;clear HA;simp only[qI.j0]at H
   by_cases c8:Oc=true
   ·subst c8;rw[if_pos rfl]at H;simp only[Option.some.injEq,Prod.mk.injEq]at H;obtain⟨rfl,rfl⟩:=H
    go_wp2
    go_ret2
    exact⟨bS,ai⟩
   ·replace c8:=Bool.eq_false_iff.mpr c8;subst c8;rw[if_neg (show ¬(false=true) by decide)]at H;replace H:=Option.bind_eq_some_iff.mp H;obtain⟨t137,A90,H⟩:=H;(try dsimp only at H);have A9:=af.mk A90;clear A90
    by_cases c10:1+t137.size≤9223372036854775807
    ·rw[if_pos c10]at H;have xR:=eq_true c10;have OX:decide (1+t137.size≤9223372036854775807)=true:=decide_eq_true c10
     try have c10b2:(9223372036854775807<1+t137.size)=False:=eq_false (Nat.not_lt.2 c10)
     replace H:=Option.bind_eq_some_iff.mp H;obtain⟨⟨t138,t139⟩,Bu,H⟩:=H;(try dsimp only at H);have iF:=af.mk Bu;clear Bu
     by_cases c12:t137.size+t138.size≤9223372036854775807
     ·rw[if_pos c12]at H;have c12b0:=eq_true c12;have c12b1:decide (t137.size+t138.size≤9223372036854775807)=true:=decide_eq_true c12
      try have c12b2:(9223372036854775807<t137.size+t138.size)=False:=eq_false (Nat.not_lt.2 c12)
      simp only[Option.some.injEq,Prod.mk.injEq]at H;obtain⟨rfl,rfl⟩:=H
      go_wp2_with (first|((with_reducible refine bq (f:=93) rfl ?_);refine bC 31 Tryz.func93 #[.string a1,.int .u64 a2] rfl ?_;(with_reducible refine(LA.calls kj3 a1 a2 t137 _ A9.out).mono ?_);rintro e w13 ⟨rfl,hb⟩;refine⟨_,rfl,?_⟩;replace HB:=af.mk (av ai hb);(try clear hb);(try clear hb2);(try clear hk);(try clear hi))|((with_reducible refine bq (f:=27) rfl ?_);refine bC 36 Tryz.func27 #[.string a0,.string ((⟨#[4]⟩:ByteArray)++t137)] rfl ?_;(with_reducible refine(gI.calls a0 ((⟨#[4]⟩:ByteArray)++t137) t138 t139 _ iF.out).mono ?_);rintro e w14 ⟨rfl,hb⟩;refine⟨_,rfl,?_⟩;replace HB:=af.mk (av ai hb);(try clear hb);(try clear hb2);(try clear hk);(try clear hi)))
      go_ret2
      exact⟨bS,ai⟩
     ·rw[if_neg c12]at H;exact absurd H (by simp)
    ·rw[if_neg c10]at H;exact absurd H (by simp)
def IE.f(k:Nat)(a0:ByteArray)(a1:ByteArray)(a2:Int)(a3:ByteArray):Option (ByteArray):=(qI.f k a0 a1 a2).bind fun OM=>((BI.f OM.1).bind fun Iq=>(if Iq.1.size+a3.size≤9223372036854775807 then(some (Iq.1++a3))else(none)))
theorem IE.calls(k:Nat)(a0:ByteArray)(a1:ByteArray)(a2:Int)(a3:ByteArray)(r:ByteArray)(w:World)(h:IE.f k a0 a1 a2 a3=some r):
  Calls Tryz.prog 16 #[.string a0,.string a1,.int .u64 a2,.string a3] w fun e w'=>e=.returned (.string r)∧Below w.heap.size w w':=by
 have HB:=af.mk (Below.refl w.heap.size w);have H:((qI.f k a0 a1 a2).bind fun OM=>((BI.f OM.1).bind fun Iq=>(if Iq.1.size+a3.size≤9223372036854775807 then(some (Iq.1++a3))else(none))))=some r:=h;clear h;replace H:=Option.bind_eq_some_iff.mp H;obtain⟨⟨t140,t141⟩,A50,H⟩:=H;(try dsimp only at H);have A5:=af.mk A50;clear A50;replace H:=Option.bind_eq_some_iff.mp H;obtain⟨⟨t142,t143⟩,A60,H⟩:=H;(try dsimp only at H);have A6:=af.mk A60;clear A60
 by_cases c7:t142.size+a3.size≤9223372036854775807
 ·rw[if_pos c7]at H;have kF:=eq_true c7;have rJ:decide (t142.size+a3.size≤9223372036854775807)=true:=decide_eq_true c7
  try have c7b2:(9223372036854775807<t142.size+a3.size)=False:=eq_false (Nat.not_lt.2 c7)
  obtain rfl:=Option.some.inj H
  go_enter Tryz.func16,Tryz.ntmps16
  go_wp2_with (first|((with_reducible refine bq (f:=41) rfl ?_);refine bC 17 Tryz.func41 #[.string a0,.string a1,.int .u64 a2] rfl ?_;(with_reducible refine(qI.calls k a0 a1 a2 t140 t141 _ A5.out).mono ?_);rintro e w8 ⟨rfl,hb⟩;refine⟨_,rfl,?_⟩;replace HB:=af.mk (av ai hb);(try clear hb);(try clear hb2);(try clear hk);(try clear hi))|((with_reducible refine bq (f:=42) rfl ?_);refine bC 22 Tryz.func42 #[.string t140] rfl ?_;(with_reducible refine(BI.calls t140 t142 t143 _ A6.out).mono ?_);rintro e w9 ⟨rfl,hb⟩;refine⟨_,rfl,?_⟩;replace HB:=af.mk (av ai hb);(try clear hb);(try clear hb2);(try clear hk);(try clear hi)))
  go_ret
  exact⟨bS,ai⟩
 ·rw[if_neg c7]at H;exact absurd H (by simp)
def oV.f(a0:Int):Option (Bool):=if a0=2 then(some true)else(some (a0==3))
theorem oV.calls(a0:Int)(r:Bool)(w:World)(h:oV.f a0=some r):
  Calls Tryz.prog 112 #[.int .i64 a0] w fun e w'=>e=.returned (.bool r)∧aX w w':=by
 have H:(if a0=2 then(some true)else(some (a0==3)))=some r:=h;clear h
 by_cases c2:a0=2
 ·rw[if_pos c2]at H;have ig:(a0==2)=true:=beq_iff_eq.mpr c2;have nJ:(a0 != 2)=false:=bne_eq_false_iff_eq.mpr c2;clear c2;obtain rfl:=Option.some.inj H
  go_enter Tryz.func112,Tryz.ntmps112
  go_wp2
  go_ret
  exact⟨by first|rfl|(simp;done)|(simp[*];done),by repeat(first|exact aX.refl _|apply aX.step)⟩
 ·rw[if_neg c2]at H;have ig:(a0==2)=false:=beq_eq_false_iff_ne.mpr c2;have nJ:(a0 != 2)=true:=bne_iff_ne.mpr c2;obtain rfl:=Option.some.inj H
  go_enter Tryz.func112,Tryz.ntmps112
  go_wp2
  go_ret
  exact⟨by first|rfl|(simp;done)|(simp[*];done),by repeat(first|exact aX.refl _|apply aX.step)⟩
theorem eqA67(d:Nat)(w:World)(x0 y0:Int)(x1 y1:Int)(x2 y2:ByteArray)(x3 y3:ByteArray):
  (Op.equalIn (d+2) 67 (.agg #[.int .i64 x0,.int .i64 x1,.string x2,.string x3]) (.agg #[.int .i64 y0,.int .i64 y1,.string y2,.string y3])).run Tryz.prog w=.ok (x0==y0&&(x1==y1&&(x2.toList==y2.toList&&(x3.toList==y3.toList)))) w:=by
 refine O7 Tryz.underlying67 (by kernel_rfl) ?_;refine Ag (by rfl) (by go_simp;rfl) (by go_simp;rfl) (by go_simp) ?_;refine Ag (by rfl) (by go_simp;rfl) (by go_simp;rfl) (by go_simp) ?_;refine Ag (by rfl) (by go_simp;rfl) (by go_simp;rfl) (by go_simp) ?_;exact O8 (by rfl) (by go_simp;rfl) (by go_simp;rfl) (by go_simp)
end Go.Proofs.YtdcddenojjdmjaaGreatDoor.T
namespace Go.Proofs.YtdcddenojjdmjaaGreatDoor.T
open Go.RowKit Go.Proofs.YtdcddenojjdmjaaGreatDoorW.PrintWords Go.Proofs.YtdcddenojjdmjaaGreatDoorW.PrintLast Go.Proofs.YtdcddenojjdmjaaGreatDoorW.PrintMore
attribute [local go_sem] kH kL kK kP kJ kN kI kM
attribute [local go_sem high] eqA67
mutual
def gW.j0:Nat→Bool→Int→Int→ByteArray→ByteArray→Int→Int→ByteArray→ByteArray→Option (Bool)
 |0,_,_,_,_,_,_,_,_,_=>none
 |k+1,x9,Gu,Gv,Gw,Gx,NR,NT,NU,NW=>if x9=true then(some false)else(if Gv<1 then(gW.j1 k true Gu Gv Gw Gx NR NT NU NW)else(gW.j1 k (decide (Gv>32)) Gu Gv Gw Gx NR NT NU NW))
def gW.j1:Nat→Bool→Int→Int→ByteArray→ByteArray→Int→Int→ByteArray→ByteArray→Option (Bool)
 |0,_,_,_,_,_,_,_,_,_=>none
 |k+1,x18,Gu,Gv,Gw,Gx,NR,NT,NU,NW=>if x18=true then(some false)else((oV.f Gu).bind fun t149=>(if t149=true then(if(Gw.size:Int)≥1 then(if(Gw.size:Int)≤32 then(if(Gx.size:Int)≤32 then(if Gu=2 then(some true)else(some (Gx.toList != ([]:List UInt8))))else(some false))else(some false))else(some false))else(some (Gu==NR&&(Gv==NT&&(Gw.toList==NU.toList&&(Gx.toList==NW.toList)))))))
end
def gW.f(k:Nat)(aH:Int)(aV:Int)(bg:ByteArray)(bn:ByteArray):Option (Bool):=if aH<1 then(gW.j0 k true aH aV bg bn aH aV (⟨#[]⟩:ByteArray) (⟨#[]⟩:ByteArray))else(gW.j0 k (decide (aH>5)) aH aV bg bn aH aV (⟨#[]⟩:ByteArray) (⟨#[]⟩:ByteArray))
theorem gW.calls(k:Nat)(aH:Int)(aV:Int)(bg:ByteArray)(bn:ByteArray)(r:Bool)(w:World)(h:gW.f k aH aV bg bn=some r):
  Calls Tryz.prog 66 #[.agg #[.int .i64 aH,.int .i64 aV,.string bg,.string bn]] w fun e w'=>e=.returned (.bool r)∧Below w.heap.size w w':=by
 have wN:=Tryz.underlying67;have HB:=af.mk (Below.refl w.heap.size w);have H:(if aH<1 then(gW.j0 k true aH aV bg bn aH aV (⟨#[]⟩:ByteArray) (⟨#[]⟩:ByteArray))else(gW.j0 k (decide (aH>5)) aH aV bg bn aH aV (⟨#[]⟩:ByteArray) (⟨#[]⟩:ByteArray)))=some r:=h;clear h;have qm:=af.mk H;clear H
 go_enter Tryz.func66,Tryz.ntmps66
 go_upto_region 2 with (first|((with_reducible refine bZ (N:=1) rfl ?_);(try(refine xY (by rfl) ?_;dsimp only));refine dn 1 (cs:=#[.int .i64 aH,.int .i64 aV,.string bg,.string bn]) (t:=67) ?_;intro LJ hg w3 aC hb;have nV:=af.mk (aC);have GW147:af (w.heap.size≤LJ):=aT hg;have GE147:af (w.heap.size≤LJ):=aT hg;replace HB:=af.mk (av ai hb);clear hb aC hg;obtain⟨DI,DJ,DK,DL,DN,DR,DT,DU⟩:=fB nV)|((with_reducible refine bZ (N:=3) rfl ?_);(try(refine xY (by rfl) ?_;dsimp only));refine dn 3 (cs:=#[.int .i64 0,.int .i64 0,.string (⟨#[]⟩:ByteArray),.string (⟨#[]⟩:ByteArray)]) (t:=67) ?_;intro iq hg w5 aC hb;have bV:=af.mk (aC);have EK:af (w.heap.size≤iq):=aT hg;have EJ:af (w.heap.size≤iq):=aT hg;have xI:=kS hg nV;have xJ:=kT hg nV;replace nV:=bQ nV hb;replace HB:=af.mk (av ai hb);clear hb aC hg;have hnb6:=xJ.out;have hnc6:=xI.out;obtain⟨yh,yj,yo,Ay,yu,yw,yx,AV⟩:=fB bV))
 (try simp only[Act.put,List.setIfInBounds_toArray,List.set_cons_zero,List.set_cons_succ])
 go_cut [9] (fun v9 wc=>∃(kq:Nat) (bG:Bool),v9=.bool bG∧af (gW.j0 kq bG aH aV bg bn aH aV (⟨#[]⟩:ByteArray) (⟨#[]⟩:ByteArray)=some r)∧af (kq≤k)∧af (wc.heap[LJ]? =some (.cells #[.int .i64 aH,.int .i64 aV,.string bg,.string bn] 67 (0,0)))∧af (wc.heap[iq]? =some (.cells #[.int .i64 aH,.int .i64 aV,.string (⟨#[]⟩:ByteArray),.string (⟨#[]⟩:ByteArray)] 67 (0,0)))∧af (Below w.heap.size w wc))
 case first=>
  have H:=qm.out;clear qm
  by_cases c8:aH<1
  ·rw[if_pos c8]at H;have jw:decide (aH<1)=true:=decide_eq_true c8;clear c8;(first|rw[jw]|(simp only[lH,lX];rw[jw])|skip);have H':=af.mk H;clear H;have hnb9:=xI.out;have hnc9:=xJ.out;obtain⟨wG,wH,wI,Aj,wJ,wK,wL,Az⟩:=fB nV
   go_wp2
   go_meet
   case rel=>exact⟨_,(true),dx,H',⟨by first|omega|exact Nat.le_refl _⟩,⟨fU nV⟩,⟨by exact rW bV.out⟩,⟨ai⟩⟩
  ·rw[if_neg c8]at H;have jw:decide (aH<1)=false:=decide_eq_false c8;clear c8;(first|rw[jw]|(simp only[lH,lX];rw[jw])|skip);have H':=af.mk H;clear H;have hnb11:=xI.out;have hnc11:=xJ.out;obtain⟨BS,BU,BV,Px,BX,BZ,Cb,P7⟩:=fB nV
   go_wp2
   go_meet
   case rel=>exact⟨_,(decide (aH>5)),dx,H',⟨by first|omega|exact Nat.le_refl _⟩,⟨fU nV⟩,⟨by exact rW bV.out⟩,⟨ai⟩⟩
 case rest=>
  clear qm
  try clear c1
  try clear p2
  try clear c6
  try clear c8
  try clear jw
  try clear c9
  try clear c11
  try clear wG
  try clear wH
  try clear wI
  try clear Aj
  try clear BS
  try clear BU
  try clear BV
  try clear Px
  try clear DI
  try clear DJ
  try clear DK
  try clear DL
  try clear yh
  try clear yj
  try clear yo
  try clear Ay
  try clear wJ
  try clear wK
  try clear wL
  try clear Az
  try clear BX
  try clear BZ
  try clear Cb
  try clear P7
  try clear DN
  try clear DR
  try clear DT
  try clear DU
  try clear yu
  try clear yw
  try clear yx
  try clear AV
  obtain⟨kq,bG,rfl,HA,HJ1,nV,bV,HB⟩:=hcut
  cases kq with
  |zero=>exact absurd HA.out (by simp[gW.j0])
  |succ kj1=>
   have H:=HA.out;clear HA;simp only[gW.j0]at H
   by_cases c13:bG=true
   ·subst c13;rw[if_pos rfl]at H;obtain rfl:=Option.some.inj H
    go_wp2
    go_ret
    exact⟨bS,ai⟩
   ·replace c13:=Bool.eq_false_iff.mpr c13;subst c13;rw[if_neg (show ¬(false=true) by decide)]at H;have HC14:=af.mk H;clear H
    go_upto_region 3 with (fail)
    go_cut [18] (fun v18 wc=>∃(kq:Nat) (NY:Bool),v18=.bool NY∧af (gW.j1 kq NY aH aV bg bn aH aV (⟨#[]⟩:ByteArray) (⟨#[]⟩:ByteArray)=some r)∧af (kq≤kj1)∧af (wc.heap[LJ]? =some (.cells #[.int .i64 aH,.int .i64 aV,.string bg,.string bn] 67 (0,0)))∧af (wc.heap[iq]? =some (.cells #[.int .i64 aH,.int .i64 aV,.string (⟨#[]⟩:ByteArray),.string (⟨#[]⟩:ByteArray)] 67 (0,0)))∧af (Below w.heap.size w wc))
    case first=>
     have H:=HC14.out;clear HC14
     by_cases c15:aV<1
     ·rw[if_pos c15]at H;have BH:decide (aV<1)=true:=decide_eq_true c15;clear c15;(first|rw[BH]|(simp only[lH,lX];rw[BH])|skip);have H':=af.mk H;clear H;have hnb16:=xI.out;have hnc16:=xJ.out;obtain⟨LV,LW,LX,LY,Mr,Ms,Mt,Mv⟩:=fB nV
      go_wp2
      go_meet
      case rel=>exact⟨_,(true),dx,H',⟨by have:=HJ1.out;first|omega|exact Nat.le_refl _⟩,⟨fU nV⟩,⟨fU bV⟩,⟨ai⟩⟩
     ·rw[if_neg c15]at H;have BH:decide (aV<1)=false:=decide_eq_false c15;clear c15;(first|rw[BH]|(simp only[lH,lX];rw[BH])|skip);have H':=af.mk H;clear H;have hnb18:=xI.out;have hnc18:=xJ.out;obtain⟨L9,Ma,Mc,Md,MC,ME,MF,MG⟩:=fB nV
      go_wp2
      go_meet
      case rel=>exact⟨_,(decide (aV>32)),dx,H',⟨by have:=HJ1.out;first|omega|exact Nat.le_refl _⟩,⟨fU nV⟩,⟨fU bV⟩,⟨ai⟩⟩
    case rest=>
     clear HC14
     try clear c1
     try clear p2
     try clear c6
     try clear c8
     try clear jw
     try clear c9
     try clear c11
     try clear c13
     try clear c15
     try clear BH
     try clear c16
     try clear c18
     try clear wG
     try clear wH
     try clear wI
     try clear Aj
     try clear BS
     try clear BU
     try clear BV
     try clear Px
     try clear LV
     try clear LW
     try clear LX
     try clear LY
     try clear L9
     try clear Ma
     try clear Mc
     try clear Md
     try clear DI
     try clear DJ
     try clear DK
     try clear DL
     try clear yh
     try clear yj
     try clear yo
     try clear Ay
     try clear wJ
     try clear wK
     try clear wL
     try clear Az
     try clear BX
     try clear BZ
     try clear Cb
     try clear P7
     try clear Mr
     try clear Ms
     try clear Mt
     try clear Mv
     try clear MC
     try clear ME
     try clear MF
     try clear MG
     try clear DN
     try clear DR
     try clear DT
     try clear DU
     try clear yu
     try clear yw
     try clear yx
     try clear AV
     try clear p2
     obtain⟨kq,NY,rfl,HA,HJ13,nV,bV,HB⟩:=hcut
     cases kq with
     |zero=>exact absurd HA.out (by simp[gW.j1])
     |succ kj13=>
      have H:=HA.out;clear HA;simp only[gW.j1]at H
      by_cases c20:NY=true
      ·subst c20;rw[if_pos rfl]at H;obtain rfl:=Option.some.inj H
       go_wp2
       go_ret
       exact⟨bS,ai⟩
      ·replace c20:=Bool.eq_false_iff.mpr c20;subst c20;rw[if_neg (show ¬(false=true) by decide)]at H;replace H:=Option.bind_eq_some_iff.mp H;obtain⟨t149,A210,H⟩:=H;(try dsimp only at H);have A21:=af.mk A210;clear A210
       by_cases nI:t149=true
       ·subst nI;rw[if_pos rfl]at H
        by_cases c23:(bg.size:Int)≥1
        ·rw[if_pos c23]at H;have c23b0:decide (1≤(bg.size:Int))=true:=decide_eq_true c23;have c23b1:decide (1≤bg.size)=true:=decide_eq_true (by omega);clear c23
         by_cases c24:(bg.size:Int)≤32
         ·rw[if_pos c24]at H;have OY:decide ((bg.size:Int)≤32)=true:=decide_eq_true c24;have OZ:decide (bg.size≤32)=true:=decide_eq_true (by omega);clear c24
          by_cases c25:(bn.size:Int)≤32
          ·rw[if_pos c25]at H;have c25b0:decide ((bn.size:Int)≤32)=true:=decide_eq_true c25;have c25b1:decide (bn.size≤32)=true:=decide_eq_true (by omega);clear c25
           by_cases oG:aH=2
           ·rw[if_pos oG]at H;have O0:(aH==2)=true:=beq_iff_eq.mpr oG;have O1:(aH != 2)=false:=bne_eq_false_iff_eq.mpr oG;clear oG;obtain rfl:=Option.some.inj H;have hnb27:=xI.out;have Qt:=xJ.out;obtain⟨Jd,Je,Jf,Mi,Jl,Jm,Jo,ML⟩:=fB nV
            go_wp2_with (first|((with_reducible refine bq (f:=112) rfl ?_);refine bC 30 Tryz.func112 #[.int .i64 aH] rfl ?_;(with_reducible refine(oV.calls aH true _ A21.out).mono ?_);rintro e w' ⟨rfl,⟨nd,rfl⟩⟩;refine⟨_,rfl,?_⟩))
            go_ret
            exact⟨bS,ai⟩
           ·rw[if_neg oG]at H;have O0:(aH==2)=false:=beq_eq_false_iff_ne.mpr oG;have O1:(aH != 2)=true:=bne_iff_ne.mpr oG;obtain rfl:=Option.some.inj H;have hnb29:=xI.out;have hnc29:=xJ.out;obtain⟨Mj,Mk,Ml,Mq,MN,MO,MP,MQ⟩:=fB nV
            go_wp2_with (first|((with_reducible refine bq (f:=112) rfl ?_);refine bC 30 Tryz.func112 #[.int .i64 aH] rfl ?_;(with_reducible refine(oV.calls aH true _ A21.out).mono ?_);rintro e w' ⟨rfl,⟨nd,rfl⟩⟩;refine⟨_,rfl,?_⟩))
            go_ret
            exact⟨bS,ai⟩
          ·rw[if_neg c25]at H;have c25b0:decide ((bn.size:Int)≤32)=false:=decide_eq_false c25;have c25b1:decide (bn.size≤32)=false:=decide_eq_false (by omega);clear c25;obtain rfl:=Option.some.inj H;have hnb31:=xI.out;have hnc31:=xJ.out;obtain⟨PN,PO,PS,PU,Qg,Qh,Qi,Qj⟩:=fB nV
           go_wp2_with (first|((with_reducible refine bq (f:=112) rfl ?_);refine bC 30 Tryz.func112 #[.int .i64 aH] rfl ?_;(with_reducible refine(oV.calls aH true _ A21.out).mono ?_);rintro e w' ⟨rfl,⟨nd,rfl⟩⟩;refine⟨_,rfl,?_⟩))
           go_ret
           exact⟨bS,ai⟩
         ·rw[if_neg c24]at H;have OY:decide ((bg.size:Int)≤32)=false:=decide_eq_false c24;have OZ:decide (bg.size≤32)=false:=decide_eq_false (by omega);clear c24;obtain rfl:=Option.some.inj H;have hnb33:=xI.out;have hnc33:=xJ.out;obtain⟨hcz34_0,hcz34_1,hcz34_2,hcz34_3,hfz34_0,hfz34_1,hfz34_2,hfz34_3⟩:=fB nV
          go_wp2_with (first|((with_reducible refine bq (f:=112) rfl ?_);refine bC 30 Tryz.func112 #[.int .i64 aH] rfl ?_;(with_reducible refine(oV.calls aH true _ A21.out).mono ?_);rintro e w' ⟨rfl,⟨nd,rfl⟩⟩;refine⟨_,rfl,?_⟩))
          go_ret
          exact⟨bS,ai⟩
        ·rw[if_neg c23]at H;have c23b0:decide (1≤(bg.size:Int))=false:=decide_eq_false c23;have c23b1:decide (1≤bg.size)=false:=decide_eq_false (by omega);clear c23;obtain rfl:=Option.some.inj H;have hnb35:=xI.out;have hnc35:=xJ.out;obtain⟨hcz36_0,hcz36_1,hcz36_2,hcz36_3,hfz36_0,hfz36_1,hfz36_2,hfz36_3⟩:=fB nV
         go_wp2_with (first|((with_reducible refine bq (f:=112) rfl ?_);refine bC 30 Tryz.func112 #[.int .i64 aH] rfl ?_;(with_reducible refine(oV.calls aH true _ A21.out).mono ?_);rintro e w' ⟨rfl,⟨nd,rfl⟩⟩;refine⟨_,rfl,?_⟩))
         go_ret
         exact⟨bS,ai⟩
       ·replace nI:=Bool.eq_false_iff.mpr nI;subst nI;rw[if_neg (show ¬(false=true) by decide)]at H;obtain rfl:=Option.some.inj H;have hnb37:=xI.out;have hnc37:=xJ.out;obtain⟨hcz38_0,hcz38_1,hcz38_2,hcz38_3,hfz38_0,hfz38_1,hfz38_2,hfz38_3⟩:=fB nV
        go_wp2_with (first|((with_reducible refine bq (f:=112) rfl ?_);refine bC 30 Tryz.func112 #[.int .i64 aH] rfl ?_;(with_reducible refine(oV.calls aH false _ A21.out).mono ?_);rintro e w' ⟨rfl,⟨nd,rfl⟩⟩;refine⟨_,rfl,?_⟩;obtain⟨hcz39_0,hcz39_1,hcz39_2,hcz39_3,hfz39_0,hfz39_1,hfz39_2,hfz39_3⟩:=fB bV))
        go_ret
        exact⟨bS,ai⟩
end Go.Proofs.YtdcddenojjdmjaaGreatDoor.T
