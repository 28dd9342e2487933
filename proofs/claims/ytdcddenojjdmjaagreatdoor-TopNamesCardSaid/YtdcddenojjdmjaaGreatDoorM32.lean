import Derived.Test.YtdcddenojjdmjaaGreatDoorM31
set_option linter.all false
set_option maxHeartbeats 8000000
set_option maxRecDepth 100000
namespace Go.Proofs.YtdcddenojjdmjaaGreatDoor.T
open Go.RowKit Go.Proofs.YtdcddenojjdmjaaGreatDoorW.PrintWords Go.Proofs.YtdcddenojjdmjaaGreatDoorW.PrintLast Go.Proofs.YtdcddenojjdmjaaGreatDoorW.PrintMore
attribute [local go_sem] kH kL kK kP kJ kN kI kM
def kG.l0:Nat→List (aj)→List (aN)→List ByteArray→Int→Int→Option ((List (aN)))
 |0,_,_,_,_,_=>none
 |k+1,x0,x3,x7,x8,x9=>if x9<x8 then(if 0≤x9 then(if x9<(x7.length:Int)then((xW.f k x0 (fT ByteArray.empty x7 x9)).bind fun t137=>(if x3.length+t137.length<3518437208883 then(kG.l0 k x0 (x3++t137) x7 x8 (wrap64 (x9+1)))else(none)))else(none))else(none))else(some x3)
def kG.f(k:Nat)(l0:List (aj)):Option ((List (aN))):=(AX.f l0).bind fun t133=>(kG.l0 k l0 ([]:List (aN)) t133 (t133.length:Int) 0)
theorem kG.calls(k:Nat)(A0:Option Addr)(c0:Nat)(l0:List (aj))(r:List (aN))(w:World)(hr0:Kd.C dw w A0 l0.length l0)(hc0:l0.length≤c0)(h:kG.f k l0=some r):
  Calls Tryz.prog 46 #[.slice A0 l0.length c0] w fun e w'=>∃fE:Value,e=.returned (fE)∧Kd.R fZ 136 w' w.heap.size (fun _=>True) fE r∧Below w.heap.size w w':=by
 have cZ:=af.mk hr0;have gT:=af.mk hc0;clear hr0 hc0;have HB:=af.mk (Below.refl w.heap.size w);have H:((AX.f l0).bind fun t133=>(kG.l0 k l0 ([]:List (aN)) t133 (t133.length:Int) 0))=some r:=h;clear h;replace H:=Option.bind_eq_some_iff.mp H;obtain⟨t133,tF,H⟩:=H;(try dsimp only at H);have A2:=af.mk tF;clear tF;have H':=af.mk H;clear H
 go_enter Tryz.func46,Tryz.ntmps46
 go_wp2_with (first|((with_reducible refine bq (f:=99) rfl ?_);refine bC 7 Tryz.func99 #[.slice A0 l0.length c0] rfl ?_;(with_reducible refine(AX.calls _ _ l0 t133 _ ?aQ ?aW A2.out).mono ?_);(case aQ=>repeat(first|exact cZ.out|(with_reducible refine Kd.gu ?_ _)|(with_reducible refine Kd.gB ?_ _)|(with_reducible refine Kd.gy ?_)));(case aW=>exact gT.out);rintro e w3 ⟨v134,rfl,ho0,hb⟩;refine⟨_,rfl,?_⟩;have HO135:=af.mk (Kd.gU ho0 (fI ai));replace HB:=af.mk (av ai hb);(try clear hb);(try clear hb2);(try clear hk);(try clear hi);(try clear ho0);obtain⟨Ao4,co4,eo4⟩:=Kd.fH HO135.out;subst eo4))
 go_loopg [3,9] k (fun kq v3 v9 w'=>∃(dh:List (aN)) (bG:Int),v9=.int .i64 bG∧af (kG.l0 kq l0 dh t133 (t133.length:Int) bG=some r)∧af (kq≤k)∧af (Kd.R fZ 136 w' w.heap.size (fun _=>True) v3 dh)∧af (Kd.R Kd.string 9 w' w.heap.size (fun _=>True) (.slice Ao4 t133.length co4) t133)∧af (Below w.heap.size w w'))
 case atStart=>exact⟨(([]:List (aN))),(0),dx,H',⟨Nat.le_refl _⟩,⟨by first|exact Kd.dV _ _ _ _ _|exact Kd.iP _ _ _ _ _|exact Kd.iR _ _ _ _ _|exact Kd.iQ _ _ _ _ _|exact Kd.j5 _ _ _ _ _⟩,⟨dZ HO135⟩,⟨ai⟩⟩
 case round=>
  clear H'
  try clear p2
  try clear c4
  obtain⟨dh,bG,rfl,HA,dD,dO,iG,HB⟩:=hrel
  cases gk with
  |zero=>exact absurd HA.out (by simp[kG.l0])
  |succ k1=>
   have H:=HA.out;clear HA;simp only[kG.l0]at H
   by_cases c5:bG<(t133.length:Int)
   ·rw[if_pos c5]at H;have jW:decide (bG<(t133.length:Int))=true:=decide_eq_true c5;clear c5
    by_cases c6:0≤bG
    ·rw[if_pos c6]at H;have jv:decide (0≤bG)=true:=decide_eq_true c6;clear c6
     by_cases c7:bG<(t133.length:Int)
     ·rw[if_pos c7]at H;have kF:decide (bG<(t133.length:Int))=true:=decide_eq_true c7;clear c7;replace H:=Option.bind_eq_some_iff.mp H;obtain⟨t137,A80,H⟩:=H;(try dsimp only at H);have A8:=af.mk A80;clear A80
      by_cases c9:dh.length+t137.length<3518437208883
      ·rw[if_pos c9]at H;have LMc9:=af.mk c9;clear c9;obtain⟨y140,J3⟩:∃y_:List (aN),y_=(dh++t137):=⟨_,rfl⟩;replace H:(kG.l0 k1 l0 y140 t133 (t133.length:Int) (wrap64 (bG+1)))=some r:=by first|(rw[J3];with_reducible exact H)|(have bP:=(Option.bind_some _ _).symm.trans H;rw[J3];with_reducible exact bP)|(have bP:=(Option.bind_some _ _).symm.trans H;with_reducible exact bP)|with_reducible exact H|(rw[J3];exact H)|exact H
       have Ny140:=af.mk J3;clear J3;have H':=af.mk H;clear H;have p136:0≤(bG:Int):=aG;have q136:bG<(t133.length:Int):=aG;obtain⟨ad136,e136,hx136_0⟩:=Kd.nH (Kd.dB iG.out).2.2 bG p136 q136
       cases e136
       replace p136:=eq_true p136;replace q136:=eq_true q136
       go_wp2_with (first|((with_reducible refine bq (f:=100) rfl ?_);refine bC 16 Tryz.func100 #[.slice A0 l0.length c0,.string (fT ByteArray.empty t133 bG)] rfl ?_;(with_reducible refine(xW.calls k1 _ _ l0 (fT ByteArray.empty t133 bG) t137 _ ?aQ ?aW A8.out).mono ?_);(case aQ=>exact jr cZ);(case aW=>exact gT.out);rintro e w10 ⟨v138,rfl,ho0,hb⟩;refine⟨_,rfl,?_⟩;replace iG:=dA iG hb;have EL:=af.mk (Kd.gU (Kd.zU ho0 (Kd.mF (dZ dO))) (fI ai));replace dO:=af.mk (Kd.zT (dZ dO) (Kd.uY ho0) hb);replace HB:=af.mk (av ai hb);(try clear hb);(try clear hb2);(try clear hk);(try clear hi);(try clear ho0);obtain⟨Ao12,co12,eo12⟩:=Kd.fH EL.out;subst eo12)|((with_reducible refine jN (b:=.append) (xs:=#[.tmp 13,.tmp 16]) rfl ?_);at_builtin;refine Kd.Lj fZ (w0:=w) w.heap.size rfl (.tmp 13) (.tmp 16) 30 136 (.agg #[(.int .i64 0),(.int .i64 0),(.int .i64 0),(.int .i64 0),(.int .i64 0)]) 40 rfl Tryz.underlying30 Vs rfl (by decide) (by omega) u3 dh t137 _ _ _ (fun k_=>some k_≠(.slice Ao12 t137.length co12:Value).ownBlock) (fun _=>False) rfl rfl ?aO ?aR (fun _ _ h=>h) (fun _ h=>h.elim) ?aF ?aB ?aS ?aL ?_;(case aR=>repeat(first|exact(Kd.dB EL.out).2.2|(with_reducible refine Kd.gu ?_ _)|(with_reducible refine Kd.gB ?_ _)|(with_reducible refine Kd.gy ?_)));(case aB=>exact ai);(case aF=>exact(fun k_ hk=>Kd.fresh' (Kd.mF (dZ EL)) k_ hk));(case aO=>exact(by(with_reducible repeat(first|apply Kd.bX|apply Kd.dK|apply Kd.di));exact Kd.bY dO.out (fun _ hk=>hk.2)));(case aS=>exact(fI ai));(case aL=>have:=LMc9.out;omega);intro v141 y9 ho hb hg hat;rw[← Ny140.out]at ho;have dL:=af.mk (Kd.BA (dZ iG) (Kd.Dj (dZ dO)) (by decide) hg);have dW:=af.mk (Kd.Bz (ok:=(fun _=>True)) (dZ EL) hg hat);have dX:=af.mk (hb);have jH:=af.mk (ho);clear iG EL HB dO;have iG:=dL;have EL:=dW;have HB:=dX;have HO142:=jH;clear dL dW dX jH ho hb hg hat))
       go_roundg k1
       case measure=>have:=dD.out;omega
       case rel=>exact⟨(y140),(wrap64 (bG+1)),dx,H',⟨by have:=dD.out;omega⟩,⟨by(with_reducible repeat(first|apply Kd.bX|apply Kd.dK|apply Kd.di));exact Kd.bY HO142.out (fun _ hk=>trivial)⟩,⟨dZ iG⟩,⟨ai⟩⟩
      ·rw[if_neg c9]at H;exact absurd H (by simp)
     ·rw[if_neg c7]at H;exact absurd H (by simp)
    ·rw[if_neg c6]at H;exact absurd H (by simp)
   ·rw[if_neg c5]at H;have jW:decide (bG<(t133.length:Int))=false:=decide_eq_false c5;clear c5;obtain rfl:=Option.some.inj H
    go_wp2
    go_ret
    exact⟨_,bS,by(with_reducible repeat(first|apply Kd.bX|apply Kd.dK|apply Kd.di));exact dO.out,ai⟩
section
theorem YR(K:Nat)(cap:Array Value)(he:∀args w,(callFunc K args).run Tryz.prog w=.ok (.enter K args) w)(A:Option Addr)(c:Nat)(l:List aj)(p:aj→Bool)(w W:World)(hr:Kd.C dw w A l.length l)(hc:l.length≤c)(Inv:World→Prop)(h0:Inv W)
  (hbel:∀W',Inv W'→Below w.heap.size w W')
  (hstep:∀(x:aj) W',Inv W'→Calls Tryz.prog K (#[.agg #[.int .i64 x.f0,.int .i64 x.f1,.string x.f2,.string x.f3]]++cap) W' fun e W''=>e=.returned (.bool (p x))∧Inv W''):
  Calls Tryz.prog 145 #[.slice A l.length c,.func (.func K) #[] cap] W fun e W'=>e=.returned (.bool (decide (idx p l≥0)))∧Inv W':=by
 go_enter Tryz.func145,Tryz.ntmps145
 go_wp2_with fail
 refine(IU K cap he A c l p w W hr hc Inv h0 hbel hstep).mono ?_;rintro e w1 ⟨rfl,h1⟩;have H:=af.mk h1;clear h1
 go_wp2_with fail
 go_ret
 exact⟨rfl,H.out⟩
def oo.twice(val:ByteArray)(y:aj):Bool:=if y.f0=3 then y.f3.toList==val.toList else false
theorem oo.abb(x:aj)(z:aj)(g1 B:Nat)(w:World)(b3:B≤w.heap.size)
  (h1:w.heap[g1]? =some (.cells #[.int .i64 z.f0,.int .i64 z.f1,.string z.f2,.string z.f3] 67 (0,0))):
  Calls Tryz.prog 144 #[.agg #[.int .i64 x.f0,.int .i64 x.f1,.string x.f2,.string x.f3],.pointer (some ⟨g1,0,none⟩)] w fun e w'=>e=.returned (.bool (oo.twice z.f3 x))∧
   w'.heap[g1]? =some (.cells #[.int .i64 z.f0,.int .i64 z.f1,.string z.f2,.string z.f3] 67 (0,0))∧Below B w w':=by
 obtain⟨x0,x1,x2,x3⟩:=x;simp only;have l1:=iB h1;have hc1:w.cell? ⟨g1,3,none⟩=some (.string z.f3):=(ah h1 3).trans rfl;have H0:=af.mk h1;clear h1
 by_cases c1:x0=3
 ·have e:oo.twice z.f3 ⟨x0,x1,x2,x3⟩=(x3.toList==z.f3.toList):=by unfold oo.twice;rw[if_pos c1]
  rw[e];clear e;subst c1
  go_enter Tryz.func144,Tryz.ntmps144
  go_wp2_with fail
  go_ret
  exact⟨rfl,ay H0.out _,(Below.refl B w).alloc b3 _⟩
 ·have q1:(x0==3)=false:=beq_eq_false_iff_ne.2 c1;have e:oo.twice z.f3 ⟨x0,x1,x2,x3⟩=false:=by unfold oo.twice;rw[if_neg c1]
  rw[e];clear e
  go_enter Tryz.func144,Tryz.ntmps144
  go_wp2_with fail
  go_ret
  exact⟨rfl,ay H0.out _,(Below.refl B w).alloc b3 _⟩
theorem oo.enter:∀args w,(callFunc 144 args).run Tryz.prog w=.ok (.enter 144 args) w:=mO Tryz.func144 (by kernel_rfl) rfl
def oo.f(l0:List (aj))(a1:Int):Option Int:=
 if 0≤a1 then(match l0[a1.toNat]? with
  |some x=>(gW.f 4 x.f0 x.f1 x.f2 x.f3).bind fun m=>some (
   if m=false then 1 else
   if x.f0=1 then(if(l0.take a1.toNat).any (fun y=>y.f1==x.f1)then 8 else 0)else
   if(l0.take a1.toNat).any (fun y=>y.f1==x.f1)=false then 7 else
   if(l0.take a1.toNat).any (fun y=>y.f1==x.f1&&oh y)then 9 else
   if x.f0=3 then(if idx (oo.twice x.f3) (l0.take a1.toNat)≥0 then 8 else 0)else
   if x.f0=2 then(if x.f3.toList=[]then 0 else(if idx (ji.p x.f2 x.f3) l0<0 then 7 else 0))else 0)
  |none=>none)else none
theorem oo.calls(A0:Option Addr)(c0:Nat)(l0:List (aj))(a1:Int)(r:Int)(w:World)(hr0:Kd.C dw w A0 l0.length l0)(hc0:l0.length≤c0)(h:oo.f l0 a1=some r):
  Calls Tryz.prog 95 #[.slice A0 l0.length c0,.int .i64 a1] w fun e w'=>e=.returned (.int .i64 r)∧Below w.heap.size w w':=by
 unfold oo.f at h
 split at h
 case isFalse=>cases h
 rename_i ha
 obtain⟨i,rfl⟩:∃i:Nat,a1=i:=⟨a1.toNat,by omega⟩;rw[Int.toNat_natCast]at h
 rcases hi:l0[i]? with _|y
 ·rw[hi]at h;cases h
 rw[hi]at h;obtain⟨hlt,hyi⟩:=List.getElem?_eq_some_iff.1 hi;have hlen:l0.length≤9223372036854775807:=hr0.2.1;have HR:=af.mk hr0;have htk:(l0.take i).length=i:=by rw[List.length_take];omega
 have hrt:=Kd.GU (m:=i) hr0 (by omega);rw[htk]at hrt;obtain⟨ad,hA,hc0',hc1',hc2',Fx⟩:=pW hr0 hlt (Below.refl _ w)
 cases hA
 rw[hyi]at hc0' hc1' hc2' Fx;clear hyi hi;obtain⟨y0,y1,y2,y3⟩:=y;simp only at hc0' hc1' hc2' Fx h
 rcases hm:gW.f 4 y0 y1 y2 y3 with _|m
 ·rw[hm]at h;cases h
 rw[hm]at h;have HM:=af.mk hm;have hr':=Option.some.inj h;clear hm h;have HH:=af.mk hr';clear hr';obtain⟨any,hany⟩:∃b,b=(l0.take i).any (fun y=>y.f1==y1):=⟨_,rfl⟩;obtain⟨don,hdon⟩:∃b,b=(l0.take i).any (fun y=>y.f1==y1&&oh y):=⟨_,rfl⟩
 have hO:∀W,Below w.heap.size w W→Calls Tryz.prog 96 #[.slice (some ad) i c0,.int .i64 y1] W fun e w'=>e=.returned (.tuple #[.bool any,.bool don])∧Below W.heap.size W w':=fun W hb=>by
  have:=jF.calls (some ad) c0 (l0.take i) y1 any don W (by rw[htk];exact Kd.dN hrt hb) (by omega) (by unfold jF.f;rw[← hany,← hdon]);rwa [htk]at this
 have HO:=af.mk hO;have HA:=af.mk (And.intro hany hdon);have bE:=bI w (.cells #[.int .i64 y0,.int .i64 y1,.string y2,.string y3] 67);have HE:=af.mk bE;have HT:=af.mk hrt;clear hrt hr0 hO hany hdon bE;have hli:(i:Int)≤c0:=by omega
 go_enter Tryz.func95,Tryz.ntmps95
 go_wp2_with fail
 go_region_with (go_at_call 96;refine(HO.out _ ?_).mono ?_;exact Below.drew (ax (Below.refl _ _) _);rintro e w1 ⟨rfl,hb1⟩)
 have bE1:=aK (show(w.alloc (.cells #[.int .i64 y0,.int .i64 y1,.string y2,.string y3] 67)).drew.heap[w.heap.size]? =_ from HE.out) hb1;have hB1:Below w.heap.size w w1:=(Below.drew (ax (Below.refl w.heap.size w) (.cells #[.int .i64 y0,.int .i64 y1,.string y2,.string y3] 67))).trans (hb1.mono (Below.drew (ax (Below.refl w.heap.size w) (.cells #[.int .i64 y0,.int .i64 y1,.string y2,.string y3] 67))).size);have q0:w1.cell? ⟨w.heap.size,0,none⟩=some (.int .i64 y0):=(ah bE1 0).trans rfl;have q1:w1.cell? ⟨w.heap.size,1,none⟩=some (.int .i64 y1):=(ah bE1 1).trans rfl;have q2:w1.cell? ⟨w.heap.size,2,none⟩=some (.string y2):=(ah bE1 2).trans rfl;have q3:w1.cell? ⟨w.heap.size,3,none⟩=some (.string y3):=(ah bE1 3).trans rfl;have H1:=af.mk (And.intro bE1 hB1);clear bE1 hB1 hb1 HE;have hmf:∀(fn:Fn) (first cap:Array Value) (w:World),(Instr.makeFunc fn first cap).run Tryz.prog w=.ok (.func fn first cap) w:=fun _ _ _ _=>rfl
 go_wp2_with fail
 refine(gW.calls 4 y0 y1 y2 y3 m _ HM.out).mono ?_;rintro e w2 ⟨rfl,hb2⟩;have bE2:=aK H1.out.1 hb2;have H2:=af.mk (And.intro bE2 (H1.out.2.trans (hb2.mono H1.out.2.size)));clear q0 q1 q2 q3 hb2 H1;have q0:w2.cell? ⟨w.heap.size,0,none⟩=some (.int .i64 y0):=(ah bE2 0).trans rfl;have q1:w2.cell? ⟨w.heap.size,1,none⟩=some (.int .i64 y1):=(ah bE2 1).trans rfl;have q2:w2.cell? ⟨w.heap.size,2,none⟩=some (.string y2):=(ah bE2 2).trans rfl;have q3:w2.cell? ⟨w.heap.size,3,none⟩=some (.string y3):=(ah bE2 3).trans rfl;clear bE2;have hr:=HH.out;rw[← HA.out.1,← HA.out.2]at hr;clear HH HO
 cases m
 ·rw[if_pos rfl]at hr;subst hr
  go_wp2_with fail
  go_ret
  exact⟨rfl,H2.out.2⟩
 rw[if_neg (by decide)]at hr
 by_cases c1:y0=1
 ·subst c1;rw[if_pos rfl]at hr
  cases any
  ·rw[if_neg (by decide)]at hr;subst hr
   go_wp2_with fail
   go_ret
   exact⟨rfl,H2.out.2⟩
  ·rw[if_pos rfl]at hr;subst hr
   go_wp2_with fail
   go_ret
   exact⟨rfl,H2.out.2⟩
 rw[if_neg c1]at hr;have n1:(y0==1)=false:=beq_eq_false_iff_ne.2 c1
 cases any
 ·rw[if_pos rfl]at hr;subst hr
  go_wp2_with fail
  go_ret
  exact⟨rfl,H2.out.2⟩
 rw[if_neg (by decide)]at hr
 cases don
 case true=>
  rw[if_pos rfl]at hr;subst hr
  go_wp2_with fail
  go_ret
  exact⟨rfl,H2.out.2⟩
 rw[if_neg (by decide)]at hr
 by_cases c3:y0=3
 ·subst c3;rw[if_pos rfl]at hr
  have HC:=YR 144 #[.pointer (some ⟨w.heap.size,0,none⟩)] oo.enter (some ad) c0 (l0.take i) (oo.twice y3) w w2 (by rw[htk];exact HT.out) (by omega)
   (fun W'=>Below w.heap.size w W'∧W'.heap[w.heap.size]? =some (.cells #[.int .i64 3,.int .i64 y1,.string y2,.string y3] 67 (0,0)))
   ⟨H2.out.2,H2.out.1⟩ (fun _ h=>h.1) (fun x W' h=>(oo.abb x ⟨3,y1,y2,y3⟩ w.heap.size W'.heap.size W' (Nat.le_refl _) h.2).mono (by
    rintro e w3 ⟨rfl,h1,h3⟩;exact⟨rfl,h.1.trans (h3.mono h.1.size),h1⟩))
  rw[htk]at HC;have HC':=af.mk HC;clear HC
  go_wp2_with fail
  refine HC'.out.mono ?_;rintro e w3 ⟨rfl,hb3,hE3⟩;have H3:=af.mk hb3;clear hb3 HC' q0 q1 q2 q3;have q0:w3.cell? ⟨w.heap.size,0,none⟩=some (.int .i64 3):=(ah hE3 0).trans rfl;have q2:w3.cell? ⟨w.heap.size,2,none⟩=some (.string y2):=(ah hE3 2).trans rfl;have q3:w3.cell? ⟨w.heap.size,3,none⟩=some (.string y3):=(ah hE3 3).trans rfl;clear hE3
  by_cases cc:idx (oo.twice y3) (l0.take i)≥0
  ·rw[if_pos cc]at hr;subst hr
   go_wp2_with fail
   go_ret
   exact⟨rfl,H3.out⟩
  ·rw[if_neg cc]at hr;subst hr
   go_wp2_with fail
   go_ret
   exact⟨rfl,H3.out⟩
 rw[if_neg c3]at hr;have n3:(y0==3)=false:=beq_eq_false_iff_ne.2 c3
 by_cases c2:y0=2
 ·subst c2;rw[if_pos rfl]at hr
  by_cases c4:y3.toList=[]
  ·rw[if_pos c4]at hr;have n4:(y3.toList != ([]:List UInt8))=false:=by simp[c4]
   subst hr
   go_wp2_with fail
   go_ret
   exact⟨rfl,H2.out.2⟩
  ·rw[if_neg c4]at hr;have n4:(y3.toList != ([]:List UInt8))=true:=bne_iff_ne.2 c4;have n5:y3.toList.isEmpty=false:=by simpa using c4
   go_wp2_with fail
   refine(ji.calls (some ad) c0 l0 y2 y3 _ _ (Kd.dN HR.out H2.out.2) hc0 rfl).mono ?_;rintro e w3 ⟨rfl,hb3⟩;have H3:=af.mk (H2.out.2.trans (hb3.mono H2.out.2.size));clear hb3 q0 q1 q2 q3
   by_cases cc:idx (ji.p y2 y3) l0<0
   ·rw[if_pos cc]at hr;subst hr
    go_wp2_with fail
    go_ret
    exact⟨rfl,H3.out⟩
   ·rw[if_neg cc]at hr;subst hr
    go_wp2_with fail
    go_ret
    exact⟨rfl,H3.out⟩
 rw[if_neg c2]at hr;have n2:(y0==2)=false:=beq_eq_false_iff_ne.2 c2;subst hr
 go_wp2_with fail
 go_ret
 exact⟨rfl,H2.out.2⟩
end
mutual
def jd.l0:Nat→List (aj)→Int→Int→Option (Int×Int)
 |0,_,_,_=>none
 |k+1,x0,pF,x15=>if x15<pF then((oo.f x0 x15).bind fun t151=>(if t151=0 then(jd.l0 k x0 pF (wrap64 (x15+1)))else(some (x15,t151))))else(jd.l1 k x0 x0 (x0.length:Int) 0)
def jd.l1:Nat→List (aj)→List (aj)→Int→Int→Option (Int×Int)
 |0,_,_,_,_=>none
 |k+1,x0,x26,x27,x28=>if x28<x27 then(if 0≤x28 then(if x28<(x26.length:Int)then((jF.f x0 ((ak x26 x28).f1)).bind fun bt154=>(if bt154.2=true then(jd.l1 k x0 x26 x27 (wrap64 (x28+1)))else(some ((x0.length:Int),9))))else(none))else(none))else(some ((x0.length:Int),0))
end
def jd.f(k:Nat)(l0:List (aj)):Option (Int×Int):=if(l0.length:Int)>256 then(some (0,4))else(jd.l0 k l0 (l0.length:Int) 0)
theorem jd.calls(k:Nat)(A0:Option Addr)(c0:Nat)(l0:List (aj))(r1:Int)(r2:Int)(w:World)(hr0:Kd.C dw w A0 l0.length l0)(hc0:l0.length≤c0)(h:jd.f k l0=some (r1,r2)):
  Calls Tryz.prog 43 #[.slice A0 l0.length c0] w fun e w'=>e=.returned (.tuple #[.int .i64 r1,.int .i64 r2])∧Below w.heap.size w w':=by
 have wN:=Tryz.underlying67;have cZ:=af.mk hr0;have gT:=af.mk hc0;clear hr0 hc0;have HB:=af.mk (Below.refl w.heap.size w);have H:(if(l0.length:Int)>256 then(some (0,4))else(jd.l0 k l0 (l0.length:Int) 0))=some (r1,r2):=h;clear h
 by_cases c2:(l0.length:Int)>256
 ·rw[if_pos c2]at H;have ig:decide (256<(l0.length:Int))=true:=decide_eq_true c2;have nJ:decide (256<l0.length)=true:=decide_eq_true (by omega);clear c2;simp only[Option.some.injEq,Prod.mk.injEq]at H;obtain⟨rfl,rfl⟩:=H
  go_enter Tryz.func43,Tryz.ntmps43
  go_wp2
  go_ret2
  exact⟨bS,ai⟩
 ·rw[if_neg c2]at H;have ig:decide (256<(l0.length:Int))=false:=decide_eq_false c2;have nJ:decide (256<l0.length)=false:=decide_eq_false (by omega);clear c2;have H':=af.mk H;clear H
  go_enter Tryz.func43,Tryz.ntmps43
  go_wp2
  go_loopg [15] k (fun kq v15 w'=>∃(zb:Int),v15=.int .i64 zb∧af (jd.l0 kq l0 (l0.length:Int) zb=some (r1,r2))∧af (kq≤k)∧af (Below w.heap.size w w'))
  case atStart=>exact⟨(0),dx,H',⟨Nat.le_refl _⟩,⟨ai⟩⟩
  case round=>
   clear H'
   try clear c2
   try clear ig
   try clear nJ
   try clear p2
   obtain⟨zb,rfl,HA,dD,HB⟩:=hrel
   cases gk with
   |zero=>exact absurd HA.out (by simp[jd.l0])
   |succ k1=>
    have H:=HA.out;clear HA;simp only[jd.l0]at H
    by_cases c3:zb<(l0.length:Int)
    ·rw[if_pos c3]at H;have fJ:decide (zb<(l0.length:Int))=true:=decide_eq_true c3;clear c3;replace H:=Option.bind_eq_some_iff.mp H;obtain⟨t151,oC,H⟩:=H;(try dsimp only at H);have A4:=af.mk oC;clear oC
     by_cases c5:t151=0
     ·rw[if_pos c5]at H;have jW:(t151==0)=true:=beq_iff_eq.mpr c5;have xS:(t151 != 0)=false:=bne_eq_false_iff_eq.mpr c5;clear c5;have H':=af.mk H;clear H
      go_wp2_with (first|((with_reducible refine bq (f:=95) rfl ?_);refine bC 20 Tryz.func95 #[.slice A0 l0.length c0,.int .i64 zb] rfl ?_;(with_reducible refine(oo.calls _ _ l0 zb t151 _ ?aQ ?aW A4.out).mono ?_);(case aQ=>exact jr cZ);(case aW=>exact gT.out);rintro e w6 ⟨rfl,hb⟩;refine⟨_,rfl,?_⟩;replace HB:=af.mk (av ai hb);(try clear hb);(try clear hb2);(try clear hk);(try clear hi)))
      go_roundg k1
      case measure=>have:=dD.out;omega
      case rel=>exact⟨(wrap64 (zb+1)),dx,H',⟨by have:=dD.out;omega⟩,⟨ai⟩⟩
     ·rw[if_neg c5]at H;have jW:(t151==0)=false:=beq_eq_false_iff_ne.mpr c5;have xS:(t151 != 0)=true:=bne_iff_ne.mpr c5;simp only[Option.some.injEq,Prod.mk.injEq]at H;obtain⟨rfl,rfl⟩:=H
      go_wp2_with (first|((with_reducible refine bq (f:=95) rfl ?_);refine bC 20 Tryz.func95 #[.slice A0 l0.length c0,.int .i64 zb] rfl ?_;(with_reducible refine(oo.calls _ _ l0 zb t151 _ ?aQ ?aW A4.out).mono ?_);(case aQ=>exact jr cZ);(case aW=>exact gT.out);rintro e w7 ⟨rfl,hb⟩;refine⟨_,rfl,?_⟩;replace HB:=af.mk (av ai hb);(try clear hb);(try clear hb2);(try clear hk);(try clear hi)))
      go_ret2
      exact⟨bS,ai⟩
    ·rw[if_neg c3]at H;have fJ:decide (zb<(l0.length:Int))=false:=decide_eq_false c3;clear c3;have H':=af.mk H;clear H
     go_wp2
     go_loopg [28] k1 (fun kq v28 w'=>∃(kz:Int),v28=.int .i64 kz∧af (jd.l1 kq l0 l0 (l0.length:Int) kz=some (r1,r2))∧af (kq≤k1)∧af (Below w.heap.size w w'))
     case atStart=>exact⟨(0),dx,H',⟨Nat.le_refl _⟩,⟨ai⟩⟩
     case round=>
      clear H'
      try clear c2
      try clear ig
      try clear nJ
      try clear p2
      try clear c3
      try clear fJ
      try clear c4
      try clear c5
      try clear jW
      try clear xS
      try clear p6
      try clear p2
      obtain⟨kz,rfl,HA,gK,HB⟩:=hrel
      cases gk with
      |zero=>exact absurd HA.out (by simp[jd.l1])
      |succ k2=>
       have H:=HA.out;clear HA;simp only[jd.l1]at H
       by_cases c8:kz<(l0.length:Int)
       ·rw[if_pos c8]at H;have jw:decide (kz<(l0.length:Int))=true:=decide_eq_true c8;clear c8
        by_cases c9:0≤kz
        ·rw[if_pos c9]at H;have Fg:decide (0≤kz)=true:=decide_eq_true c9;clear c9
         by_cases c10:kz<(l0.length:Int)
         ·rw[if_pos c10]at H;have xR:decide (kz<(l0.length:Int))=true:=decide_eq_true c10;clear c10;replace H:=Option.bind_eq_some_iff.mp H;obtain⟨⟨t154,t155⟩,Bu,H⟩:=H;(try dsimp only at H);have iF:=af.mk Bu;clear Bu
          by_cases c12:t155=true
          ·subst c12;rw[if_pos rfl]at H;have H':=af.mk H;clear H;have DX:0≤(kz:Int):=aG;have Ef:kz<(l0.length:Int):=aG;obtain⟨OC,e152,JC,JD,JE,JF⟩:=gL cZ.out kz DX Ef
           cases e152
           replace JC:=aM JC;replace JD:=aM JD;replace JE:=aM JE;replace JF:=aM JF;replace DX:=eq_true DX;replace Ef:=eq_true Ef
           go_wp2_with (first|((with_reducible refine bZ (N:=7) rfl ?_);refine dn 7 (cs:=#[.int .i64 0,.int .i64 0,.string (⟨#[]⟩:ByteArray),.string (⟨#[]⟩:ByteArray)]) (t:=67) ?_;intro Dw hg w13 aC hb;have CX:=af.mk (aC);have GW153:af (w.heap.size≤Dw):=aT hg;have GE153:af (w.heap.size≤Dw):=aT hg;replace HB:=af.mk (av ai hb);clear hb aC hg;obtain⟨Al,Am,Ao,Ap,AA,AB,AJ,AL⟩:=fB CX)|((with_reducible refine bq (f:=96) rfl ?_);refine bC 36 Tryz.func96 #[.slice (some OC) l0.length c0,.int .i64 ((ak l0 kz).f1)] rfl ?_;(with_reducible refine(jF.calls _ _ l0 ((ak l0 kz).f1) t154 true _ ?aQ ?aW iF.out).mono ?_);(case aQ=>exact nT cZ);(case aW=>exact gT.out);rintro e wX ⟨rfl,hb⟩;refine⟨_,rfl,?_⟩;replace CX:=af.mk (aK (g:=Dw) (o:=.cells #[.int .i64 ((ak l0 kz).f0),.int .i64 ((ak l0 kz).f1),.string ((ak l0 kz).f2),.string ((ak l0 kz).f3)] 67 (0,0)) (by exact rW CX.out) hb);replace HB:=af.mk (av ai hb);(try clear hb);(try clear hb2);(try clear hk);(try clear hi)))
           go_roundg k2
           case measure=>have:=dD.out;have:=gK.out;omega
           case rel=>exact⟨(wrap64 (kz+1)),dx,H',⟨by have:=dD.out;have:=gK.out;omega⟩,⟨ai⟩⟩
          ·replace c12:=Bool.eq_false_iff.mpr c12;subst c12;rw[if_neg (show ¬(false=true) by decide)]at H;simp only[Option.some.injEq,Prod.mk.injEq]at H;obtain⟨rfl,rfl⟩:=H;have DX:0≤(kz:Int):=aG;have Ef:kz<(l0.length:Int):=aG;obtain⟨OC,e152,JC,JD,JE,JF⟩:=gL cZ.out kz DX Ef
           cases e152
           replace JC:=aM JC;replace JD:=aM JD;replace JE:=aM JE;replace JF:=aM JF;replace DX:=eq_true DX;replace Ef:=eq_true Ef
           go_wp2_with (first|((with_reducible refine bZ (N:=7) rfl ?_);refine dn 7 (cs:=#[.int .i64 0,.int .i64 0,.string (⟨#[]⟩:ByteArray),.string (⟨#[]⟩:ByteArray)]) (t:=67) ?_;intro Dw hg w16 aC hb;have CX:=af.mk (aC);have GW153:af (w.heap.size≤Dw):=aT hg;have GE153:af (w.heap.size≤Dw):=aT hg;replace HB:=af.mk (av ai hb);clear hb aC hg;obtain⟨LV,LW,LX,LY,Mr,Ms,Mt,Mv⟩:=fB CX)|((with_reducible refine bq (f:=96) rfl ?_);refine bC 36 Tryz.func96 #[.slice (some OC) l0.length c0,.int .i64 ((ak l0 kz).f1)] rfl ?_;(with_reducible refine(jF.calls _ _ l0 ((ak l0 kz).f1) t154 false _ ?aQ ?aW iF.out).mono ?_);(case aQ=>exact nT cZ);(case aW=>exact gT.out);rintro e w18 ⟨rfl,hb⟩;refine⟨_,rfl,?_⟩;replace CX:=af.mk (aK (g:=Dw) (o:=.cells #[.int .i64 ((ak l0 kz).f0),.int .i64 ((ak l0 kz).f1),.string ((ak l0 kz).f2),.string ((ak l0 kz).f3)] 67 (0,0)) (by exact rW CX.out) hb);replace HB:=af.mk (av ai hb);(try clear hb);(try clear hb2);(try clear hk);(try clear hi)))
           go_ret2
           exact⟨bS,ai⟩
         ·rw[if_neg c10]at H;exact absurd H (by simp)
        ·rw[if_neg c9]at H;exact absurd H (by simp)
       ·rw[if_neg c8]at H;have jw:decide (kz<(l0.length:Int))=false:=decide_eq_false c8;clear c8;simp only[Option.some.injEq,Prod.mk.injEq]at H;obtain⟨rfl,rfl⟩:=H
        go_wp2
        go_ret2
        exact⟨bS,ai⟩
end Go.Proofs.YtdcddenojjdmjaaGreatDoor.T
