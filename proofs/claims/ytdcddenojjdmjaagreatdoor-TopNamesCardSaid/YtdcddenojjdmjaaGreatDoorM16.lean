import Derived.Test.YtdcddenojjdmjaaGreatDoorM15
set_option linter.all false
set_option maxHeartbeats 8000000
set_option maxRecDepth 100000
namespace Go.Proofs.YtdcddenojjdmjaaGreatDoor.T
open Go.RowKit Go.Proofs.YtdcddenojjdmjaaGreatDoorW.PrintWords Go.Proofs.YtdcddenojjdmjaaGreatDoorW.PrintLast Go.Proofs.YtdcddenojjdmjaaGreatDoorW.PrintMore
attribute [local go_sem] kH kL kK kP kJ kN kI kM
section
attribute [local go_sem] Oper.semAt_some
def dP.one(key:ByteArray)(before:Int)(out:Int)(x:Nat×aj):Int:=if(x.1:Int)<before then(if x.2.f0=3 then(if x.2.f2.toList=key.toList then(x.1:Int)else out)else out)else out
def dP.all(key:ByteArray)(before:Int)(l:List (Nat×aj)):Int:=l.foldl (dP.one key before) (-1)
def dP.f(l0:List (aj))(a1:Int)(a2:ByteArray)(a3:Int):Option Int:=some (dP.all a2 a3 (evs l0 a1 l0.length))
theorem dP.snoc(key:ByteArray)(before:Int)(l:List (Nat×aj))(x:Nat×aj):dP.all key before (l++[x])=dP.one key before (dP.all key before l) x:=by simp[dP.all]
def dP.ev(x:aj):Array Value:=#[.int .i64 x.f0,.int .i64 x.f1,.string x.f2,.string x.f3]
def dP.I(w:World)(key:ByteArray)(before:Int)(pre:List (Nat×aj))(W:World):Prop:=
 (W.heap[w.heap.size]? =some (.cells #[.string key] 9 (0,0))∧W.heap[w.heap.size+1]? =some (.cells #[.int .i64 before] 3 (0,0))∧W.heap[w.heap.size+1+1]? =some (.cells #[.int .i64 (dP.all key before pre)] 3 (0,0)))∧Below w.heap.size w W∧w.heap.size+1+1+1+1<W.heap.size
theorem dP.hI(w W0:World)(key:ByteArray)(before:Int)(hW:Below w.heap.size w W0):OwnFrom W0.heap.size (dP.I w key before):=
 OwnFrom.and (OwnFrom.and (uz w.heap.size (fun _:List (Nat×aj)=>#[.string key]) _) (OwnFrom.and (uz (w.heap.size+1) (fun _:List (Nat×aj)=>#[.int .i64 before]) _) (uz (w.heap.size+1+1) (fun pre:List (Nat×aj)=>#[.int .i64 (dP.all key before pre)]) _))) (OwnFrom.and (ownFrom_below (Nat.le_refl _) hW.size) (fun _ _ _ _ hs hg _=>Nat.lt_of_lt_of_le hs hg.size))
def dP.Ax(w:World)(A0:Option Addr)(n c0:Nat)(a1:Int)(a2:ByteArray)(a3:Int)(x:Nat×aj)(a':Act)(W:World):Prop:=
 ∃Bx,w.heap.size+1+1+1+1<Bx∧W.heap[Bx]? =some (.cells (dP.ev x.2) 67 (0,0))∧a'= {tmps:=#[.slice A0 n c0,.int .i64 a1,.string a2,.int .i64 a3,undef,undef,.pointer (some ⟨w.heap.size,0,none⟩),.pointer (some ⟨w.heap.size+1,0,none⟩),.int .i64 0,.pointer (some ⟨w.heap.size+1+1,0,none⟩),.int .i64 (x.1:Int),.pointer (some ⟨Bx,0,none⟩),.slice A0 n c0,.int .i64 a1,
  .func (.func 187) #[] #[.pointer (some ⟨w.heap.size+1+1+1,0,none⟩),.pointer (some ⟨w.heap.size+1+1+1+1,0,none⟩)],.int .i64 (x.1:Int),.agg (dP.ev x.2),undef,undef,undef,undef,undef,undef,undef,undef,undef,undef,undef,undef,undef,undef,undef,undef],defers:=[]}
theorem dP.hAx(w:World)(A0:Option Addr)(n c0:Nat)(a1:Int)(a2:ByteArray)(a3:Int)(B:Nat)(x:Nat×aj)(a':Act):OwnFrom B (fun(_:Unit) W=>dP.Ax w A0 n c0 a1 a2 a3 x a' W):=fun s X Y row hs hg hr=>by
 obtain⟨Bx,h1,h2,h3⟩:=hs;exact⟨Bx,h1,uz (β:=Unit) Bx (fun _=>dP.ev x.2) _ () X Y row h2 hg hr,h3⟩
theorem dP.calls(A0:Option Addr)(c0:Nat)(l0:List (aj))(a1:Int)(a2:ByteArray)(a3:Int)(r:Int)(w:World)(hr0:Kd.C dw w A0 l0.length l0)(hc0:l0.length≤c0)(h:dP.f l0 a1 a2 a3=some r):
  Calls Tryz.prog 189 #[.slice A0 l0.length c0,.int .i64 a1,.string a2,.int .i64 a3] w fun e w'=>e=.returned (.int .i64 r)∧Below w.heap.size w w':=by
 have hh:dP.all a2 a3 (evs l0 a1 l0.length)=r:=Option.some.inj h;clear h;refine(callsIn_wide (n:=8)).1 ?_;refine callsIn_of_wp_marks Tryz.func189 rfl trivial ?_ rfl;simp only[Tryz.ntmps189,List.size_toArray,List.length_cons,List.length_nil,Nat.reduceAdd,Nat.reduceSub,Array.replicate_succ,Array.replicate_zero,List.push_toArray,List.append_toArray,List.nil_append,List.cons_append]
 gi_wp2_with (refine⟨trivial,?_⟩;gi_at_call 146;refine(callsIn_wide.2 (QW _ _ _ _ _)).mono ?_;rintro e w' ⟨rfl,rfl⟩)
 have k0:=ay (ay (ay (ay (bI w (.cells #[.string a2] 9)) (.cells #[.int .i64 a3] 3)) (.cells #[.int .i64 (-1)] 3)) (.cells #[.slice A0 l0.length c0] 22)) (.cells #[.int .i64 a1] 3);have k1:=bI (w.alloc (.cells #[.string a2] 9)) (.cells #[.int .i64 a3] 3);have k2:=bI ((w.alloc (.cells #[.string a2] 9)).alloc (.cells #[.int .i64 a3] 3)) (.cells #[.int .i64 (-1)] 3);have k3:=bI (((w.alloc (.cells #[.string a2] 9)).alloc (.cells #[.int .i64 a3] 3)).alloc (.cells #[.int .i64 (-1)] 3)) (.cells #[.slice A0 l0.length c0] 22);have k4:=bI ((((w.alloc (.cells #[.string a2] 9)).alloc (.cells #[.int .i64 a3] 3)).alloc (.cells #[.int .i64 (-1)] 3)).alloc (.cells #[.slice A0 l0.length c0] 22)) (.cells #[.int .i64 a1] 3);simp only[World.size_alloc]at k1 k2 k3 k4;have m1:=ay (ay (ay k1 (.cells #[.int .i64 (-1)] 3)) (.cells #[.slice A0 l0.length c0] 22)) (.cells #[.int .i64 a1] 3);have m2:=ay (ay k2 (.cells #[.slice A0 l0.length c0] 22)) (.cells #[.int .i64 a1] 3);have m3:=ay k3 (.cells #[.int .i64 a1] 3);have HK:=af.mk (And.intro k0 (And.intro m1 (And.intro m2 (And.intro m3 k4))));have hB0:Below w.heap.size w (((((w.alloc (.cells #[.string a2] 9)).alloc (.cells #[.int .i64 a3] 3)).alloc (.cells #[.int .i64 (-1)] 3)).alloc (.cells #[.slice A0 l0.length c0] 22)).alloc (.cells #[.int .i64 a1] 3)):=ax (ax (ax (ax (ax (Below.refl _ _) _) _) _) _) _;have hsz:(((((w.alloc (.cells #[.string a2] 9)).alloc (.cells #[.int .i64 a3] 3)).alloc (.cells #[.int .i64 (-1)] 3)).alloc (.cells #[.slice A0 l0.length c0] 22)).alloc (.cells #[.int .i64 a1] 3)).heap.size=w.heap.size+1+1+1+1+1:=by simp
 clear k0 k1 k2 k3 k4 m1 m2 m3;revert HK hB0 hsz;generalize (((((w.alloc (.cells #[.string a2] 9)).alloc (.cells #[.int .i64 a3] 3)).alloc (.cells #[.int .i64 (-1)] 3)).alloc (.cells #[.slice A0 l0.length c0] 22)).alloc (.cells #[.int .i64 a1] 3))=W0;intro HK hB0 hsz
 refine wpIn_rangeFunc_ownH (F:=Fence.wide) rfl (by omega) (gf:=187) (lb:=#[.pointer (some ⟨w.heap.size+1+1+1,0,none⟩),.pointer (some ⟨w.heap.size+1+1+1+1,0,none⟩)]) rfl trivial (mO Tryz.func187 (by kernel_rfl) rfl)
  (QY 7 (by omega) (w.heap.size+1+1+1) (w.heap.size+1+1+1+1) A0 c0 l0 a1 w W0 hr0 hc0 hB0 HK.out.2.2.2.1 HK.out.2.2.2.2) Na (M9 hB0.size) (Below.refl _ _) (fun _=>rfl)
  (dP.I w a2 a3) (fun _ _ _=>False) (dP.hI w W0 a2 a3 hB0) (fun _ _ _ _ _ hs _ _=>hs) ⟨⟨HK.out.1,HK.out.2.1,HK.out.2.2.1⟩,hB0,by omega⟩ (dP.Ax w A0 l0.length c0 a1 a2 a3) (dP.hAx w A0 l0.length c0 a1 a2 a3 _) ?assign ?body ?done ?stop
 case assign=>
  rintro l pre ⟨i,x0,x1,x2,x3⟩ W K hi hK;obtain⟨⟨hi1,hi2,hi3⟩,hi4,hi5⟩:=hi
  gi_wp2
  exact hK _ _ ((KeepsOthers.alloc _ _).from _) ⟨(Below.refl _ W).alloc hi4.size _,fun cs t e=>ay e _⟩ ⟨⟨ay hi1 _,ay hi2 _,ay hi3 _⟩,ax hi4 _,by simp;omega⟩ ⟨W.heap.size,hi5,bI W _,rfl⟩
 case body=>
  rintro l pre ⟨i,x0,x1,x2,x3⟩ a' W hl ⟨r,hr⟩ ⟨⟨bK,bB,bO⟩,hB,hB4⟩ ⟨Bx,hBx,kX,rfl⟩ hlt;have cB:W.cell? ⟨w.heap.size+1,0,none⟩=some (.int .i64 a3):=(ah bB 0).trans rfl;have cK:W.cell? ⟨w.heap.size,0,none⟩=some (.string a2):=(ah bK 0).trans rfl;have cO:W.cell? ⟨w.heap.size+1+1,0,none⟩=some (.int .i64 (dP.all a2 a3 pre)):=(ah bO 0).trans rfl;have fO:=aA bO 0;have x0':W.cell? ⟨Bx,0,none⟩=some (.int .i64 x0):=(ah kX 0).trans rfl;have x2':W.cell? ⟨Bx,2,none⟩=some (.string x2):=(ah kX 2).trans rfl;have hE:=dP.snoc a2 a3 pre (i,⟨x0,x1,x2,x3⟩);have HI:=af.mk (And.intro bK (And.intro bB bO));have hno:dP.one a2 a3 (dP.all a2 a3 pre) (i,⟨x0,x1,x2,x3⟩)=dP.all a2 a3 pre→dP.I w a2 a3 (pre++[(i,⟨x0,x1,x2,x3⟩)]) W:=fun e=>⟨⟨HI.out.1,HI.out.2.1,by rw[hE,e];exact HI.out.2.2⟩,hB,hB4⟩
  have HN:=af.mk hno;have HE:=af.mk hE;clear bK bB bO hno hE
  by_cases c1:(i:Int)<a3
  ·by_cases c2:x0=3
   ·subst c2
    by_cases c3:x2.toList=a2.toList
    ·have q3:(x2.toList==a2.toList)=true:=beq_iff_eq.2 c3;have e:dP.one a2 a3 (dP.all a2 a3 pre) (i,⟨3,x1,x2,x3⟩)=i:=by unfold dP.one;rw[if_pos c1,if_pos rfl,if_pos c3]
     gi_wp2
     refine⟨(KeepsOthers.setCell _ _ _).from _,⟨(Below.refl _ W).setCell (p:=⟨w.heap.size+1+1,0,none⟩) (by show w.heap.size≤w.heap.size+1+1;omega) _,fun cs t e=>(iV (by omega) _).trans e⟩,
      ⟨⟨(iV (by omega) _).trans HI.out.1,(iV (by omega) _).trans HI.out.2.1,(dS HI.out.2.2 _).trans (by rw[HE.out,e];rfl)⟩,hB.setCell (p:=⟨w.heap.size+1+1,0,none⟩) (by show w.heap.size≤w.heap.size+1+1;omega) _,by simpa [World.setCell]using hB4⟩⟩
    ·have q3:(x2.toList==a2.toList)=false:=beq_eq_false_iff_ne.2 c3
     gi_wp2
     exact⟨(KeepsOthers.refl _).from _,⟨Below.refl _ _,fun _ _ e=>e⟩,HN.out (by unfold dP.one;rw[if_pos c1,if_pos rfl,if_neg c3])⟩
   ·have q2:(x0==3)=false:=beq_eq_false_iff_ne.2 c2
    gi_wp2
    exact⟨(KeepsOthers.refl _).from _,⟨Below.refl _ _,fun _ _ e=>e⟩,HN.out (by unfold dP.one;rw[if_pos c1,if_neg c2])⟩
  ·have e:=HN.out (by unfold dP.one;rw[if_neg c1])
   gi_wp2
   exact⟨(KeepsOthers.refl _).from _,⟨Below.refl _ _,fun _ _ e=>e⟩,e⟩
 case done=>
  rintro D ys W hD rfl ⟨⟨bK,bB,bO⟩,hB,hB4⟩ hK;have cO:W.cell? ⟨w.heap.size+1+1,0,none⟩=some (.int .i64 r):=(ah bO 0).trans (by rw[hh];rfl)
  gi_wp2
  refine⟨by simp,.inl ⟨_,_,rfl,run_takeDeferred hK,?_⟩⟩;exact⟨_,results_tmp rfl _ _ _,rfl,hB.trans (belowK_b (w:=w) (Nat.le_refl _) W D _ _ (by omega) hK rfl rfl)⟩
 case stop=>
  rintro D c pre W _ _ h _;exact h.elim
end
def Bg.f(l0:List (aj))(a1:Int)(a2:Int):Option (Int×Int×Int):=if 0≤a1 then(if a1<(l0.length:Int)then(if 0≤a2 then(if a2<(l0.length:Int)then(if((ak l0 a1).f3).toList=((ak l0 a2).f3).toList then(some (0,0,0))else(some (3,a1,a2)))else(none))else(none))else(none))else(none)
theorem Bg.calls(A0:Option Addr)(c0:Nat)(l0:List (aj))(a1:Int)(a2:Int)(r1:Int)(r2:Int)(r3:Int)(w:World)(hr0:Kd.C dw w A0 l0.length l0)(hc0:l0.length≤c0)(h:Bg.f l0 a1 a2=some (r1,r2,r3)):
  Calls Tryz.prog 190 #[.slice A0 l0.length c0,.int .i64 a1,.int .i64 a2] w fun e w'=>e=.returned (.agg #[.int .i64 r1,.int .i64 r2,.int .i64 r3])∧Below w.heap.size w w':=by
 have hu29:=Tryz.underlying29;have cZ:=af.mk hr0;have gT:=af.mk hc0;clear hr0 hc0;have HB:=af.mk (Below.refl w.heap.size w);have H:(if 0≤a1 then(if a1<(l0.length:Int)then(if 0≤a2 then(if a2<(l0.length:Int)then(if((ak l0 a1).f3).toList=((ak l0 a2).f3).toList then(some (0,0,0))else(some (3,a1,a2)))else(none))else(none))else(none))else(none))=some (r1,r2,r3):=h;clear h
 by_cases c4:0≤a1
 ·rw[if_pos c4]at H;have iH:decide (0≤a1)=true:=decide_eq_true c4;clear c4
  by_cases c5:a1<(l0.length:Int)
  ·rw[if_pos c5]at H;have jW:decide (a1<(l0.length:Int))=true:=decide_eq_true c5;clear c5
   by_cases c6:0≤a2
   ·rw[if_pos c6]at H;have jv:decide (0≤a2)=true:=decide_eq_true c6;clear c6
    by_cases c7:a2<(l0.length:Int)
    ·rw[if_pos c7]at H;have kF:decide (a2<(l0.length:Int))=true:=decide_eq_true c7;clear c7
     by_cases c8:((ak l0 a1).f3).toList=((ak l0 a2).f3).toList
     ·rw[if_pos c8]at H;have jw:(((ak l0 a1).f3).toList==((ak l0 a2).f3).toList)=true:=beq_iff_eq.mpr c8;have sH:(((ak l0 a1).f3).toList != ((ak l0 a2).f3).toList)=false:=bne_eq_false_iff_eq.mpr c8;clear c8;simp only[Option.some.injEq,Prod.mk.injEq]at H;obtain⟨rfl,rfl,rfl⟩:=H
      go_enter Tryz.func190,Tryz.ntmps190
      go_wp2_with (first|((with_reducible refine bZ (N:=6) rfl ?_);refine dn 6 (cs:=#[.int .i64 0,.int .i64 0,.int .i64 0]) (t:=29) ?_;intro oW hg w9 aC hb;have uO:=af.mk (aC);have GZ:af (w.heap.size≤oW):=aT hg;have GX:af (w.heap.size≤oW):=aT hg;replace HB:=af.mk (av ai hb);clear hb aC hg;have mY:0≤(a1:Int):=aG;have nk:a1<(l0.length:Int):=aG;obtain⟨xM,e165,qN,qO,qP,qQ⟩:=gL cZ.out a1 mY nk;cases e165;replace qN:=aM qN;replace qO:=aM qO;replace qP:=aM qP;replace qQ:=aM qQ;replace mY:=eq_true mY;replace nk:=eq_true nk;have mZ:0≤(a2:Int):=aG;have nu:a2<(l0.length:Int):=aG;obtain⟨xN,e166,qR,qU,qV,qW⟩:=gL cZ.out a2 mZ nu;obtain rfl:xM=xN:=(by injection e166);replace qR:=aM qR;replace qU:=aM qU;replace qV:=aM qV;replace qW:=aM qW;replace mZ:=eq_true mZ;replace nu:=eq_true nu;obtain⟨wG,wH,wI,wJ,wK,wL⟩:=uK uO))
      repeat(go_quiet (first|((with_reducible refine bZ (N:=6) rfl ?_);refine dn 6 (cs:=#[.int .i64 0,.int .i64 0,.int .i64 0]) (t:=29) ?_;intro oW hg w9 aC hb;have uO:=af.mk (aC);have GZ:af (w.heap.size≤oW):=aT hg;have GX:af (w.heap.size≤oW):=aT hg;replace HB:=af.mk (av ai hb);clear hb aC hg;have mY:0≤(a1:Int):=aG;have nk:a1<(l0.length:Int):=aG;obtain⟨xM,e165,qN,qO,qP,qQ⟩:=gL cZ.out a1 mY nk;cases e165;replace qN:=aM qN;replace qO:=aM qO;replace qP:=aM qP;replace qQ:=aM qQ;replace mY:=eq_true mY;replace nk:=eq_true nk;have mZ:0≤(a2:Int):=aG;have nu:a2<(l0.length:Int):=aG;obtain⟨xN,e166,qR,qU,qV,qW⟩:=gL cZ.out a2 mZ nu;obtain rfl:xM=xN:=(by injection e166);replace qR:=aM qR;replace qU:=aM qU;replace qV:=aM qV;replace qW:=aM qW;replace mZ:=eq_true mZ;replace nu:=eq_true nu;obtain⟨wG,wH,wI,wJ,wK,wL⟩:=uK uO));try go_wp2_with (first|((with_reducible refine bZ (N:=6) rfl ?_);refine dn 6 (cs:=#[.int .i64 0,.int .i64 0,.int .i64 0]) (t:=29) ?_;intro oW hg w9 aC hb;have uO:=af.mk (aC);have GZ:af (w.heap.size≤oW):=aT hg;have GX:af (w.heap.size≤oW):=aT hg;replace HB:=af.mk (av ai hb);clear hb aC hg;have mY:0≤(a1:Int):=aG;have nk:a1<(l0.length:Int):=aG;obtain⟨xM,e165,qN,qO,qP,qQ⟩:=gL cZ.out a1 mY nk;cases e165;replace qN:=aM qN;replace qO:=aM qO;replace qP:=aM qP;replace qQ:=aM qQ;replace mY:=eq_true mY;replace nk:=eq_true nk;have mZ:0≤(a2:Int):=aG;have nu:a2<(l0.length:Int):=aG;obtain⟨xN,e166,qR,qU,qV,qW⟩:=gL cZ.out a2 mZ nu;obtain rfl:xM=xN:=(by injection e166);replace qR:=aM qR;replace qU:=aM qU;replace qV:=aM qV;replace qW:=aM qW;replace mZ:=eq_true mZ;replace nu:=eq_true nu;obtain⟨wG,wH,wI,wJ,wK,wL⟩:=uK uO)))
      refine bodyPost_ret (results_cell_row rfl _ _ oW 29 #[.int .i64 0,.int .i64 0,.int .i64 0] (0,0) _ rfl (by exact Br uO.out) Tryz.underlying29 rfl (by kernel_rfl)) rfl ?_;exact⟨bS,ai⟩
     ·rw[if_neg c8]at H;have jw:(((ak l0 a1).f3).toList==((ak l0 a2).f3).toList)=false:=beq_eq_false_iff_ne.mpr c8;have sH:(((ak l0 a1).f3).toList != ((ak l0 a2).f3).toList)=true:=bne_iff_ne.mpr c8;simp only[Option.some.injEq,Prod.mk.injEq]at H;obtain⟨rfl,rfl,rfl⟩:=H
      go_enter Tryz.func190,Tryz.ntmps190
      go_wp2_with (first|((with_reducible refine bZ (N:=6) rfl ?_);refine dn 6 (cs:=#[.int .i64 0,.int .i64 0,.int .i64 0]) (t:=29) ?_;intro oW hg y9 aC hb;have uO:=af.mk (aC);have GZ:af (w.heap.size≤oW):=aT hg;have GX:af (w.heap.size≤oW):=aT hg;replace HB:=af.mk (av ai hb);clear hb aC hg;have mY:0≤(a1:Int):=aG;have nk:a1<(l0.length:Int):=aG;obtain⟨xM,e165,qN,qO,qP,qQ⟩:=gL cZ.out a1 mY nk;cases e165;replace qN:=aM qN;replace qO:=aM qO;replace qP:=aM qP;replace qQ:=aM qQ;replace mY:=eq_true mY;replace nk:=eq_true nk;have mZ:0≤(a2:Int):=aG;have nu:a2<(l0.length:Int):=aG;obtain⟨xN,e166,qR,qU,qV,qW⟩:=gL cZ.out a2 mZ nu;obtain rfl:xM=xN:=(by injection e166);replace qR:=aM qR;replace qU:=aM qU;replace qV:=aM qV;replace qW:=aM qW;replace mZ:=eq_true mZ;replace nu:=eq_true nu;obtain⟨BS,BU,BV,BX,BZ,Cb⟩:=uK uO))
      repeat(go_quiet (first|((with_reducible refine bZ (N:=6) rfl ?_);refine dn 6 (cs:=#[.int .i64 0,.int .i64 0,.int .i64 0]) (t:=29) ?_;intro oW hg y9 aC hb;have uO:=af.mk (aC);have GZ:af (w.heap.size≤oW):=aT hg;have GX:af (w.heap.size≤oW):=aT hg;replace HB:=af.mk (av ai hb);clear hb aC hg;have mY:0≤(a1:Int):=aG;have nk:a1<(l0.length:Int):=aG;obtain⟨xM,e165,qN,qO,qP,qQ⟩:=gL cZ.out a1 mY nk;cases e165;replace qN:=aM qN;replace qO:=aM qO;replace qP:=aM qP;replace qQ:=aM qQ;replace mY:=eq_true mY;replace nk:=eq_true nk;have mZ:0≤(a2:Int):=aG;have nu:a2<(l0.length:Int):=aG;obtain⟨xN,e166,qR,qU,qV,qW⟩:=gL cZ.out a2 mZ nu;obtain rfl:xM=xN:=(by injection e166);replace qR:=aM qR;replace qU:=aM qU;replace qV:=aM qV;replace qW:=aM qW;replace mZ:=eq_true mZ;replace nu:=eq_true nu;obtain⟨BS,BU,BV,BX,BZ,Cb⟩:=uK uO));try go_wp2_with (first|((with_reducible refine bZ (N:=6) rfl ?_);refine dn 6 (cs:=#[.int .i64 0,.int .i64 0,.int .i64 0]) (t:=29) ?_;intro oW hg y9 aC hb;have uO:=af.mk (aC);have GZ:af (w.heap.size≤oW):=aT hg;have GX:af (w.heap.size≤oW):=aT hg;replace HB:=af.mk (av ai hb);clear hb aC hg;have mY:0≤(a1:Int):=aG;have nk:a1<(l0.length:Int):=aG;obtain⟨xM,e165,qN,qO,qP,qQ⟩:=gL cZ.out a1 mY nk;cases e165;replace qN:=aM qN;replace qO:=aM qO;replace qP:=aM qP;replace qQ:=aM qQ;replace mY:=eq_true mY;replace nk:=eq_true nk;have mZ:0≤(a2:Int):=aG;have nu:a2<(l0.length:Int):=aG;obtain⟨xN,e166,qR,qU,qV,qW⟩:=gL cZ.out a2 mZ nu;obtain rfl:xM=xN:=(by injection e166);replace qR:=aM qR;replace qU:=aM qU;replace qV:=aM qV;replace qW:=aM qW;replace mZ:=eq_true mZ;replace nu:=eq_true nu;obtain⟨BS,BU,BV,BX,BZ,Cb⟩:=uK uO)))
      refine bodyPost_ret (results_cell_row rfl _ _ oW 29 #[.int .i64 3,.int .i64 a1,.int .i64 a2] (0,0) _ rfl (by exact Br uO.out) Tryz.underlying29 rfl (by kernel_rfl)) rfl ?_;exact⟨bS,ai⟩
    ·rw[if_neg c7]at H;exact absurd H (by simp)
   ·rw[if_neg c6]at H;exact absurd H (by simp)
  ·rw[if_neg c5]at H;exact absurd H (by simp)
 ·rw[if_neg c4]at H;exact absurd H (by simp)
section
def kR.g(l0:List (aj))(a1:Int)(x:aj)(v:Int):Option (Int×Int×Int):=
 match l0[v.toNat]? with
 |none=>none
 |some y=>if y.f1=x.f1 then some (4,a1,v)else
  (iX.f l0 y.f1).bind fun t=>if t.2.2.2.1=false then some (1,a1,v)else
   if dP.all x.f2 t.2.2.1 (evs l0 t.1 l0.length)=v then some (0,0,0)else some (2,a1,dP.all x.f2 t.2.2.1 (evs l0 t.1 l0.length))
def kR.f(l0:List (aj))(a1:Int):Option (Int×Int×Int):=
 (uE.f l0 a1).bind fun c=>if c=false then some (0,0,0)else if 0≤a1 then(match l0[a1.toNat]? with
 |none=>none
 |some x=>if dP.all x.f2 a1 (evs l0 x.f1 l0.length)≥0 then Bg.f l0 a1 (dP.all x.f2 a1 (evs l0 x.f1 l0.length))else
  if x.f3.toList=[]then some (0,0,0)else if idx (ji.p x.f2 x.f3) l0<0 then some (0,0,0)else kR.g l0 a1 x (idx (ji.p x.f2 x.f3) l0))else none
theorem kR.res(tmps:Array Value)(b:Nat)(t i u:Int)(W:World)(hb:tmps.getD 4 undef=.pointer (some ⟨b,0,none⟩))(h:W.heap[b]? =some (.cells #[.int .i64 t,.int .i64 i,.int .i64 u] 29 (0,0))):
  (results Tryz.f148 tmps).run Tryz.prog W=.ok (.agg #[.int .i64 t,.int .i64 i,.int .i64 u]) W:=by
 have l0':W.cell? ⟨b,0,none⟩=some (.int .i64 t):=(ah h 0).trans rfl;have l1':W.cell? ⟨b,1,none⟩=some (.int .i64 i):=(ah h 1).trans rfl;have l2':W.cell? ⟨b,2,none⟩=some (.int .i64 u):=(ah h 2).trans rfl;unfold results;rw[show Tryz.f148.results= #[ResultVar.cell 4 29]from rfl];have hb':tmps[4]?.getD undef=.pointer (some ⟨b,0,none⟩):=by simpa using hb
 go_simp
theorem kR.calls(A0:Option Addr)(c0:Nat)(l0:List (aj))(a1:Int)(r1 r2 r3:Int)(w:World)(hr0:Kd.C dw w A0 l0.length l0)(hc0:l0.length≤c0)(h:kR.f l0 a1=some (r1,r2,r3)):
  Calls Tryz.prog 148 #[.slice A0 l0.length c0,.int .i64 a1] w fun e w'=>e=.returned (.agg #[.int .i64 r1,.int .i64 r2,.int .i64 r3])∧Below w.heap.size w w':=by
 have hlen:l0.length≤9223372036854775807:=hr0.2.1;have HR:=af.mk hr0;clear hr0;unfold kR.f at h
 rcases hm:uE.f l0 a1 with _|c
 ·rw[hm]at h;cases h
 rw[hm]at h;simp only[Option.bind_some]at h;have HM:=af.mk hm;have HF:=af.mk h;clear hm h;have HW:=af.mk (bI w (.cells #[.int .i64 0,.int .i64 0,.int .i64 0] 29));have HB:=af.mk (ax (Below.refl w.heap.size w) (.cells #[.int .i64 0,.int .i64 0,.int .i64 0] 29))
 go_enter Tryz.func148,Tryz.ntmps148
 go_wp2_with fail
 refine(uE.calls A0 c0 l0 a1 c _ (Kd.dN HR.out HB.out) hc0 HM.out).mono ?_;rintro e w1 ⟨rfl,hb1⟩;have H1:=af.mk (And.intro (aK HW.out hb1) (HB.out.trans (hb1.mono HB.out.size)));clear hb1 HW HB;have hz:=H1.out.1;have z0:w1.cell? ⟨w.heap.size,0,none⟩=some (.int .i64 0):=(ah hz 0).trans rfl;have z1:w1.cell? ⟨w.heap.size,1,none⟩=some (.int .i64 0):=(ah hz 1).trans rfl;have z2:w1.cell? ⟨w.heap.size,2,none⟩=some (.int .i64 0):=(ah hz 2).trans rfl;have zf0:=aA hz 0;have zf1:=aA hz 1;have zf2:=aA hz 2;clear hz;have hr:=HF.out
 cases c
 ·rw[if_pos rfl]at hr
  cases hr
  go_wp2_with fail
  exact bodyPost_ret (kR.res _ w.heap.size 0 0 0 _ (by rfl) (dS (dS (dS H1.out.1 (j:=0) (.int .i64 0)) (j:=1) (.int .i64 0)) (j:=2) (.int .i64 0))) rfl ⟨rfl,((H1.out.2.setCell (p:=⟨w.heap.size,0,none⟩) (Nat.le_refl _) (.int .i64 0)).setCell (p:=⟨w.heap.size,1,none⟩) (Nat.le_refl _) (.int .i64 0)).setCell (p:=⟨w.heap.size,2,none⟩) (Nat.le_refl _) (.int .i64 0)⟩
 rw[if_neg (by decide)]at hr
 split at hr
 case isFalse=>cases hr
 rename_i ha
 obtain⟨i,rfl⟩:∃i:Nat,a1=i:=⟨a1.toNat,by omega⟩;rw[Int.toNat_natCast]at hr
 rcases hi:l0[i]? with _|x
 ·rw[hi]at hr;cases hr
 rw[hi]at hr;obtain⟨hlt,hyi⟩:=List.getElem?_eq_some_iff.1 hi;obtain⟨ad,hA,hc0',hc1',hc2',Fx⟩:=pW HR.out hlt H1.out.2
 cases hA
 rw[hyi]at hc0' hc1' hc2' Fx;clear hyi hi;obtain⟨x0,x1,x2,x3⟩:=x;simp only at hc0' hc1' hc2' Fx hr;have HE:=af.mk hr;clear hr HF;have H2:=af.mk (And.intro (ay H1.out.1 (.cells #[.int .i64 x0,.int .i64 x1,.string x2,.string x3] 67)) (And.intro (bI w1 (.cells #[.int .i64 x0,.int .i64 x1,.string x2,.string x3] 67)) (ax H1.out.2 (.cells #[.int .i64 x0,.int .i64 x1,.string x2,.string x3] 67))))
 go_wp2_with fail
 obtain⟨k,hk⟩:∃k,k=dP.all x2 i (evs l0 x1 l0.length):=⟨_,rfl⟩;obtain⟨v,hv⟩:∃v,v=idx (ji.p x2 x3) l0:=⟨_,rfl⟩;have hr:=HE.out;rw[← hk,← hv]at hr;have HK:=af.mk hk;have HV:=af.mk hv;clear hk hv HE z0 z1 z2 zf0 zf1 zf2 hc0' hc1' hc2' Fx;refine(dP.calls (some ad) c0 l0 x1 x2 i k _ (Kd.dN HR.out H2.out.2.2) hc0 (congrArg some HK.out.symm)).mono ?_;rintro e w2 ⟨rfl,hb⟩;have H3:=af.mk (And.intro (aK H2.out.1 hb) (And.intro (aK H2.out.2.1 hb) (H2.out.2.2.trans (hb.mono H2.out.2.2.size))));clear hb;have hz:=H3.out.1;have he:=H3.out.2.1;have z0:w2.cell? ⟨w.heap.size,0,none⟩=some (.int .i64 0):=(ah hz 0).trans rfl;have z1:w2.cell? ⟨w.heap.size,1,none⟩=some (.int .i64 0):=(ah hz 1).trans rfl;have z2:w2.cell? ⟨w.heap.size,2,none⟩=some (.int .i64 0):=(ah hz 2).trans rfl;have zf0:=aA hz 0;have zf1:=aA hz 1;have zf2:=aA hz 2;have e0:w2.cell? ⟨w1.heap.size,0,none⟩=some (.int .i64 x0):=(ah he 0).trans rfl;have e1:w2.cell? ⟨w1.heap.size,1,none⟩=some (.int .i64 x1):=(ah he 1).trans rfl;have e2:w2.cell? ⟨w1.heap.size,2,none⟩=some (.string x2):=(ah he 2).trans rfl;have e3:w2.cell? ⟨w1.heap.size,3,none⟩=some (.string x3):=(ah he 3).trans rfl;clear hz he
 by_cases ck:k≥0
 ·rw[if_pos ck]at hr
  go_wp2_with fail
  refine(Bg.calls (some ad) c0 l0 i k r1 r2 r3 _ (Kd.dN HR.out H3.out.2.2) hc0 hr).mono ?_;rintro e w3 ⟨rfl,hb⟩;clear z0 z1 z2 zf0 zf1 zf2 e0 e1 e2 e3;have H4:=af.mk (And.intro (aK H3.out.1 hb) (And.intro (aK H3.out.2.1 hb) (H3.out.2.2.trans (hb.mono H3.out.2.2.size))));clear hb;have hz:=H4.out.1;have he:=H4.out.2.1;have z0:w3.cell? ⟨w.heap.size,0,none⟩=some (.int .i64 0):=(ah hz 0).trans rfl;have z1:w3.cell? ⟨w.heap.size,1,none⟩=some (.int .i64 0):=(ah hz 1).trans rfl;have z2:w3.cell? ⟨w.heap.size,2,none⟩=some (.int .i64 0):=(ah hz 2).trans rfl;have zf0:=aA hz 0;have zf1:=aA hz 1;have zf2:=aA hz 2;have e0:w3.cell? ⟨w1.heap.size,0,none⟩=some (.int .i64 x0):=(ah he 0).trans rfl;have e1:w3.cell? ⟨w1.heap.size,1,none⟩=some (.int .i64 x1):=(ah he 1).trans rfl;have e2:w3.cell? ⟨w1.heap.size,2,none⟩=some (.string x2):=(ah he 2).trans rfl;have e3:w3.cell? ⟨w1.heap.size,3,none⟩=some (.string x3):=(ah he 3).trans rfl;clear hz he
  go_wp2_with fail
  exact bodyPost_ret (kR.res _ w.heap.size r1 r2 r3 _ (by rfl) (dS (dS (dS H4.out.1 (j:=0) (.int .i64 r1)) (j:=1) (.int .i64 r2)) (j:=2) (.int .i64 r3))) rfl ⟨rfl,((H4.out.2.2.setCell (p:=⟨w.heap.size,0,none⟩) (Nat.le_refl _) (.int .i64 r1)).setCell (p:=⟨w.heap.size,1,none⟩) (Nat.le_refl _) (.int .i64 r2)).setCell (p:=⟨w.heap.size,2,none⟩) (Nat.le_refl _) (.int .i64 r3)⟩
 rw[if_neg ck]at hr
 go_wp2_with fail
 refine(ji.calls (some ad) c0 l0 x2 x3 v _ (Kd.dN HR.out H3.out.2.2) hc0 (congrArg some HV.out.symm)).mono ?_;rintro e w3 ⟨rfl,hb⟩;clear z0 z1 z2 zf0 zf1 zf2 e0 e1 e2 e3;have H4:=af.mk (And.intro (aK H3.out.1 hb) (And.intro (aK H3.out.2.1 hb) (H3.out.2.2.trans (hb.mono H3.out.2.2.size))));clear hb;have hz:=H4.out.1;have he:=H4.out.2.1;have z0:w3.cell? ⟨w.heap.size,0,none⟩=some (.int .i64 0):=(ah hz 0).trans rfl;have z1:w3.cell? ⟨w.heap.size,1,none⟩=some (.int .i64 0):=(ah hz 1).trans rfl;have z2:w3.cell? ⟨w.heap.size,2,none⟩=some (.int .i64 0):=(ah hz 2).trans rfl;have zf0:=aA hz 0;have zf1:=aA hz 1;have zf2:=aA hz 2;have e0:w3.cell? ⟨w1.heap.size,0,none⟩=some (.int .i64 x0):=(ah he 0).trans rfl;have e1:w3.cell? ⟨w1.heap.size,1,none⟩=some (.int .i64 x1):=(ah he 1).trans rfl;have e2:w3.cell? ⟨w1.heap.size,2,none⟩=some (.string x2):=(ah he 2).trans rfl;have e3:w3.cell? ⟨w1.heap.size,3,none⟩=some (.string x3):=(ah he 3).trans rfl;clear hz he
 by_cases c4:x3.toList=[]
 ·rw[if_pos c4]at hr;have n5:x3.toList.isEmpty=true:=by simpa using c4
  cases hr
  go_wp2_with fail
  exact bodyPost_ret (kR.res _ w.heap.size 0 0 0 _ (by rfl) (dS (dS (dS H4.out.1 (j:=0) (.int .i64 0)) (j:=1) (.int .i64 0)) (j:=2) (.int .i64 0))) rfl ⟨rfl,((H4.out.2.2.setCell (p:=⟨w.heap.size,0,none⟩) (Nat.le_refl _) (.int .i64 0)).setCell (p:=⟨w.heap.size,1,none⟩) (Nat.le_refl _) (.int .i64 0)).setCell (p:=⟨w.heap.size,2,none⟩) (Nat.le_refl _) (.int .i64 0)⟩
 rw[if_neg c4]at hr;have n5:x3.toList.isEmpty=false:=by simpa using c4
 by_cases cv:v<0
 ·rw[if_pos cv]at hr
  cases hr
  go_wp2_with fail
  exact bodyPost_ret (kR.res _ w.heap.size 0 0 0 _ (by rfl) (dS (dS (dS H4.out.1 (j:=0) (.int .i64 0)) (j:=1) (.int .i64 0)) (j:=2) (.int .i64 0))) rfl ⟨rfl,((H4.out.2.2.setCell (p:=⟨w.heap.size,0,none⟩) (Nat.le_refl _) (.int .i64 0)).setCell (p:=⟨w.heap.size,1,none⟩) (Nat.le_refl _) (.int .i64 0)).setCell (p:=⟨w.heap.size,2,none⟩) (Nat.le_refl _) (.int .i64 0)⟩
 rw[if_neg cv]at hr;clear HV;obtain⟨j,rfl⟩:∃j:Nat,v=j:=⟨v.toNat,by omega⟩;unfold kR.g at hr;rw[Int.toNat_natCast]at hr
 rcases hj:l0[j]? with _|y
 ·rw[hj]at hr;cases hr
 rw[hj]at hr;obtain⟨hjl,hyj⟩:=List.getElem?_eq_some_iff.1 hj;obtain⟨ad',hA,g0,g1,g2,g3⟩:=pW HR.out hjl H4.out.2.2
 cases hA
 rw[hyj]at g0 g1 g2 g3;clear hyj hj;obtain⟨y0,y1,y2,y3⟩:=y;simp only at g0 g1 g2 g3 hr;have HE:=af.mk hr;clear hr
 go_wp2_with fail
 go_region
 have hr:=HE.out;have HD:=af.mk (And.intro (show w3.drew.heap[w.heap.size]? =_ from H4.out.1) (And.intro (show w3.drew.heap[w1.heap.size]? =_ from H4.out.2.1) (Below.drew H4.out.2.2)));clear HE
 by_cases cy:y1=x1
 ·subst cy;rw[if_pos rfl]at hr
  cases hr
  go_wp2_with fail
  exact bodyPost_ret (kR.res _ w.heap.size 4 i j _ (by rfl) (dS (dS (dS HD.out.1 (j:=0) (.int .i64 4)) (j:=1) (.int .i64 i)) (j:=2) (.int .i64 j))) rfl ⟨rfl,((HD.out.2.2.setCell (p:=⟨w.heap.size,0,none⟩) (Nat.le_refl _) (.int .i64 4)).setCell (p:=⟨w.heap.size,1,none⟩) (Nat.le_refl _) (.int .i64 i)).setCell (p:=⟨w.heap.size,2,none⟩) (Nat.le_refl _) (.int .i64 j)⟩
 rw[if_neg cy]at hr;have ny:(y1==x1)=false:=beq_eq_false_iff_ne.2 cy
 rcases hm:iX.f l0 y1 with _|⟨t1,t2,t3,t4,t5⟩
 ·rw[hm]at hr;cases hr
 rw[hm]at hr;simp only[Option.bind_some]at hr;have HM2:=af.mk hm;have HE:=af.mk hr;clear hm hr
 go_wp2_with fail
 refine(iX.calls (some ad) c0 l0 y1 t1 t2 t3 t4 t5 _ (Kd.dN HR.out HD.out.2.2) hc0 HM2.out).mono ?_;rintro e w4 ⟨rfl,hb⟩;clear z0 z1 z2 zf0 zf1 zf2 e0 e1 e2 e3 g0 g1 g2 g3;have H5:=af.mk (And.intro (ay (aK HD.out.1 hb) (.cells #[.int .i64 t1,.int .i64 t2,.int .i64 t3,.bool t4] 198)) (And.intro (ay (aK HD.out.2.1 hb) (.cells #[.int .i64 t1,.int .i64 t2,.int .i64 t3,.bool t4] 198)) (ax (HD.out.2.2.trans (hb.mono HD.out.2.2.size)) (.cells #[.int .i64 t1,.int .i64 t2,.int .i64 t3,.bool t4] 198))));clear hb;have hz:=H5.out.1;have he:=H5.out.2.1;have z0:(w4.alloc (.cells #[.int .i64 t1,.int .i64 t2,.int .i64 t3,.bool t4] 198)).cell? ⟨w.heap.size,0,none⟩=some (.int .i64 0):=(ah hz 0).trans rfl;have z1:(w4.alloc (.cells #[.int .i64 t1,.int .i64 t2,.int .i64 t3,.bool t4] 198)).cell? ⟨w.heap.size,1,none⟩=some (.int .i64 0):=(ah hz 1).trans rfl;have z2:(w4.alloc (.cells #[.int .i64 t1,.int .i64 t2,.int .i64 t3,.bool t4] 198)).cell? ⟨w.heap.size,2,none⟩=some (.int .i64 0):=(ah hz 2).trans rfl;have zf0:=aA hz 0;have zf1:=aA hz 1;have zf2:=aA hz 2;have e0:(w4.alloc (.cells #[.int .i64 t1,.int .i64 t2,.int .i64 t3,.bool t4] 198)).cell? ⟨w1.heap.size,0,none⟩=some (.int .i64 x0):=(ah he 0).trans rfl;have e1:(w4.alloc (.cells #[.int .i64 t1,.int .i64 t2,.int .i64 t3,.bool t4] 198)).cell? ⟨w1.heap.size,1,none⟩=some (.int .i64 x1):=(ah he 1).trans rfl;have e2:(w4.alloc (.cells #[.int .i64 t1,.int .i64 t2,.int .i64 t3,.bool t4] 198)).cell? ⟨w1.heap.size,2,none⟩=some (.string x2):=(ah he 2).trans rfl;have e3:(w4.alloc (.cells #[.int .i64 t1,.int .i64 t2,.int .i64 t3,.bool t4] 198)).cell? ⟨w1.heap.size,3,none⟩=some (.string x3):=(ah he 3).trans rfl;clear hz he;have hr:=HE.out;clear HE
 cases t4
 ·rw[if_pos rfl]at hr
  cases hr
  go_wp2_with fail
  exact bodyPost_ret (kR.res _ w.heap.size 1 i j _ (by rfl) (dS (dS (dS H5.out.1 (j:=0) (.int .i64 1)) (j:=1) (.int .i64 i)) (j:=2) (.int .i64 j))) rfl ⟨rfl,((H5.out.2.2.setCell (p:=⟨w.heap.size,0,none⟩) (Nat.le_refl _) (.int .i64 1)).setCell (p:=⟨w.heap.size,1,none⟩) (Nat.le_refl _) (.int .i64 i)).setCell (p:=⟨w.heap.size,2,none⟩) (Nat.le_refl _) (.int .i64 j)⟩
 rw[if_neg (by decide)]at hr;obtain⟨m,hm⟩:∃m,m=dP.all x2 t3 (evs l0 t1 l0.length):=⟨_,rfl⟩;rw[← hm]at hr;have HQ:=af.mk hm;clear hm
 go_wp2_with fail
 refine(dP.calls (some ad) c0 l0 t1 x2 t3 m _ (Kd.dN HR.out H5.out.2.2) hc0 (congrArg some HQ.out.symm)).mono ?_;rintro e w5 ⟨rfl,hb⟩;clear z0 z1 z2 zf0 zf1 zf2 e0 e1 e2 e3;have H6:=af.mk (And.intro (aK H5.out.1 hb) (And.intro (aK H5.out.2.1 hb) (H5.out.2.2.trans (hb.mono H5.out.2.2.size))));clear hb;have hz:=H6.out.1;have he:=H6.out.2.1;have z0:w5.cell? ⟨w.heap.size,0,none⟩=some (.int .i64 0):=(ah hz 0).trans rfl;have z1:w5.cell? ⟨w.heap.size,1,none⟩=some (.int .i64 0):=(ah hz 1).trans rfl;have z2:w5.cell? ⟨w.heap.size,2,none⟩=some (.int .i64 0):=(ah hz 2).trans rfl;have zf0:=aA hz 0;have zf1:=aA hz 1;have zf2:=aA hz 2;have e0:w5.cell? ⟨w1.heap.size,0,none⟩=some (.int .i64 x0):=(ah he 0).trans rfl;have e1:w5.cell? ⟨w1.heap.size,1,none⟩=some (.int .i64 x1):=(ah he 1).trans rfl;have e2:w5.cell? ⟨w1.heap.size,2,none⟩=some (.string x2):=(ah he 2).trans rfl;have e3:w5.cell? ⟨w1.heap.size,3,none⟩=some (.string x3):=(ah he 3).trans rfl;clear hz he
 by_cases cm:m=j
 ·rw[if_pos cm]at hr;have n6:(m != (j:Int))=false:=by simp[cm]
  have n7:(m==(j:Int))=true:=by simp[cm]
  cases hr
  go_wp2_with fail
  exact bodyPost_ret (kR.res _ w.heap.size 0 0 0 _ (by rfl) (dS (dS (dS H6.out.1 (j:=0) (.int .i64 0)) (j:=1) (.int .i64 0)) (j:=2) (.int .i64 0))) rfl ⟨rfl,((H6.out.2.2.setCell (p:=⟨w.heap.size,0,none⟩) (Nat.le_refl _) (.int .i64 0)).setCell (p:=⟨w.heap.size,1,none⟩) (Nat.le_refl _) (.int .i64 0)).setCell (p:=⟨w.heap.size,2,none⟩) (Nat.le_refl _) (.int .i64 0)⟩
 rw[if_neg cm]at hr;have n6:(m != (j:Int))=true:=by simp[cm]
 have n7:(m==(j:Int))=false:=by simp[cm]
 cases hr
 go_wp2_with fail
 exact bodyPost_ret (kR.res _ w.heap.size 2 i r3 _ (by rfl) (dS (dS (dS H6.out.1 (j:=0) (.int .i64 2)) (j:=1) (.int .i64 i)) (j:=2) (.int .i64 r3))) rfl ⟨rfl,((H6.out.2.2.setCell (p:=⟨w.heap.size,0,none⟩) (Nat.le_refl _) (.int .i64 2)).setCell (p:=⟨w.heap.size,1,none⟩) (Nat.le_refl _) (.int .i64 i)).setCell (p:=⟨w.heap.size,2,none⟩) (Nat.le_refl _) (.int .i64 r3)⟩
end
end Go.Proofs.YtdcddenojjdmjaaGreatDoor.T
