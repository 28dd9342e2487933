import Derived.Test.YtdcddenojjdmjaaGreatDoorM14
set_option linter.all false
set_option maxHeartbeats 8000000
set_option maxRecDepth 100000
namespace Go.Proofs.YtdcddenojjdmjaaGreatDoor.T
open Go.RowKit Go.Proofs.YtdcddenojjdmjaaGreatDoorW.PrintWords Go.Proofs.YtdcddenojjdmjaaGreatDoorW.PrintLast Go.Proofs.YtdcddenojjdmjaaGreatDoorW.PrintMore
attribute [local go_sem] kH kL kK kP kJ kN kI kM
section
attribute [local go_sem] Oper.semAt_some
theorem scopeIn{n:Nat}{P:Program}{c:Code}{Q:Exit→Act→World→Prop}{a:Act}{w:World}(h:c.wpIn Fence.wide n P (Exit.noGoto Q) a w):(Code.scope c).wpIn Fence.wide n P Q a w:=wpIn_wide.2 (wp_scope_straight (wpIn_wide.1 h))
def eF.fin(l:List (Nat×aj)):Option (Nat×aj):=l.find? fun x=>oh x.2
def eF.f(l0:List (aj))(a1:Int):Option (Int×Int×Int×Bool):=
 if 0≤a1 then(match l0[a1.toNat]? with
  |some y=>some (y.f1,a1,(match eF.fin (evs l0 y.f1 l0.length)with|some x=>((x.1:Int),x.2.f0==4)|none=>((l0.length:Int),false)))
  |none=>none)else none
theorem Td(h:List aj)(gm:Int)(k:Nat):∀m,k+m≤h.length→∃r,evs h gm (k+m)=evs h gm k++r
 |0,_=>⟨[],(List.append_nil _).symm⟩
 |m+1,hm=>by
  obtain⟨r,hr⟩:=Td h gm k m (by omega);exact⟨_,by rw[← Nat.add_assoc,Ph h gm (k+m) (by omega),hr,List.append_assoc]⟩
theorem eF.fin_of{h:List aj}{gm:Int}{k:Nat}(hk:k≤h.length){x:Nat×aj}(e:eF.fin (evs h gm k)=some x):eF.fin (evs h gm h.length)=some x:=by
 obtain⟨r,hr⟩:=Td h gm k (h.length-k) (by omega);rw[show k+(h.length-k)=h.length by omega]at hr;unfold eF.fin at e ⊢;rw[hr,List.find?_append,e];rfl
def eF.ev(x:aj):Array Value:=#[.int .i64 x.f0,.int .i64 x.f1,.string x.f2,.string x.f3]
def eF.B(w:World)(t i u:Int)(c:Bool)(W:World):Prop:=
 (W.heap[w.heap.size]? =some (.cells #[.int .i64 0,.int .i64 0,.int .i64 0,.bool false] 198 (0,0))∧W.heap[w.heap.size+1]? =some (.cells #[.int .i64 t,.int .i64 i,.int .i64 u,.bool c] 198 (0,0)))∧Below w.heap.size w W∧w.heap.size+1+1+1<W.heap.size
theorem eF.hB(w W0:World)(t i u:Int)(c:Bool)(hW:Below w.heap.size w W0){β:Type}:OwnFrom W0.heap.size (fun(_:β)=>eF.B w t i u c):=
 OwnFrom.and (OwnFrom.and (uz w.heap.size (fun _=>#[.int .i64 0,.int .i64 0,.int .i64 0,.bool false]) _) (uz (w.heap.size+1) (fun _=>#[.int .i64 t,.int .i64 i,.int .i64 u,.bool c]) _)) (OwnFrom.and (ownFrom_below (Nat.le_refl _) hW.size) (fun _ _ _ _ hs hg _=>Nat.lt_of_lt_of_le hs hg.size))
def eF.I(w:World)(t i:Int)(n:Nat)(pre:List (Nat×aj))(W:World):Prop:=eF.fin pre=none∧eF.B w t i n false W
def eF.Ix(w:World)(t i:Int)(c:Code)(pre:List (Nat×aj))(W:World):Prop:=c=.exit 0∧∃x,eF.fin pre=some x∧eF.B w t i x.1 (x.2.f0==4) W
theorem eF.hI(w W0:World)(t i:Int)(n:Nat)(hW:Below w.heap.size w W0):OwnFrom W0.heap.size (eF.I w t i n):=fun s X Y row hs hg hr=>⟨hs.1,eF.hB w W0 t i n false hW (β:=Unit) () X Y row hs.2 hg hr⟩
theorem eF.hIx(w W0:World)(t i:Int)(hW:Below w.heap.size w W0)(c:Code):OwnFrom W0.heap.size (eF.Ix w t i c):=fun s X Y row hs hg hr=>by
 obtain⟨hc,x,h1,h2⟩:=hs;exact⟨hc,x,h1,eF.hB w W0 t i x.1 (x.2.f0==4) hW (β:=Unit) () X Y row h2 hg hr⟩
def eF.Ax(w:World)(ad:Addr)(n c0 i:Nat)(t:Int)(x:Nat×aj)(a':Act)(W:World):Prop:=
 ∃Bx,w.heap.size+1+1+1<Bx∧W.heap[Bx]? =some (.cells (eF.ev x.2) 67 (0,0))∧a'= {tmps:=#[.slice (some ad) n c0,.int .i64 (i:Int),undef,undef,.pointer (some ⟨w.heap.size,0,none⟩),.pointer (some ⟨w.heap.size+1,0,none⟩),.int .i64 (x.1:Int),.pointer (some ⟨Bx,0,none⟩),.slice (some ad) n c0,.int .i64 (i:Int),.pointer (some (ad.add (i*4))),.pointer (some ⟨(ad.add (i*4)).block,(ad.add (i*4)).off+1,none⟩),.int .i64 t,.int .i64 (i:Int),.slice (some ad) n c0,.int .i64 (n:Int),.agg #[.int .i64 t,.int .i64 (i:Int),.int .i64 (n:Int),.bool false],.slice (some ad) n c0,.pointer (some ⟨w.heap.size+1,0,none⟩),.int .i64 t,
  .func (.func 187) #[] #[.pointer (some ⟨w.heap.size+1+1,0,none⟩),.pointer (some ⟨w.heap.size+1+1+1,0,none⟩)],.int .i64 (x.1:Int),.agg (eF.ev x.2),undef,undef,undef,undef,undef,undef,undef,undef,undef],defers:=[]}
theorem eF.hAx(w:World)(ad:Addr)(n c0 i:Nat)(t:Int)(B:Nat)(x:Nat×aj)(a':Act):OwnFrom B (fun(_:Unit) W=>eF.Ax w ad n c0 i t x a' W):=fun s X Y row hs hg hr=>by
 obtain⟨Bx,h1,h2,h3⟩:=hs;exact⟨Bx,h1,uz (β:=Unit) Bx (fun _=>eF.ev x.2) _ () X Y row h2 hg hr,h3⟩
theorem eF.YU(pre:List (Nat×aj))(x:Nat×aj)(h:eF.fin pre=none):eF.fin (pre++[x])=if oh x.2 then some x else none:=by
 unfold eF.fin at h ⊢;rw[List.find?_append,h]
 cases c:oh x.2<;>simp[c]
theorem eF.res(tmps:Array Value)(b:Nat)(t i u:Int)(c:Bool)(W:World)(hb:tmps.getD 4 undef=.pointer (some ⟨b,0,none⟩))(h:W.heap[b]? =some (.cells #[.int .i64 t,.int .i64 i,.int .i64 u,.bool c] 198 (0,0))):
  (results Tryz.f158 tmps).run Tryz.prog W=.ok (.agg #[.int .i64 t,.int .i64 i,.int .i64 u,.bool c]) W:=by
 have l0':W.cell? ⟨b,0,none⟩=some (.int .i64 t):=(ah h 0).trans rfl;have l1':W.cell? ⟨b,1,none⟩=some (.int .i64 i):=(ah h 1).trans rfl;have l2':W.cell? ⟨b,2,none⟩=some (.int .i64 u):=(ah h 2).trans rfl;have l3':W.cell? ⟨b,3,none⟩=some (.bool c):=(ah h 3).trans rfl;unfold results;rw[show Tryz.f158.results= #[ResultVar.cell 4 198]from rfl];have hb':tmps[4]?.getD undef=.pointer (some ⟨b,0,none⟩):=by simpa using hb
 go_simp
theorem eF.calls(A0:Option Addr)(c0:Nat)(l0:List (aj))(a1:Int)(r1 r2 r3:Int)(r4:Bool)(w:World)(hr0:Kd.C dw w A0 l0.length l0)(hc0:l0.length≤c0)(h:eF.f l0 a1=some (r1,r2,r3,r4)):
  Calls Tryz.prog 158 #[.slice A0 l0.length c0,.int .i64 a1] w fun e w'=>e=.returned (.agg #[.int .i64 r1,.int .i64 r2,.int .i64 r3,.bool r4])∧Below w.heap.size w w':=by
 unfold eF.f at h
 split at h
 case isFalse=>cases h
 rename_i ha
 obtain⟨i,rfl⟩:∃i:Nat,a1=i:=⟨a1.toNat,by omega⟩;rw[Int.toNat_natCast]at h
 rcases hi:l0[i]? with _|y
 ·rw[hi]at h;cases h
 rw[hi]at h;obtain⟨hlt,hyi⟩:=List.getElem?_eq_some_iff.1 hi;have HH:=af.mk h;clear h hi;obtain⟨ad,hA,hc0',hc1',_,_⟩:=pW hr0 hlt (ax (Below.refl w.heap.size w) (.cells #[.int .i64 0,.int .i64 0,.int .i64 0,.bool false] 198))
 cases hA
 rw[hyi]at hc0' hc1';clear hyi;obtain⟨y0,y1,y2,y3⟩:=y;simp only at hc0' hc1';refine(callsIn_wide (n:=8)).1 ?_;refine callsIn_of_wp_marks Tryz.func158 rfl trivial ?_ rfl;simp only[Tryz.ntmps158,List.size_toArray,List.length_cons,List.length_nil,Nat.reduceAdd,Nat.reduceSub,Array.replicate_succ,Array.replicate_zero,List.push_toArray,List.append_toArray,List.nil_append,List.cons_append]
 gi_wp2
 refine scopeIn ?_
 gi_wp2
 refine wpIn_label ?_
 gi_wp2_with (refine⟨trivial,?_⟩;gi_at_call 146;refine(callsIn_wide.2 (QW _ _ _ _ _)).mono ?_;rintro e w' ⟨rfl,rfl⟩)
 have k0:=ay (ay (ay (bI w (.cells #[.int .i64 0,.int .i64 0,.int .i64 0,.bool false] 198)) (.cells #[.int .i64 y1,.int .i64 (i:Int),.int .i64 (l0.length:Int),.bool false] 198)) (.cells #[.slice (some ad) l0.length c0] 22)) (.cells #[.int .i64 y1] 3);have k1:=bI (w.alloc (.cells #[.int .i64 0,.int .i64 0,.int .i64 0,.bool false] 198)) (.cells #[.int .i64 y1,.int .i64 (i:Int),.int .i64 (l0.length:Int),.bool false] 198);have k2:=bI ((w.alloc (.cells #[.int .i64 0,.int .i64 0,.int .i64 0,.bool false] 198)).alloc (.cells #[.int .i64 y1,.int .i64 (i:Int),.int .i64 (l0.length:Int),.bool false] 198)) (.cells #[.slice (some ad) l0.length c0] 22);have k3:=bI (((w.alloc (.cells #[.int .i64 0,.int .i64 0,.int .i64 0,.bool false] 198)).alloc (.cells #[.int .i64 y1,.int .i64 (i:Int),.int .i64 (l0.length:Int),.bool false] 198)).alloc (.cells #[.slice (some ad) l0.length c0] 22)) (.cells #[.int .i64 y1] 3);simp only[World.size_alloc]at k1 k2 k3;have m1:=ay (ay k1 (.cells #[.slice (some ad) l0.length c0] 22)) (.cells #[.int .i64 y1] 3);have m2:=ay k2 (.cells #[.int .i64 y1] 3);have HK:=af.mk (And.intro k0 (And.intro m1 (And.intro m2 k3)));have hB0:Below w.heap.size w ((((w.alloc (.cells #[.int .i64 0,.int .i64 0,.int .i64 0,.bool false] 198)).alloc (.cells #[.int .i64 y1,.int .i64 (i:Int),.int .i64 (l0.length:Int),.bool false] 198)).alloc (.cells #[.slice (some ad) l0.length c0] 22)).alloc (.cells #[.int .i64 y1] 3)):=ax (ax (ax (ax (Below.refl _ _) _) _) _) _;have hsz:(((((w.alloc (.cells #[.int .i64 0,.int .i64 0,.int .i64 0,.bool false] 198)).alloc (.cells #[.int .i64 y1,.int .i64 (i:Int),.int .i64 (l0.length:Int),.bool false] 198)).alloc (.cells #[.slice (some ad) l0.length c0] 22)).alloc (.cells #[.int .i64 y1] 3))).heap.size=w.heap.size+1+1+1+1:=by simp
 clear k0 k1 k2 k3 m1 m2 hc0' hc1';revert HK hB0 hsz;generalize ((((w.alloc (.cells #[.int .i64 0,.int .i64 0,.int .i64 0,.bool false] 198)).alloc (.cells #[.int .i64 y1,.int .i64 (i:Int),.int .i64 (l0.length:Int),.bool false] 198)).alloc (.cells #[.slice (some ad) l0.length c0] 22)).alloc (.cells #[.int .i64 y1] 3))=W0;intro HK hB0 hsz
 refine wpIn_rangeFunc_ownH (F:=Fence.wide) rfl (by omega) (gf:=187) (lb:=#[.pointer (some ⟨w.heap.size+1+1,0,none⟩),.pointer (some ⟨w.heap.size+1+1+1,0,none⟩)]) rfl trivial (mO Tryz.func187 (by kernel_rfl) rfl)
  (QY 7 (by omega) (w.heap.size+1+1) (w.heap.size+1+1+1) (some ad) c0 l0 y1 w W0 hr0 hc0 hB0 HK.out.2.2.1 HK.out.2.2.2) Na (M9 hB0.size) (Below.refl _ _) (fun _=>rfl)
  (eF.I w y1 i l0.length) (eF.Ix w y1 i) (eF.hI w W0 y1 i l0.length hB0) (eF.hIx w W0 y1 i hB0) ⟨rfl,⟨HK.out.1,HK.out.2.1⟩,hB0,by omega⟩ (eF.Ax w ad l0.length c0 i y1) (eF.hAx w ad l0.length c0 i y1 _) ?assign ?body ?done ?stop
 case assign=>
  rintro l pre ⟨j,x0,x1,x2,x3⟩ W K hi hK;obtain⟨hf,⟨hi1,hi2⟩,hi4,hi5⟩:=hi
  gi_wp2
  exact hK _ _ ((KeepsOthers.alloc _ _).from _) ⟨(Below.refl _ W).alloc hi4.size _,fun cs t e=>ay e _⟩ ⟨hf,⟨ay hi1 _,ay hi2 _⟩,ax hi4 _,by simp;omega⟩ ⟨W.heap.size,hi5,bI W _,rfl⟩
 case body=>
  rintro l pre ⟨j,x0,x1,x2,x3⟩ a' W hl ⟨r,hr⟩ ⟨hf,⟨bR,bL⟩,hB,hB4⟩ ⟨Bx,hBx,kX,rfl⟩ hlt;have x0':W.cell? ⟨Bx,0,none⟩=some (.int .i64 x0):=(ah kX 0).trans rfl;have x1':W.cell? ⟨Bx,1,none⟩=some (.int .i64 x1):=(ah kX 1).trans rfl;have x2':W.cell? ⟨Bx,2,none⟩=some (.string x2):=(ah kX 2).trans rfl;have x3':W.cell? ⟨Bx,3,none⟩=some (.string x3):=(ah kX 3).trans rfl;have hS:=eF.YU pre (j,⟨x0,x1,x2,x3⟩) hf
  gi_wp2_with fail
  refine⟨trivial,?_⟩;refine(CallsIn.inRound l (callsIn_wide.2 (FH.calls x0 x1 x2 x3 (oh ⟨x0,x1,x2,x3⟩) _ (by unfold FH.f oh;by_cases c:x0=4<;>simp[c])))).mono ?_;rintro e w5 ⟨rfl,hb5⟩;have bR5:=aK bR hb5;have bL5:=aK bL hb5;have x05:w5.cell? ⟨Bx,0,none⟩=some (.int .i64 x0):=(ah (aK kX hb5) 0).trans rfl;have fL5:=aA bL5 2;have fL6:=aA bL5 3;have l25:w5.cell? ⟨w.heap.size+1,2,none⟩=some (.int .i64 (l0.length:Int)):=(ah bL5 2).trans rfl;have l35:w5.cell? ⟨w.heap.size+1,3,none⟩=some (.bool false):=(ah bL5 3).trans rfl
  by_cases q:oh ⟨x0,x1,x2,x3⟩=true
  ·rw[if_pos q]at hS;rw[q]
   have HX:∀a,ownPostG W0.heap.size (Kof w.heap.size (w.heap.size+1+1+1)) (eF.I w y1 i l0.length) (eF.Ix w y1 i) (pre++[(j,⟨x0,x1,x2,x3⟩)]) W (.exit 0) a ((w5.setCell ⟨w.heap.size+1,2,none⟩ (.int .i64 (j:Int))).setCell ⟨w.heap.size+1,3,none⟩ (.bool (x0==4))).drew:=fun a=>
    ⟨(KeepsFrom.of_grownBy (Dy hb5 none) (fun j e=>by cases e)).trans (((KeepsOthers.setCell _ _ _).trans ((KeepsOthers.setCell _ _ _).trans (KeepsOthers.drew _))).from _),
     rfl,_,hS,⟨(iV (by omega) _).trans ((iV (by omega) _).trans bR5),(dS (dS bL5 _) _).trans (by simp)⟩,
     Below.drew (((hB.trans (hb5.mono hB.size)).setCell (p:=⟨w.heap.size+1,2,none⟩) (Nat.le_succ _) _).setCell (p:=⟨w.heap.size+1,3,none⟩) (Nat.le_succ _) _),by have:=hb5.size;simp[World.setCell,World.drew];omega⟩
   have HX':=af.mk HX;clear HX
   gi_wp2
   gi_region
   all_goals gi_wp2
   all_goals exact HX'.out _
  ·have q:oh ⟨x0,x1,x2,x3⟩=false:=by simpa using q
   rw[if_neg (by simp[q])]at hS;rw[q]
   gi_wp2
   exact⟨KeepsFrom.of_grownBy (Dy hb5 none) (fun j e=>by cases e),⟨hb5.mono hB.size,fun cs t e=>aK e hb5⟩,hS,⟨bR5,bL5⟩,hB.trans (hb5.mono hB.size),by have:=hb5.size;omega⟩
 case done=>
  rintro D ys W hD rfl ⟨hf,⟨bR,bL⟩,hB,hB4⟩ hK;have HE:=HH.out;rw[hf]at HE
  cases HE
  have l0':W.cell? ⟨w.heap.size+1,0,none⟩=some (.int .i64 r1):=(ah bL 0).trans rfl;have l1':W.cell? ⟨w.heap.size+1,1,none⟩=some (.int .i64 (i:Int)):=(ah bL 1).trans rfl;have l2':W.cell? ⟨w.heap.size+1,2,none⟩=some (.int .i64 (l0.length:Int)):=(ah bL 2).trans rfl;have l3':W.cell? ⟨w.heap.size+1,3,none⟩=some (.bool false):=(ah bL 3).trans rfl;have r0':W.cell? ⟨w.heap.size,0,none⟩=some (.int .i64 0):=(ah bR 0).trans rfl;have r1':W.cell? ⟨w.heap.size,1,none⟩=some (.int .i64 0):=(ah bR 1).trans rfl;have r2':W.cell? ⟨w.heap.size,2,none⟩=some (.int .i64 0):=(ah bR 2).trans rfl;have r3':W.cell? ⟨w.heap.size,3,none⟩=some (.bool false):=(ah bR 3).trans rfl;have fR0:=aA bR 0;have fR1:=aA bR 1;have fR2:=aA bR 2;have fR3:=aA bR 3
  gi_wp2
  rw[Exit.noGoto_ret]
  gi_wp2
  have hK4:=(iV (g:=w.heap.size) (j:=3) (by omega) (.bool false)).trans ((iV (g:=w.heap.size) (j:=2) (by omega) (.int .i64 (l0.length:Int))).trans ((iV (g:=w.heap.size) (j:=1) (by omega) (.int .i64 (i:Int))).trans ((iV (g:=w.heap.size) (j:=0) (by omega) (.int .i64 r1)).trans hK)));have hR4:=dS (dS (dS (dS bR (j:=0) (.int .i64 r1)) (j:=1) (.int .i64 (i:Int))) (j:=2) (.int .i64 (l0.length:Int))) (j:=3) (.bool false);have Dz:=(((hB.setCell (p:=⟨w.heap.size,0,none⟩) (Nat.le_refl _) (.int .i64 r1)).setCell (p:=⟨w.heap.size,1,none⟩) (Nat.le_refl _) (.int .i64 (i:Int))).setCell (p:=⟨w.heap.size,2,none⟩) (Nat.le_refl _) (.int .i64 (l0.length:Int))).setCell (p:=⟨w.heap.size,3,none⟩) (Nat.le_refl _) (.bool false);refine⟨by simp,.inl ⟨_,_,rfl,run_takeDeferred hK4,?_⟩⟩;exact⟨_,eF.res _ w.heap.size r1 i l0.length false _ (by rfl) ((World.putObj_heap_other (by omega)).trans hR4),rfl,Dz.trans (belowK_b (w:=w) (Nat.le_refl _) _ D _ _ (by omega) hK4 rfl rfl)⟩
 case stop=>
  rintro D c pre W hD ⟨k,hk,rfl⟩ ⟨rfl,x,hf,⟨bR,bL⟩,hB,hB4⟩ hK;have HE:=HH.out;rw[eF.fin_of hk hf]at HE
  cases HE
  have l0':W.cell? ⟨w.heap.size+1,0,none⟩=some (.int .i64 r1):=(ah bL 0).trans rfl;have l1':W.cell? ⟨w.heap.size+1,1,none⟩=some (.int .i64 (i:Int)):=(ah bL 1).trans rfl;have l2':W.cell? ⟨w.heap.size+1,2,none⟩=some (.int .i64 (x.1:Int)):=(ah bL 2).trans rfl;have l3':W.cell? ⟨w.heap.size+1,3,none⟩=some (.bool (x.2.f0==4)):=(ah bL 3).trans rfl;have r0':W.cell? ⟨w.heap.size,0,none⟩=some (.int .i64 0):=(ah bR 0).trans rfl;have r1':W.cell? ⟨w.heap.size,1,none⟩=some (.int .i64 0):=(ah bR 1).trans rfl;have r2':W.cell? ⟨w.heap.size,2,none⟩=some (.int .i64 0):=(ah bR 2).trans rfl;have r3':W.cell? ⟨w.heap.size,3,none⟩=some (.bool false):=(ah bR 3).trans rfl;have fR0:=aA bR 0;have fR1:=aA bR 1;have fR2:=aA bR 2;have fR3:=aA bR 3;refine wpIn_exit ?_
  gi_wp2
  rw[Exit.noGoto_ret]
  gi_wp2
  have hK4:=(iV (g:=w.heap.size) (j:=3) (by omega) (.bool (x.2.f0==4))).trans ((iV (g:=w.heap.size) (j:=2) (by omega) (.int .i64 (x.1:Int))).trans ((iV (g:=w.heap.size) (j:=1) (by omega) (.int .i64 (i:Int))).trans ((iV (g:=w.heap.size) (j:=0) (by omega) (.int .i64 r1)).trans hK)));have hR4:=dS (dS (dS (dS bR (j:=0) (.int .i64 r1)) (j:=1) (.int .i64 (i:Int))) (j:=2) (.int .i64 (x.1:Int))) (j:=3) (.bool (x.2.f0==4));have Dz:=(((hB.setCell (p:=⟨w.heap.size,0,none⟩) (Nat.le_refl _) (.int .i64 r1)).setCell (p:=⟨w.heap.size,1,none⟩) (Nat.le_refl _) (.int .i64 (i:Int))).setCell (p:=⟨w.heap.size,2,none⟩) (Nat.le_refl _) (.int .i64 (x.1:Int))).setCell (p:=⟨w.heap.size,3,none⟩) (Nat.le_refl _) (.bool (x.2.f0==4));refine⟨by simp,.inl ⟨_,_,rfl,run_takeDeferred hK4,?_⟩⟩;exact⟨_,eF.res _ w.heap.size r1 i x.1 (x.2.f0==4) _ (by rfl) ((World.putObj_heap_other (by omega)).trans hR4),rfl,Dz.trans (belowK_b (w:=w) (Nat.le_refl _) _ D _ _ (by omega) hK4 rfl rfl)⟩
end
section
def iX.p(gm:Int)(x:aj):Bool:=x.f1==gm
def iX.f(l0:List (aj))(a1:Int):Option (Int×Int×Int×Bool×Bool):=
 if idx (iX.p a1) l0<0 then some (0,0,0,false,false)else(eF.f l0 (idx (iX.p a1) l0)).map fun x=>(x.1,x.2.1,x.2.2.1,x.2.2.2,true)
theorem iX.step(x:aj)(gm:Int)(g1 B:Nat)(w:World)(b3:B≤w.heap.size)
  (h1:w.heap[g1]? =some (.cells #[.int .i64 gm] 3 (0,0))):
  Calls Tryz.prog 172 #[.agg #[.int .i64 x.f0,.int .i64 x.f1,.string x.f2,.string x.f3],.pointer (some ⟨g1,0,none⟩)] w fun e w'=>e=.returned (.bool (iX.p gm x))∧
   w'.heap[g1]? =some (.cells #[.int .i64 gm] 3 (0,0))∧Below B w w':=by
 obtain⟨x0,x1,x2,x3⟩:=x;simp only;have l1:=iB h1;have hc1:w.cell? ⟨g1,0,none⟩=some (.int .i64 gm):=(ah h1 0).trans rfl;have H0:=af.mk h1;clear h1;unfold iX.p
 go_enter Tryz.func172,Tryz.ntmps172
 go_wp2_with fail
 go_ret
 exact⟨rfl,ay H0.out _,(Below.refl B w).alloc b3 _⟩
theorem iX.enter:∀args w,(callFunc 172 args).run Tryz.prog w=.ok (.enter 172 args) w:=mO Tryz.func172 (by kernel_rfl) rfl
theorem iX.res(tmps:Array Value)(b:Nat)(t i u:Int)(c d:Bool)(W:World)(hb:tmps.getD 4 undef=.pointer (some ⟨b,0,none⟩))(hd:tmps.getD 5 undef=.bool d)(h:W.heap[b]? =some (.cells #[.int .i64 t,.int .i64 i,.int .i64 u,.bool c] 198 (0,0))):
  (results Tryz.f117 tmps).run Tryz.prog W=.ok (.tuple #[.agg #[.int .i64 t,.int .i64 i,.int .i64 u,.bool c],.bool d]) W:=by
 have l0':W.cell? ⟨b,0,none⟩=some (.int .i64 t):=(ah h 0).trans rfl;have l1':W.cell? ⟨b,1,none⟩=some (.int .i64 i):=(ah h 1).trans rfl;have l2':W.cell? ⟨b,2,none⟩=some (.int .i64 u):=(ah h 2).trans rfl;have l3':W.cell? ⟨b,3,none⟩=some (.bool c):=(ah h 3).trans rfl;unfold results;rw[show Tryz.f117.results= #[ResultVar.cell 4 198,ResultVar.tmp 5]from rfl];have hb':tmps[4]?.getD undef=.pointer (some ⟨b,0,none⟩):=by simpa using hb
 have hd':tmps[5]?.getD undef=.bool d:=by simpa using hd
 go_simp
theorem iX.calls(A0:Option Addr)(c0:Nat)(l0:List (aj))(a1:Int)(r1 r2 r3:Int)(r4 r5:Bool)(w:World)(hr0:Kd.C dw w A0 l0.length l0)(hc0:l0.length≤c0)(h:iX.f l0 a1=some (r1,r2,r3,r4,r5)):
  Calls Tryz.prog 117 #[.slice A0 l0.length c0,.int .i64 a1] w fun e w'=>e=.returned (.tuple #[.agg #[.int .i64 r1,.int .i64 r2,.int .i64 r3,.bool r4],.bool r5])∧Below w.heap.size w w':=by
 have HR:=af.mk hr0;have HF:=af.mk h;clear hr0 h;have hmf:∀(fn:Fn) (first cap:Array Value) (w:World),(Instr.makeFunc fn first cap).run Tryz.prog w=.ok (.func fn first cap) w:=fun _ _ _ _=>rfl
 have b0:=bI w (.cells #[.int .i64 a1] 3);have HS:=af.mk b0;clear b0
 go_enter Tryz.func117,Tryz.ntmps117
 go_wp2_with fail
 have BR:=bI (w.alloc (.cells #[.int .i64 a1] 3)) (.cells #[.int .i64 0,.int .i64 0,.int .i64 0,.bool false] 198);rw[World.size_alloc]at BR
 refine(IU 172 #[.pointer (some ⟨w.heap.size,0,none⟩)] iX.enter A0 c0 l0 (iX.p a1) w _ HR.out hc0
  (fun W'=>(Below w.heap.size w W'∧W'.heap[w.heap.size+1]? =some (.cells #[.int .i64 0,.int .i64 0,.int .i64 0,.bool false] 198 (0,0)))∧W'.heap[w.heap.size]? =some (.cells #[.int .i64 a1] 3 (0,0)))
  ⟨⟨ax (ax (Below.refl _ _) _) _,BR⟩,ay HS.out _⟩ (fun _ h=>h.1.1) ?_).mono ?_
 ·intro x W' h;refine(iX.step x a1 w.heap.size W'.heap.size W' (Nat.le_refl _) h.2).mono ?_;rintro e w2 ⟨rfl,h1,h3⟩;exact⟨rfl,⟨h.1.1.trans (h3.mono h.1.1.size),aK h.1.2 h3⟩,h1⟩
 rintro e w1 ⟨rfl,⟨h1,h2⟩,_⟩;have HB:=af.mk (And.intro h1 h2);have r0':w1.cell? ⟨w.heap.size+1,0,none⟩=some (.int .i64 0):=(ah h2 0).trans rfl;have r1':w1.cell? ⟨w.heap.size+1,1,none⟩=some (.int .i64 0):=(ah h2 1).trans rfl;have r2':w1.cell? ⟨w.heap.size+1,2,none⟩=some (.int .i64 0):=(ah h2 2).trans rfl;have r3':w1.cell? ⟨w.heap.size+1,3,none⟩=some (.bool false):=(ah h2 3).trans rfl;have fR0:=aA h2 0;have fR1:=aA h2 1;have fR2:=aA h2 2;have fR3:=aA h2 3;clear BR h1 h2 HS
 by_cases c:idx (iX.p a1) l0<0
 ·have e:=HF.out;unfold iX.f at e;rw[if_pos c]at e
  cases e
  go_wp2_with fail
  have hR4:=dS (dS (dS (dS HB.out.2 (j:=0) (.int .i64 0)) (j:=1) (.int .i64 0)) (j:=2) (.int .i64 0)) (j:=3) (.bool false);have Dz:=(((HB.out.1.setCell (p:=⟨w.heap.size+1,0,none⟩) (Nat.le_succ _) (.int .i64 0)).setCell (p:=⟨w.heap.size+1,1,none⟩) (Nat.le_succ _) (.int .i64 0)).setCell (p:=⟨w.heap.size+1,2,none⟩) (Nat.le_succ _) (.int .i64 0)).setCell (p:=⟨w.heap.size+1,3,none⟩) (Nat.le_succ _) (.bool false);exact bodyPost_ret (iX.res _ (w.heap.size+1) 0 0 0 false false _ (by rfl) (by rfl) hR4) rfl ⟨rfl,Dz⟩
 ·have e:=HF.out;unfold iX.f at e;rw[if_neg c]at e;obtain⟨⟨s1,s2,s3,s4⟩,e1,e2⟩:=Option.map_eq_some_iff.1 e
  cases e2
  clear e
  go_wp2_with fail
  refine(eF.calls A0 c0 l0 _ s1 s2 s3 s4 _ (Kd.dN HR.out HB.out.1) hc0 e1).mono ?_;rintro e w2 ⟨rfl,h4⟩;have hr2:=aK HB.out.2 h4;have r0':w2.cell? ⟨w.heap.size+1,0,none⟩=some (.int .i64 0):=(ah hr2 0).trans rfl;have s1':w2.cell? ⟨w.heap.size+1,1,none⟩=some (.int .i64 0):=(ah hr2 1).trans rfl;have s2':w2.cell? ⟨w.heap.size+1,2,none⟩=some (.int .i64 0):=(ah hr2 2).trans rfl;have s3':w2.cell? ⟨w.heap.size+1,3,none⟩=some (.bool false):=(ah hr2 3).trans rfl;have fR0:=aA hr2 0;have fR1:=aA hr2 1;have fR2:=aA hr2 2;have fR3:=aA hr2 3;have HB2:=af.mk (And.intro hr2 (HB.out.1.trans (h4.mono HB.out.1.size)));clear hr2 h4
  go_wp2_with fail
  have hR4:=dS (dS (dS (dS HB2.out.1 (j:=0) (.int .i64 s1)) (j:=1) (.int .i64 s2)) (j:=2) (.int .i64 s3)) (j:=3) (.bool s4);have Dz:=(((HB2.out.2.setCell (p:=⟨w.heap.size+1,0,none⟩) (Nat.le_succ _) (.int .i64 s1)).setCell (p:=⟨w.heap.size+1,1,none⟩) (Nat.le_succ _) (.int .i64 s2)).setCell (p:=⟨w.heap.size+1,2,none⟩) (Nat.le_succ _) (.int .i64 s3)).setCell (p:=⟨w.heap.size+1,3,none⟩) (Nat.le_succ _) (.bool s4);exact bodyPost_ret (iX.res _ (w.heap.size+1) s1 s2 s3 s4 true _ (by rfl) (by rfl) hR4) rfl ⟨rfl,Dz⟩
end
def uE.f(l0:List (aj))(a1:Int):Option (Bool):=if a1<0 then(some false)else(if a1≥(l0.length:Int)then(some false)else(if 0≤a1 then(if a1<(l0.length:Int)then(if((ak l0 a1).f0)=2 then((iX.f l0 ((ak l0 a1).f1)).bind fun Dl=>(if Dl.2.2.2.2=true then(if Dl.2.2.2.1=true then(some (decide (a1<Dl.2.2.1)))else(some false))else(some false)))else(some false))else(none))else(none)))
theorem uE.calls(A0:Option Addr)(c0:Nat)(l0:List (aj))(a1:Int)(r:Bool)(w:World)(hr0:Kd.C dw w A0 l0.length l0)(hc0:l0.length≤c0)(h:uE.f l0 a1=some r):
  Calls Tryz.prog 188 #[.slice A0 l0.length c0,.int .i64 a1] w fun e w'=>e=.returned (.bool r)∧Below w.heap.size w w':=by
 have hu198:=Tryz.underlying198;have cZ:=af.mk hr0;have gT:=af.mk hc0;clear hr0 hc0;have HB:=af.mk (Below.refl w.heap.size w);have H:(if a1<0 then(some false)else(if a1≥(l0.length:Int)then(some false)else(if 0≤a1 then(if a1<(l0.length:Int)then(if((ak l0 a1).f0)=2 then((iX.f l0 ((ak l0 a1).f1)).bind fun Dl=>(if Dl.2.2.2.2=true then(if Dl.2.2.2.1=true then(some (decide (a1<Dl.2.2.1)))else(some false))else(some false)))else(some false))else(none))else(none))))=some r:=h;clear h
 by_cases c3:a1<0
 ·rw[if_pos c3]at H;have fJ:decide (a1<0)=true:=decide_eq_true c3;clear c3;obtain rfl:=Option.some.inj H
  go_enter Tryz.func188,Tryz.ntmps188
  go_wp2
  go_ret
  exact⟨bS,ai⟩
 ·rw[if_neg c3]at H;have fJ:decide (a1<0)=false:=decide_eq_false c3;clear c3
  by_cases c4:a1≥(l0.length:Int)
  ·rw[if_pos c4]at H;have iH:decide ((l0.length:Int)≤a1)=true:=decide_eq_true c4;clear c4;obtain rfl:=Option.some.inj H
   go_enter Tryz.func188,Tryz.ntmps188
   go_wp2
   go_ret
   exact⟨bS,ai⟩
  ·rw[if_neg c4]at H;have iH:decide ((l0.length:Int)≤a1)=false:=decide_eq_false c4;clear c4
   by_cases c5:0≤a1
   ·rw[if_pos c5]at H;have jW:decide (0≤a1)=true:=decide_eq_true c5;clear c5
    by_cases c6:a1<(l0.length:Int)
    ·rw[if_pos c6]at H;have jv:decide (a1<(l0.length:Int))=true:=decide_eq_true c6;clear c6
     by_cases c7:((ak l0 a1).f0)=2
     ·rw[if_pos c7]at H;have kF:(((ak l0 a1).f0)==2)=true:=beq_iff_eq.mpr c7;have rJ:(((ak l0 a1).f0) != 2)=false:=bne_eq_false_iff_eq.mpr c7;clear c7;replace H:=Option.bind_eq_some_iff.mp H;obtain⟨⟨t158,t159,t160,t161,t162⟩,A80,H⟩:=H;(try dsimp only at H);have A8:=af.mk A80;clear A80
      by_cases c9:t162=true
      ·subst c9;rw[if_pos rfl]at H
       by_cases c10:t161=true
       ·subst c10;rw[if_pos rfl]at H;obtain rfl:=Option.some.inj H;have sU:0≤(a1:Int):=aG;have sV:a1<(l0.length:Int):=aG;obtain⟨zX,Dt,Qu,Qv,Qw,Qx⟩:=gL cZ.out a1 sU sV
        cases Dt
        replace sU:=eq_true sU;replace sV:=eq_true sV;have yI:0≤(a1:Int):=aG;have yO:a1<(l0.length:Int):=aG;obtain⟨Ig,IK,UN,UO,UQ,UR⟩:=gL cZ.out a1 yI yO;obtain rfl:zX=Ig:=(by injection IK);replace yI:=eq_true yI;replace yO:=eq_true yO
        go_enter Tryz.func188,Tryz.ntmps188
        go_wp2_with (first|((with_reducible refine bq (f:=117) rfl ?_);refine bC 30 Tryz.func117 #[.slice (some zX) l0.length c0,.int .i64 ((ak l0 a1).f1)] rfl ?_;(with_reducible refine(iX.calls _ _ l0 ((ak l0 a1).f1) t158 t159 t160 true true _ ?aQ ?aW A8.out).mono ?_);(case aQ=>repeat(first|exact cZ.out|(with_reducible refine Kd.gu ?_ _)|(with_reducible refine Kd.gB ?_ _)|(with_reducible refine Kd.gy ?_)));(case aW=>exact gT.out);rintro e y9 ⟨rfl,hb⟩;refine⟨_,rfl,?_⟩;replace HB:=af.mk (av ai hb);(try clear hb);(try clear hb2);(try clear hk);(try clear hi))|((with_reducible refine bZ (N:=5) rfl ?_);(try(refine xY (by rfl) ?_;dsimp only));refine dn 5 (cs:=#[.int .i64 0,.int .i64 0,.int .i64 0,.bool false]) (t:=198) ?_;intro BP hg w12 aC hb;have GR:=af.mk (aC);have GW163:af (w.heap.size≤BP):=aT hg;have GE163:af (w.heap.size≤BP):=aT hg;replace HB:=af.mk (av ai hb);clear hb aC hg;obtain⟨TB,TD,TF,TG,Ue,Uf,Ug,Uh⟩:=fB GR))
        go_ret
        exact⟨bS,ai⟩
       ·replace c10:=Bool.eq_false_iff.mpr c10;subst c10;rw[if_neg (show ¬(false=true) by decide)]at H;obtain rfl:=Option.some.inj H;have sU:0≤(a1:Int):=aG;have sV:a1<(l0.length:Int):=aG;obtain⟨zX,Dt,Qu,Qv,Qw,Qx⟩:=gL cZ.out a1 sU sV
        cases Dt
        replace sU:=eq_true sU;replace sV:=eq_true sV;have yI:0≤(a1:Int):=aG;have yO:a1<(l0.length:Int):=aG;obtain⟨Ig,IK,UN,UO,UQ,UR⟩:=gL cZ.out a1 yI yO;obtain rfl:zX=Ig:=(by injection IK);replace yI:=eq_true yI;replace yO:=eq_true yO
        go_enter Tryz.func188,Tryz.ntmps188
        go_wp2_with (first|((with_reducible refine bq (f:=117) rfl ?_);refine bC 30 Tryz.func117 #[.slice (some zX) l0.length c0,.int .i64 ((ak l0 a1).f1)] rfl ?_;(with_reducible refine(iX.calls _ _ l0 ((ak l0 a1).f1) t158 t159 t160 false true _ ?aQ ?aW A8.out).mono ?_);(case aQ=>repeat(first|exact cZ.out|(with_reducible refine Kd.gu ?_ _)|(with_reducible refine Kd.gB ?_ _)|(with_reducible refine Kd.gy ?_)));(case aW=>exact gT.out);rintro e w14 ⟨rfl,hb⟩;refine⟨_,rfl,?_⟩;replace HB:=af.mk (av ai hb);(try clear hb);(try clear hb2);(try clear hk);(try clear hi))|((with_reducible refine bZ (N:=5) rfl ?_);(try(refine xY (by rfl) ?_;dsimp only));refine dn 5 (cs:=#[.int .i64 0,.int .i64 0,.int .i64 0,.bool false]) (t:=198) ?_;intro BP hg wX aC hb;have GR:=af.mk (aC);have GW163:af (w.heap.size≤BP):=aT hg;have GE163:af (w.heap.size≤BP):=aT hg;replace HB:=af.mk (av ai hb);clear hb aC hg;obtain⟨hcz16_0,hcz16_1,hcz16_2,hcz16_3,hfz16_0,hfz16_1,hfz16_2,hfz16_3⟩:=fB GR))
        go_ret
        exact⟨bS,ai⟩
      ·replace c9:=Bool.eq_false_iff.mpr c9;subst c9;rw[if_neg (show ¬(false=true) by decide)]at H;obtain rfl:=Option.some.inj H;have sU:0≤(a1:Int):=aG;have sV:a1<(l0.length:Int):=aG;obtain⟨zX,Dt,Qu,Qv,Qw,Qx⟩:=gL cZ.out a1 sU sV
       cases Dt
       replace sU:=eq_true sU;replace sV:=eq_true sV;have yI:0≤(a1:Int):=aG;have yO:a1<(l0.length:Int):=aG;obtain⟨Ig,IK,UN,UO,UQ,UR⟩:=gL cZ.out a1 yI yO;obtain rfl:zX=Ig:=(by injection IK);replace yI:=eq_true yI;replace yO:=eq_true yO
       go_enter Tryz.func188,Tryz.ntmps188
       go_wp2_with (first|((with_reducible refine bq (f:=117) rfl ?_);refine bC 30 Tryz.func117 #[.slice (some zX) l0.length c0,.int .i64 ((ak l0 a1).f1)] rfl ?_;(with_reducible refine(iX.calls _ _ l0 ((ak l0 a1).f1) t158 t159 t160 t161 false _ ?aQ ?aW A8.out).mono ?_);(case aQ=>repeat(first|exact cZ.out|(with_reducible refine Kd.gu ?_ _)|(with_reducible refine Kd.gB ?_ _)|(with_reducible refine Kd.gy ?_)));(case aW=>exact gT.out);rintro e w17 ⟨rfl,hb⟩;refine⟨_,rfl,?_⟩;replace HB:=af.mk (av ai hb);(try clear hb);(try clear hb2);(try clear hk);(try clear hi))|((with_reducible refine bZ (N:=5) rfl ?_);(try(refine xY (by rfl) ?_;dsimp only));refine dn 5 (cs:=#[.int .i64 0,.int .i64 0,.int .i64 0,.bool false]) (t:=198) ?_;intro BP hg w18 aC hb;have GR:=af.mk (aC);have GW163:af (w.heap.size≤BP):=aT hg;have GE163:af (w.heap.size≤BP):=aT hg;replace HB:=af.mk (av ai hb);clear hb aC hg;obtain⟨L9,Ma,Mc,Md,MC,ME,MF,MG⟩:=fB GR))
       go_ret
       exact⟨bS,ai⟩
     ·rw[if_neg c7]at H;have kF:(((ak l0 a1).f0)==2)=false:=beq_eq_false_iff_ne.mpr c7;have rJ:(((ak l0 a1).f0) != 2)=true:=bne_iff_ne.mpr c7;obtain rfl:=Option.some.inj H;have sU:0≤(a1:Int):=aG;have sV:a1<(l0.length:Int):=aG;obtain⟨zX,Dt,Qu,Qv,Qw,Qx⟩:=gL cZ.out a1 sU sV
      cases Dt
      replace sU:=eq_true sU;replace sV:=eq_true sV
      go_enter Tryz.func188,Tryz.ntmps188
      go_wp2
      go_ret
      exact⟨bS,ai⟩
    ·rw[if_neg c6]at H;exact absurd H (by simp)
   ·rw[if_neg c5]at H;exact absurd H (by simp)
end Go.Proofs.YtdcddenojjdmjaaGreatDoor.T
