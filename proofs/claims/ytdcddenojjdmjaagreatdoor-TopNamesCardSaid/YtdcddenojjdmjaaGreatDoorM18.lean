import Derived.Test.YtdcddenojjdmjaaGreatDoorM13
import Derived.Test.YtdcddenojjdmjaaGreatDoorM17
set_option linter.all false
set_option maxHeartbeats 8000000
set_option maxRecDepth 100000
namespace Go.Proofs.YtdcddenojjdmjaaGreatDoor.T
open Go.RowKit Go.Proofs.YtdcddenojjdmjaaGreatDoorW.PrintWords Go.Proofs.YtdcddenojjdmjaaGreatDoorW.PrintLast Go.Proofs.YtdcddenojjdmjaaGreatDoorW.PrintMore
attribute [local go_sem] kH kL kK kP kJ kN kI kM
theorem aax(key s:ByteArray)(hs:s.size≤140737488355327)(w:World)(hG:jR w):
  Calls Tryz.prog 109 #[.string key,.string s] w fun e w'=>e=.returned (.tuple #[.string (wW key s (⟨#[6]⟩++s)),.int .i64 (jm key)])∧Below w.heap.size w w':=by
 have hz:(⟨#[6]⟩++s:ByteArray).size=1+s.size:=by rw[ByteArray.size_append];rfl
 have hn:=fun W=>Ns.calls 0 0 ⟨#[]⟩ s (⟨#[6]⟩++s) W (by unfold Ns.f;exact if_pos (by omega))
 obtain⟨x,hx⟩:∃x,iJ key (⟨#[6]⟩++s)=x:=⟨_,rfl⟩;have hc:=fun W (h:jR W)=>SA key (⟨#[6]⟩++s) (by rw[hz];omega) W h
 have hv:wW key s (⟨#[6]⟩++s)=if s.toList=[]then⟨#[]⟩else x:=by unfold wW;rw[hx]
 have hE:jm key=0∨jm key=1∧x=⟨#[]⟩:=by
  rcases VH key with h|⟨h,e⟩
  ·exact .inl h
  ·exact .inr ⟨h,hx.symm.trans (e _)⟩
 rw[hv];have HG:=af.mk hG;simp only[hx]at hc;clear hz hG hv hx;revert hc hn hE;generalize (⟨#[6]⟩++s:ByteArray)=z;generalize jm key=y;intro hn hE hc
 rcases hE with rfl|⟨rfl,rfl⟩
 ·by_cases hl:s.toList=[]
  ·have hb:(s.toList==([]:List UInt8))=true:=beq_iff_eq.mpr hl;rw[if_pos hl];clear hl
   go_enter Tryz.func109,Tryz.ntmps109
   go_wp2_with (go_at_call 163;(refine(hn _).mono ?_);rintro e w1 ⟨rfl,hb1⟩)
   have HB:=af.mk hb1;clear hb1
   go_wp2_with (go_at_call 136;(refine(hc _ (HG.out.below HB.out)).mono ?_);rintro e w2 ⟨rfl,hb2⟩)
   go_ret2
   exact⟨rfl,HB.out.trans (hb2.mono HB.out.size)⟩
  ·have hb:(s.toList==([]:List UInt8))=false:=beq_eq_false_iff_ne.mpr hl;rw[if_neg hl]
   go_enter Tryz.func109,Tryz.ntmps109
   go_wp2_with (go_at_call 163;(refine(hn _).mono ?_);rintro e w1 ⟨rfl,hb1⟩)
   have HB:=af.mk hb1;clear hb1
   go_wp2_with (go_at_call 136;(refine(hc _ (HG.out.below HB.out)).mono ?_);rintro e w2 ⟨rfl,hb2⟩)
   go_ret2
   exact⟨rfl,HB.out.trans (hb2.mono HB.out.size)⟩
 ·rw[ite_self]
  go_enter Tryz.func109,Tryz.ntmps109
  go_wp2_with (go_at_call 163;(refine(hn _).mono ?_);rintro e w1 ⟨rfl,hb1⟩)
  have HB:=af.mk hb1;clear hb1
  go_wp2_with (go_at_call 136;(refine(hc _ (HG.out.below HB.out)).mono ?_);rintro e w2 ⟨rfl,hb2⟩)
  go_ret2
  exact⟨rfl,HB.out.trans (hb2.mono HB.out.size)⟩
def Gi.f(aH:Int)(aV:Int)(bg:ByteArray)(bn:ByteArray):Option (Bool):=if aH=2 then(some true)else(some (aH==3))
theorem Gi.calls(aH:Int)(aV:Int)(bg:ByteArray)(bn:ByteArray)(r:Bool)(w:World)(h:Gi.f aH aV bg bn=some r):
  Calls Tryz.prog 110 #[.agg #[.int .i64 aH,.int .i64 aV,.string bg,.string bn]] w fun e w'=>e=.returned (.bool r)∧Below w.heap.size w w':=by
 have wN:=Tryz.underlying67;have HB:=af.mk (Below.refl w.heap.size w);have H:(if aH=2 then(some true)else(some (aH==3)))=some r:=h;clear h
 by_cases c2:aH=2
 ·rw[if_pos c2]at H;have ig:(aH==2)=true:=beq_iff_eq.mpr c2;have nJ:(aH != 2)=false:=bne_eq_false_iff_eq.mpr c2;clear c2;obtain rfl:=Option.some.inj H
  go_enter Tryz.func110,Tryz.ntmps110
  go_wp2_with (first|((with_reducible refine bZ (N:=1) rfl ?_);refine dn 1 (cs:=#[.int .i64 aH,.int .i64 aV,.string bg,.string bn]) (t:=67) ?_;intro I7 hg w3 aC hb;have Oj:=af.mk (aC);have GW214:af (w.heap.size≤I7):=aT hg;have GE214:af (w.heap.size≤I7):=aT hg;replace HB:=af.mk (av ai hb);clear hb aC hg;obtain⟨DI,DJ,DK,DL,DN,DR,DT,DU⟩:=fB Oj))
  go_ret
  exact⟨bS,ai⟩
 ·rw[if_neg c2]at H;have ig:(aH==2)=false:=beq_eq_false_iff_ne.mpr c2;have nJ:(aH != 2)=true:=bne_iff_ne.mpr c2;obtain rfl:=Option.some.inj H
  go_enter Tryz.func110,Tryz.ntmps110
  go_wp2_with (first|((with_reducible refine bZ (N:=1) rfl ?_);refine dn 1 (cs:=#[.int .i64 aH,.int .i64 aV,.string bg,.string bn]) (t:=67) ?_;intro I7 hg w5 aC hb;have Oj:=af.mk (aC);have GW214:af (w.heap.size≤I7):=aT hg;have GE214:af (w.heap.size≤I7):=aT hg;replace HB:=af.mk (av ai hb);clear hb aC hg;obtain⟨PV,PW,PX,PY,Qk,Ql,Qm,Qn⟩:=fB Oj))
  go_ret
  exact⟨bS,ai⟩
def evV(a b:Int)(c d:ByteArray):Value:=.agg #[.int .i64 a,.int .i64 b,.string c,.string d]
theorem nK{w:World}{b:Nat}{t:TypeId}{v0 v1 v2 v3:Value}(h:w.heap[b]? =some (.cells #[v0,v1,v2,v3] t (0,0))):
  (w.cell? ⟨b,0,none⟩=some v0∧w.cell? ⟨b,1,none⟩=some v1∧w.cell? ⟨b,2,none⟩=some v2∧w.cell? ⟨b,3,none⟩=some v3)∧(w.frozen? ⟨b,0,none⟩=false∧w.frozen? ⟨b,1,none⟩=false∧w.frozen? ⟨b,2,none⟩=false∧w.frozen? ⟨b,3,none⟩=false):=
 ⟨⟨(ah h 0).trans rfl,(ah h 1).trans rfl,(ah h 2).trans rfl,(ah h 3).trans rfl⟩,aA h 0,aA h 1,aA h 2,aA h 3⟩
structure Two (w w1:World)(A B:Array Value):Prop where
 a:w1.heap[w.heap.size]? =some (.cells A 67 (0,0))
 b:w1.heap[w.heap.size+1]? =some (.cells B 67 (0,0))
 below:Below w.heap.size w w1
theorem Two.start{w w1:World}{A B:Array Value}(hb:Below ((w.alloc (.cells A 67)).alloc (.cells B 67)).heap.size ((w.alloc (.cells A 67)).alloc (.cells B 67)) w1):Two w w1 A B:=
 ⟨aK (ay (bI _ _) _) hb,aK (xP _ _ _) hb,(ax (ax (Below.refl _ _) _) _).trans (hb.mono (by simp;omega))⟩
theorem Two.next{w w1 w2:World}{A B:Array Value}(h:Two w w1 A B)(hb:Below w1.heap.size w1 w2):Two w w2 A B:=
 ⟨aK h.a hb,aK h.b hb,h.below.trans (hb.mono h.below.size)⟩
theorem Two.dS{w w1:World}{A B:Array Value}(h:Two w w1 A B)(i:Nat)(v:Value):Two w (w1.setCell ⟨w.heap.size,i,none⟩ v) (A.setIfInBounds i v) B:=
 ⟨BG h.a i v,(jo (by omega) v).trans h.b,h.below.setCell (p:=⟨w.heap.size,i,none⟩) (Nat.le_refl _) v⟩
theorem Two.setB{w w1:World}{A B:Array Value}(h:Two w w1 A B)(i:Nat)(v:Value):Two w (w1.setCell ⟨w.heap.size+1,i,none⟩ v) A (B.setIfInBounds i v):=
 ⟨(jo (by omega) v).trans h.a,BG h.b i v,h.below.setCell (p:=⟨w.heap.size+1,i,none⟩) (Nat.le_succ _) v⟩
theorem Two.CG{w w1:World}{A:Array Value}{u0 u1 u2 u3:Value}(h:Two w w1 A #[u0,u1,u2,u3])(v0 v1 v2 v3:Value):
  Two w ((((w1.setCell ⟨w.heap.size+1,0,none⟩ v0).setCell ⟨w.heap.size+1,1,none⟩ v1).setCell ⟨w.heap.size+1,2,none⟩ v2).setCell ⟨w.heap.size+1,3,none⟩ v3) A #[v0,v1,v2,v3]:=
 (((h.setB 0 v0).setB 1 v1).setB 2 v2).setB 3 v3
theorem aaw(key:ByteArray)(k:Nat)(a b:Int)(c d:ByteArray)(hc:c.size≤140737488355327)(hd:d.size≤140737488355327)(r:Bool)(hr:gW.f k a b c d=some r)(w:World)(hG:jR w):
  Calls Tryz.prog 51 #[.string key,evV a b c d] w fun e w'=>e=.returned (.tuple (if jm key=0∧r=true then(if a=2∨a=3 then #[evV a b (iJ key (⟨#[5]⟩++c)) (wW key d (⟨#[6]⟩++d)),.int .i64 0]else #[evV a b c d,.int .i64 0])else #[evV 0 0 ⟨#[]⟩ ⟨#[]⟩,.int .i64 1]))∧Below w.heap.size w w':=by
 have hk:=fun W h=>aav key c hc W h
 have hv:=fun W h=>aax key d hd W h
 have hm:=fun W=>gW.calls k a b c d r W hr
 have hE:jm key=0∨jm key=1:=by rcases VH key with h|h;exact .inl h;exact .inr h.1
 have HG:=af.mk hG;clear hG hr;revert hk hv hE;generalize iJ key (⟨#[5]⟩++c)=x;generalize wW key d (⟨#[6]⟩++d)=z;generalize jm key=y;intro hk hv hE;have hGo:∀w1,Two w w1 #[.int .i64 a,.int .i64 b,.string c,.string d] #[.int .i64 0,.int .i64 0,.string ⟨#[]⟩,.string ⟨#[]⟩]→jR w1:=fun w1 h=>HG.out.below h.below
 unfold evV
 rcases hE with rfl|rfl
 ·rcases r with _|_
  ·rw[if_neg (by simp)]
   go_enter Tryz.func51,Tryz.ntmps51
   go_wp2_with (first|(go_at_call 108;(refine(hk _ (HG.out.below (ax (ax (Below.refl _ _) _) _))).mono ?_);rintro e w1 ⟨rfl,hb1⟩;have HT:=af.mk (Two.start hb1);clear hb1;obtain⟨⟨q0,q1,q2,q3⟩,p0,p1,p2,p3⟩:=nK HT.out.a)|(go_at_call 109;(refine(hv _ (hGo _ HT.out)).mono ?_);rintro e w2 ⟨rfl,hb2⟩;have HU:=af.mk (HT.out.next hb2);clear hb2 q0 q1 q2 q3 p0 p1 p2 p3;obtain⟨⟨q0,q1,q2,q3⟩,p0,p1,p2,p3⟩:=nK HU.out.a;obtain⟨⟨s0,s1,s2,s3⟩,f0,f1,f2,f3⟩:=nK HU.out.b)|(go_at_call 66;(refine(hm _).mono ?_);rintro e w3 ⟨rfl,hb3⟩;have HV:=af.mk (HU.out.next hb3);clear hb3 q0 q1 q2 q3 p0 p1 p2 p3 s0 s1 s2 s3 f0 f1 f2 f3;obtain⟨⟨q0,q1,q2,q3⟩,p0,p1,p2,p3⟩:=nK HV.out.a;obtain⟨⟨s0,s1,s2,s3⟩,f0,f1,f2,f3⟩:=nK HV.out.b))
   refine bodyPost_ret (sW (rs:=[.cell 4 67,.tmp 5]) (vs:=[.agg #[.int .i64 0,.int .i64 0,.string ⟨#[]⟩,.string ⟨#[]⟩],.int .i64 1]) rfl (by simp) (.cell (w.heap.size+1) 67 _ (0,0) _ rfl (HV.out.CG _ _ _ _).b Tryz.underlying67 rfl (by kernel_rfl) (.tmp .nil))) rfl ⟨rfl,(HV.out.CG _ _ _ _).below⟩
  ·rw[if_pos ⟨rfl,rfl⟩]
   by_cases ha:a=2∨a=3
   ·have hy:=fun W=>Gi.calls a b c d true W (by unfold Gi.f;rcases ha with rfl|rfl<;>simp)
    rw[if_pos ha];clear ha
    go_enter Tryz.func51,Tryz.ntmps51
    go_wp2_with (first|(go_at_call 108;(refine(hk _ (HG.out.below (ax (ax (Below.refl _ _) _) _))).mono ?_);rintro e w1 ⟨rfl,hb1⟩;have HT:=af.mk (Two.start hb1);clear hb1;obtain⟨⟨q0,q1,q2,q3⟩,p0,p1,p2,p3⟩:=nK HT.out.a)|(go_at_call 109;(refine(hv _ (hGo _ HT.out)).mono ?_);rintro e w2 ⟨rfl,hb2⟩;have HU:=af.mk (HT.out.next hb2);clear hb2 q0 q1 q2 q3 p0 p1 p2 p3;obtain⟨⟨q0,q1,q2,q3⟩,p0,p1,p2,p3⟩:=nK HU.out.a;obtain⟨⟨s0,s1,s2,s3⟩,f0,f1,f2,f3⟩:=nK HU.out.b)|(go_at_call 66;(refine(hm _).mono ?_);rintro e w3 ⟨rfl,hb3⟩;have HV:=af.mk (HU.out.next hb3);clear hb3 q0 q1 q2 q3 p0 p1 p2 p3 s0 s1 s2 s3 f0 f1 f2 f3;obtain⟨⟨q0,q1,q2,q3⟩,p0,p1,p2,p3⟩:=nK HV.out.a;obtain⟨⟨s0,s1,s2,s3⟩,f0,f1,f2,f3⟩:=nK HV.out.b)|(go_at_call 110;(refine(hy _).mono ?_);rintro e w4 ⟨rfl,hb4⟩;have HW:=af.mk (HV.out.next hb4);clear hb4 q0 q1 q2 q3 p0 p1 p2 p3 s0 s1 s2 s3 f0 f1 f2 f3;obtain⟨⟨q0,q1,q2,q3⟩,p0,p1,p2,p3⟩:=nK HW.out.a;obtain⟨⟨s0,s1,s2,s3⟩,f0,f1,f2,f3⟩:=nK HW.out.b))
    refine bodyPost_ret (sW (rs:=[.cell 4 67,.tmp 5]) (vs:=[.agg #[.int .i64 a,.int .i64 b,.string x,.string z],.int .i64 0]) rfl (by simp) (.cell (w.heap.size+1) 67 _ (0,0) _ rfl (((HW.out.dS 2 (.string x)).dS 3 (.string z)).CG _ _ _ _).b Tryz.underlying67 rfl (by kernel_rfl) (.tmp .nil))) rfl ⟨rfl,(((HW.out.dS 2 (.string x)).dS 3 (.string z)).CG _ _ _ _).below⟩
   ·have hy:=fun W=>Gi.calls a b c d false W (by unfold Gi.f;rw[if_neg (by omega)];simp;omega)
    rw[if_neg ha];clear ha
    go_enter Tryz.func51,Tryz.ntmps51
    go_wp2_with (first|(go_at_call 108;(refine(hk _ (HG.out.below (ax (ax (Below.refl _ _) _) _))).mono ?_);rintro e w1 ⟨rfl,hb1⟩;have HT:=af.mk (Two.start hb1);clear hb1;obtain⟨⟨q0,q1,q2,q3⟩,p0,p1,p2,p3⟩:=nK HT.out.a)|(go_at_call 109;(refine(hv _ (hGo _ HT.out)).mono ?_);rintro e w2 ⟨rfl,hb2⟩;have HU:=af.mk (HT.out.next hb2);clear hb2 q0 q1 q2 q3 p0 p1 p2 p3;obtain⟨⟨q0,q1,q2,q3⟩,p0,p1,p2,p3⟩:=nK HU.out.a;obtain⟨⟨s0,s1,s2,s3⟩,f0,f1,f2,f3⟩:=nK HU.out.b)|(go_at_call 66;(refine(hm _).mono ?_);rintro e w3 ⟨rfl,hb3⟩;have HV:=af.mk (HU.out.next hb3);clear hb3 q0 q1 q2 q3 p0 p1 p2 p3 s0 s1 s2 s3 f0 f1 f2 f3;obtain⟨⟨q0,q1,q2,q3⟩,p0,p1,p2,p3⟩:=nK HV.out.a;obtain⟨⟨s0,s1,s2,s3⟩,f0,f1,f2,f3⟩:=nK HV.out.b)|(go_at_call 110;(refine(hy _).mono ?_);rintro e w4 ⟨rfl,hb4⟩;have HW:=af.mk (HV.out.next hb4);clear hb4 q0 q1 q2 q3 p0 p1 p2 p3 s0 s1 s2 s3 f0 f1 f2 f3;obtain⟨⟨q0,q1,q2,q3⟩,p0,p1,p2,p3⟩:=nK HW.out.a;obtain⟨⟨s0,s1,s2,s3⟩,f0,f1,f2,f3⟩:=nK HW.out.b))
    refine bodyPost_ret (sW (rs:=[.cell 4 67,.tmp 5]) (vs:=[.agg #[.int .i64 a,.int .i64 b,.string c,.string d],.int .i64 0]) rfl (by simp) (.cell (w.heap.size+1) 67 _ (0,0) _ rfl (HW.out.CG _ _ _ _).b Tryz.underlying67 rfl (by kernel_rfl) (.tmp .nil))) rfl ⟨rfl,(HW.out.CG _ _ _ _).below⟩
 ·rw[if_neg (by omega)]
  go_enter Tryz.func51,Tryz.ntmps51
  go_wp2_with (first|(go_at_call 108;(refine(hk _ (HG.out.below (ax (ax (Below.refl _ _) _) _))).mono ?_);rintro e w1 ⟨rfl,hb1⟩;have HT:=af.mk (Two.start hb1);clear hb1;obtain⟨⟨q0,q1,q2,q3⟩,p0,p1,p2,p3⟩:=nK HT.out.a)|(go_at_call 109;(refine(hv _ (hGo _ HT.out)).mono ?_);rintro e w2 ⟨rfl,hb2⟩;have HU:=af.mk (HT.out.next hb2);clear hb2 q0 q1 q2 q3 p0 p1 p2 p3;obtain⟨⟨q0,q1,q2,q3⟩,p0,p1,p2,p3⟩:=nK HU.out.a;obtain⟨⟨s0,s1,s2,s3⟩,f0,f1,f2,f3⟩:=nK HU.out.b))
  refine bodyPost_ret (sW (rs:=[.cell 4 67,.tmp 5]) (vs:=[.agg #[.int .i64 0,.int .i64 0,.string ⟨#[]⟩,.string ⟨#[]⟩],.int .i64 1]) rfl (by simp) (.cell (w.heap.size+1) 67 _ (0,0) _ rfl (HU.out.CG _ _ _ _).b Tryz.underlying67 rfl (by kernel_rfl) (.tmp .nil))) rfl ⟨rfl,(HU.out.CG _ _ _ _).below⟩
def vO.g(key:ByteArray)(r:Bool)(a b:Int)(c d:ByteArray):Int×Int×ByteArray×ByteArray×Int:=
 if jm key=0∧r=true then(if a=2∨a=3 then(a,b,iJ key (⟨#[5]⟩++c),wW key d (⟨#[6]⟩++d),0)else(a,b,c,d,0))else(0,0,⟨#[]⟩,⟨#[]⟩,1)
def vO.f(k:Nat)(a0:ByteArray)(dI:Int)(eT:Int)(jT:ByteArray)(dR:ByteArray):Option (Int×Int×ByteArray×ByteArray×Int):=
 if jT.size≤140737488355327∧dR.size≤140737488355327 then(gW.f k dI eT jT dR).bind fun r=>some (vO.g a0 r dI eT jT dR)else none
theorem vO.calls(k:Nat)(a0:ByteArray)(dI:Int)(eT:Int)(jT:ByteArray)(dR:ByteArray)(r1 r2:Int)(r3 r4:ByteArray)(r5:Int)(w:World)(h:vO.f k a0 dI eT jT dR=some (r1,r2,r3,r4,r5))(hG:jR w):
  Calls Tryz.prog 51 #[.string a0,.agg #[.int .i64 dI,.int .i64 eT,.string jT,.string dR]] w fun e w'=>e=.returned (.tuple #[.agg #[.int .i64 r1,.int .i64 r2,.string r3,.string r4],.int .i64 r5])∧Below w.heap.size w w':=by
 unfold vO.f at h
 split at h
 case isTrue hs=>
  obtain⟨r,hr,h⟩:=Option.bind_eq_some_iff.mp h;have h:=Option.some.inj h;unfold vO.g at h;refine(aaw a0 k dI eT jT dR hs.1 hs.2 r hr w hG).mono ?_;rintro e w' ⟨rfl,hb⟩;refine⟨?_,hb⟩
  split at h
  case isTrue h0=>
   rw[if_pos h0]
   split at h
   case isTrue h1=>rw[if_pos h1];cases h;rfl
   case isFalse h1=>rw[if_neg h1];cases h;rfl
  case isFalse h0=>rw[if_neg h0];cases h;rfl
 case isFalse=>cases h
def nC.l0:Nat→ByteArray→List (aj)→List (aj)→Int→Int→Option ((List (aj))×Int)
 |0,_,_,_,_,_=>none
 |k+1,x0,x6,pF,x15,tC=>if tC<x15 then(if 0≤tC then(if tC<(pF.length:Int)then((vO.f k x0 ((ak pF tC).f0) ((ak pF tC).f1) ((ak pF tC).f2) ((ak pF tC).f3)).bind fun Fa=>(if Fa.2.2.2.2=0 then(if x6.length<2932031007402 then(nC.l0 k x0 (x6++[(⟨Fa.1,Fa.2.1,Fa.2.2.1,Fa.2.2.2.1⟩:aj)]) pF x15 (wrap64 (tC+1)))else(none))else(some (([]:List (aj)),Fa.2.2.2.2))))else(none))else(none))else(some (x6,0))
def nC.f(k:Nat)(a0:ByteArray)(l1:List (aj)):Option ((List (aj))×Int):=if(l1.length:Int)>256 then(some (([]:List (aj)),4))else(nC.l0 k a0 ([]:List (aj)) l1 (l1.length:Int) 0)
theorem nC.calls(k:Nat)(a0:ByteArray)(A1:Option Addr)(c1:Nat)(l1:List (aj))(r1:List (aj))(r2:Int)(w:World)(hr1:Kd.C dw w A1 l1.length l1)(hc1:l1.length≤c1)(h:nC.f k a0 l1=some (r1,r2))(hG:jR w):
  Calls Tryz.prog 18 #[.string a0,.slice A1 l1.length c1] w fun e w'=>∃fE:Value,e=.returned (.tuple #[fE,.int .i64 r2])∧Kd.R dw 67 w' w.heap.size (fun _=>True) fE r1∧Below w.heap.size w w':=by
 have HGL:=af.mk hG;clear hG;have wN:=Tryz.underlying67;have HR1:=af.mk hr1;have tK:=af.mk hc1;clear hr1 hc1;have HB:=af.mk (Below.refl w.heap.size w);have H:(if(l1.length:Int)>256 then(some (([]:List (aj)),4))else(nC.l0 k a0 ([]:List (aj)) l1 (l1.length:Int) 0))=some (r1,r2):=h;clear h
 by_cases c3:(l1.length:Int)>256
 ·rw[if_pos c3]at H;have fJ:decide (256<(l1.length:Int))=true:=decide_eq_true c3;have jV:decide (256<l1.length)=true:=decide_eq_true (by omega);clear c3;simp only[Option.some.injEq,Prod.mk.injEq]at H;obtain⟨rfl,rfl⟩:=H
  go_enter Tryz.func18,Tryz.ntmps18
  go_wp2
  go_ret2
  exact⟨_,bS,by first|exact Kd.dV _ _ _ _ _|exact Kd.iP _ _ _ _ _|exact Kd.iR _ _ _ _ _|exact Kd.iQ _ _ _ _ _|exact Kd.j5 _ _ _ _ _,ai⟩
 ·rw[if_neg c3]at H;have fJ:decide (256<(l1.length:Int))=false:=decide_eq_false c3;have jV:decide (256<l1.length)=false:=decide_eq_false (by omega);clear c3;have H':=af.mk H;clear H
  go_enter Tryz.func18,Tryz.ntmps18
  go_wp2
  go_loopg [6,16] k (fun kq v6 v16 w'=>∃(GI:List (aj)) (fq:Int),v16=.int .i64 fq∧af (nC.l0 kq a0 GI l1 (l1.length:Int) fq=some (r1,r2))∧af (kq≤k)∧af (Kd.R dw 67 w' w.heap.size (fun _=>True) v6 GI)∧af (Below w.heap.size w w'))
  case atStart=>exact⟨(([]:List (aj))),(0),dx,H',⟨Nat.le_refl _⟩,⟨by first|exact Kd.dV _ _ _ _ _|exact Kd.iP _ _ _ _ _|exact Kd.iR _ _ _ _ _|exact Kd.iQ _ _ _ _ _|exact Kd.j5 _ _ _ _ _⟩,⟨ai⟩⟩
  case round=>
   clear H'
   try clear c1
   try clear p2
   try clear c3
   try clear fJ
   try clear jV
   obtain⟨GI,fq,rfl,HA,dD,qA,HB⟩:=hrel
   cases gk with
   |zero=>exact absurd HA.out (by simp[nC.l0])
   |succ k1=>
    have H:=HA.out;clear HA;simp only[nC.l0]at H
    by_cases c4:fq<(l1.length:Int)
    ·rw[if_pos c4]at H;have iH:decide (fq<(l1.length:Int))=true:=decide_eq_true c4;clear c4
     by_cases c5:0≤fq
     ·rw[if_pos c5]at H;have jW:decide (0≤fq)=true:=decide_eq_true c5;clear c5
      by_cases c6:fq<(l1.length:Int)
      ·rw[if_pos c6]at H;have jv:decide (fq<(l1.length:Int))=true:=decide_eq_true c6;clear c6;replace H:=Option.bind_eq_some_iff.mp H;obtain⟨⟨t217,t218,t219,t220,t221⟩,xw,H⟩:=H;(try dsimp only at H);have A7:=af.mk xw;clear xw
       by_cases c8:t221=0
       ·rw[if_pos c8]at H;have jw:(t221==0)=true:=beq_iff_eq.mpr c8;have sH:(t221 != 0)=false:=bne_eq_false_iff_eq.mpr c8;clear c8
        by_cases c9:GI.length<2932031007402
        ·rw[if_pos c9]at H;have LMc9:=af.mk c9;clear c9;obtain⟨y223,J6⟩:∃y_:List (aj),y_=(GI++[(⟨t217,t218,t219,t220⟩:aj)]):=⟨_,rfl⟩;replace H:(nC.l0 k1 a0 y223 l1 (l1.length:Int) (wrap64 (fq+1)))=some (r1,r2):=by first|(rw[J6];with_reducible exact H)|(have bP:=(Option.bind_some _ _).symm.trans H;rw[J6];with_reducible exact bP)|(have bP:=(Option.bind_some _ _).symm.trans H;with_reducible exact bP)|with_reducible exact H|(rw[J6];exact H)|exact H
         have Ny223:=af.mk J6;clear J6;have H':=af.mk H;clear H;have DY:0≤(fq:Int):=aG;have Eg:fq<(l1.length:Int):=aG;obtain⟨ad215,e215,JH,JI,JJ,JK⟩:=gL HR1.out fq DY Eg
         cases e215
         replace JH:=aM JH;replace JI:=aM JI;replace JJ:=aM JJ;replace JK:=aM JK;replace DY:=eq_true DY;replace Eg:=eq_true Eg
         go_wp2_with (first|((with_reducible refine bZ (N:=8) rfl ?_);refine dn 8 (cs:=#[.int .i64 0,.int .i64 0,.string (⟨#[]⟩:ByteArray),.string (⟨#[]⟩:ByteArray)]) (t:=67) ?_;intro nL hg w10 aC hb;replace qA:=af.mk (Kd.gD (Kd.Dh (dZ qA) nL (Nat.le_of_eq hg.symm)) hb);have oM:=af.mk (aC);have GW216:af (w.heap.size≤nL):=aT hg;have GE216:af (w.heap.size≤nL):=aT hg;replace HB:=af.mk (av ai hb);clear hb aC hg;obtain⟨hcz11_0,hcz11_1,hcz11_2,hcz11_3,hfz11_0,hfz11_1,hfz11_2,hfz11_3⟩:=fB oM)|((with_reducible refine bq (f:=51) rfl ?_);refine bC 23 Tryz.func51 #[.string a0,.agg #[.int .i64 ((ak l1 fq).f0),.int .i64 ((ak l1 fq).f1),.string ((ak l1 fq).f2),.string ((ak l1 fq).f3)]] rfl ?_;(with_reducible refine(vO.calls k1 a0 ((ak l1 fq).f0) ((ak l1 fq).f1) ((ak l1 fq).f2) ((ak l1 fq).f3) t217 t218 t219 t220 t221 _ A7.out (HGL.out.below ai)).mono ?_);rintro e w12 ⟨rfl,hb⟩;refine⟨_,rfl,?_⟩;replace qA:=af.mk (Kd.gD (by(with_reducible repeat(first|apply Kd.bX|apply Kd.dK|apply Kd.di));exact(Kd.bY (Kd.aD (p:=⟨nL,3,none⟩) (Kd.aD (p:=⟨nL,2,none⟩) (Kd.aD (p:=⟨nL,1,none⟩) (Kd.aD (p:=⟨nL,0,none⟩) (Kd.bY qA.out (fun k_ hk=>(⟨hk,hk.2⟩:_∧k_≠nL))) (fun _ hk=>hk.2) (.int .i64 ((ak l1 fq).f0))) (fun _ hk=>hk.2) (.int .i64 ((ak l1 fq).f1))) (fun _ hk=>hk.2) (.string ((ak l1 fq).f2))) (fun _ hk=>hk.2) (.string ((ak l1 fq).f3))) (fun _ h_=>h_.1))) hb);replace oM:=af.mk (aK (g:=nL) (o:=.cells #[.int .i64 ((ak l1 fq).f0),.int .i64 ((ak l1 fq).f1),.string ((ak l1 fq).f2),.string ((ak l1 fq).f3)] 67 (0,0)) (by exact rW oM.out) hb);replace HB:=af.mk (av ai hb);(try clear hb);(try clear hb2);(try clear hk);(try clear hi))|((with_reducible refine bZ (N:=9) rfl ?_);refine dn 9 (cs:=#[.int .i64 0,.int .i64 0,.string (⟨#[]⟩:ByteArray),.string (⟨#[]⟩:ByteArray)]) (t:=67) ?_;intro sK hg w13 aC hb;replace qA:=af.mk (Kd.gD (Kd.Dh (dZ qA) sK (Nat.le_of_eq hg.symm)) hb);have CZ:=af.mk (aC);have GW222:af (w.heap.size≤sK):=aT hg;have GE222:af (w.heap.size≤sK):=aT hg;have Ov:=kS hg oM;have Ow:=kT hg oM;replace oM:=bQ oM hb;replace HB:=af.mk (av ai hb);clear hb aC hg;have hnb14:=Ow.out;have hnc14:=Ov.out;obtain⟨Pz,PD,PE,PG,P9,Qa,Qb,Qc⟩:=fB CZ)|((with_reducible refine jN (b:=.append) (xs:=#[.tmp 29,.tmp 31]) rfl ?_);at_builtin;refine Kd.kY dw (w0:=w) w.heap.size rfl (.tmp 29) (.tmp 31) 22 67 (.agg #[(.int .i64 0),(.int .i64 0),(.string ⟨#[]⟩),(.string ⟨#[]⟩)]) 48 rfl Tryz.underlying22 wO rfl (by decide) (by omega) u6 GI (⟨t217,t218,t219,t220⟩:aj) [.int .i64 t217,.int .i64 t218,.string t219,.string t220] (fun k_=>k_≠nL∧k_≠sK) (fun _=>False) rfl (by first|(go_simp;done)|(go_simp;rfl)) ?aP (fun _ hk=>hk.elim) ?aF ?aO ?aB ?aS ?aL ?_;(case aP=>exact yG _ _ _ (⟨t217,t218,t219,t220⟩:aj));(case aB=>exact ai);(case aF=>exact(fun k_ hk=>⟨Kd.Pp (g:=nL) (o:=.cells #[.int .i64 ((ak l1 fq).f0),.int .i64 ((ak l1 fq).f1),.string ((ak l1 fq).f2),.string ((ak l1 fq).f3)] 67 (0,0)) (fU oM) k_ hk,Kd.Pp (g:=sK) (o:=.cells #[.int .i64 t217,.int .i64 t218,.string t219,.string t220] 67 (0,0)) (by exact rW CZ.out) k_ hk⟩));(case aO=>exact(by(with_reducible repeat(first|apply Kd.bX|apply Kd.dK|apply Kd.di));exact Kd.bY (Kd.aD (p:=⟨sK,3,none⟩) (Kd.aD (p:=⟨sK,2,none⟩) (Kd.aD (p:=⟨sK,1,none⟩) (Kd.aD (p:=⟨sK,0,none⟩) (Kd.bY qA.out (fun k_ hk=>(⟨hk,hk.2⟩:_∧k_≠sK))) (fun _ hk=>hk.2) (.int .i64 t217)) (fun _ hk=>hk.2) (.int .i64 t218)) (fun _ hk=>hk.2) (.string t219)) (fun _ hk=>hk.2) (.string t220)) (fun _ hk=>⟨hk.1.1.2,hk.1.2⟩)));(case aS=>exact(fI ai));(case aL=>have:=LMc9.out;omega);intro v224 w16 ho hb hg hat;rw[← Ny223.out]at ho;have dL:=af.mk (fP (g:=nL) (o:=.cells #[.int .i64 ((ak l1 fq).f0),.int .i64 ((ak l1 fq).f1),.string ((ak l1 fq).f2),.string ((ak l1 fq).f3)] 67 (0,0)) (fU oM) hg (Kd.Ox qA.out (fun _ hk=>hk.1.2)));have dW:=af.mk (fP (g:=sK) (o:=.cells #[.int .i64 t217,.int .i64 t218,.string t219,.string t220] 67 (0,0)) (by exact rW CZ.out) hg (Kd.Ox qA.out (fun _ hk=>hk.2)));have dX:=af.mk (hb);have jH:=af.mk (ho);clear oM CZ HB qA;have oM:=dL;have CZ:=dW;have HB:=dX;have HO225:=jH;clear dL dW dX jH ho hb hg hat))
         go_roundg k1
         case measure=>have:=dD.out;omega
         case rel=>exact⟨(y223),(wrap64 (fq+1)),dx,H',⟨by have:=dD.out;omega⟩,⟨by(with_reducible repeat(first|apply Kd.bX|apply Kd.dK|apply Kd.di));exact Kd.bY HO225.out (fun _ hk=>trivial)⟩,⟨ai⟩⟩
        ·rw[if_neg c9]at H;exact absurd H (by simp)
       ·rw[if_neg c8]at H;have jw:(t221==0)=false:=beq_eq_false_iff_ne.mpr c8;have sH:(t221 != 0)=true:=bne_iff_ne.mpr c8;simp only[Option.some.injEq,Prod.mk.injEq]at H;obtain⟨rfl,rfl⟩:=H;have DY:0≤(fq:Int):=aG;have Eg:fq<(l1.length:Int):=aG;obtain⟨ad215,e215,JH,JI,JJ,JK⟩:=gL HR1.out fq DY Eg
        cases e215
        replace JH:=aM JH;replace JI:=aM JI;replace JJ:=aM JJ;replace JK:=aM JK;replace DY:=eq_true DY;replace Eg:=eq_true Eg
        go_wp2_with (first|((with_reducible refine bZ (N:=8) rfl ?_);refine dn 8 (cs:=#[.int .i64 0,.int .i64 0,.string (⟨#[]⟩:ByteArray),.string (⟨#[]⟩:ByteArray)]) (t:=67) ?_;intro nL hg w17 aC hb;replace qA:=af.mk (Kd.gD (Kd.Dh (dZ qA) nL (Nat.le_of_eq hg.symm)) hb);have oM:=af.mk (aC);have GW216:af (w.heap.size≤nL):=aT hg;have GE216:af (w.heap.size≤nL):=aT hg;replace HB:=af.mk (av ai hb);clear hb aC hg;obtain⟨Aq,Ar,Au,Aw,AO,AP,AQ,AU⟩:=fB oM)|((with_reducible refine bq (f:=51) rfl ?_);refine bC 23 Tryz.func51 #[.string a0,.agg #[.int .i64 ((ak l1 fq).f0),.int .i64 ((ak l1 fq).f1),.string ((ak l1 fq).f2),.string ((ak l1 fq).f3)]] rfl ?_;(with_reducible refine(vO.calls k1 a0 ((ak l1 fq).f0) ((ak l1 fq).f1) ((ak l1 fq).f2) ((ak l1 fq).f3) t217 t218 t219 t220 t221 _ A7.out (HGL.out.below ai)).mono ?_);rintro e w19 ⟨rfl,hb⟩;refine⟨_,rfl,?_⟩;replace qA:=af.mk (Kd.gD (by(with_reducible repeat(first|apply Kd.bX|apply Kd.dK|apply Kd.di));exact(Kd.bY (Kd.aD (p:=⟨nL,3,none⟩) (Kd.aD (p:=⟨nL,2,none⟩) (Kd.aD (p:=⟨nL,1,none⟩) (Kd.aD (p:=⟨nL,0,none⟩) (Kd.bY qA.out (fun k_ hk=>(⟨hk,hk.2⟩:_∧k_≠nL))) (fun _ hk=>hk.2) (.int .i64 ((ak l1 fq).f0))) (fun _ hk=>hk.2) (.int .i64 ((ak l1 fq).f1))) (fun _ hk=>hk.2) (.string ((ak l1 fq).f2))) (fun _ hk=>hk.2) (.string ((ak l1 fq).f3))) (fun _ h_=>h_.1))) hb);replace oM:=af.mk (aK (g:=nL) (o:=.cells #[.int .i64 ((ak l1 fq).f0),.int .i64 ((ak l1 fq).f1),.string ((ak l1 fq).f2),.string ((ak l1 fq).f3)] 67 (0,0)) (by exact rW oM.out) hb);replace HB:=af.mk (av ai hb);(try clear hb);(try clear hb2);(try clear hk);(try clear hi))|((with_reducible refine bZ (N:=9) rfl ?_);refine dn 9 (cs:=#[.int .i64 0,.int .i64 0,.string (⟨#[]⟩:ByteArray),.string (⟨#[]⟩:ByteArray)]) (t:=67) ?_;intro sK hg w20 aC hb;replace qA:=af.mk (Kd.gD (Kd.Dh (dZ qA) sK (Nat.le_of_eq hg.symm)) hb);have CZ:=af.mk (aC);have GW222:af (w.heap.size≤sK):=aT hg;have GE222:af (w.heap.size≤sK):=aT hg;have Ov:=kS hg oM;have Ow:=kT hg oM;replace oM:=bQ oM hb;replace HB:=af.mk (av ai hb);clear hb aC hg;have hnb21:=Ow.out;have hnc21:=Ov.out;obtain⟨Me,Mf,Mg,Mh,MH,MI,MJ,MK⟩:=fB CZ))
        go_ret2
        exact⟨_,bS,by first|exact Kd.dV _ _ _ _ _|exact Kd.iP _ _ _ _ _|exact Kd.iR _ _ _ _ _|exact Kd.iQ _ _ _ _ _|exact Kd.j5 _ _ _ _ _,ai⟩
      ·rw[if_neg c6]at H;exact absurd H (by simp)
     ·rw[if_neg c5]at H;exact absurd H (by simp)
    ·rw[if_neg c4]at H;have iH:decide (fq<(l1.length:Int))=false:=decide_eq_false c4;clear c4;simp only[Option.some.injEq,Prod.mk.injEq]at H;obtain⟨rfl,rfl⟩:=H
     go_wp2
     go_ret2
     exact⟨_,bS,by(with_reducible repeat(first|apply Kd.bX|apply Kd.dK|apply Kd.di));exact qA.out,ai⟩
def F5.f(a0:Int):Option (ByteArray):=if a0≤250 then(some (strOfNums (([(a0)%256]:List Int))))else(some (strOfNums (([251,(a0/256)%256,(a0)%256]:List Int))))
theorem F5.calls(a0:Int)(r:ByteArray)(w:World)(h:F5.f a0=some r):
  Calls Tryz.prog 135 #[.int .i64 a0] w fun e w'=>e=.returned (.string r)∧Below w.heap.size w w':=by
 have HB:=af.mk (Below.refl w.heap.size w);have H:(if a0≤250 then(some (strOfNums (([(a0)%256]:List Int))))else(some (strOfNums (([251,(a0/256)%256,(a0)%256]:List Int)))))=some r:=h;clear h
 by_cases c2:a0≤250
 ·rw[if_pos c2]at H;have ig:decide (a0≤250)=true:=decide_eq_true c2;clear c2;obtain⟨y226,J7⟩:∃y_:List Int,y_=(([(a0)%256]:List Int)):=⟨_,rfl⟩;replace H:(some (strOfNums y226))=some r:=by first|(rw[J7];with_reducible exact H)|(have bP:=(Option.bind_some _ _).symm.trans H;rw[J7];with_reducible exact bP)|(have bP:=(Option.bind_some _ _).symm.trans H;with_reducible exact bP)|with_reducible exact H|(rw[J7];exact H)|exact H
  have Ny226:=af.mk J7;clear J7;obtain rfl:=Option.some.inj H
  go_enter Tryz.func135,Tryz.ntmps135
  go_wp2_with (first|((with_reducible refine bZ (N:=7) rfl ?_);refine Kd.zl (Kd.int .u8) _ 5 ?hg (N:=7) ?hd (xs:=([(a0)%256]:List Int)) (inner:=[.int .u8 ((a0)%256)]) (ok:=fun _=>True) (iD:=fun _=>True) ?hr ?hp (fun _ hk=>hk) trivial (Below.refl _ _) (Nat.le_refl _) (by simp) ?_;(case hd=>rfl);(case hg=>rfl);(case hr=>first|(go_simp;done)|(go_simp;rfl));(case hp=>exact(fC.one (show Kd.M (Kd.int .u8) _ _ _ ((a0)%256) [.int .u8 ((a0)%256)]from rfl) (fC.none _ _)));intro v227 w3 sM hb oZ o8;clear oZ o8;(first|rw[← Ny226.out]at sM|(simp only[Int.reduceToNat]at sM;rw[← Ny226.out]at sM));have HO228:=af.mk (Kd.gU sM (fI ai));replace HB:=af.mk (av ai hb);clear hb sM;have hcv5:=Co (P:=Tryz.prog) Tryz.underlying155 Tryz.underlying5 Tryz.underlying9 (Kd.wQ HO228.out)))
  go_ret
  exact⟨bS,ai⟩
 ·rw[if_neg c2]at H;have ig:decide (a0≤250)=false:=decide_eq_false c2;clear c2;obtain⟨y229,J8⟩:∃y_:List Int,y_=(([251,(a0/256)%256,(a0)%256]:List Int)):=⟨_,rfl⟩;replace H:(some (strOfNums y229))=some r:=by first|(rw[J8];with_reducible exact H)|(have bP:=(Option.bind_some _ _).symm.trans H;rw[J8];with_reducible exact bP)|(have bP:=(Option.bind_some _ _).symm.trans H;with_reducible exact bP)|with_reducible exact H|(rw[J8];exact H)|exact H
  have Ny229:=af.mk J8;clear J8;obtain rfl:=Option.some.inj H
  go_enter Tryz.func135,Tryz.ntmps135
  go_wp2_with (first|((with_reducible refine bZ (N:=14) rfl ?_);refine Kd.zl (Kd.int .u8) _ 5 ?hg (N:=14) ?hd (xs:=([251,(a0/256)%256,(a0)%256]:List Int)) (inner:=[.int .u8 251,.int .u8 ((a0/256)%256),.int .u8 ((a0)%256)]) (ok:=fun _=>True) (iD:=fun _=>True) ?hr ?hp (fun _ hk=>hk) trivial (Below.refl _ _) (Nat.le_refl _) (by simp) ?_;(case hd=>rfl);(case hg=>rfl);(case hr=>first|(go_simp;done)|(go_simp;rfl));(case hp=>exact(fC.one (show Kd.M (Kd.int .u8) _ _ _ 251 [.int .u8 251]from rfl) (fC.one (show Kd.M (Kd.int .u8) _ _ _ ((a0/256)%256) [.int .u8 ((a0/256)%256)]from rfl) (fC.one (show Kd.M (Kd.int .u8) _ _ _ ((a0)%256) [.int .u8 ((a0)%256)]from rfl) (fC.none _ _)))));intro v230 w6 yB hb oZ o8;clear oZ o8;(first|rw[← Ny229.out]at yB|(simp only[Int.reduceToNat]at yB;rw[← Ny229.out]at yB));have HO231:=af.mk (Kd.gU yB (fI ai));replace HB:=af.mk (av ai hb);clear hb yB;have hcv8:=Co (P:=Tryz.prog) Tryz.underlying155 Tryz.underlying5 Tryz.underlying9 (Kd.wQ HO231.out)))
  go_ret
  exact⟨bS,ai⟩
def qY.f(a0:ByteArray):Option (ByteArray×Int):=if(a0.size:Int)>65535 then(some ((⟨#[]⟩:ByteArray),4))else((F5.f (a0.size:Int)).bind fun t232=>(if t232.size+a0.size≤9223372036854775807 then(some (t232++a0,0))else(none)))
theorem qY.calls(a0:ByteArray)(r1:ByteArray)(r2:Int)(w:World)(h:qY.f a0=some (r1,r2)):
  Calls Tryz.prog 81 #[.string a0] w fun e w'=>e=.returned (.tuple #[.string r1,.int .i64 r2])∧Below w.heap.size w w':=by
 have HB:=af.mk (Below.refl w.heap.size w);have H:(if(a0.size:Int)>65535 then(some ((⟨#[]⟩:ByteArray),4))else((F5.f (a0.size:Int)).bind fun t232=>(if t232.size+a0.size≤9223372036854775807 then(some (t232++a0,0))else(none))))=some (r1,r2):=h;clear h
 by_cases c2:(a0.size:Int)>65535
 ·rw[if_pos c2]at H;have ig:decide (65535<(a0.size:Int))=true:=decide_eq_true c2;have nJ:decide (65535<a0.size)=true:=decide_eq_true (by omega);clear c2;simp only[Option.some.injEq,Prod.mk.injEq]at H;obtain⟨rfl,rfl⟩:=H
  go_enter Tryz.func81,Tryz.ntmps81
  go_wp2
  go_ret2
  exact⟨bS,ai⟩
 ·rw[if_neg c2]at H;have ig:decide (65535<(a0.size:Int))=false:=decide_eq_false c2;have nJ:decide (65535<a0.size)=false:=decide_eq_false (by omega);clear c2;replace H:=Option.bind_eq_some_iff.mp H;obtain⟨t232,jD,H⟩:=H;(try dsimp only at H);have A3:=af.mk jD;clear jD
  by_cases c4:t232.size+a0.size≤9223372036854775807
  ·rw[if_pos c4]at H;have iH:=eq_true c4;have zm:decide (t232.size+a0.size≤9223372036854775807)=true:=decide_eq_true c4
   try have c4b2:(9223372036854775807<t232.size+a0.size)=False:=eq_false (Nat.not_lt.2 c4)
   simp only[Option.some.injEq,Prod.mk.injEq]at H;obtain⟨rfl,rfl⟩:=H
   go_enter Tryz.func81,Tryz.ntmps81
   go_wp2_with (first|((with_reducible refine bq (f:=135) rfl ?_);refine bC 9 Tryz.func135 #[.int .i64 (a0.size:Int)] rfl ?_;(with_reducible refine(F5.calls (a0.size:Int) t232 _ A3.out).mono ?_);rintro e w5 ⟨rfl,hb⟩;refine⟨_,rfl,?_⟩;replace HB:=af.mk (av ai hb);(try clear hb);(try clear hb2);(try clear hk);(try clear hi)))
   go_ret2
   exact⟨bS,ai⟩
  ·rw[if_neg c4]at H;exact absurd H (by simp)
end Go.Proofs.YtdcddenojjdmjaaGreatDoor.T
