import Derived.Test.YtdcddenojjdmjaaGreatDoorM11
set_option linter.all false
set_option maxHeartbeats 8000000
set_option maxRecDepth 100000
namespace Go.Proofs.YtdcddenojjdmjaaGreatDoor.T
open Go.RowKit Go.Proofs.YtdcddenojjdmjaaGreatDoorW.PrintWords Go.Proofs.YtdcddenojjdmjaaGreatDoorW.PrintLast Go.Proofs.YtdcddenojjdmjaaGreatDoorW.PrintMore
attribute [local go_sem] kH kL kK kP kJ kN kI kM
def idx{α:Type}(p:α→Bool)(l:List α):Int:=match l.findIdx? p with|some i=>(i:Int)|none=> -1
theorem pW{A:Option Addr}{l:List aj}{w wr:World}(h:Kd.C dw w A l.length l){i:Nat}(hi:i<l.length)(hb:Below w.heap.size w wr):
  ∃ad,A=some ad∧wr.cell? (ad.add (i*4))=some (.int .i64 (l[i]'hi).f0)∧wr.cell? ⟨(ad.add (i*4)).block,(ad.add (i*4)).off+1,none⟩=some (.int .i64 (l[i]'hi).f1)∧wr.cell? ⟨(ad.add (i*4)).block,(ad.add (i*4)).off+2,none⟩=some (.string (l[i]'hi).f2)∧wr.cell? ⟨(ad.add (i*4)).block,(ad.add (i*4)).off+3,none⟩=some (.string (l[i]'hi).f3):=by
 obtain⟨ad,e,h0,h1,h2,h3⟩:=gL h (i:Int) (by omega) (by omega);have er:ak l (i:Int)=l[i]'hi:=by simp[ak,List.getD_eq_getElem?_getD,List.getElem?_eq_getElem hi]
 rw[show(i:Int).toNat=i by omega,er]at h0 h1 h2 h3;exact⟨ad,e,aI hb h0,aI hb h1,aI hb h2,aI hb h3⟩
theorem mO{P:Program}{f:FuncId}{fn:Func}{c:Code}(hf:P.funcs[f]? =some fn)(hname:(fn.name== "runtime.NumGoroutine")=false)(hb:fn.body=some c):∀args w,(callFunc f args).run P w=.ok (.enter f args) w:=by
 intro args w;have h1:fn.name≠ "runtime.NumGoroutine" :=by simpa using hname
 simp[callFunc,hf,h1,hb,mark]
theorem DV{α:Type}(p:α→Bool)(l:List α)(i:Nat)(h:∀j (hj:j<l.length),j<i→p (l[j]'hj)=false)(hi:i<l.length)(hp:p (l[i]'hi)=true):idx p l=i:=by
 have:l.findIdx? p=some i:=by
  rw[List.findIdx?_eq_some_iff_getElem];exact⟨hi,hp,fun j hj=>by simpa using h j (by omega) hj⟩
 unfold idx;rw[this]
theorem AZ{α:Type}(p:α→Bool)(l:List α)(h:∀j (hj:j<l.length),p (l[j]'hj)=false):idx p l= -1:=by
 have:l.findIdx? p=none:=by
  rw[List.findIdx?_eq_none_iff];intro x hx;obtain⟨j,hj,rfl⟩:=List.getElem_of_mem hx;exact h j hj
 unfold idx;rw[this]
def IU.At(l:List aj)(p:aj→Bool)(Inv:World→Prop)(v8:Value)(wr:World):Prop:=
 ∃i:Nat,i≤l.length∧v8=.int .i64 i∧Inv wr∧∀j (hj:j<l.length),j<i→p (l[j]'hj)=false
theorem IU(K:Nat)(cap:Array Value)(he:∀args w,(callFunc K args).run Tryz.prog w=.ok (.enter K args) w)(A:Option Addr)(c:Nat)(l:List aj)(p:aj→Bool)(w W:World)(hr:Kd.C dw w A l.length l)(hc:l.length≤c)(Inv:World→Prop)(h0:Inv W)
  (hbel:∀W',Inv W'→Below w.heap.size w W')
  (hstep:∀(x:aj) W',Inv W'→Calls Tryz.prog K (#[.agg #[.int .i64 x.f0,.int .i64 x.f1,.string x.f2,.string x.f3]]++cap) W' fun e W''=>e=.returned (.bool (p x))∧Inv W''):
  Calls Tryz.prog 170 #[.slice A l.length c,.func (.func K) #[] cap] W fun e W'=>e=.returned (.int .i64 (idx p l))∧Inv W':=by
 have hlen:l.length≤9223372036854775807:=hr.2.1;have HR:=af.mk hr;have H0:=af.mk h0;have HS:=af.mk hstep;have HBel:=af.mk hbel;clear hr h0 hstep hbel
 go_enter Tryz.func170,Tryz.ntmps170
 go_wp2_with fail
 go_loopw [8] (fun v8 wr=>IU.At l p Inv v8 wr) (fun v8 _=>l.length-(intOf v8).toNat)
 case atStart=>exact⟨0,by omega,rfl,H0.out,fun j _ hj=>by omega⟩
 case round=>
  obtain⟨i,hi,rfl,hI,hN⟩:=hrel;have HI:=af.mk hI;have HN:=af.mk hN;clear hI hN H0
  by_cases hlt:i<l.length
  ·obtain⟨ad,hA,hc0,hc1,hc2,hc3⟩:=pW HR.out hlt (HBel.out _ HI.out)
   cases hA
   go_wp2_with fail
   refine(HS.out (l[i]'hlt) _ HI.out).mono ?_;rintro e w2 ⟨rfl,h2⟩;have H2:=af.mk h2;clear h2 hc0 hc1 hc2 hc3
   by_cases hp:p (l[i]'hlt)=true
   ·have HP:=af.mk (DV p l i HN.out hlt hp);rw[hp]
    go_wp2_with fail
    go_ret
    exact⟨by rw[HP.out];rfl,H2.out⟩
   ·have hp:p (l[i]'hlt)=false:=by simpa using hp
    have HP:=af.mk hp;rw[hp];clear hp
    go_wp2_with fail
    go_roundw
    case rel=>exact⟨i+1,by omega,by go_num,H2.out,fun j hj hji=>by
     rcases Nat.lt_or_ge j i with h|h
     ·exact HN.out j hj h
     ·obtain rfl:j=i:=by omega
      exact HP.out⟩
    case measure=>simp[intOf];omega
  ·have HP:=af.mk (AZ p l (fun j hj=>HN.out j hj (by omega)))
   go_wp2_with fail
   go_ret
   exact⟨by rw[HP.out];rfl,HI.out⟩
def ji.p(key val:ByteArray)(x:aj):Bool:=if x.f0=3 then(if x.f2.toList=key.toList then x.f3.toList==val.toList else false)else false
def ji.f(l0:List (aj))(a1:ByteArray)(a2:ByteArray):Option Int:=some (idx (ji.p a1 a2) l0)
theorem ji.step(x:aj)(key val:ByteArray)(g1 g2 B:Nat)(w:World)(b3:B≤w.heap.size)
  (h1:w.heap[g1]? =some (.cells #[.string key] 9 (0,0))) (h2:w.heap[g2]? =some (.cells #[.string val] 9 (0,0))):
  Calls Tryz.prog 171 #[.agg #[.int .i64 x.f0,.int .i64 x.f1,.string x.f2,.string x.f3],.pointer (some ⟨g1,0,none⟩),.pointer (some ⟨g2,0,none⟩)] w fun e w'=>e=.returned (.bool (ji.p key val x))∧
   w'.heap[g1]? =some (.cells #[.string key] 9 (0,0))∧w'.heap[g2]? =some (.cells #[.string val] 9 (0,0))∧Below B w w':=by
 obtain⟨x0,x1,x2,x3⟩:=x;simp only;have l1:=iB h1;have l2:=iB h2;have hc1:w.cell? ⟨g1,0,none⟩=some (.string key):=(ah h1 0).trans rfl;have hc2:w.cell? ⟨g2,0,none⟩=some (.string val):=(ah h2 0).trans rfl;have H0:=af.mk (And.intro h1 h2);clear h1 h2
 by_cases c1:x0=3
 ·by_cases c2:x2.toList=key.toList
  ·have q2:(x2.toList==key.toList)=true:=beq_iff_eq.2 c2;have e:ji.p key val ⟨x0,x1,x2,x3⟩=(x3.toList==val.toList):=by unfold ji.p;rw[if_pos c1,if_pos c2]
   rw[e];clear e;subst c1
   go_enter Tryz.func171,Tryz.ntmps171
   go_wp2_with fail
   go_ret
   exact⟨rfl,ay H0.out.1 _,ay H0.out.2 _,(Below.refl B w).alloc b3 _⟩
  ·have q2:(x2.toList==key.toList)=false:=beq_eq_false_iff_ne.2 c2;have e:ji.p key val ⟨x0,x1,x2,x3⟩=false:=by unfold ji.p;rw[if_pos c1,if_neg c2]
   rw[e];clear e;subst c1
   go_enter Tryz.func171,Tryz.ntmps171
   go_wp2_with fail
   go_ret
   exact⟨rfl,ay H0.out.1 _,ay H0.out.2 _,(Below.refl B w).alloc b3 _⟩
 ·have q1:(x0==3)=false:=beq_eq_false_iff_ne.2 c1;have e:ji.p key val ⟨x0,x1,x2,x3⟩=false:=by unfold ji.p;rw[if_neg c1]
  rw[e];clear e
  go_enter Tryz.func171,Tryz.ntmps171
  go_wp2_with fail
  go_ret
  exact⟨rfl,ay H0.out.1 _,ay H0.out.2 _,(Below.refl B w).alloc b3 _⟩
theorem ji.enter:∀args w,(callFunc 171 args).run Tryz.prog w=.ok (.enter 171 args) w:=mO Tryz.func171 (by kernel_rfl) rfl
theorem ji.calls(A0:Option Addr)(c0:Nat)(l0:List (aj))(a1:ByteArray)(a2:ByteArray)(r:Int)(w:World)(hr0:Kd.C dw w A0 l0.length l0)(hc0:l0.length≤c0)(h:ji.f l0 a1 a2=some r):
  Calls Tryz.prog 116 #[.slice A0 l0.length c0,.string a1,.string a2] w fun e w'=>e=.returned (.int .i64 r)∧Below w.heap.size w w':=by
 have HR:=af.mk hr0;have HF:=af.mk (show idx (ji.p a1 a2) l0=r from Option.some.inj h);clear hr0 h;have hmf:∀(fn:Fn) (first cap:Array Value) (w:World),(Instr.makeFunc fn first cap).run Tryz.prog w=.ok (.func fn first cap) w:=fun _ _ _ _=>rfl
 have b0:=bI w (.cells #[.string a1] 9);have b1:=bI (w.alloc (.cells #[.string a1] 9)) (.cells #[.string a2] 9);have e1:(w.alloc (.cells #[.string a1] 9)).heap.size=w.heap.size+1:=by simp
 rw[e1]at b1;have HS:=af.mk (And.intro (ay b0 (.cells #[.string a2] 9)) b1);clear b0 b1 e1
 go_enter Tryz.func116,Tryz.ntmps116
 go_wp2_with fail
 refine(IU 171 #[.pointer (some ⟨w.heap.size,0,none⟩),.pointer (some ⟨w.heap.size+1,0,none⟩)] ji.enter A0 c0 l0 (ji.p a1 a2) w _ HR.out hc0
  (fun W'=>Below w.heap.size w W'∧W'.heap[w.heap.size]? =some (.cells #[.string a1] 9 (0,0))∧W'.heap[w.heap.size+1]? =some (.cells #[.string a2] 9 (0,0)))
  ⟨ax (ax (Below.refl _ _) _) _,HS.out⟩ (fun _ h=>h.1) ?_).mono ?_
 ·intro x W' h;refine(ji.step x a1 a2 w.heap.size (w.heap.size+1) w.heap.size W' h.1.size h.2.1 h.2.2).mono ?_;rintro e w2 ⟨rfl,h1,h2,h3⟩;exact⟨rfl,h.1.trans h3,h1,h2⟩
 rintro e w1 ⟨rfl,h1,_⟩;have HB:=af.mk h1;rw[HF.out];clear h1 HS
 go_wp2_with fail
 go_ret
 exact⟨rfl,HB.out⟩
def FH.f(aH:Int)(aV:Int)(bg:ByteArray)(bn:ByteArray):Option (Bool):=if aH=4 then(some true)else(some (aH==5))
theorem FH.calls(aH:Int)(aV:Int)(bg:ByteArray)(bn:ByteArray)(r:Bool)(w:World)(h:FH.f aH aV bg bn=some r):
  Calls Tryz.prog 147 #[.agg #[.int .i64 aH,.int .i64 aV,.string bg,.string bn]] w fun e w'=>e=.returned (.bool r)∧Below w.heap.size w w':=by
 have wN:=Tryz.underlying67;have HB:=af.mk (Below.refl w.heap.size w);have H:(if aH=4 then(some true)else(some (aH==5)))=some r:=h;clear h
 by_cases c2:aH=4
 ·rw[if_pos c2]at H;have ig:(aH==4)=true:=beq_iff_eq.mpr c2;have nJ:(aH != 4)=false:=bne_eq_false_iff_eq.mpr c2;clear c2;obtain rfl:=Option.some.inj H
  go_enter Tryz.func147,Tryz.ntmps147
  go_wp2_with (first|((with_reducible refine bZ (N:=1) rfl ?_);refine dn 1 (cs:=#[.int .i64 aH,.int .i64 aV,.string bg,.string bn]) (t:=67) ?_;intro I6 hg w3 aC hb;have Oi:=af.mk (aC);have GW150:af (w.heap.size≤I6):=aT hg;have GE150:af (w.heap.size≤I6):=aT hg;replace HB:=af.mk (av ai hb);clear hb aC hg;obtain⟨DI,DJ,DK,DL,DN,DR,DT,DU⟩:=fB Oi))
  go_ret
  exact⟨bS,ai⟩
 ·rw[if_neg c2]at H;have ig:(aH==4)=false:=beq_eq_false_iff_ne.mpr c2;have nJ:(aH != 4)=true:=bne_iff_ne.mpr c2;obtain rfl:=Option.some.inj H
  go_enter Tryz.func147,Tryz.ntmps147
  go_wp2_with (first|((with_reducible refine bZ (N:=1) rfl ?_);refine dn 1 (cs:=#[.int .i64 aH,.int .i64 aV,.string bg,.string bn]) (t:=67) ?_;intro I6 hg w5 aC hb;have Oi:=af.mk (aC);have GW150:af (w.heap.size≤I6):=aT hg;have GE150:af (w.heap.size≤I6):=aT hg;replace HB:=af.mk (av ai hb);clear hb aC hg;obtain⟨PV,PW,PX,PY,Qk,Ql,Qm,Qn⟩:=fB Oi))
  go_ret
  exact⟨bS,ai⟩
section
attribute [local go_sem] Oper.semAt_some
def evs(h:List aj)(gm:Int)(k:Nat):List (Nat×aj):=(List.range k).filterMap fun j=>match h[j]? with|some x=>(if x.f1=gm then some (j,x)else none)|none=>none
theorem Ph(h:List aj)(gm:Int)(k:Nat)(hk:k<h.length):evs h gm (k+1)=evs h gm k++(if(h[k]'hk).f1=gm then[(k,h[k]'hk)]else[]):=by
 unfold evs;rw[List.range_succ,List.filterMap_append]
 congr 1
 simp only[List.filterMap_cons,List.filterMap_nil,List.getElem?_eq_getElem hk]
 by_cases c:(h[k]'hk).f1=gm
 ·simp[c]
 ·simp[c]
theorem evs_len(h:List aj)(gm:Int)(k:Nat):(evs h gm k).length≤k:=by
 have:=List.length_filterMap_le (fun j=>match h[j]? with|some x=>(if x.f1=gm then some (j,x)else none)|none=>none) (List.range k);simpa [evs]using this
def Kof(n₀ Bt:Nat)(W W':World):Prop:=Below n₀ W W'∧∀cs t,W.heap[Bt]? =some (.cells cs t (0,0))→W'.heap[Bt]? =some (.cells cs t (0,0))
theorem Na{n₀ Bt:Nat}{A B C:World}(h:Kof n₀ Bt A B)(k:Kof n₀ Bt B C):Kof n₀ Bt A C:=⟨h.1.trans k.1,fun cs t e=>k.2 cs t (h.2 cs t e)⟩
theorem M9{n₀ Bt:Nat}{w:World}(hn:n₀≤w.heap.size)(W:World)(l:Nat)(o o':Obj)(hl:w.heap.size≤l)(h:W.heap[l]? =some o)(hc:o.isCells=false)(hw:o.isWalk=false):Kof n₀ Bt W (W.putObj l o'):=
 ⟨belowK_b hn W l o o' hl h hc hw,fun cs t e=>by
  have hne:Bt≠l:=fun e'=>by rw[e',h]at e;cases e;cases hc
  exact(World.putObj_heap_other hne).trans e⟩
theorem ofRun(n:Nat)(hn:1≤n)(l Bh Bt:Nat)(A:Option Addr)(c:Nat)(h:List aj)(gm:Int)(w0:World)(hr:Kd.C dw w0 A h.length h)(hc:h.length≤c)(J Jx:List (Nat×aj)→World→Prop)(B:Nat)(hJ:AbidesFrom B J)
  (hY:∀pre (x:Nat×aj) W,J pre W→pre.length<h.length→YieldAt Fence.wide (n-1) Tryz.prog l #[.int .i64 (x.1:Int),.agg #[.int .i64 x.2.f0,.int .i64 x.2.f1,.string x.2.f2,.string x.2.f3]] W fun e W'=>
   (e=.returned (.bool true)∧J (pre++[x]) W'∧Kof w0.heap.size Bt W W')∨(e=.returned (.bool false)∧Jx (pre++[x]) W'))
  (W:World) (hW:Below w0.heap.size w0 W) (hBh:W.cell? ⟨Bh,0,none⟩=some (.slice A h.length c)) (hBt:W.heap[Bt]? =some (.cells #[.int .i64 gm] 3 (0,0))) (h0:J [] W):
  CallsIn Fence.wide n Tryz.prog 187 #[.func (.yield l) #[] #[],.pointer (some ⟨Bh,0,none⟩),.pointer (some ⟨Bt,0,none⟩)] W fun e W'=>(∃v,e=.returned v)∧
   ((∃ys,ys=evs h gm h.length∧J ys W')∨(∃pre,(∃k,k≤h.length∧pre=evs h gm k)∧Jx pre W')):=by
 have hlen:h.length≤9223372036854775807:=hr.2.1;refine callsIn_of_wp Tryz.func187 rfl trivial ?_ rfl;simp only[Tryz.ntmps187,List.size_toArray,List.length_cons,List.length_nil,Nat.reduceAdd,Nat.reduceSub,Array.replicate_succ,Array.replicate_zero,List.push_toArray,List.append_toArray,List.nil_append,List.cons_append]
 gi_wp2
 gi_loopw [8] (fun i wr=>∃k:Nat,k≤h.length∧i=.int .i64 k∧J (evs h gm k) wr∧Below w0.heap.size w0 wr∧wr.heap[Bt]? =some (.cells #[.int .i64 gm] 3 (0,0)))
  (fun i _=>h.length-(intOf i).toNat)
 case atStart=>exact⟨0,Nat.zero_le _,rfl,h0,hW,hBt⟩
 case round=>
  obtain⟨k,hk,rfl,hJs,hB,hT⟩:=hrel
  by_cases hlt:k<h.length
  ·obtain⟨ad,hA,hc0,hc1,hc2,hc3⟩:=pW hr hlt hB
   cases hA
   have hct:wr.cell? ⟨Bt,0,none⟩=some (.int .i64 gm):=(ah hT 0).trans rfl;have hlt2:=iB hT;obtain⟨y,hye⟩:∃y,y=h[k]'hlt:=⟨_,rfl⟩;rw[← hye]at hc0 hc1 hc2 hc3;have HE:=af.mk (Ph h gm k hlt);rw[← hye]at HE;clear hye;obtain⟨y0,y1,y2,y3⟩:=y;simp only at hc0 hc1 hc2 hc3;have hJ1:J (evs h gm k) (wr.alloc (.cells #[.int .i64 y0,.int .i64 y1,.string y2,.string y3] 67)):=hJ _ wr _ none hJs (World.grownBy_alloc wr _ none) (fun r e=>by cases e);have hB1:=ax hB (.cells #[.int .i64 y0,.int .i64 y1,.string y2,.string y3] 67);have hT1:=ay hT (.cells #[.int .i64 y0,.int .i64 y1,.string y2,.string y3] 67)
   by_cases ht:y1=gm
   ·subst ht;obtain⟨fn,tmps,assign,body,hy,hR⟩:=hY _ (k,⟨y0,y1,y2,y3⟩) _ hJ1 (by have:=evs_len h y1 k;omega);dsimp only at hy
    gi_wp2
    refine hR.mono ?_;rintro e W3 (⟨rfl,hJ3,hk3⟩|⟨rfl,hJx3⟩)
    ·gi_wp2
     go_roundw
     case rel=>exact⟨k+1,by omega,by go_num,by rw[HE.out,if_pos trivial];exact hJ3,hB1.trans hk3.1,hk3.2 _ _ hT1⟩
     case measure=>simp[intOf];omega
    ·gi_wp2
     refine bodyPost_ret (results_none rfl _ _ _) rfl ?_;exact⟨⟨_,rfl⟩,.inr ⟨_,⟨k+1,by omega,by rw[HE.out,if_pos trivial]⟩,hJx3⟩⟩
   ·have htb:(y1==gm)=false:=beq_eq_false_iff_ne.2 ht
    gi_wp2
    refine⟨fun _ h=>(by cases h),?_⟩
    gi_wp2
    go_roundw
    case rel=>exact⟨k+1,by omega,by go_num,by rw[HE.out,if_neg ht,List.append_nil];exact hJ1,hB1,hT1⟩
    case measure=>simp[intOf];omega
  ·have e:k=h.length:=by omega
   subst e
   gi_wp2
   go_end0
   exact⟨⟨_,rfl⟩,.inl ⟨_,rfl,hJs⟩⟩
end
section
attribute [local go_sem] Oper.semAt_some
theorem QY(n:Nat)(hn:1≤n)(Bh Bt:Nat)(A:Option Addr)(c:Nat)(h:List aj)(gm:Int)(w0 w:World)(hr:Kd.C dw w0 A h.length h)(hc:h.length≤c)(hb:Below w0.heap.size w0 w)
  (hBh:w.heap[Bh]? =some (.cells #[.slice A h.length c] 22 (0,0))) (hBt:w.heap[Bt]? =some (.cells #[.int .i64 gm] 3 (0,0))):
  SeqStopsK Fence.wide n Tryz.prog 187 #[.pointer (some ⟨Bh,0,none⟩),.pointer (some ⟨Bt,0,none⟩)] (fun x:Nat×aj=>#[.int .i64 (x.1:Int),.agg #[.int .i64 x.2.f0,.int .i64 x.2.f1,.string x.2.f2,.string x.2.f3]]) (Kof w0.heap.size Bt)
   (fun ys=>ys=evs h gm h.length) (fun pre=>∃k,k≤h.length∧pre=evs h gm k) h.length w:=fun l J Jx W hW hJ _ hY h0=>
 ofRun n hn l Bh Bt A c h gm w0 hr hc J Jx _ hJ hY W (hb.trans (hW.mono hb.size)) ((ah (aK hBh hW) 0).trans rfl) (aK hBt hW) h0
theorem QW(A:Option Addr)(n c:Nat)(gm:Int)(w:World):
  Calls Tryz.prog 146 #[.slice A n c,.int .i64 gm] w fun e w'=>e=.returned (.func (.func 187) #[] #[.pointer (some ⟨w.heap.size,0,none⟩),.pointer (some ⟨w.heap.size+1,0,none⟩)])∧w'=(w.alloc (.cells #[.slice A n c] 22)).alloc (.cells #[.int .i64 gm] 3):=by
 have hmf:∀(fn:Fn) (first cap:Array Value) (w:World),(Instr.makeFunc fn first cap).run Tryz.prog w=.ok (.func fn first cap) w:=fun _ _ _ _=>rfl
 go_enter Tryz.func146,Tryz.ntmps146
 go_wp2
 go_ret
 exact⟨rfl,rfl⟩
def oh(x:aj):Bool:=x.f0==4||x.f0==5
def jF.f(l0:List (aj))(a1:Int):Option (Bool×Bool):=some (l0.any (fun x=>x.f1==a1),l0.any (fun x=>x.f1==a1&&oh x))
theorem uz{β:Type}{B:Nat}(g:Nat)(f:β→Array Value)(t:TypeId):OwnFrom B (fun(s:β) (W:World)=>W.heap[g]? =some (.cells (f s) t (0,0))):=fun s X Y row hs hg hr=>
 (hg.block g (iB hs) (fun e=>by
  obtain⟨_,o,ho,hc⟩:=hr g e.symm;rw[hs]at ho;cases ho;cases hc)).trans hs
theorem dS{w:World}{g j:Nat}{cs:Array Value}{t:TypeId}{fr:Nat×Nat}(h:w.heap[g]? =some (.cells cs t fr))(v:Value):(w.setCell ⟨g,j,none⟩ v).heap[g]? =some (.cells (cs.setIfInBounds j v) t fr):=by
 simp[World.setCell,Array.getElem?_modify,h]
theorem iV{w:World}{g k j:Nat}(h:k≠g)(v:Value):(w.setCell ⟨g,j,none⟩ v).heap[k]? =w.heap[k]? :=Below.heap_setCell w ⟨g,j,none⟩ v k (fun e=>h e)
def jF.ev(x:aj):Array Value:=#[.int .i64 x.f0,.int .i64 x.f1,.string x.f2,.string x.f3]
def jF.I(w:World)(pre:List (Nat×aj))(W:World):Prop:=
 (W.heap[w.heap.size]? =some (.cells #[.bool (!pre.isEmpty)] 4 (0,0))∧W.heap[w.heap.size+1]? =some (.cells #[.bool (pre.any fun x=>oh x.2)] 4 (0,0)))∧Below w.heap.size w W∧w.heap.size+1+1+1<W.heap.size
theorem jF.hI(w W0:World)(hW:Below w.heap.size w W0):OwnFrom W0.heap.size (jF.I w):=
 OwnFrom.and (OwnFrom.and (uz w.heap.size (fun pre:List (Nat×aj)=>#[.bool (!pre.isEmpty)]) _) (uz (w.heap.size+1) (fun pre:List (Nat×aj)=>#[.bool (pre.any fun x=>oh x.2)]) _)) (OwnFrom.and (ownFrom_below (Nat.le_refl _) hW.size) (fun _ _ _ _ hs hg _=>Nat.lt_of_lt_of_le hs hg.size))
def jF.Ax(w:World)(A0:Option Addr)(n c0:Nat)(a1:Int)(x:Nat×aj)(a':Act)(W:World):Prop:=
 ∃Bx,w.heap.size+1+1+1<Bx∧W.heap[Bx]? =some (.cells (jF.ev x.2) 67 (0,0))∧a'= {tmps:=#[.slice A0 n c0,.int .i64 a1,undef,undef,.bool false,.bool false,.pointer (some ⟨w.heap.size,0,none⟩),.pointer (some ⟨w.heap.size+1,0,none⟩),undef,.pointer (some ⟨Bx,0,none⟩),.slice A0 n c0,.int .i64 a1,
  .func (.func 187) #[] #[.pointer (some ⟨w.heap.size+1+1,0,none⟩),.pointer (some ⟨w.heap.size+1+1+1,0,none⟩)],.int .i64 (x.1:Int),.agg (jF.ev x.2),undef,undef,undef,undef,undef,undef,undef],defers:=[]}
theorem jF.hAx(w:World)(A0:Option Addr)(n c0:Nat)(a1:Int)(B:Nat)(x:Nat×aj)(a':Act):OwnFrom B (fun(_:Unit) W=>jF.Ax w A0 n c0 a1 x a' W):=fun s X Y row hs hg hr=>by
 obtain⟨Bx,h1,h2,h3⟩:=hs;exact⟨Bx,h1,uz (β:=Unit) Bx (fun _=>jF.ev x.2) _ () X Y row h2 hg hr,h3⟩
theorem Pf(h:List aj)(gm:Int)(p:aj→Bool):∀k,k≤h.length→((evs h gm k).any fun x=>p x.2)=(h.take k).any fun x=>x.f1==gm&&p x
 |0,_=>by simp[evs]
 |k+1,hk=>by
  rw[Ph h gm k (by omega),List.any_append,Pf h gm p k (by omega),← List.take_append_getElem (show k<h.length by omega),List.any_append]
  congr 1
  by_cases c:(h[k]'(by omega)).f1=gm
  ·simp[c]
  ·simp[c]
theorem jF.calls(A0:Option Addr)(c0:Nat)(l0:List (aj))(a1:Int)(r1 r2:Bool)(w:World)(hr0:Kd.C dw w A0 l0.length l0)(hc0:l0.length≤c0)(h:jF.f l0 a1=some (r1,r2)):
  Calls Tryz.prog 96 #[.slice A0 l0.length c0,.int .i64 a1] w fun e w'=>e=.returned (.tuple #[.bool r1,.bool r2])∧Below w.heap.size w w':=by
 have hh:=Option.some.inj h;have ea:=Pf l0 a1 oh l0.length (Nat.le_refl _);have eb:=Pf l0 a1 (fun _=>true) l0.length (Nat.le_refl _)
 have ec:(!(evs l0 a1 l0.length).isEmpty)=(evs l0 a1 l0.length).any fun _=>true:=by
  cases evs l0 a1 l0.length<;>simp
 rw[List.take_length]at ea eb;simp only[Bool.and_true]at eb;have e1:r1= !(evs l0 a1 l0.length).isEmpty:=by rw[ec,eb];exact(congrArg Prod.fst hh).symm
 have e2:r2=(evs l0 a1 l0.length).any fun x=>oh x.2:=by rw[ea];exact(congrArg Prod.snd hh).symm
 clear hh ea eb ec h;refine(callsIn_wide (n:=8)).1 ?_;refine callsIn_of_wp_marks Tryz.func96 rfl trivial ?_ rfl;simp only[Tryz.ntmps96,List.size_toArray,List.length_cons,List.length_nil,Nat.reduceAdd,Nat.reduceSub,Array.replicate_succ,Array.replicate_zero,List.push_toArray,List.append_toArray,List.nil_append,List.cons_append]
 gi_wp2_with (refine⟨trivial,?_⟩;gi_at_call 146;refine(callsIn_wide.2 (QW _ _ _ _ _)).mono ?_;rintro e w' ⟨rfl,rfl⟩)
 have k0:=ay (ay (ay (bI w (.cells #[.bool false] 4)) (.cells #[.bool false] 4)) (.cells #[.slice A0 l0.length c0] 22)) (.cells #[.int .i64 a1] 3);have k1:=bI (w.alloc (.cells #[.bool false] 4)) (.cells #[.bool false] 4);have k2:=bI ((w.alloc (.cells #[.bool false] 4)).alloc (.cells #[.bool false] 4)) (.cells #[.slice A0 l0.length c0] 22);have k3:=bI (((w.alloc (.cells #[.bool false] 4)).alloc (.cells #[.bool false] 4)).alloc (.cells #[.slice A0 l0.length c0] 22)) (.cells #[.int .i64 a1] 3);simp only[World.size_alloc]at k1 k2 k3;have m1:=ay (ay k1 (.cells #[.slice A0 l0.length c0] 22)) (.cells #[.int .i64 a1] 3);have m2:=ay k2 (.cells #[.int .i64 a1] 3);have hB0:Below w.heap.size w ((((w.alloc (.cells #[.bool false] 4)).alloc (.cells #[.bool false] 4)).alloc (.cells #[.slice A0 l0.length c0] 22)).alloc (.cells #[.int .i64 a1] 3)):=ax (ax (ax (ax (Below.refl _ _) _) _) _) _;have hsz:((((w.alloc (.cells #[.bool false] 4)).alloc (.cells #[.bool false] 4)).alloc (.cells #[.slice A0 l0.length c0] 22)).alloc (.cells #[.int .i64 a1] 3)).heap.size=w.heap.size+1+1+1+1:=by simp
 clear k1 k2;revert k0 m1 m2 k3 hB0 hsz;generalize ((((w.alloc (.cells #[.bool false] 4)).alloc (.cells #[.bool false] 4)).alloc (.cells #[.slice A0 l0.length c0] 22)).alloc (.cells #[.int .i64 a1] 3))=W0;intro k0 k3 k1 k2 hB0 hsz
 refine wpIn_rangeFunc_ownH (F:=Fence.wide) rfl (by omega) (gf:=187) (lb:=#[.pointer (some ⟨w.heap.size+1+1,0,none⟩),.pointer (some ⟨w.heap.size+1+1+1,0,none⟩)]) rfl trivial (mO Tryz.func187 (by kernel_rfl) rfl)
  (QY 7 (by omega) (w.heap.size+1+1) (w.heap.size+1+1+1) A0 c0 l0 a1 w W0 hr0 hc0 hB0 k2 k3) Na (M9 hB0.size) (Below.refl _ _) (fun _=>rfl)
  (jF.I w) (fun _ _ _=>False) (jF.hI w W0 hB0) (fun _ _ _ _ _ hs _ _=>hs) ⟨⟨k0,k1⟩,hB0,by omega⟩ (jF.Ax w A0 l0.length c0 a1) (jF.hAx w A0 l0.length c0 a1 _) ?assign ?body ?done ?stop
 case assign=>
  rintro l pre ⟨i,x0,x1,x2,x3⟩ W K hi hK;obtain⟨⟨hi1,hi2⟩,hi3,hi4⟩:=hi
  gi_wp2
  exact hK _ _ ((KeepsOthers.alloc _ _).from _) ⟨(Below.refl _ W).alloc hi3.size _,fun cs t e=>ay e _⟩ ⟨⟨ay hi1 _,ay hi2 _⟩,ax hi3 _,by simp;omega⟩ ⟨W.heap.size,hi4,bI W _,rfl⟩
 case body=>
  rintro l pre ⟨i,x0,x1,x2,x3⟩ a' W hl ⟨r,hr⟩ ⟨⟨bA,bD⟩,hB,hB4⟩ ⟨Bx,hBx,kX,rfl⟩ hlt;have cA:W.cell? ⟨w.heap.size,0,none⟩=_:=(ah bA 0).trans rfl;have fA:=aA bA 0;have cD:W.cell? ⟨w.heap.size+1,0,none⟩=some (.bool (pre.any fun x=>oh x.2)):=(ah bD 0).trans rfl;have fD:=aA bD 0;have x0':W.cell? ⟨Bx,0,none⟩=some (.int .i64 x0):=(ah kX 0).trans rfl;have x1':W.cell? ⟨Bx,1,none⟩=some (.int .i64 x1):=(ah kX 1).trans rfl;have x2':W.cell? ⟨Bx,2,none⟩=some (.string x2):=(ah kX 2).trans rfl;have x3':W.cell? ⟨Bx,3,none⟩=some (.string x3):=(ah kX 3).trans rfl
  by_cases hd:(pre.any fun x=>oh x.2)=true
  ·rw[hd]at cD
   gi_wp2
   refine⟨trivial,?_⟩
   gi_wp2
   refine⟨((KeepsOthers.setCell _ _ _).trans (KeepsOthers.setCell _ _ _)).from _,⟨((Below.refl _ W).setCell (p:=⟨w.heap.size,0,none⟩) (Nat.le_refl _) _).setCell (p:=⟨w.heap.size+1,0,none⟩) (Nat.le_succ _) _,fun cs t e=>(iV (by omega) _).trans ((iV (by omega) _).trans e)⟩,
    ⟨⟨(iV (by omega) _).trans ((dS bA _).trans (by simp)),(dS ((iV (by omega) _).trans bD) _).trans (by simp[hd])⟩,(hB.setCell (p:=⟨w.heap.size,0,none⟩) (Nat.le_refl _) _).setCell (p:=⟨w.heap.size+1,0,none⟩) (Nat.le_succ _) _,by simpa [World.setCell]using hB4⟩⟩
  ·have hd:(pre.any fun x=>oh x.2)=false:=by simpa using hd
   rw[hd]at cD
   gi_wp2_with fail
   refine⟨trivial,?_⟩;refine(CallsIn.inRound l (callsIn_wide.2 (FH.calls x0 x1 x2 x3 (oh ⟨x0,x1,x2,x3⟩) _ (by unfold FH.f oh;by_cases c:x0=4<;>simp[c])))).mono ?_;rintro e w5 ⟨rfl,hb5⟩;have bA5:=aK bA hb5;have bD5:=aK bD hb5;have cA5:=(ah bA5 0).trans rfl;have fA5:=aA bA5 0;have cD5:=(ah bD5 0).trans rfl;have fD5:=aA bD5 0
   gi_wp2
   refine⟨(KeepsFrom.of_grownBy (Dy hb5 none) (fun j e=>by cases e)).trans (((KeepsOthers.setCell _ _ _).trans (KeepsOthers.setCell _ _ _)).from _),⟨((hb5.mono hB.size).setCell (p:=⟨w.heap.size,0,none⟩) (Nat.le_refl _) _).setCell (p:=⟨w.heap.size+1,0,none⟩) (Nat.le_succ _) _,fun cs t e=>(iV (by omega) _).trans ((iV (by omega) _).trans (aK e hb5))⟩,
    ⟨⟨(iV (by omega) _).trans ((dS bA5 _).trans (by simp)),(dS ((iV (by omega) _).trans bD5) _).trans (by simp[hd])⟩,((hB.trans (hb5.mono hB.size)).setCell (p:=⟨w.heap.size,0,none⟩) (Nat.le_refl _) _).setCell (p:=⟨w.heap.size+1,0,none⟩) (Nat.le_succ _) _,by have:=hb5.size;simp[World.setCell];omega⟩⟩
 case done=>
  rintro D ys W hD rfl ⟨⟨bA,bD⟩,hB,hB4⟩ hK;have cA:W.cell? ⟨w.heap.size,0,none⟩=_:=(ah bA 0).trans rfl;have cD:W.cell? ⟨w.heap.size+1,0,none⟩=some (.bool ((evs l0 a1 l0.length).any fun x=>oh x.2)):=(ah bD 0).trans rfl
  gi_wp2
  gi_region
  all_goals
   gi_wp2
   refine⟨by simp,.inl ⟨_,_,rfl,run_takeDeferred (show W.drew.heap[D]? =_ from hK),?_⟩⟩;exact⟨_,results_tmp2 rfl _ _ _,by rw[e1,e2];rfl,(Below.drew hB).trans (belowK_b (w:=w) (Nat.le_refl _) W.drew D _ _ (by omega) (show W.drew.heap[D]? =_ from hK) rfl rfl)⟩
 case stop=>
  rintro D c pre W _ _ h _;exact h.elim
end
theorem eqA29(d:Nat)(w:World)(x0 y0:Int)(x1 y1:Int)(x2 y2:Int):
  (Op.equalIn (d+2) 29 (.agg #[.int .i64 x0,.int .i64 x1,.int .i64 x2]) (.agg #[.int .i64 y0,.int .i64 y1,.int .i64 y2])).run Tryz.prog w=.ok (x0==y0&&(x1==y1&&(x2==y2))) w:=by
 refine O7 Tryz.underlying29 (by kernel_rfl) ?_;refine Ag (by rfl) (by go_simp;rfl) (by go_simp;rfl) (by go_simp) ?_;refine Ag (by rfl) (by go_simp;rfl) (by go_simp;rfl) (by go_simp) ?_;exact O8 (by rfl) (by go_simp;rfl) (by go_simp;rfl) (by go_simp)
end Go.Proofs.YtdcddenojjdmjaaGreatDoor.T
