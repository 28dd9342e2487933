import Derived.Test.YtdcddenojjdmjaaGreatDoorM23
set_option linter.all false
set_option maxHeartbeats 8000000
set_option maxRecDepth 100000
namespace Go.Proofs.YtdcddenojjdmjaaGreatDoor.T
open Go.RowKit Go.Proofs.YtdcddenojjdmjaaGreatDoorW.PrintWords Go.Proofs.YtdcddenojjdmjaaGreatDoorW.PrintLast Go.Proofs.YtdcddenojjdmjaaGreatDoorW.PrintMore
def wV(l:List bW)(t:Int):Nat→List Int
 |0=>[t]
 |m+1=>wo (wV l t m) l
def yT(l:List bW)(t:Int)(n:Nat):List (List Int):=(List.range n).map (wV l t)
def om(l:List bW):List Int:=l.foldl (fun K s=>iM s.f0 K) []
def Cz(l:List bW)(k:Nat):List Int→Option (List bW)
 | []=>none
 |t::r=>if(wV l t (k+1)).contains t then some (ve l (yT l t (k+1)).reverse t)else Cz l k r
def yU(l:List bW)(F:List Int):Nat→Nat→List bW×Bool
 |0,_=>([],false)
 |m+1,k=>match Cz l k F with
  |some r=>(r,true)
  |none=>yU l F m (k+1)
def Bf.f(l0:List bW):Option (List bW×Bool):=
 if(l0.length≤1000000000∧(om l0).length≤100000)∧(l0.all fun s=>(Lit.int .i64 s.f0).wf&&(Lit.int .i64 s.f1).wf)=true then some (yU l0 (om l0) (om l0).length 0)else none
theorem Gl(l:List bW)(t:Int)(n:Nat):(yT l t n).length=n:=by simp[yT]
theorem Nw(l:List bW)(t:Int)(n j:Nat)(h:j<n):(yT l t n).getD j []=wV l t j:=by
 simp[yT,List.getD_eq_getElem?_getD,List.getElem?_map,List.getElem?_range h]
theorem aaI(l:List bW)(t:Int)(n:Nat):(yT l t (n+1)).take n=yT l t n:=by
 unfold yT;rw[← List.map_take,List.take_range,Nat.min_eq_left (by omega)]
theorem Vx{x:Int}:∀ {K:List Int},K.Pairwise (· < ·)→x ∈ K→iM x K=K
 | [],_,h=>by cases h
 |y::r,hs,h=>by
  unfold iM;have hy:=(List.pairwise_cons.1 hs).1
  by_cases h1:x=y
  ·subst h1;simp
  ·have hr:x ∈ r:=(List.mem_cons.1 h).elim (fun e=>absurd e h1) id;have:=hy x hr;rw[if_neg (by omega),if_neg h1,Vx (List.pairwise_cons.1 hs).2 hr]
theorem Vu{x:Int}:∀ {K:List Int},(∀y ∈ K,y<x)→iM x K=K++[x]
 | [],_=>rfl
 |y::r,h=>by
  have:=h y List.mem_cons_self;unfold iM;rw[if_neg (by omega),if_neg (by omega),Vu (fun z hz=>h z (List.mem_cons_of_mem _ hz))];rfl
theorem Tt(l:List bW)(i:Nat)(hi:i<l.length):om (l.take (i+1))=iM (l[i]'hi).f0 (om (l.take i)):=by
 unfold om;rw[← List.take_append_getElem hi,List.foldl_append];rfl
theorem Pq(l:List bW):∀i,i≤l.length→(om (l.take i)).length≤i
 |0,_=>by simp[om]
 |i+1,hi=>by
  rw[Tt l i (by omega)];have:=Pq l i (by omega);have:=M5 (l[i]'(by omega)).f0 (om (l.take i));omega
def qF(l:List bW)(base bR:Nat)(t:Int)(m:Nat)(v:Value)(bs:List Nat)(wr:World):Prop:=
 bs.length=m+1∧Kd.R Ba 131 wr base (fun _=>True) v bs∧∀j (hj:j<bs.length),iW (bs[j]'hj) (wV l t j) wr∧bs[j]'hj≠bR
def RInv(l:List bW)(base bR:Nat)(K:List Int)(cnt:Int→Nat)(wr:World):Prop:=
 ∃(f:Int→Value) (B:Int→List Nat),eu bR K f wr∧(∀t ∈ K,qF l base bR t (cnt t) (f t) (B t) wr)∧∀t ∈ K,∀t' ∈ K,t≠t'→(f t).ownBlock≠(f t').ownBlock
theorem qF.below{l:List bW}{base bR:Nat}{t:Int}{m:Nat}{v:Value}{bs:List Nat}{wr w':World}(h:qF l base bR t m v bs wr)(hb:Below wr.heap.size wr w'):qF l base bR t m v bs w':=
 ⟨h.1,Kd.gD h.2.1 hb,fun j hj=>⟨(h.2.2 j hj).1.below hb,(h.2.2 j hj).2⟩⟩
theorem RInv.congr{l:List bW}{base bR:Nat}{K:List Int}{cnt cnt':Int→Nat}{wr:World}(h:RInv l base bR K cnt wr)(hc:∀t ∈ K,cnt t=cnt' t):RInv l base bR K cnt' wr:=by
 obtain⟨f,B,h1,h2,h3⟩:=h;exact⟨f,B,h1,fun t ht=>by rw[← hc t ht];exact h2 t ht,h3⟩
theorem Ll{e base:Nat}{w:World}{ok:Nat→Prop}{v:Value}{bs:List Nat}(h:Ba.R e w base ok v bs):Ba.R e w base (fun k=>v.ownBlock=some k) v bs:=Kd.EX (Kd.wQ h) (fun k hk=>hk)
theorem qF.past{l:List bW}{base bR:Nat}{t:Int}{m:Nat}{v:Value}{bs:List Nat}{K:List Int}{f:Int→Value}{w3 w4:World}(hM:eu bR K f w3)(h:qF l base bR t m v bs w3)(hg:w3.grownBy w4 (some bR)):qF l base bR t m v bs w4:=
 ⟨h.1,eu.past hM h.2.1 hg,fun j hj=>⟨(h.2.2 j hj).1.kept hg (fun e=>(h.2.2 j hj).2 (Option.some.inj e)),(h.2.2 j hj).2⟩⟩
theorem RInv.add{l:List bW}{base bR:Nat}{K:List Int}{wr w2 w4:World}{t:Int}{v:Value}{f:Int→Value}{B:Int→List Nat}{bm:Nat}(hM:eu bR K f wr)(hrows:∀t ∈ K,qF l base bR t 0 (f t) (B t) wr)(hd:∀t ∈ K,∀t' ∈ K,t≠t'→(f t).ownBlock≠(f t').ownBlock)
  (ht:t ∉ K) (hb2:Below wr.heap.size wr w2) (hnew:iW bm [t] w2) (hbm:bm≠bR) (hR:Kd.R Ba 131 w2 wr.heap.size (fun _=>True) v [bm]) (hbase:base≤wr.heap.size) (hM4:eu bR (iM t K) (oz f t v) w4) (hg4:w2.grownBy w4 (some bR)):
  RInv l base bR (iM t K) (fun _=>0) w4:=by
 have hM2:=hM.below hb2;have hne:∀x ∈ K,x≠t:=fun x hx e=>ht (e▸hx)
 refine⟨oz f t v,fun x=>if x=t then[bm]else B x,hM4,fun x hx=>?_,fun x hx y hy hxy=>?_⟩
 ·rcases(vM t x K).1 hx with rfl|hx
  ·simp only[oz,if_pos];refine qF.past hM2 ⟨rfl,Kd.gU hR hbase,fun j hj=>?_⟩ hg4;have:j=0:=by simp at hj;exact hj
   subst this;exact⟨hnew,hbm⟩
  ·simp only[oz,if_neg (hne x hx)];exact qF.past hM2 ((hrows x hx).below hb2) hg4
 ·have hv:∀x ∈ K,(f x).ownBlock≠v.ownBlock:=fun x hx e=>by
   obtain⟨g,c,hv,hg,_⟩:=Kd.xL hR (by simp);obtain⟨g',c',hv',_,hg',_⟩:=Kd.xL (hrows x hx).2.1 (by rw[(hrows x hx).1];omega);rw[hv,hv']at e;simp only[Value.ownBlock,Option.some.injEq]at e;omega
  rcases(vM t x K).1 hx with rfl|hx'
  ·rcases(vM x y K).1 hy with rfl|hy'
   ·exact absurd rfl hxy
   ·simp only[oz,if_pos,if_neg (hne y hy')];exact fun e=>hv y hy' e.symm
  ·rcases(vM t y K).1 hy with rfl|hy'
   ·simp only[oz,if_pos,if_neg (hne x hx')];exact hv x hx'
   ·simp only[oz,if_neg (hne x hx'),if_neg (hne y hy')];exact hd x hx' y hy' hxy
theorem RInv.step{l:List bW}{base bR:Nat}{K:List Int}{cnt:Int→Nat}{wr w2 w3 w4:World}{t:Int}{v':Value}{f:Int→Value}{B:Int→List Nat}(hM:eu bR K f wr)(hrows:∀t ∈ K,qF l base bR t (cnt t) (f t) (B t) wr)(hd:∀t ∈ K,∀t' ∈ K,t≠t'→(f t).ownBlock≠(f t').ownBlock)
  (ht:t ∈ K) (hb2:Below wr.heap.size wr w2) (hnew:iW wr.heap.size (wV l t (cnt t+1)) w2) (hR3:Kd.R Ba 131 w3 base (fun _=>True) v' (B t++[wr.heap.size])) (hg3:w2.grownBy w3 (f t).ownBlock) (hat:v'.ownBlock=(f t).ownBlock∨∃b,v'.ownBlock=some b∧w2.heap.size≤b)
  (hM4:eu bR (iM t K) (oz f t v') w4) (hg4:w3.grownBy w4 (some bR)):RInv l base bR K (fun x=>if x=t then cnt t+1 else cnt x) w4:=by
 have hM2:=hM.below hb2;have hRt2:=Kd.gD (hrows t ht).2.1 hb2;have hM3:=hM2.kept hg3 (eu.Cn hM2 hRt2);rw[Vx hM.1 ht]at hM4;have hlt:=hM.lt;have h3:∀b S,iW b S w2→iW b S w3:=fun b S h=>h.kept hg3 (eu.Cn h hRt2)
 refine⟨oz f t v',fun x=>if x=t then B t++[wr.heap.size]else B x,hM4,fun x hx=>?_,fun x hx y hy hxy=>?_⟩
 ·by_cases e:x=t
  ·subst e;simp only[oz,if_pos];refine qF.past hM3 ⟨by rw[List.length_append,(hrows x hx).1];rfl,hR3,fun j hj=>?_⟩ hg4
   rcases Nat.lt_or_ge j (B x).length with h|h
   ·rw[List.getElem_append_left h];exact⟨h3 _ _ (((hrows x hx).2.2 j h).1.below hb2),((hrows x hx).2.2 j h).2⟩
   ·have hj':j=(B x).length:=by rw[List.length_append,List.length_singleton]at hj;omega
    subst hj';rw[List.getElem_append_right (Nat.le_refl _)];simp only[Nat.sub_self,List.getElem_cons_zero];rw[(hrows x hx).1];exact⟨h3 _ _ hnew,by omega⟩
  ·simp only[oz,if_neg e];refine qF.past hM3 ⟨(hrows x hx).1,?_,fun j hj=>?_⟩ hg4
   ·exact Kd.bY (Kd.Sd (Ll (Kd.gD (hrows x hx).2.1 hb2)) hg3 (fun k hk e'=>hd x hx t ht e (hk.trans e'))) (fun _ _=>trivial)
   ·exact⟨h3 _ _ (((hrows x hx).2.2 j hj).1.below hb2),((hrows x hx).2.2 j hj).2⟩
 ·have hv:∀x ∈ K,x≠t→(f x).ownBlock≠v'.ownBlock:=fun x hx hxt e=>by
   rcases hat with h|⟨b,h,hb⟩
   ·exact hd x hx t ht hxt (e.trans h)
   ·obtain⟨g',c',hv',_,hg',_⟩:=Kd.xL (hrows x hx).2.1 (by rw[(hrows x hx).1];omega);rw[h,hv']at e;simp only[Value.ownBlock,Option.some.injEq]at e;have:=hb2.size;omega
  by_cases ex:x=t
  ·subst ex;simp only[oz,if_pos,if_neg (Ne.symm hxy)];exact fun e=>hv y hy (Ne.symm hxy) e.symm
  ·by_cases ey:y=t
   ·subst ey;simp only[oz,if_pos,if_neg ex];exact hv x hx ex
   ·simp only[oz,if_neg ex,if_neg ey];exact hd x hx y hy hxy
theorem qF.append{l:List bW}{base bR:Nat}{wr w2 w3:World}{t:Int}{m:Nat}{v v':Value}{bs:List Nat}(h:qF l base bR t m v bs wr)(hlt:bR<wr.heap.size)(hb2:Below wr.heap.size wr w2)(hnew:iW wr.heap.size (wV l t (m+1)) w2)
  (hR3:Kd.R Ba 131 w3 base (fun _=>True) v' (bs++[wr.heap.size])) (hg3:w2.grownBy w3 v.ownBlock):qF l base bR t (m+1) v' (bs++[wr.heap.size]) w3:=by
 have hRt2:=Kd.gD h.2.1 hb2;have h3:∀b S,iW b S w2→iW b S w3:=fun b S h=>h.kept hg3 (eu.Cn h hRt2)
 refine⟨by rw[List.length_append,h.1];rfl,hR3,fun j hj=>?_⟩
 rcases Nat.lt_or_ge j bs.length with hlt'|hge
 ·rw[List.getElem_append_left hlt'];exact⟨h3 _ _ ((h.2.2 j hlt').1.below hb2),(h.2.2 j hlt').2⟩
 ·have hj':j=bs.length:=by rw[List.length_append,List.length_singleton]at hj;omega
  subst hj';rw[List.getElem_append_right (Nat.le_refl _)];simp only[Nat.sub_self,List.getElem_cons_zero];rw[h.1];exact⟨h3 _ _ hnew,by omega⟩
section
variable {ops:Array Oper}{rest:List Oper}{o:Oper}{a:Act}{Q:Exit→Act→World→Prop}
theorem abr(w:World)(hg:o.guard=none)(m x v:Operand)(t e:TypeId)(hop:o.op=Op.insert t m x v)(ht:Tryz.prog.underlying t=some (.map 3 e))(b:Nat)(K:List Int)(f:Int→Value)
  (hm:a.eval m=.map (some b)) (h:eu b K f w) (hn:K.length<maxLen) (y:Int) (val:Value) (hx:a.eval x=.int .i64 y) (hv:a.eval v=val) (hy:(Lit.int .i64 y).wf=true)
  (hK:∀w',eu b (iM y K) (oz f y val) w'→w.grownBy w' (some b)→wpList Tryz.prog ops Q rest (a.put o.dst undef) w'):
  wpList Tryz.prog ops Q (o::rest) a w:=by
 refine wpList_plain hg fun K' hK'=>?_
 obtain⟨w',hrun,r1,r2⟩:=h.store ht hn hy val;unfold Oper.wp;simp[execOp,hop,hm,hx,hv,hrun,Result.andThen];exact hK' _ _ (hK w' r1 r2)
end
theorem Vr:(Tryz.prog.info? 131).map (fun i=>(i.zero,i.size,i.bytes))=some (some (.map none),1,8):=by kernel_rfl
def KG(l:List bW)(F:List Int)(k i:Nat):List bW×Bool:=match Cz l k (F.drop i)with
 |some r=>(r,true)
 |none=>yU l F (F.length-(k+1)) (k+1)
def Ring.At0(w:World)(l:List bW)(v17:Value)(wr:World):Prop:=
 ∃i:Nat,i≤l.length∧v17=.int .i64 i∧iW w.heap.size (om (l.take i)) wr∧Below w.heap.size w wr
def Ring.At2(w:World)(l:List bW)(bR:Nat)(F:List Int)(A7:Option Addr)(c7:Nat)(v31:Value)(wr:World):Prop:=
 ∃i:Nat,i≤F.length∧v31=.int .i64 i∧RInv l w.heap.size bR (F.take i) (fun _=>0) wr∧Kd.R (Kd.int .i64) 3 wr w.heap.size (fun _=>True) (.slice A7 F.length c7) F∧Below w.heap.size w wr
def Ring.At4(w:World)(l:List bW)(bR:Nat)(F:List Int)(A7:Option Addr)(c7:Nat)(r:List bW×Bool)(v44:Value)(wr:World):Prop:=
 ∃k:Nat,k≤F.length∧v44=.int .i64 k∧yU l F (F.length-k) k=r∧RInv l w.heap.size bR F (fun _=>k) wr∧Kd.R (Kd.int .i64) 3 wr w.heap.size (fun _=>True) (.slice A7 F.length c7) F∧Below w.heap.size w wr
def Ring.At6(w:World)(l:List bW)(bR:Nat)(F:List Int)(A7:Option Addr)(c7:Nat)(r:List bW×Bool)(k:Nat)(v48:Value)(wr:World):Prop:=
 ∃i:Nat,i≤F.length∧v48=.int .i64 i∧KG l F k i=r∧RInv l w.heap.size bR F (fun t=>if t ∈ F.take i then k+1 else k) wr∧Kd.R (Kd.int .i64) 3 wr w.heap.size (fun _=>True) (.slice A7 F.length c7) F∧Below w.heap.size w wr
theorem Xy{F:List Int}(hs:F.Pairwise (· < ·)){i:Nat}(hi:i<F.length):∀y ∈ F.take i,y<F[i]'hi:=by
 intro y hy;obtain⟨j,hj,rfl⟩:=List.getElem_of_mem hy;rw[List.length_take]at hj;rw[List.getElem_take];exact List.pairwise_iff_getElem.1 hs j i (by omega) hi (by omega)
theorem aaS{α:Type}{enc:α→Value}{h1:∀x,(enc x).oneCell'=true}{A:Addr}{l:List α}{w:World}(h:Kd.C (Kd.scalar enc h1) w (some A) l.length l){i:Nat}(hi:i<l.length):w.cell? (A.add i)=some (enc (l[i]'hi)):=by
 obtain⟨ad,c,e,_,hK,hc⟩:=Kd.zi h (l[i]'hi) (i:Int) (by omega) (by omega)
 cases e
 rw[show(i:Int).toNat=i by omega]at hK hc;have er:l.getD i (l[i]'hi)=l[i]'hi:=by simp[List.getD_eq_getElem?_getD,List.getElem?_eq_getElem hi]
 rw[er]at hK;have hK:c=[enc (l[i]'hi)]:=hK;subst hK;have:=hc 0 _ rfl;have hz:(Kd.scalar enc h1).sz=1:=rfl;rw[hz,Nat.mul_one,Nat.add_zero]at this;exact this
theorem oneMap{w:World}{g b base:Nat}(h:w.heap[g]? =some (.cells #[.map (some b)] 131 (0,0)))(hb:base≤g):Kd.R Ba 131 w base (fun _=>True) (.slice (some ⟨g,0,none⟩) 1 1) [b]:=
 Kd.EX ⟨rfl,.inr ⟨g,1,#[.map (some b)],rfl,hb,h,Nat.le_refl _,by unfold maxLen;omega,rfl,rfl⟩⟩ (fun _ _=>trivial)
theorem Bf.calls(A0:Option Addr)(c0:Nat)(l0:List bW)(r1:List bW)(r2:Bool)(w:World)(hr0:Kd.C nP w A0 l0.length l0)(hc0:l0.length≤c0)(h:Bf.f l0=some (r1,r2)):
  Calls Tryz.prog 49 #[.slice A0 l0.length c0] w fun e w'=>∃(A:Option Addr) (c:Nat),e=.returned (.tuple #[.slice A r1.length c,.bool r2])∧r1.length≤c∧Kd.C nP w' A r1.length r1∧Below w.heap.size w w':=by
 unfold Bf.f at h
 split at h
 case isFalse=>cases h
 rename_i hh
 obtain⟨⟨hmax,hfm⟩,hw0⟩:=hh;have HFM:=af.mk hfm;clear hfm;have EP:=af.mk (show yU l0 (om l0) (om l0).length 0=(r1,r2)from Option.some.inj h);have HW:=af.mk (show ∀s ∈ l0,qC s.f0∧qC s.f1 from fun s hs=>Bool.and_eq_true_iff.1 (List.all_eq_true.1 hw0 s hs));have HR:=af.mk hr0;have hmm:=@run_makeMap Tryz.prog;clear hr0 h hw0
 go_enter Tryz.func49,Tryz.ntmps49
 go_wp2_with fail
 go_loopw [17] (fun v17 wr=>Ring.At0 w l0 v17 wr) (fun v17 _=>l0.length-(intOf v17).toNat)
 case atStart=>exact⟨0,by omega,rfl,eu.made w _,ax (Below.refl _ _) _⟩
 case round=>
  obtain⟨i,hi,rfl,hS,hB⟩:=hrel;have HS:=af.mk hS;have HB:=af.mk hB;clear hS hB
  by_cases hlt:i<l0.length
  ·obtain⟨ad,A2,c2,hA,q0,q1,q2,_,_⟩:=NI HR.out hlt HB.out
   cases hA
   have HN:=af.mk (And.intro (Tt l0 i hlt) (And.intro (Pq l0 i hi) (HW.out _ (List.getElem_mem hlt)).1));obtain⟨⟨x0,x1,x2⟩,hx⟩:∃x,x=l0[i]'hlt:=⟨_,rfl⟩;rw[← hx]at q0 q1 q2 HN;clear hx;simp only at q0 q1 q2 HN
   go_wp2_with (at_mapUpdate;refine Gt _ rfl _ _ _ 131 4 rfl Tryz.underlying131 w.heap.size _ _ rfl (HS.out.alloc _) (by have:=HN.out.2.1;unfold maxLen;omega) x0 _ rfl rfl HN.out.2.2 ?_;intro w2 hm2 hg2;have HM:=af.mk hm2;have HG:=af.mk hg2;clear hm2 hg2)
   go_roundw
   case rel=>exact⟨i+1,by omega,by go_num,by rw[HN.out.1];exact Ku HM.out,vN (ax HB.out _) _ (ax HB.out _).size HG.out (fun k e=>by cases e;exact Nat.le_refl _)⟩
   case measure=>simp[intOf];omega
  ·obtain rfl:i=l0.length:=by omega
   rw[List.take_length]at HS;have HFL:=af.mk (⟨by have:=Pq l0 l0.length (Nat.le_refl _);rw[List.take_length]at this;exact this,HFM.out⟩:(om l0).length≤l0.length∧(om l0).length≤100000);obtain⟨F,hF⟩:∃F,F=om l0:=⟨_,rfl⟩;rw[← hF]at HS HFL EP;clear hF;have HFS:=af.mk (And.intro HS.out.1 HS.out.2.1)
   go_wp2_with (first
      |(go_at_call 61;refine(Kv _ _).mono ?_;rintro e w2 ⟨rfl,rfl⟩)
      |(go_at_call 60;refine(KM wr.heap.size w.heap.size F _ _ (bI wr _) (HS.out.alloc _) (by have:=HFL.out;omega)).mono ?_;rintro e w2 ⟨v29,rfl,hs,hb⟩;obtain⟨A7,c7,rfl⟩:=Kd.fH hs;have HC7:=af.mk (Kd.gU hs (ax HB.out (.cells #[.map (some w.heap.size)] 131)).size);have xD:=af.mk (av (ax HB.out _) hb);clear hs hb))
   have HI:=af.mk (show RInv l0 w.heap.size w2.heap.size [] (fun _=>0) (w2.alloc (.map #[] 0))from⟨fun _=>.nilIface,fun _=>[],eu.made w2 _,fun t h=>absurd h (by simp),fun t h=>absurd h (by simp)⟩);have hbR:w.heap.size≤w2.heap.size:=xD.out.size;have H2:=af.mk (show Ring.At2 w l0 w2.heap.size F A7 c7 (.int .i64 0) (w2.alloc (.map #[] 0))from⟨0,by omega,rfl,HI.out,Kd.bX HC7.out _,ax xD.out _⟩);clear HS HB HI HC7 xD;generalize w2.heap.size=bR at H2 hbR ⊢;have hfl:F.length≤100000:=by have:=HFL.out;omega
   go_loopw [31] (fun v31 wr=>Ring.At2 w l0 bR F A7 c7 v31 wr) (fun v31 _=>F.length-(intOf v31).toNat)
   case atStart=>exact H2.out
   case round=>
    obtain⟨i,hi',rfl,hI,hC,hB⟩:=hrel;clear H2;have HB:=af.mk hB;have HC:=af.mk hC;have HI:=af.mk hI;clear hB hC hI
    by_cases hlt2:i<F.length
    ·obtain⟨ad,hA,q0⟩:=wP (Kd.dB HC.out).2.2 hlt2 (Below.refl _ _)
     cases hA
     have HT:=af.mk (And.intro (Xy HFS.out.1 hlt2) (HFS.out.2 _ (List.getElem_mem hlt2)));have rF:=af.mk (show(F.take i).length≤i from List.length_take_le _ _);obtain⟨t,ht⟩:∃t,t=F[i]'hlt2:=⟨_,rfl⟩;rw[← ht]at q0 HT;have HTK:=af.mk (show F.take (i+1)=F.take i++[t] by rw[ht,List.take_append_getElem]);clear ht;obtain⟨f,B,hM,hrows,hd⟩:=HI.out;have HM:=af.mk hM;have HRD:=af.mk (And.intro hrows hd);clear hM hrows hd HI;have hml:(F.take i).length<maxLen:=by have:=rF.out;have:=HFL.out;unfold maxLen;omega
     have HML:=af.mk hml;clear hml
     go_wp2_with (first
      |((with_reducible refine mP (.insert 131 (.tmp 37) (.tmp 38) (.const (.bool true))) rfl ?_);refine abr _ rfl _ _ _ 131 4 rfl Tryz.underlying131 wr.heap.size [] (fun _=>.bool true) rfl (eu.made wr _) (by unfold maxLen;simp) t _ rfl rfl HT.out.2 ?_;intro w3 hm3 hg3;have HM3:=af.mk (Ku hm3);have HB3:=af.mk (vN (ax (Below.refl wr.heap.size wr) _) _ (ax (Below.refl wr.heap.size wr) _).size hg3 (fun k e=>by cases e;exact Nat.le_refl _));clear hm3 hg3)
      |(at_mapUpdate;refine Gt _ rfl _ _ _ 200 201 rfl Tryz.underlying200 bR (F.take i) f rfl ((HM.out.below HB3.out).alloc _) HML.out t (.slice (some ⟨w3.heap.size,0,none⟩) 1 1) rfl (by first|(go_simp;done)|(go_simp;rfl)|rfl) HT.out.2 ?_;intro w5 hm5 hg5;have HM5:=af.mk hm5;have HG5:=af.mk hg5;clear hm5 hg5))
     have hkb:bR<wr.heap.size:=HM.out.lt;have hnotin:t ∉ F.take i:=fun h=>absurd (HT.out.1 t h) (by omega)
     have hins:iM t (F.take i)=F.take (i+1):=by rw[HTK.out];exact Vu HT.out.1
     go_roundw
     case rel=>
      refine⟨i+1,by omega,by go_num,?_,eu.past ((HM.out.below HB3.out).alloc _) (Kd.bX (Kd.gD HC.out HB3.out) _) HG5.out,vN (av HB.out (ax HB3.out _)) _ (av HB.out (ax HB3.out _)).size HG5.out (fun k e=>by cases e;omega)⟩;have:=RInv.add (base:=w.heap.size) HM.out HRD.out.1 HRD.out.2 hnotin (ax HB3.out _) (HM3.out.alloc _) (by omega) (oneMap (bI w3 _) HB3.out.size) HB.out.size HM5.out HG5.out;rw[hins]at this;exact this
     case measure=>simp[intOf];omega
    ·obtain rfl:i=F.length:=by omega
     rw[List.take_length]at HI;have H4:=af.mk (show Ring.At4 w l0 bR F A7 c7 (r1,r2) (.int .i64 0) wr from⟨0,by omega,rfl,EP.out,HI.out,HC.out,HB.out⟩);clear HI HC HB EP
     go_wp2_with fail
     go_loopw [44] (fun v44 wr=>Ring.At4 w l0 bR F A7 c7 (r1,r2) v44 wr) (fun v44 _=>F.length-(intOf v44).toNat)
     case atStart=>exact H4.out
     case round=>
      obtain⟨k,hk,rfl,hres,hI,hC,hB⟩:=hrel;clear H4
      by_cases hlt4:k<F.length
      ·have H6:=af.mk (show Ring.At6 w l0 bR F A7 c7 (r1,r2) k (.int .i64 0) wr from⟨0,by omega,rfl,by
        unfold KG;rw[show F.length-k=(F.length-(k+1))+1 by omega,yU]at hres;exact hres,hI.congr (fun t _=>by simp),hC,hB⟩)
       clear hres hI hC hB
       go_wp2_with fail
       go_loopw [48] (fun v48 wr=>Ring.At6 w l0 bR F A7 c7 (r1,r2) k v48 wr) (fun v48 _=>F.length-(intOf v48).toNat)
       case atStart=>exact H6.out
       case round=>
        obtain⟨i,hi6,rfl,hres,hI,hC,hB⟩:=hrel;clear H6
        by_cases FJ:i<F.length
        ·obtain⟨ad,hA,q0⟩:=wP (Kd.dB hC).2.2 FJ (Below.refl _ _)
         cases hA
         have HT:=af.mk (And.intro (Xy HFS.out.1 FJ) (HFS.out.2 _ (List.getElem_mem FJ)));obtain⟨t,ht⟩:∃t,t=F[i]'FJ:=⟨_,rfl⟩;have HTM:=af.mk (show t ∈ F by rw[ht];exact List.getElem_mem FJ);rw[← ht]at q0 HT;have HTK:=af.mk (show F.take (i+1)=F.take i++[t] by rw[ht,List.take_append_getElem]);have HTD:=af.mk (show F.drop i=t::F.drop (i+1) by rw[ht,List.drop_eq_getElem_cons FJ]);clear ht;have hnotin:t ∉ F.take i:=fun h=>absurd (HT.out.1 t h) (by omega)
         obtain⟨f,B,hM,hrows,hd⟩:=hI
         have hrow:qF l0 w.heap.size bR t k (f t) (B t) wr:=by
          have:=hrows t HTM.out;simp only[if_neg hnotin]at this;exact this
         obtain⟨g,c,hv,_,_,_⟩:=Kd.xL hrow.2.1 (by rw[hrow.1];omega);rw[hrow.1]at hv;have hR2:=hrow.2.1;rw[hv]at hR2;have hsk:=(hrow.2.2 k (by rw[hrow.1];omega)).1;have qk:=(Kd.Oy (d:=0) (h1:=fun _=>rfl) hR2 (k:Int) (by omega) (by omega)).1;rw[show(k:Int).toNat=k by omega]at qk;obtain⟨bk,hbk⟩:∃bk,bk=(B t)[k]'(by rw[hrow.1];omega):=⟨_,rfl⟩;have hrd:fT 0 (B t) (k:Int)=bk:=by rw[hbk];simp[fT,List.getD_eq_getElem?_getD,List.getElem?_eq_getElem (show k<(B t).length by rw[hrow.1];omega)]
         rw[hrd]at qk;rw[← hbk]at hsk;have HM:=af.mk hM;have HRD:=af.mk (And.intro hrows hd);have zQ:=af.mk hrow;have HR2:=af.mk hR2;have HV:=af.mk hv;have HSK:=af.mk hsk;have HC:=af.mk hC;have HB:=af.mk hB;have HRS:=af.mk hres;have HNI:=af.mk hnotin;clear hM hrows hd hrow hR2 hv hsk hC hB hres hbk hrd hnotin;have hkb:bR<wr.heap.size:=HM.out.lt;have rD:=af.mk (show((B t).length+1)*8≤140737488355328 by have:=zQ.out.1;omega)
         cases hq:(wV l0 t (k+1)).contains t with
         |true=>
          have HQ:=af.mk hq;clear hq
          go_wp2_with (first
           |((with_reducible refine mP (.lookup 200 (.tmp 52) (.tmp 53) false) rfl ?_);refine RL _ rfl _ _ 200 201 rfl Tryz.underlying200 (Tryz.zeroValue201 _) bR F f rfl HM.out t rfl HT.out.2 ?_;rw[if_pos (List.contains_iff_mem.2 HTM.out),HV.out])
           |(go_at_call 106;refine(Nv A0 c0 l0 bk (wV l0 t k) wr (Kd.dN HR.out HB.out) hc0 HW.out HSK.out).mono ?_;rintro e w2 ⟨rfl,hs2,hb2⟩;have HS2:=af.mk hs2;have HB2:=af.mk hb2;have HR3:=af.mk (Kd.gD HR2.out hb2);clear hs2 hb2 qk q0)
           |((with_reducible refine jN (b:=.append) (xs:=#[.tmp 55,.tmp 64]) rfl ?_);at_builtin;refine Kd.kY Ba (w0:=w) w.heap.size rfl (.tmp 55) (.tmp 64) 201 131 (.map none) 8 rfl Tryz.underlying201 Vr rfl (by decide) (by omega) (.slice (some ⟨g,0,none⟩) (k+1) c) (B t) wr.heap.size [.map (some wr.heap.size)] (fun _=>True) (fun _=>False) rfl (by first|(go_simp;done)|(go_simp;rfl)) rfl (fun _ h=>h.elim) (fun _ _=>trivial) HR3.out (av HB.out HB2.out) (av HB.out HB2.out).size rD.out ?_;intro v13 w3 ho3 hb3 hg3 mQ;
             obtain⟨g',c',hv',_,_,_⟩:=Kd.xL ho3 (by simp);rw[show(B t++[wr.heap.size]).length=k+1+1 by rw[List.length_append,zQ.out.1];rfl]at hv';subst hv';have q3:=(Kd.Oy (d:=0) (h1:=fun _=>rfl) ho3 ((k+1:Nat):Int) (by omega) (by omega)).1;rw[show fT 0 (B t++[wr.heap.size]) ((k+1:Nat):Int)=wr.heap.size by simp[fT,List.getD_eq_getElem?_getD,List.getElem?_append_right (show(B t).length≤k+1 by rw[zQ.out.1];omega),zQ.out.1],show((k+1:Nat):Int).toNat=k+1 by omega]at q3;have ER:=af.mk (zQ.out.append hkb HB2.out HS2.out ho3 (by rw[HV.out];exact hg3));have lQ:=af.mk (HS2.out.kept hg3 (eu.Cn HS2.out HR3.out));have HB3:=af.mk hb3;have vV:=af.mk (And.intro hg3 mQ);clear ho3 hb3 hg3 mQ)
           |((with_reducible refine mP (.lookup 131 (.tmp 71) (.tmp 72) false) rfl ?_);refine NQ _ rfl _ _ rfl wr.heap.size (wV l0 t (k+1)) rfl lQ.out t rfl HT.out.2 ?_;rw[HQ.out];clear q3))
          have hA:=aaH A0 c0 l0 ⟨g',0,none⟩ c' (B t++[wr.heap.size]) (yT l0 t (k+1+1)) t w3 (Kd.dN HR.out HB3.out) hc0 HW.out
           (fun j hj=>aaS (Kd.dB ER.out.2.1).2.2 hj) (by rw[Gl];exact ER.out.1) (by rw[Gl];omega) (by rw[Gl];omega)
           (fun j hj=>by rw[Nw _ _ _ _ (by have:=ER.out.1;omega)];exact(ER.out.2.2 j hj).1)
           (fun j hj=>by rw[Gl]at hj;rw[Nw _ _ _ _ hj,Nw _ _ _ _ (by omega)];rfl)
           (by rw[Gl,Nat.add_sub_cancel,Nw _ _ _ _ (by omega)];exact HQ.out)
          rw[Gl,Nat.add_sub_cancel,aaI]at hA;have hrs:=HRS.out;unfold KG at hrs;rw[HTD.out,Cz,if_pos HQ.out]at hrs
          cases hrs
          refine hA.mono ?_;rintro e w5 ⟨A5,c5,rfl,hle5,hC5,hb5⟩;have H5:=af.mk (And.intro hle5 (And.intro hC5 hb5));clear hle5 hC5 hb5 hA
          go_wp2_with fail
          go_ret2
          exact⟨A5,c5,rfl,H5.out.1,H5.out.2.1,av HB3.out H5.out.2.2⟩
         |false=>
          have HQ:=af.mk hq;clear hq
          go_wp2_with (first
           |((with_reducible refine mP (.lookup 200 (.tmp 52) (.tmp 53) false) rfl ?_);refine RL _ rfl _ _ 200 201 rfl Tryz.underlying200 (Tryz.zeroValue201 _) bR F f rfl HM.out t rfl HT.out.2 ?_;rw[if_pos (List.contains_iff_mem.2 HTM.out),HV.out])
           |(go_at_call 106;refine(Nv A0 c0 l0 bk (wV l0 t k) wr (Kd.dN HR.out HB.out) hc0 HW.out HSK.out).mono ?_;rintro e w2 ⟨rfl,hs2,hb2⟩;have HS2:=af.mk hs2;have HB2:=af.mk hb2;have HR3:=af.mk (Kd.gD HR2.out hb2);clear hs2 hb2 qk q0)
           |((with_reducible refine jN (b:=.append) (xs:=#[.tmp 55,.tmp 64]) rfl ?_);at_builtin;refine Kd.kY Ba (w0:=w) w.heap.size rfl (.tmp 55) (.tmp 64) 201 131 (.map none) 8 rfl Tryz.underlying201 Vr rfl (by decide) (by omega) (.slice (some ⟨g,0,none⟩) (k+1) c) (B t) wr.heap.size [.map (some wr.heap.size)] (fun _=>True) (fun _=>False) rfl (by first|(go_simp;done)|(go_simp;rfl)) rfl (fun _ h=>h.elim) (fun _ _=>trivial) HR3.out (av HB.out HB2.out) (av HB.out HB2.out).size rD.out ?_;intro v13 w3 ho3 hb3 hg3 mQ;
             obtain⟨g',c',hv',_,_,_⟩:=Kd.xL ho3 (by simp);rw[show(B t++[wr.heap.size]).length=k+1+1 by rw[List.length_append,zQ.out.1];rfl]at hv';subst hv';have q3:=(Kd.Oy (d:=0) (h1:=fun _=>rfl) ho3 ((k+1:Nat):Int) (by omega) (by omega)).1;rw[show fT 0 (B t++[wr.heap.size]) ((k+1:Nat):Int)=wr.heap.size by simp[fT,List.getD_eq_getElem?_getD,List.getElem?_append_right (show(B t).length≤k+1 by rw[zQ.out.1];omega),zQ.out.1],show((k+1:Nat):Int).toNat=k+1 by omega]at q3;have ER:=af.mk (zQ.out.append hkb HB2.out HS2.out ho3 (by rw[HV.out];exact hg3));have lQ:=af.mk (HS2.out.kept hg3 (eu.Cn HS2.out HR3.out));have HB3:=af.mk hb3;have vV:=af.mk (And.intro hg3 mQ);clear ho3 hb3 hg3 mQ)
           |((with_reducible refine mP (.lookup 131 (.tmp 71) (.tmp 72) false) rfl ?_);refine NQ _ rfl _ _ rfl wr.heap.size (wV l0 t (k+1)) rfl lQ.out t rfl HT.out.2 ?_;rw[HQ.out];clear q3)
           |((with_reducible refine mP (.mapUpdate 200 (.tmp 78) (.tmp 79) (.tmp 80)) rfl ?_);refine Gt _ rfl _ _ _ 200 201 rfl Tryz.underlying200 bR F f rfl ((HM.out.below HB2.out).kept vV.out.1 (eu.Cn (HM.out.below HB2.out) HR3.out)) (by unfold maxLen;omega) t (.slice (some ⟨g',0,none⟩) (k+1+1) c') rfl rfl HT.out.2 ?_;intro w4 hm4 hg4;have HM4:=af.mk hm4;have HG4:=af.mk hg4;clear hm4 hg4))
          go_roundw
          case rel=>
           refine⟨i+1,by omega,by go_num,?_,?_,?_,vN HB3.out _ HB3.out.size HG4.out (fun k e=>by cases e;omega)⟩
           ·have hrs:=HRS.out;unfold KG at hrs ⊢;rw[HTD.out,Cz,if_neg (by rw[HQ.out];decide)]at hrs;exact hrs
           ·have:=RInv.step (cnt:=fun t=>if t ∈ F.take i then k+1 else k) (base:=w.heap.size) HM.out HRD.out.1 HRD.out.2 HTM.out HB2.out (by simp only[if_neg HNI.out];exact HS2.out) ER.out.2.1 (by rw[HV.out];exact vV.out.1) (by rw[HV.out];exact vV.out.2) HM4.out HG4.out;refine this.congr (fun x hx=>?_);rw[HTK.out]
            by_cases ex:x=t
            ·subst ex;simp[HNI.out]
            ·simp[ex]
           ·exact eu.past ((HM.out.below HB2.out).kept vV.out.1 (eu.Cn (HM.out.below HB2.out) HR3.out)) (Kd.Oz (Kd.gD HC.out HB2.out) HR3.out (by decide) vV.out.1) HG4.out
          case measure=>simp[intOf];omega
        ·obtain rfl:i=F.length:=by omega
         have H4:=af.mk (show Ring.At4 w l0 bR F A7 c7 (r1,r2) (.int .i64 ((k:Int)+1)) wr from⟨k+1,by omega,by rfl,by
          unfold KG at hres;rw[List.drop_length]at hres;exact hres,hI.congr (fun t ht=>by simp[ht]),hC,hB⟩)
         clear hres hI hC hB
         go_wp2_with fail
         go_roundw
         case rel=>exact H4.out
         case measure=>simp[intOf];omega
      ·obtain rfl:k=F.length:=by omega
       rw[Nat.sub_self,yU]at hres
       cases hres
       have HB:=af.mk hB;clear hI hC hB
       go_wp2_with fail
       go_ret2
       exact⟨none,0,rfl,Nat.le_refl _,⟨rfl,by simp,fun h=>absurd h (by simp)⟩,HB.out⟩
end Go.Proofs.YtdcddenojjdmjaaGreatDoor.T
