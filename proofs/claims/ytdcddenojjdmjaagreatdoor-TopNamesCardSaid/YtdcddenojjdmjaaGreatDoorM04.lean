import Derived.Deep.Slices
import Derived.Deep.Fields
import Derived.ChangeSame
import Derived.SizedLaws
import Derived.WideShapes
import Derived.ChangeOld
import Derived.Laws.StructEq
import Derived.Test.YtdcddenojjdmjaaGreatDoorProg
import Derived.RangeFuncNested
import Derived.RangeFuncBound
import Derived.RangeFuncCalls
import Derived.RangeFuncLeaves
import Derived.RangeFuncFrom
import Derived.RangeFuncBox
import Derived.OwnWalkIn
import Derived.TacticsInMore
import Derived.LoopNIn
import Derived.LoopIn
import Derived.RegionIn
import Derived.WalkMore
import Derived.Deep.RegionWith
import Derived.RegionTactic
import Derived.Maps.OwnOps
import Derived.Test.YtdcddenojjdmjaaGreatDoorRows
import Derived.LaidMore
import Derived.OpenShut
import Derived.Stop.Joined
import Derived.ProofKit
import Derived.Test.YtdcddenojjdmjaaGreatDoorM03
set_option linter.all false
namespace Go.Proofs.YtdcddenojjdmjaaGreatDoor.Op
open Go.ChangeShapes Go.WideShapes Go.Deep Go.RowKit Go.Proofs.YtdcddenojjdmjaaGreatDoorW.PrintWords
def Rd{α:Type}(P:Program)(t:TypeId)(d:Kd α)(Q:α→Prop):Prop:=
 ∀(H:Type) (enc:TypeId×Value→H) (w:World) (base:Nat) (sp:Nat→Bool) (held:Bool) (fuel:Nat) (cs:List Value) (y:DataW H×List MemPlace),
  DataW.trod enc P w base sp held fuel t cs=some y→(y.1.weights P t).all (· ≤reachBytes)=true→∃x,d.K w x cs∧Q x
theorem Np{P:Program}{t:TypeId}{k:IntKind}(ht:P.underlying t=some (.int k)):Rd P t (Kd.int k) (fun n=>(Lit.int k n).wf=true):=by
 intro H enc w base sp held fuel cs y h _;obtain⟨n,rfl,rfl,hn⟩:=DataW.trod_int ht h;exact⟨n,rfl,hn⟩
theorem Gg{P:Program}{t:TypeId}(ht:P.underlying t=some .string):Rd P t Kd.string (fun s=>s.size≤140737488351232):=by
 intro H enc w base sp held fuel cs y h hw;obtain⟨s,rfl,rfl,_⟩:=DataW.trod_string ht h;refine⟨s,rfl,?_⟩;have z:=List.all_eq_true.1 hw s.data.toList.length (by simp[DataW.weights]);have z':s.data.toList.length≤reachBytes:=by simpa using z
 rw[Array.length_toList]at z';exact z'
theorem Sm{l l':List Nat}(h:l.all (· ≤reachBytes)=true)(hs:∀n ∈ l',n ∈ l):l'.all (· ≤reachBytes)=true:=
 List.all_eq_true.2 fun n hn=>List.all_eq_true.1 h n (hs n hn)
theorem XY{H:Type}{P:Program}{e:TypeId}:∀ {ds:List (DataW H)} {d:DataW H},d ∈ ds→∀n ∈ d.weights P e,n ∈ DataW.weightsAll P e ds
 |d0::ds,d,hd,n,hn=>by
  simp only[DataW.weightsAll,List.mem_append]
  rcases List.mem_cons.1 hd with rfl|hd
  ·exact .inl hn
  ·exact .inr (XY hd n hn)
theorem SI{α β:Type}(R:α→β→Prop):∀(l:List α),(∀a ∈ l,∃b,R a b)→∃m:List β,m.length=l.length∧∀(i:Nat) (a:α) (b:β),l[i]? =some a→m[i]? =some b→R a b
 | [],_=>⟨[],rfl,fun i a b h=>by simp at h⟩
 |a::l,h=>by
  obtain⟨b,hb⟩:=h a (by simp);obtain⟨m,hm,hr⟩:=SI R l (fun x hx=>h x (by simp[hx]));refine⟨b::m,by simp[hm],fun i x y hx hy=>?_⟩
  rcases i with _|i
  ·simp at hx hy;subst hx;subst hy;exact hb
  ·exact hr i x y (by simpa using hx) (by simpa using hy)
theorem rd_slice{α:Type}{P:Program}{t e:TypeId}{d:Kd α}{Q:α→Prop}(ht:P.underlying t=some (.slice e))(hsz:P.cellsOf e=d.sz){B:Nat}(hB:P.bytesOf e=B)(he:Rd P e d Q):
  Rd P t (Kd.slice e d) (fun l=>l.length*B≤140737488351232∧∀x ∈ l,Q x):=by
 subst hB;intro H enc w base sp held fuel cs y h hw
 rcases DataW.trod_slice ht h with ⟨rfl,rfl⟩|⟨a,len,cap,elems,rest,n,rfl,rfl,rfl,hb,hl,hm,hlen,hel,_,_⟩
 ·exact⟨[],⟨none,0,rfl,Nat.le_refl _,rfl,by simp,fun h=>absurd h (by simp)⟩,by simp,by simp⟩
 ·have hW:∀y ∈ elems,(y.1.weights P e).all (· ≤reachBytes)=true:=by
   intro y hy;refine Sm hw fun n hn=>?_
   simp only[DataW.weights,ht,List.mem_cons,List.mem_append];exact .inr (.inl (XY (List.mem_map_of_mem hy) n hn))
  have hex:∀i,i<len→∃x c,d.K w x c∧Q x∧c.length=d.sz∧∀j u,c[j]? =some u→w.cell? (a.add (i*d.sz+j))=some u:=by
   intro i hi;have h1:=hel i hi;obtain⟨y,hy⟩:∃y,elems[i]? =some y:=⟨_,List.getElem?_eq_getElem (by omega)⟩;rw[hy,Option.bind_eq_some_iff]at h1;obtain⟨c,hc,ht'⟩:=h1;obtain⟨x,hx,hq⟩:=he H enc w base sp held n c y ht' (hW y (List.mem_of_getElem? hy));refine⟨x,c,hx,hq,d.rH hx,fun j u hu=>?_⟩;obtain⟨_,hcl,hat⟩:=World.cells?_some hc;have hj:j<P.cellsOf e:=by rw[hsz,← d.rH hx];exact(List.getElem?_eq_some_iff.1 hu).1
   have h2:=hat j hj;rw[hu,hsz]at h2;rw[← Go.Deep.add_add];exact h2
  obtain⟨l,hll,hlr⟩:=SI (fun i x=>∃c,d.K w x c∧Q x∧c.length=d.sz∧∀j u,c[j]? =some u→w.cell? (a.add (i*d.sz+j))=some u) (List.range len) (fun i hi=>by
   obtain⟨x,c,h⟩:=hex i (List.mem_range.1 hi);exact⟨x,c,h⟩)
  rw[List.length_range]at hll
  have hget:∀i x,l[i]? =some x→∃c,d.K w x c∧Q x∧c.length=d.sz∧∀j u,c[j]? =some u→w.cell? (a.add (i*d.sz+j))=some u:=by
   intro i x hx;have hi:i<len:=by rw[← hll];exact(List.getElem?_eq_some_iff.1 hx).1
   exact hlr i i x (by simp[hi]) hx
  refine⟨l,⟨some a,cap,by rw[hll],by omega,rfl,?_,fun _=>⟨a,rfl,fun i x hx=>?_⟩⟩,?_,fun x hx=>?_⟩
  ·unfold maxLen at hm;omega
  ·obtain⟨c,h1,_,h3,h4⟩:=hget i x hx;exact⟨c,h3,h1,h4⟩
  ·have z:=List.all_eq_true.1 hw ((elems.length+rest.length)*P.bytesOf e) (by simp[DataW.weights,ht]);have z':(elems.length+rest.length)*P.bytesOf e≤reachBytes:=by simpa using z
   have:l.length*P.bytesOf e≤(elems.length+rest.length)*P.bytesOf e:=Nat.mul_le_mul_right _ (by omega);exact Nat.le_trans this z'
  ·obtain⟨i,hi⟩:=List.getElem?_of_mem hx;exact(hget i x hi).choose_spec.2.1
theorem rd_iso{α β:Type}{P:Program}{t:TypeId}{d:Kd α}{Q:α→Prop}(f:β→α)(g:α→β)(hfg:∀p,f (g p)=p)(h:Rd P t d Q):Rd P t (Kd.iso d f) (fun x=>Q (f x)):=by
 intro H enc w base sp held fuel cs y ht hw;obtain⟨x,hx,hq⟩:=h H enc w base sp held fuel cs y ht hw;refine⟨g x,?_,by show Q (f (g x));rw[hfg];exact hq⟩
 show d.K w (f (g x)) cs
 rw[hfg];exact hx
theorem wZ{H:Type}{P:Program}{ts:List TypeId}{ds:List (DataW H)}{j:Nat}{t:TypeId}{d:DataW H}(hw:(DataW.weightsEach P ts ds).all (· ≤reachBytes)=true)(ht:ts[j]? =some t)(hd:ds[j]? =some d):(d.weights P t).all (· ≤reachBytes)=true:=
 Sm hw (DataW.weights_mem_each ht hd)
theorem aap{α0 α1 α2 α3:Type}{P:Program}{t:TypeId}{f0 f1 f2 f3:Field}{d0:Kd α0}{d1:Kd α1}{d2:Kd α2}{d3:Kd α3}{Q0:α0→Prop}{Q1:α1→Prop}{Q2:α2→Prop}{Q3:α3→Prop}
  (ht:P.underlying t=some (.struct #[f0,f1,f2,f3])) (hC:P.cellsOf t=4)
  (o:f0.offset=0∧f1.offset=1∧f2.offset=2∧f3.offset=3) (c:P.cellsOf f0.type=1∧P.cellsOf f1.type=1∧P.cellsOf f2.type=1∧P.cellsOf f3.type=1)
  (h0:Rd P f0.type d0 Q0) (h1:Rd P f1.type d1 Q1) (h2:Rd P f2.type d2 Q2) (h3:Rd P f3.type d3 Q3):
  Rd P t (Kd.pair d0 (Kd.pair d1 (Kd.pair d2 d3))) (fun p=>Q0 p.1∧Q1 p.2.1∧Q2 p.2.2.1∧Q3 p.2.2.2):=by
 intro H enc w base sp held fuel cs y h hw;obtain⟨xs,n,_,rfl,hlen,hxl,hf⟩:=DataW.trod_struct ht h;rw[hC]at hlen
 match cs,hlen,xs,hxl with
 | [a,b,c',d],_,[x0,x1,x2,x3],_=>
  simp only[DataW.weights,ht]at hw;have e0:=hf 0 f0 rfl;have e1:=hf 1 f1 rfl;have e2:=hf 2 f2 rfl;have e3:=hf 3 f3 rfl;rw[o.1,c.1]at e0;rw[o.2.1,c.2.1]at e1;rw[o.2.2.1,c.2.2.1]at e2;rw[o.2.2.2,c.2.2.2]at e3;obtain⟨p0,k0,q0⟩:=h0 H enc w base sp held n [a] x0 e0 (wZ (j:=0) hw rfl rfl);obtain⟨p1,k1,q1⟩:=h1 H enc w base sp held n [b] x1 e1 (wZ (j:=1) hw rfl rfl);obtain⟨p2,k2,q2⟩:=h2 H enc w base sp held n [c'] x2 e2 (wZ (j:=2) hw rfl rfl);obtain⟨p3,k3,q3⟩:=h3 H enc w base sp held n [d] x3 e3 (wZ (j:=3) hw rfl rfl);exact⟨(p0,p1,p2,p3),⟨[a],[b,c',d],rfl,k0,[b],[c',d],rfl,k1,[c'],[d],rfl,k2,k3⟩,q0,q1,q2,q3⟩
theorem aaq{α0 α1 α2 α3 α4 α5 α6:Type}{P:Program}{t:TypeId}{f0 f1 f2 f3 f4 f5 f6:Field}{d0:Kd α0}{d1:Kd α1}{d2:Kd α2}{d3:Kd α3}{d4:Kd α4}{d5:Kd α5}{d6:Kd α6}{Q0:α0→Prop}{Q1:α1→Prop}{Q2:α2→Prop}{Q3:α3→Prop}{Q4:α4→Prop}{Q5:α5→Prop}{Q6:α6→Prop}
  (ht:P.underlying t=some (.struct #[f0,f1,f2,f3,f4,f5,f6])) (hC:P.cellsOf t=7) (o:f0.offset=0∧f1.offset=1∧f2.offset=2∧f3.offset=3∧f4.offset=4∧f5.offset=5∧f6.offset=6) (c:P.cellsOf f0.type=1∧P.cellsOf f1.type=1∧P.cellsOf f2.type=1∧P.cellsOf f3.type=1∧P.cellsOf f4.type=1∧P.cellsOf f5.type=1∧P.cellsOf f6.type=1)
  (h0:Rd P f0.type d0 Q0) (h1:Rd P f1.type d1 Q1) (h2:Rd P f2.type d2 Q2) (h3:Rd P f3.type d3 Q3) (h4:Rd P f4.type d4 Q4) (h5:Rd P f5.type d5 Q5) (h6:Rd P f6.type d6 Q6):
  Rd P t (Kd.pair d0 (Kd.pair d1 (Kd.pair d2 (Kd.pair d3 (Kd.pair d4 (Kd.pair d5 d6)))))) (fun p=>Q0 p.1∧Q1 p.2.1∧Q2 p.2.2.1∧Q3 p.2.2.2.1∧Q4 p.2.2.2.2.1∧Q5 p.2.2.2.2.2.1∧Q6 p.2.2.2.2.2.2):=by
 intro H enc w base sp held fuel cs y h hw;obtain⟨xs,n,_,rfl,hlen,hxl,hf⟩:=DataW.trod_struct ht h;rw[hC]at hlen
 match cs,hlen,xs,hxl with
 | [a0,a1,a2,a3,a4,a5,a6],_,[x0,x1,x2,x3,x4,x5,x6],_=>
  simp only[DataW.weights,ht]at hw;have e0:=hf 0 f0 rfl;have e1:=hf 1 f1 rfl;have e2:=hf 2 f2 rfl;have e3:=hf 3 f3 rfl;have e4:=hf 4 f4 rfl;have e5:=hf 5 f5 rfl;have e6:=hf 6 f6 rfl;rw[o.1,c.1]at e0;rw[o.2.1,c.2.1]at e1;rw[o.2.2.1,c.2.2.1]at e2;rw[o.2.2.2.1,c.2.2.2.1]at e3;rw[o.2.2.2.2.1,c.2.2.2.2.1]at e4;rw[o.2.2.2.2.2.1,c.2.2.2.2.2.1]at e5;rw[o.2.2.2.2.2.2,c.2.2.2.2.2.2]at e6;obtain⟨p0,k0,q0⟩:=h0 H enc w base sp held n [a0] x0 e0 (wZ (j:=0) hw rfl rfl);obtain⟨p1,k1,q1⟩:=h1 H enc w base sp held n [a1] x1 e1 (wZ (j:=1) hw rfl rfl);obtain⟨p2,k2,q2⟩:=h2 H enc w base sp held n [a2] x2 e2 (wZ (j:=2) hw rfl rfl);obtain⟨p3,k3,q3⟩:=h3 H enc w base sp held n [a3] x3 e3 (wZ (j:=3) hw rfl rfl);obtain⟨p4,k4,q4⟩:=h4 H enc w base sp held n [a4] x4 e4 (wZ (j:=4) hw rfl rfl);obtain⟨p5,k5,q5⟩:=h5 H enc w base sp held n [a5] x5 e5 (wZ (j:=5) hw rfl rfl);obtain⟨p6,k6,q6⟩:=h6 H enc w base sp held n [a6] x6 e6 (wZ (j:=6) hw rfl rfl);exact⟨(p0,p1,p2,p3,p4,p5,p6),⟨[a0],[a1,a2,a3,a4,a5,a6],rfl,k0,[a1],[a2,a3,a4,a5,a6],rfl,k1,[a2],[a3,a4,a5,a6],rfl,k2,[a3],[a4,a5,a6],rfl,k3,[a4],[a5,a6],rfl,k4,[a5],[a6],rfl,k5,k6⟩,q0,q1,q2,q3,q4,q5,q6⟩
theorem rd_arg{α H:Type}{enc:TypeId×Value→H}{P:Program}{w:World}{base:Nat}{sp:Nat→Bool}{held:Bool}{t:TypeId}{v:Value}{d:DataW H}{p:List MemPlace}{k:Kd α}{Q:α→Prop}{ts:List TypeId}{ds:List (DataW H)}
  (hr:Rd P t k Q) (hsz:(DataW.weightsEach P ts ds).all (· ≤reachBytes)=true) (j:Nat) (ht:ts[j]? =some t) (hd:ds[j]? =some d) (h:DataW.Trod enc P w base sp held t v d p):∃x,k.K w x v.cells.toList∧Q x:=by
 obtain⟨fuel,hf⟩:=h;exact hr H enc w base sp held fuel _ _ hf (wZ hsz ht hd)
theorem arg_agg{v:Value}{cs:List Value}(hv:∃c:Array Value,v=.agg c)(h:v.cells.toList=cs):v=.agg cs.toArray:=by
 obtain⟨c,rfl⟩:=hv;have e:c.toList=cs:=by simpa [Value.cells]using h
 subst e;simp
end Go.Proofs.YtdcddenojjdmjaaGreatDoor.Op
namespace Go.Proofs.YtdcddenojjdmjaaGreatDoorW.PrintLast
open Go.Proofs.YtdcddenojjdmjaaGreatDoorW.PrintWords (af)
def F8(md:Region.Mode)(o:Oper):List Nat:=(o.after.toList.filter (fun e=>Region.binds md e)).map (fun e=>e.on)
def O4(md:Region.Mode)(ops:Array Oper)(i:Nat)(oi:Oper):List Nat:=(List.range ops.size).filter fun j=> !(j==i)&&match ops[j]? with
 |some oj=> !(oj.after.any (fun e=>Region.binds md e&&e.on==i)||oi.apart ops oj)
 |none=>false
def nD(md:Region.Mode)(ops:Array Oper):Bool×List (List Nat×List Nat):=(Region.noSelect ops,(List.range ops.size).map fun i=>match ops[i]? with
 |some o=>(F8 md o,O4 md ops i o)
 |none=>([],[]))
def Cw(T:List (List Nat×List Nat))(l:List Bool)(i:Nat):Bool:= !l.getD i true&&match T[i]? with
 |some r=>r.1.all (fun j=>l.getD j false)
 |none=>false
def KF(T:List (List Nat×List Nat))(l:List Bool):List Nat:=(List.range T.length).filter (Cw T l)
def IY(T:List (List Nat×List Nat))(l:List Bool)(i:Nat):Bool:=match T[i]? with
 |some r=>r.2.all (fun j=>l.getD j true)
 |none=>false
def LC(T:List (List Nat×List Nat))(l:List Bool):Bool:=(List.range T.length).all fun j=> !l.getD j false||match T[j]? with
 |some r=>r.1.all (fun k=>l.getD k false)
 |none=>true
def Gh(T:List (List Nat×List Nat))(i:Nat):Nat→Nat→Bool
 |0,_=>false
 |fuel+1,d=>match T[d]? with
  |some r=>r.1.any fun j=>j==i||Gh T i fuel j
  |none=>false
def lastT(T:List (List Nat×List Nat))(l:List Bool)(ds:List Nat)(i:Nat):Bool:=ds.all fun d=>l.getD d true||Gh T i T.length d
section
variable {md:Region.Mode}{ops:Array Oper}{T:Bool×List (List Nat×List Nat)}{l l' li lj lk:Array Bool}{ds:List Nat}{i j k:Nat}
theorem gd(l:Array Bool)(j:Nat)(b:Bool):l.getD j b=l.toList.getD j b:=by simp[Array.getD_eq_getD_getElem?,List.getD_eq_getElem?_getD]
theorem Wh(o:Oper)(p:Nat→Bool):o.after.all (fun e=> !Region.binds md e||p e.on)=(F8 md o).all p:=by
 unfold F8;rw[← Array.all_toList]
 induction o.after.toList with
 |nil=>rfl
 |cons e r ih=>
  rw[List.all_cons,ih,List.filter_cons]
  cases h:Region.binds md e<;>simp
theorem ZW(o:Oper)(p:Nat→Bool):o.after.any (fun e=>Region.binds md e&&p e.on)=(F8 md o).any p:=by
 unfold F8;rw[← Array.any_toList]
 induction o.after.toList with
 |nil=>rfl
 |cons e r ih=>
  rw[List.any_cons,ih,List.filter_cons]
  cases h:Region.binds md e<;>simp
theorem NC:(nD md ops).2.length=ops.size:=by simp[nD]
theorem NG{o:Oper}(h:ops[i]? =some o):(nD md ops).2[i]? =some (F8 md o,O4 md ops i o):=by
 have hi:=(Array.getElem?_eq_some_iff.1 h).1;unfold nD;rw[List.getElem?_map,List.getElem?_range hi,Option.map_some,h]
theorem ND(h:ops[i]? =none):(nD md ops).2[i]? =none:=by
 have hi:ops.size≤i:=Array.getElem?_eq_none_iff.1 h;exact List.getElem?_eq_none (by rw[NC];exact hi)
theorem aat:Cw (nD md ops).2 l.toList i=(!l.getD i true&&((ops[i]?).map (·.after.all fun e=> !Region.binds md e||l.getD e.on false)).getD false):=by
 unfold Cw;rw[gd]
 cases h:ops[i]? with
 |none=>rw[ND h];rfl
 |some o=>
  rw[NG h];simp only[Option.map_some,Option.getD_some];rw[← Wh];simp only[gd]
theorem ready_eq:Region.ready md ops l=KF (nD md ops).2 l.toList:=by
 unfold Region.ready KF;rw[NC];refine List.filter_congr (fun i _=>?_);rw[aat]
theorem free_eq:Region.free md ops l i=IY (nD md ops).2 l.toList i:=by
 unfold Region.free IY
 cases h:ops[i]? with
 |none=>rw[ND h]
 |some oi=>
  rw[NG h];simp only[O4];rw[List.all_filter]
  congr 1
  funext j
  rw[gd]
  cases hj:ops[j]? with
  |none=>cases (j==i)<;>cases (l.toList.getD j true)<;>simp
  |some oj=>
   cases (j==i)<;>cases (l.toList.getD j true)<;>cases (oj.after.any (fun e=>Region.binds md e&&e.on==i)||oi.apart ops oj)<;>simp_all
theorem YI:Region.IG md ops l=LC (nD md ops).2 l.toList:=by
 unfold Region.IG LC;rw[NC]
 congr 1
 funext j
 rw[gd]
 cases h:ops[j]? with
 |none=>rw[ND h]
 |some o=>
  rw[NG h];simp only;rw[← Wh];simp only[gd]
theorem WK:∀(fuel d:Nat),Region.wU md ops i fuel d=Gh (nD md ops).2 i fuel d
 |0,_=>rfl
 |fuel+1,d=>by
  unfold Region.wU Gh
  cases h:ops[d]? with
  |none=>rw[ND h]
  |some o=>
   rw[NG h];simp only;rw[← ZW]
   congr 1
   funext e
   rw[WK fuel]
theorem last_eq:Region.lastB md ops l ds i=lastT (nD md ops).2 l.toList ds i:=by
 unfold Region.lastB lastT;rw[NC]
 congr 1
 funext d
 rw[gd,WK]
theorem WN(h:Cw T.2 l.toList i=true)(hT:nD md ops=T):(Region.ready md ops l).contains i=true:=by
 subst hT;rw[ready_eq];unfold KF;rw[List.contains_iff_mem,List.mem_filter,List.mem_range];refine⟨?_,h⟩;unfold Cw at h;rw[Bool.and_eq_true]at h
 cases hq:(nD md ops).2[i]? with
 |none=>rw[hq]at h;simp at h
 |some r=>exact(List.getElem?_eq_some_iff.1 hq).1
theorem Rm(h:(l.toList.set i true==l'.toList)=true):(l.setIfInBounds i true==l')=true:=by
 rw[beq_iff_eq]at h ⊢;apply Array.ext';rw[Array.toList_setIfInBounds];exact h
def anyT(T:Bool×List (List Nat×List Nat))(l l':List Bool)(i:Nat):Bool:=T.1&&IY T.2 l i&&Cw T.2 l i&&(l.set i true==l')
theorem any_of(hT:nD md ops=T)(h:anyT T l.toList l'.toList i=true):E8 md ops l l' i=true:=by
 simp only[anyT,Bool.and_eq_true]at h;obtain⟨⟨⟨h1,h2⟩,h3⟩,h4⟩:=h;have h5:=WN h3 hT;have h6:=Rm h4;subst hT;simp only[E8,Bool.and_eq_true];exact⟨⟨⟨h1,by rw[free_eq];exact h2⟩,h5⟩,h6⟩
def Rx(T:Bool×List (List Nat×List Nat))(ds:List Nat)(l l':List Bool)(i:Nat):Bool:=T.1&&IY T.2 l i&&Cw T.2 l i&&LC T.2 l&&lastT T.2 l ds i&&(l.set i true==l')
theorem take_of(hT:nD md ops=T)(h:Rx T ds l.toList l'.toList i=true):takeB md ops ds l l' i=true:=by
 simp only[Rx,Bool.and_eq_true]at h;obtain⟨⟨⟨⟨⟨h1,h2⟩,h3⟩,h4⟩,h5⟩,h6⟩:=h;have h7:=WN h3 hT;have h8:=Rm h6;subst hT;simp only[takeB,Bool.and_eq_true];exact⟨⟨⟨⟨⟨h1,by rw[free_eq];exact h2⟩,h7⟩,by rw[YI];exact h4⟩,by rw[last_eq];exact h5⟩,h8⟩
theorem Wv(hT:nD md ops=T)(h:(KF T.2 l.toList== [i]&&l.toList.set i true==l'.toList)=true):Es md ops l l' i=true:=by
 simp only[Bool.and_eq_true]at h;obtain⟨h1,h2⟩:=h;subst hT;simp only[Es,Bool.and_eq_true];exact⟨by rw[ready_eq];exact h1,Rm h2⟩
theorem done_of(hT:nD md ops=T)(h:(KF T.2 l.toList== [])=true):(Region.ready md ops l== [])=true:=by
 subst hT;rw[ready_eq];exact h
def upM(B:List Nat)(d:Nat):List Nat→Nat
 | []=>0
 |n::r=>(2 ^ n|||(if n<d then B.getD n 0 else 0))|||upM B d r
def EB(T:List (List Nat×List Nat))(B:List Nat):Bool:=(List.range T.length).all fun d=>match T[d]? with
 |some r=>(B.getD d 0|||upM B d r.1)==upM B d r.1
 |none=>false
theorem XR{B:List Nat}{d i:Nat}:∀ {ns:List Nat},(upM B d ns).testBit i=true→∃n ∈ ns,n=i∨(n<d∧(B.getD n 0).testBit i=true)
 | [],h=>by simp[upM]at h
 |n::r,h=>by
  unfold upM at h;rw[Nat.testBit_or,Nat.testBit_or,Bool.or_eq_true,Bool.or_eq_true]at h
  rcases h with (h|h)|h
  ·rw[Nat.testBit_two_pow]at h;exact⟨n,List.mem_cons_self,.inl (by simpa using h)⟩
  ·by_cases hn:n<d
   ·rw[if_pos hn]at h;exact⟨n,List.mem_cons_self,.inr ⟨hn,h⟩⟩
   ·rw[if_neg hn]at h;simp at h
  ·obtain⟨m,hm,h2⟩:=XR h;exact⟨m,List.mem_cons_of_mem _ hm,h2⟩
theorem WJ{T:List (List Nat×List Nat)}{B:List Nat}(hB:EB T B=true):∀(fuel d:Nat),d<fuel→d<T.length→(B.getD d 0).testBit i=true→Gh T i fuel d=true
 |0,d,h,_,_=>by omega
 |fuel+1,d,h,hd,hb=>by
  have h1:=List.all_eq_true.1 hB d (List.mem_range.2 hd)
  cases hr:T[d]? with
  |none=>rw[hr]at h1;simp at h1
  |some r=>
   rw[hr]at h1;simp only[beq_iff_eq]at h1;have h2:(upM B d r.1).testBit i=true:=by rw[← h1,Nat.testBit_or,hb,Bool.true_or]
   obtain⟨n,hn,h3⟩:=XR h2;unfold Gh;rw[hr];simp only;rw[List.any_eq_true];refine⟨n,hn,?_⟩
   rcases h3 with rfl|⟨h4,h5⟩
   ·simp
   ·rw[WJ hB fuel n (by omega) (by omega) h5,Bool.or_true]
def lastW(T:List (List Nat×List Nat))(B:List Nat)(l:List Bool)(ds:List Nat)(i:Nat):Bool:=ds.all fun d=>l.getD d true||(decide (d<T.length)&&(B.getD d 0).testBit i)
def takeW(T:Bool×List (List Nat×List Nat))(B:List Nat)(ds:List Nat)(l l':List Bool)(i:Nat):Bool:=T.1&&IY T.2 l i&&Cw T.2 l i&&LC T.2 l&&lastW T.2 B l ds i&&(l.set i true==l')
theorem take_ofW{B:List Nat}(hT:nD md ops=T)(hB:EB T.2 B=true)(h:takeW T B ds l.toList l'.toList i=true):takeB md ops ds l l' i=true:=by
 refine take_of hT ?_;simp only[takeW,Rx,Bool.and_eq_true]at h ⊢;obtain⟨⟨⟨⟨⟨h1,h2⟩,h3⟩,h4⟩,h5⟩,h6⟩:=h;refine⟨⟨⟨⟨⟨h1,h2⟩,h3⟩,h4⟩,?_⟩,h6⟩;unfold lastW at h5;unfold lastT;rw[List.all_eq_true]at h5 ⊢;intro d hd;have h7:=h5 d hd;rw[Bool.or_eq_true,Bool.and_eq_true,decide_eq_true_eq]at h7
 rcases h7 with h7|⟨h8,h9⟩
 ·rw[h7,Bool.true_or]
 ·rw[WJ hB _ d h8 h8 h9,Bool.or_true]
theorem KY{P:Program}{Q:Exit→Act→World→Prop}{S:World→Prop}{n:Nat}{a:Act}{w:World}{B:List Nat}(hT:nD md ops=T)(hB:EB T.2 B=true)(h:af (nD md ops=T)→af (EB T.2 B=true)→gN P md ops Q S ds n l a w):gN P md ops Q S ds n l a w:=h ⟨hT⟩ ⟨hB⟩
end
def zB:Code→Nat→Option (Array Oper)
 |.region id ops _,k=>if id==k then some ops else none
 |.seq a b,k=>match zB a k with
  |some o=>some o
  |none=>zB b k
 |.cond _ a b,k=>match zB a k with
  |some o=>some o
  |none=>zB b k
 |.block _ c,k=>zB c k
 |.loop c,k=>zB c k
 |.scope c,k=>zB c k
 |.rangeFunc _ _ a b,k=>match zB a k with
  |some o=>some o
  |none=>zB b k
 |_,_=>none
def opsOf(f:Func)(k:Nat):Array Oper:=((f.body.bind fun c=>zB c k)).getD #[]
end Go.Proofs.YtdcddenojjdmjaaGreatDoorW.PrintLast



namespace Go.Proofs.YtdcddenojjdmjaaGreatDoorW.PrintWords
open Go.RowKit
section
variable {P:Program}{d:Nat}{xs ys:Array Value}{f:Field}{fs:List Field}{a b:Value}{r s:Bool}{w:World}
theorem O8(hn:(f.name== "_")=false)(ha:(part f.type xs f.offset).run P w=.ok a w)(hb:(part f.type ys f.offset).run P w=.ok b w)(he:(Op.equalIn d f.type a b).run P w=.ok r w):(Op.eqFields d xs ys [f]).run P w=.ok r w:=by
 have hn':f.name≠ "_" :=by simpa using hn
 simp only[Op.eqFields,if_pos hn',Sem.run_bind,ha,hb,he,Result.andThen_ok]
 cases r<;>simp
theorem Ag(hn:(f.name== "_")=false)(ha:(part f.type xs f.offset).run P w=.ok a w)(hb:(part f.type ys f.offset).run P w=.ok b w)(he:(Op.equalIn d f.type a b).run P w=.ok r w)(hr:(Op.eqFields d xs ys fs).run P w=.ok s w):(Op.eqFields d xs ys (f::fs)).run P w=.ok (r&&s) w:=by
 have hn':f.name≠ "_" :=by simpa using hn
 rw[Op.eqFields];simp only[if_pos hn',Sem.run_bind,ha,hb,he,Result.andThen_ok]
 cases r
 ·simp
 ·simpa using hr
theorem O7{t:TypeId}{fs:Array Field}(hu:P.underlying t=some (.struct fs))(hp:P.stoodInHeld t=false)(h:(Op.eqFields d xs ys fs.toList).run P w=.ok r w):(Op.equalIn (d+1) t (.agg xs) (.agg ys)).run P w=.ok r w:=by
 have hf:P.fieldsOf t=fs:=by simp[Program.fieldsOf,hu]
 rw[run_equalIn_struct (P:=P) w d t xs ys (by rw[hf];exact hu) hp,hf];exact h
end
end Go.Proofs.YtdcddenojjdmjaaGreatDoorW.PrintWords
namespace Go.Proofs.YtdcddenojjdmjaaGreatDoorW.PrintWords
theorem fC.one{α:Type}{R:α→List Value→Prop}{ps:List α}{cs:List Value}{p:α}{v:Value}(hp:R p [v])(h:fC R 1 ps cs):fC R 1 (p::ps) (v::cs):=by
 refine⟨by simp[h.1],fun j q hq=>?_⟩
 cases j with
 |zero=>
  simp only[List.getElem?_cons_zero,Option.some.injEq]at hq;subst hq;simpa using hp
 |succ j=>
  simp only[List.getElem?_cons_succ]at hq;have h1:=h.2 j q hq;simpa [Nat.mul_one]using h1
end Go.Proofs.YtdcddenojjdmjaaGreatDoorW.PrintWords


namespace Go.Proofs.YtdcddenojjdmjaaGreatDoorW.PrintWords
open Go.RowKit
section
variable {P:Program}{ops:Array Oper}{rest:List Oper}{o:Oper}{a:Act}{Q:Exit→Act→World→Prop}{W:World}
theorem xY(hw:Region.wanted o (yielded ops a.tmps)=true)(h:wpList P ops Q ({o with guard:=none}::rest) a W):wpList P ops Q (o::rest) a W:=by
 have h1:Region.wanted {o with guard:=none} (yielded ops a.tmps)=true:=rfl;unfold wpList at h ⊢;rw[if_pos h1]at h;rw[if_pos hw];exact h
end
end Go.Proofs.YtdcddenojjdmjaaGreatDoorW.PrintWords
namespace Go.Proofs.YtdcddenojjdmjaaGreatDoor.T
open Go.RowKit Go.Proofs.YtdcddenojjdmjaaGreatDoorW.PrintWords Go.Proofs.YtdcddenojjdmjaaGreatDoorW.PrintLast Go.Proofs.YtdcddenojjdmjaaGreatDoorW.PrintMore
theorem Vt:(Tryz.prog.info? 5).map (fun i=>(i.zero,i.size,i.bytes))=some (some (.int .u8 0),1,1):=by kernel_rfl
def aJ(l:List Int):Array Value:=(l.map (Value.int .u32)).toArray
theorem gQ(l:List Int)(i:Nat)(h:i<l.length):(aJ l)[i]? =some (.int .u32 (l.getD i 0)):=by
 simp[aJ,List.getElem?_eq_getElem h,List.getD_eq_getElem?_getD]
theorem RB(l:List Int)(i:Nat)(x:Int):(aJ l).setIfInBounds i (.int .u32 x)=aJ (l.set i x):=by
 apply Array.ext';simp[aJ,List.map_set]
theorem jI(l:List Int):(aJ l).size=l.length:=by simp[aJ]
def jg:List Int:=[1779033703,3144134277,1013904242,2773480762,1359893119,2600822924,528734635,1541459225]
def Lu:List (List Int):=[[0,1,2,3,4,5,6,7,8,9,10,11,12,13,14,15],[14,10,4,8,9,15,13,6,1,12,0,2,11,7,5,3],[11,8,12,0,5,2,15,13,10,14,3,6,7,1,9,4],[7,9,3,1,13,12,11,14,2,6,5,10,4,0,15,8],[9,0,5,7,2,4,10,15,14,1,11,12,6,8,3,13],[2,12,6,10,0,11,8,3,4,13,7,5,15,14,1,9],[12,5,1,15,14,13,4,10,0,7,6,3,9,2,8,11],[13,11,7,14,12,1,3,9,5,0,15,4,8,6,2,10],[6,15,14,9,11,3,0,8,12,2,13,7,1,4,10,5],[10,2,8,4,7,6,1,5,15,11,9,14,3,12,13,0]]
def Lr:List (List Int):=[[0,4,8,12],[1,5,9,13],[2,6,10,14],[3,7,11,15],[0,5,10,15],[1,6,11,12],[2,7,8,13],[3,4,9,14]]
def jR(w:World):Prop:=
 (∀i v,(jg.map (Value.int .u32))[i]? =some v→w.cell? ⟨0,i,none⟩=some v)∧
 (∀i v,(Lr.flatten.map (Value.int .u8))[i]? =some v→w.cell? ⟨1,i,none⟩=some v)∧
 (∀i v,(Lu.flatten.map (Value.int .u8))[i]? =some v→w.cell? ⟨2,i,none⟩=some v)
theorem jR.below{w w1:World}(h:jR w)(hb:Below w.heap.size w w1):jR w1:=
 ⟨fun i v e=>aI hb (h.1 i v e),fun i v e=>aI hb (h.2.1 i v e),fun i v e=>aI hb (h.2.2 i v e)⟩
theorem Ls(x y:Int):bits .or .u32 x y=bits .or .u32 y x:=by
 unfold bits;simp only[BitVec.or_comm]
theorem Yt(x y:Int):bits .xor .u32 x y=bits .xor .u32 y x:=by
 unfold bits;simp only[BitVec.xor_comm]
theorem bXor_wf(x y:Int):0≤bits .xor .u32 x y∧bits .xor .u32 x y<4294967296:=by
 unfold bits;simp only[IntKind.wrap_u32];omega
theorem Lv(x y:Int):bits .xor .u32 x y=((BitVec.ofInt 32 x ^^^ BitVec.ofInt 32 y).toNat:Int):=by
 unfold bits;simp only[IntKind.wrap_u32,IntKind.bits];have h:=(BitVec.ofInt 32 x ^^^ BitVec.ofInt 32 y).isLt;exact Int.emod_eq_of_lt (Int.natCast_nonneg _) (by omega)
theorem Wl(b:BitVec 32):BitVec.ofInt 32 (b.toNat:Int)=b:=by
 apply BitVec.eq_of_toNat_eq;have:=b.isLt;simp[BitVec.toNat_ofInt]
theorem OJ(x y z:Int):bits .xor .u32 (bits .xor .u32 x y) z=bits .xor .u32 x (bits .xor .u32 y z):=by
 rw[Lv x y,Lv y z,Lv,Lv,Wl,Wl,BitVec.xor_assoc]
def kQ(x:Int)(n:Nat):Int:=bits .or .u32 (x/2 ^ n) (x*2 ^ (32-n)%4294967296)
theorem rot16(x:Int)(w:World):Calls Tryz.prog 232 #[.int .u32 x,.int .i64 (-16)] w fun e w'=>e=.returned (.int .u32 (kQ x 16))∧w'=w:=by
 have e:=(by decide+kernel:bits BinOp.and .u64 (IntKind.u64.wrap (-16)) 31=16)
 go_enter Tryz.func232,Tryz.ntmps232
 go_wp2
 go_ret
 exact⟨by rw[kQ,Ls];rfl,rfl⟩
theorem rot12(x:Int)(w:World):Calls Tryz.prog 232 #[.int .u32 x,.int .i64 (-12)] w fun e w'=>e=.returned (.int .u32 (kQ x 12))∧w'=w:=by
 have e:=(by decide+kernel:bits BinOp.and .u64 (IntKind.u64.wrap (-12)) 31=20)
 go_enter Tryz.func232,Tryz.ntmps232
 go_wp2
 go_ret
 exact⟨by rw[kQ,Ls];rfl,rfl⟩
theorem rot8(x:Int)(w:World):Calls Tryz.prog 232 #[.int .u32 x,.int .i64 (-8)] w fun e w'=>e=.returned (.int .u32 (kQ x 8))∧w'=w:=by
 have e:=(by decide+kernel:bits BinOp.and .u64 (IntKind.u64.wrap (-8)) 31=24)
 go_enter Tryz.func232,Tryz.ntmps232
 go_wp2
 go_ret
 exact⟨by rw[kQ,Ls];rfl,rfl⟩
theorem rot7(x:Int)(w:World):Calls Tryz.prog 232 #[.int .u32 x,.int .i64 (-7)] w fun e w'=>e=.returned (.int .u32 (kQ x 7))∧w'=w:=by
 have e:=(by decide+kernel:bits BinOp.and .u64 (IntKind.u64.wrap (-7)) 31=25)
 go_enter Tryz.func232,Tryz.ntmps232
 go_wp2
 go_ret
 exact⟨by rw[kQ,Ls];rfl,rfl⟩
def yg(a b c d x:Int)(n m:Nat):Int×Int×Int×Int:=
 ((a+(b+x))%4294967296,
  kQ (bits .xor .u32 b ((c+kQ (bits .xor .u32 d ((a+(b+x))%4294967296)) n)%4294967296)) m,
  (c+kQ (bits .xor .u32 d ((a+(b+x))%4294967296)) n)%4294967296,
  kQ (bits .xor .u32 d ((a+(b+x))%4294967296)) n)
theorem half1(a b c d x:Int)(w:World):
  Calls Tryz.prog 210 #[.int .u32 a,.int .u32 b,.int .u32 c,.int .u32 d,.int .u32 x,.int .i64 16,.int .i64 12] w fun e w'=>e=.returned (.tuple #[.int .u32 (yg a b c d x 16 12).1,.int .u32 (yg a b c d x 16 12).2.1,.int .u32 (yg a b c d x 16 12).2.2.1,.int .u32 (yg a b c d x 16 12).2.2.2])∧w'=w:=by
 go_enter Tryz.func210,Tryz.ntmps210
 go_wp2_with (first|(go_at_call 232;(with_reducible refine(rot16 _ _).mono ?_);rintro e w' ⟨rfl,rfl⟩)|(go_at_call 232;(with_reducible refine(rot12 _ _).mono ?_);rintro e w' ⟨rfl,rfl⟩))
 exact bodyPost_ret (sW (rs:=[.tmp 14,.tmp 15,.tmp 16,.tmp 17]) rfl (by simp) (.tmp (.tmp (.tmp (.tmp .nil))))) rfl ⟨rfl,rfl⟩
theorem half2(a b c d x:Int)(w:World):
  Calls Tryz.prog 210 #[.int .u32 a,.int .u32 b,.int .u32 c,.int .u32 d,.int .u32 x,.int .i64 8,.int .i64 7] w fun e w'=>e=.returned (.tuple #[.int .u32 (yg a b c d x 8 7).1,.int .u32 (yg a b c d x 8 7).2.1,.int .u32 (yg a b c d x 8 7).2.2.1,.int .u32 (yg a b c d x 8 7).2.2.2])∧w'=w:=by
 go_enter Tryz.func210,Tryz.ntmps210
 go_wp2_with (first|(go_at_call 232;(with_reducible refine(rot8 _ _).mono ?_);rintro e w' ⟨rfl,rfl⟩)|(go_at_call 232;(with_reducible refine(rot7 _ _).mono ?_);rintro e w' ⟨rfl,rfl⟩))
 exact bodyPost_ret (sW (rs:=[.tmp 14,.tmp 15,.tmp 16,.tmp 17]) rfl (by simp) (.tmp (.tmp (.tmp (.tmp .nil))))) rfl ⟨rfl,rfl⟩
end Go.Proofs.YtdcddenojjdmjaaGreatDoor.T
namespace Go.Proofs.YtdcddenojjdmjaaGreatDoor.T
open Go.ChangeShapes Go.WideShapes Go.ChangeAt Go.RowKit
section
variable {H:Type}{enc:TypeId×Value→H}{P:Program}{w:World}{base:Nat}{spare:Nat→Bool}{held:Bool}{fuel:Nat}
theorem SG{n:Nat}{t e:TypeId}{kd:IntKind}(ht:P.underlying t=some (.array n e))(he:P.underlying e=some (.int kd))(hc:P.cellsOf e=1)(hct:P.cellsOf t=n){cs:List Value}{x:DataW H×List MemPlace}(h:DataW.trod enc P w base spare held fuel t cs=some x)(l:List Int)(hx:x.1=.agg (l.map fun i=>.lit (.int kd i))):cs=l.map (Value.int kd):=by
 obtain⟨xs,m,rfl,rfl,hlen,hn,hel⟩:=DataW.trod_array ht h;rw[hct]at hlen;have hx':xs.map (·.1)=l.map fun i=>DataW.lit (.int kd i):=by injection hx
 have hll:l.length=n:=by rw[← List.length_map (f:=fun i=>(DataW.lit (.int kd i):DataW H)),← hx',List.length_map,hn]
 refine List.ext_getElem? fun i=>?_
 by_cases hi:i<n
 ·have h1:=hel i hi;rw[hc,Nat.mul_one,List.getElem?_eq_getElem (show i<xs.length by omega)]at h1;obtain⟨k,e1,e2,_⟩:=DataW.trod_int he h1;have h2:(xs.map (·.1))[i]? =some (.lit (.int kd k)):=by rw[List.getElem?_map,List.getElem?_eq_getElem (show i<xs.length by omega),Option.map_some,e2]
  rw[hx',List.getElem?_map,List.getElem?_eq_getElem (show i<l.length by omega),Option.map_some]at h2;injection h2 with h2
  injection h2 with h2
  injection h2 with _ h2
  have h3:((cs.drop i).take 1)[0]? =some (.int kd k):=by rw[e1];rfl
  rw[List.getElem?_take,if_pos (by omega),List.getElem?_drop]at h3;rw[List.getElem?_map,List.getElem?_eq_getElem (show i<l.length by omega),Option.map_some,h2];simpa using h3
 ·rw[List.getElem?_eq_none (by omega),List.getElem?_eq_none (by rw[List.length_map];omega)]
theorem SH{n q:Nat}{t e e2:TypeId}{kd:IntKind}(ht:P.underlying t=some (.array n e))(he:P.underlying e=some (.array q e2))(he2:P.underlying e2=some (.int kd))(hc:P.cellsOf e2=1)(hce:P.cellsOf e=q)(hct:P.cellsOf t=n*q){cs:List Value}{x:DataW H×List MemPlace}(h:DataW.trod enc P w base spare held fuel t cs=some x)(L:List (List Int))(hx:x.1=.agg (L.map fun l=>.agg (l.map fun i=>.lit (.int kd i)))):cs=L.flatten.map (Value.int kd):=by
 obtain⟨xs,m,rfl,rfl,hlen,hn,hel⟩:=DataW.trod_array ht h;rw[hct]at hlen;have hx':xs.map (·.1)=L.map fun l=>DataW.agg (l.map fun i=>.lit (.int kd i)):=by injection hx
 have hll:L.length=n:=by rw[← List.length_map (f:=fun l=>(DataW.agg (l.map fun i=>.lit (.int kd i)):DataW H)),← hx',List.length_map,hn]
 have hrow:∀i (hi:i<L.length),(cs.drop (i*q)).take q=(L[i]).map (Value.int kd):=fun i hi=>by
  have h1:=hel i (by omega);rw[hce,List.getElem?_eq_getElem (show i<xs.length by omega)]at h1;refine SG he he2 hc hce h1 L[i] ?_;have h2:(xs.map (·.1))[i]? =some (xs[i]'(by omega)).1:=by rw[List.getElem?_map,List.getElem?_eq_getElem (show i<xs.length by omega)];rfl
  rw[hx',List.getElem?_map,List.getElem?_eq_getElem hi,Option.map_some]at h2;exact(Option.some.inj h2).symm
 have hall:∀k i,i+k=n→cs.drop (i*q)=((L.drop i).flatten).map (Value.int kd):=by
  intro k
  induction k with
  |zero=>intro i hi;rw[List.drop_of_length_le (by rw[hlen,← hi];simp),List.drop_of_length_le (by omega)];rfl
  |succ k ih=>
   intro i hi;have hl:i<L.length:=by omega
   rw[List.drop_eq_getElem_cons hl,List.flatten_cons,List.map_append,← ih (i+1) (by omega),← hrow i hl,Nat.succ_mul,← List.drop_drop,List.take_append_drop]
 have:=hall n 0 (by omega);simpa using this
end
theorem gBegins:Tryz.prog.globalNamed "cartouche/blake.begins" =some 0:=by kernel_rfl
theorem Y1:Tryz.prog.globalNamed "cartouche/blake.mixings" =some 1:=by kernel_rfl
theorem gOrders:Tryz.prog.globalNamed "cartouche/blake.orders" =some 2:=by kernel_rfl
def Kw{H:Type}:List (String×DataW H):=[("cartouche/blake.begins",Rows.laid_cartouche_blake_begins),("cartouche/blake.orders",Rows.laid_cartouche_blake_orders),("cartouche/blake.mixings",Rows.laid_cartouche_blake_mixings)]
theorem tBegins:(Tryz.prog.globals[0]?).map (·.type)=some 160:=by kernel_rfl
theorem tMixings:(Tryz.prog.globals[1]?).map (·.type)=some 294:=by kernel_rfl
theorem tOrders:(Tryz.prog.globals[2]?).map (·.type)=some 296:=by kernel_rfl
theorem Y2{W:World}(h:laidMetH Tryz.prog Kw W):jR W:=by
 rw[MakeChecks.laidMetH_plain _ _ _ (by kernel_rfl)]at h;obtain⟨ps,⟨g0,t0,cs0,f0,p0,q0,hg0,ht0,hv0,hd0,⟨g1,t1,cs1,f1,p1,q1,hg1,ht1,hv1,hd1,⟨g2,t2,cs2,f2,p2,q2,hg2,ht2,hv2,hd2,_,_⟩,_⟩,_⟩,_,_⟩:=h;obtain rfl:=Option.some.inj (gBegins.symm.trans hg0);obtain rfl:=Option.some.inj (gOrders.symm.trans hg1);obtain rfl:=Option.some.inj (Y1.symm.trans hg2);obtain rfl:=Option.some.inj (tBegins.symm.trans ht0);obtain rfl:=Option.some.inj (tOrders.symm.trans ht1);obtain rfl:=Option.some.inj (tMixings.symm.trans ht2);have e0:=SG Tryz.underlying160 Tryz.underlying159 (by kernel_rfl) (by kernel_rfl) hd0 jg rfl;have e1:=SH Tryz.underlying296 Tryz.underlying295 (show Tryz.prog.underlying 5=some (.int .u8)from Tryz.underlying5) (by kernel_rfl) (by kernel_rfl) (by kernel_rfl) hd1 Lu rfl;have e2:=SH Tryz.underlying294 Tryz.underlying290 (show Tryz.prog.underlying 5=some (.int .u8)from Tryz.underlying5) (by kernel_rfl) (by kernel_rfl) (by kernel_rfl) hd2 Lr rfl;refine⟨fun i v e=>?_,fun i v e=>?_,fun i v e=>?_⟩
 ·rw[World.var?_cell hg0 hv0 i,← e,← e0,Array.getElem?_toList]
 ·rw[World.var?_cell hg2 hv2 i,← e,← e2,Array.getElem?_toList]
 ·rw[World.var?_cell hg1 hv1 i,← e,← e1,Array.getElem?_toList]
theorem YO(os:Os)(args:Array Value):laidMetH Tryz.prog Kw ((World.doorLaid Tryz.prog 400 os).forCall (fun _ _=>0) ⟨#[],args,[]⟩).memory:=
 laidMetH_of_parts3 (fuel:=8) (laidMet_of_run' 8 (by kernel_rfl) (by kernel_rfl)) (by kernel_rfl) (by kernel_rfl)
end Go.Proofs.YtdcddenojjdmjaaGreatDoor.T
