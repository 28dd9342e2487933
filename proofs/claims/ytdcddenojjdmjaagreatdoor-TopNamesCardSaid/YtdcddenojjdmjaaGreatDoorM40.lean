import Derived.Test.YtdcddenojjdmjaaGreatDoorM37
import Derived.Test.YtdcddenojjdmjaaGreatDoorM39
set_option linter.all false
namespace Go.Proofs.YtdcddenojjdmjaaGreatDoor.T
open Go.RowKit Go.Proofs.YtdcddenojjdmjaaGreatDoorW.PrintWords Go.Proofs.YtdcddenojjdmjaaGreatDoorW.PrintLast Go.Proofs.YtdcddenojjdmjaaGreatDoorW.PrintMore
structure Rn (φ:ByteArray→ByteArray):Prop where
 eq:∀a b,((φ a).toList=(φ b).toList)=(a.toList=b.toList)
 nil:∀a,((φ a).toList=[])=(a.toList=[])
section
variable {φ:ByteArray→ByteArray}
theorem Rn.beq(h:Rn φ)(a b:ByteArray):((φ a).toList==(φ b).toList)=(a.toList==b.toList):=by
 rw[Bool.eq_iff_iff];simp[h.eq]
theorem Rn.zero(h:Rn φ):φ ⟨#[]⟩=⟨#[]⟩:=by
 have h1:(φ ⟨#[]⟩).toList=[]:=by rw[h.nil];simp[ByteArray.toList_eq]
 rw[ByteArray.toList_eq]at h1;exact ByteArray.ext (Array.ext' h1)
theorem Rn.isEmpty(h:Rn φ)(a:ByteArray):(φ a).toList.isEmpty=a.toList.isEmpty:=by
 rw[Bool.eq_iff_iff];simp[List.isEmpty_iff,h.nil]
theorem Gm(h:Rn φ)(l:List aj)(i:Nat):(l.map (aZ φ)).getD i z67=aZ φ (l.getD i z67):=by
 simp only[List.getD_eq_getElem?_getD,List.getElem?_map]
 cases l[i]? with
 |some x=>rfl
 |none=>simp[z67,aZ,h.zero]
theorem Nz(h:Rn φ)(l:List aj)(i:Int):ak (l.map (aZ φ)) i=aZ φ (ak l i):=Gm h l i.toNat
theorem KH(l:List aj)(t:Int)(k:Nat):evs (l.map (aZ φ)) t k=(evs l t k).map (fun p=>(p.1,aZ φ p.2)):=by
 unfold evs;rw[List.map_filterMap]
 congr 1
 funext j
 rw[List.getElem?_map]
 cases l[j]? with
 |none=>rfl
 |some x=>simp only[Option.map_some];by_cases c:x.f1=t<;>simp[aZ,c]
theorem rn_fin(m:List (Nat×aj)):eF.fin (m.map (fun p=>(p.1,aZ φ p.2)))=(eF.fin m).map (fun p=>(p.1,aZ φ p.2)):=by
 unfold eF.fin;rw[List.find?_map];rfl
theorem Xc(l:List aj)(p:aj→Bool)(hp:∀x,p (aZ φ x)=p x):(l.map (aZ φ)).any p=l.any p:=by
 rw[List.any_map];congr 1;funext x;exact hp x
theorem Rj(l:List aj)(p q:aj→Bool)(hp:∀x,p (aZ φ x)=q x):idx p (l.map (aZ φ))=idx q l:=by
 unfold idx;rw[List.findIdx?_map,show p∘aZ φ=q from funext hp]
theorem rn_over(l:List aj)(t:Int):jF.f (l.map (aZ φ)) t=jF.f l t:=by
 unfold jF.f;rw[Xc _ _ (fun _=>rfl),Xc _ _ (fun _=>rfl)]
theorem Xg(l:List aj)(i:Int):eF.f (l.map (aZ φ)) i=eF.f l i:=by
 unfold eF.f;rw[List.getElem?_map]
 cases l[i.toNat]? with
 |none=>rfl
 |some x=>
  simp only[Option.map_some,List.length_map];rw[show(aZ φ x).f1=x.f1 from rfl,KH,rn_fin]
  cases eF.fin (evs l x.f1 l.length)<;>rfl
theorem Ri(l:List aj)(t:Int):iX.f (l.map (aZ φ)) t=iX.f l t:=by
 unfold iX.f;rw[Rj l _ (iX.p t) (fun _=>rfl),Xg]
theorem Ny(h:Rn φ)(key:ByteArray)(b:Int)(m:List (Nat×aj)):dP.all (φ key) b (m.map (fun p=>(p.1,aZ φ p.2)))=dP.all key b m:=by
 unfold dP.all;rw[List.foldl_map]
 congr 1
 funext o x
 simp only[dP.one,aZ,h.eq]
theorem rn_Last(h:Rn φ)(l:List aj)(t:Int)(key:ByteArray)(b:Int):dP.f (l.map (aZ φ)) t (φ key) b=dP.f l t key b:=by
 unfold dP.f;rw[KH,Ny h,List.length_map]
theorem Xb(h:Rn φ)(key val:ByteArray)(x:aj):ji.p (φ key) (φ val) (aZ φ x)=ji.p key val x:=by
 simp only[ji.p,aZ,h.eq,h.beq]
theorem aaL(h:Rn φ)(l:List aj)(key val:ByteArray):ji.f (l.map (aZ φ)) (φ key) (φ val)=ji.f l key val:=by
 unfold ji.f;rw[Rj l _ (ji.p key val) (Xb h key val)]
theorem Xj(h:Rn φ)(l:List aj)(i:Nat):nS (l.map (aZ φ)) i=nS l i:=by unfold nS;rw[Gm h];rfl
theorem Rk(h:Rn φ)(l:List aj)(i:Nat):uG (l.map (aZ φ)) i=φ (uG l i):=by unfold uG;rw[Gm h];rfl
theorem Xi(h:Rn φ)(l:List aj)(kd:Int)(i k:Nat):ni (l.map (aZ φ)) kd i k=ni l kd i k:=by unfold ni;rw[Xj h,Xj h]
theorem rn_sawP(h:Rn φ)(l:List aj)(i:Nat):oJ (l.map (aZ φ)) i=oJ l i:=by
 funext k;unfold oJ;rw[Rk h,Rk h,h.beq]
theorem aaP(h:Rn φ)(l:List aj)(key:ByteArray)(S:List eB):rR (l.map (aZ φ)) (φ key) S=rR l key S:=by
 unfold rR;rw[show zA (l.map (aZ φ)) (φ key)=zA l key from funext fun x=>by unfold zA;rw[KH,Ny h,List.length_map]]
theorem aaO(h:Rn φ)(l:List aj)(V:List Int)(n:Nat):mq (l.map (aZ φ)) V n=mq l V n:=by
 unfold mq;congr 1;funext m;exact Xi h l _ _ _
theorem rn_ofSee(h:Rn φ)(l:List aj)(V:List Int)(i:Nat)(n:Int):uy (l.map (aZ φ)) V i n=uy l V i n:=by
 unfold uy;simp only[Xi h,Rk h,h.nil]
theorem rn_ofL(h:Rn φ)(l:List aj)(key:ByteArray)(V:List Int)(ho:∀i:Int,iE.f (l.map (aZ φ)) i=iE.f l i):ofL (l.map (aZ φ)) (φ key) V=ofL l key V:=by
 unfold ofL uw;rw[aaO h,List.length_map]
 congr 2
 funext i
 unfold ofRow;rw[Gm h,show(aZ φ (l.getD i z67)).f2=φ (l.getD i z67).f2 from rfl,h.beq,ho,rn_ofSee h,rn_sawP h]
theorem rn_ofOk(l:List aj)(V:List Int)(ho:∀i:Int,iE.f (l.map (aZ φ)) i=iE.f l i):F9 (l.map (aZ φ)) V=F9 l V:=by
 unfold F9;simp only[List.length_map,ho]
theorem Xe(l:List aj)(K:List Int)(t:Int):zn (l.map (aZ φ)) K t=zn l K t:=by
 unfold zn;rw[Ri,List.length_map]
theorem Xf(h:Rn φ)(l:List aj)(K:List Int)(i:Int):wF (l.map (aZ φ)) K i=wF l K i:=by
 unfold wF;rw[Gm h,Xe,List.length_map];rfl
theorem Xk(h:Rn φ)(l:List aj)(K:List Int)(i:Int):za (l.map (aZ φ)) K i=za l K i:=by
 unfold za;rw[Gm h,show(aZ φ (l.getD i.toNat z67)).f2=φ (l.getD i.toNat z67).f2 from rfl,show(aZ φ (l.getD i.toNat z67)).f3=φ (l.getD i.toNat z67).f3 from rfl,aaL h,h.isEmpty,List.length_map]
 congr 1;congr 1;funext m;exact Xf h l K m
theorem rn_needE(h:Rn φ)(l:List aj)(K:List Int)(e:aN):F7 (l.map (aZ φ)) K e=F7 l K e:=by
 unfold F7;simp only[Xe,Xk h,List.length_map]
theorem Xh(h:Rn φ)(l:List aj):∀(m:List aN) (K:List Int),Bc (l.map (aZ φ)) m K=Bc l m K
 | [],K=>rfl
 |e::m,K=>by
  unfold Bc;rw[rn_needE h]
  congr 1;funext K';exact Xh h l m K'
theorem rn_Needs(h:Rn φ)(l:List aj)(a0:Int)(a1:Bool)(l2:List Int)(a3 a4 a5:Int)(l6:List aN):wC.f (l.map (aZ φ)) a0 a1 l2 a3 a4 a5 l6=wC.f l a0 a1 l2 a3 a4 a5 l6:=by
 unfold wC.f;simp only[Xh h,Xf h,Xk h,List.length_map]
theorem aaM(L:List (List UInt8))(x:List UInt8)(ψ:List UInt8→List UInt8)(hi:∀a b,ψ a=ψ b→a=b):(L.map ψ).contains (ψ x)=L.contains x:=by
 rw[Bool.eq_iff_iff];simp only[List.contains_iff_mem,List.mem_map];exact⟨fun⟨y,hy,e⟩=>hi _ _ e▸hy,fun h=>⟨x,h,rfl⟩⟩
theorem aaN(l:List aj)(ψ:List UInt8→List UInt8)(hi:∀a b,ψ a=ψ b→a=b)(hψ:∀a:ByteArray,(φ a).data.toList=ψ a.data.toList):qc (l.map (aZ φ))=(qc l).map ψ:=by
 unfold qc;rw[List.foldl_map]
 have:∀(m:List aj) (L:List (List UInt8)),m.foldl (fun L x=>if sP (aZ φ x)then sw L (aZ φ x).f2.data.toList else L) (L.map ψ)=(m.foldl (fun L x=>if sP x then sw L x.f2.data.toList else L) L).map ψ:=by
  intro m
  induction m with
  |nil=>intro L;rfl
  |cons x m ih=>
   intro L;simp only[List.foldl_cons];rw[← ih]
   congr 1
   rw[show sP (aZ φ x)=sP x from rfl]
   split
   ·unfold sw;rw[show(aZ φ x).f2.data.toList=ψ x.f2.data.toList from hψ x.f2,aaM L _ ψ hi]
    split
    ·rfl
    ·simp
   ·rfl
 exact this l []
theorem rn_sortS(L:List (List UInt8))(ψ:List UInt8→List UInt8)(hle:∀a b,(ψ a≤ψ b)=(a≤b))(hψ:∀a:ByteArray,(φ a).data.toList=ψ a.data.toList):oL (L.map ψ)=(oL L).map φ:=by
 unfold oL;rw[← List.map_mergeSort (r:=fun x y=>decide (x≤y)) (s:=fun x y=>decide (x≤y)) (f:=ψ) (l:=L) (fun a _ b _=>by simp only[hle]),List.map_map,List.map_map]
 congr 1
 funext a
 have:=hψ (OW a);simp only[Function.comp,OW]at this ⊢;exact(ByteArray.ext (Array.ext' (by rw[this]))).symm
def zo(s a:List UInt8):List UInt8:=if a=[]then[]else s++a
theorem Tv(s a b:List UInt8)(h:zo s a=zo s b):a=b:=by
 unfold zo at h
 split at h<;>split at h
 ·rename_i h1 h2;rw[h1,h2]
 ·rename_i h1 h2;exact absurd (List.append_eq_nil_iff.1 h.symm).2 h2
 ·rename_i h1 h2;exact absurd (List.append_eq_nil_iff.1 h).2 h1
 ·exact List.append_cancel_left h
theorem IZ(s a:ByteArray):(gX s a).data.toList=zo s.data.toList a.data.toList:=by
 unfold gX zo
 by_cases c:a.size=0
 ·have e:a.data.toList=[]:=by
   have:a.data.toList.length=0:=by rw[Array.length_toList];exact c
   exact List.length_eq_zero_iff.1 this
  rw[if_pos c,if_pos e,e]
 ·have e:¬a.data.toList=[]:=by
   intro e;apply c;have:a.data.size=0:=by rw[← Array.length_toList,e];rfl
   exact this
  rw[if_neg c,if_neg e];simp
theorem Yk(s a b:List UInt8):(s++a≤s++b)=(a≤b):=by
 induction s with
 |nil=>rfl
 |cons x s ih=>
  rw[List.cons_append,List.cons_append,List.cons_le_cons_iff,ih];simp[UInt8.lt_irrefl]
theorem YZ(s a b:List UInt8):(zo s a≤zo s b)=(a≤b):=by
 unfold zo
 split<;>split
 ·rename_i h1 h2;rw[h1,h2]
 ·rename_i h1 h2;rw[h1];simp
 ·rename_i h1 h2
  rw[h2]
  have e1:¬(s++a≤ []):=by
   intro h;have:=List.le_nil.1 h;exact h1 (by simpa using (List.append_eq_nil_iff.1 this).2)
  have e2:¬(a≤ []):=fun h=>h1 (List.le_nil.1 h)
  simp only[e1,e2]
 ·exact Yk s a b
theorem I4(s:ByteArray):Rn (gX s) where
 eq a b:=by
  rw[ByteArray.toList_eq,ByteArray.toList_eq,ByteArray.toList_eq,ByteArray.toList_eq,IZ,IZ];exact propext ⟨Tv _ _ _,fun h=>by rw[h]⟩
 nil a:=by
  rw[ByteArray.toList_eq,ByteArray.toList_eq,IZ];unfold zo
  exact propext ⟨fun h=>by
   split at h
   ·assumption
   ·exact(List.append_eq_nil_iff.1 h).2,fun h=>by rw[if_pos h]⟩
theorem rn_Keys(s:ByteArray)(l:List aj):oL (qc (l.map (aZ (gX s))))=(oL (qc l)).map (gX s):=by
 rw[aaN l (zo s.data.toList) (fun a b=>Tv _ a b) (IZ s),rn_sortS _ _ (fun a b=>YZ _ a b) (IZ s)]
end
def Ev{α:Type}(g:Nat→Option α)(r:α):Prop:=∃N,∀k,N≤k→g k=some r
theorem Ev.pure{α:Type}(r:α):Ev (fun _=>some r) r:=⟨0,fun _ _=>rfl⟩
theorem Ev.of{α:Type}{g:Nat→Option α}{r:α}(h:∀k,g k=some r):Ev g r:=⟨0,fun k _=>h k⟩
theorem Ev.succ{α:Type}{g h:Nat→Option α}{r:α}(e:∀k,g (k+1)=h k)(hh:Ev h r):Ev g r:=by
 obtain⟨N,hN⟩:=hh;refine⟨N+1,fun k hk=>?_⟩;obtain⟨k',rfl⟩:∃k',k=k'+1:=⟨k-1,by omega⟩;rw[e];exact hN k' (by omega)
theorem Ev.bind{α β:Type}{g:Nat→Option α}{a:α}{h:Nat→α→Option β}{r:β}(hg:Ev g a)(hh:Ev (fun k=>h k a) r):Ev (fun k=>(g k).bind (h k)) r:=by
 obtain⟨N,hN⟩:=hg;obtain⟨M,hM⟩:=hh;refine⟨N+M,fun k hk=>?_⟩;simp only;rw[hN k (by omega)];exact hM k (by omega)
theorem Ev.congr{α:Type}{g h:Nat→Option α}{r:α}(e:∀k,g k=h k)(hh:Ev h r):Ev g r:=by
 obtain⟨N,hN⟩:=hh;exact⟨N,fun k hk=>(e k).trans (hN k hk)⟩
theorem mr{i:Int}{n:Nat}(h0:0≤i)(h1:i≤n)(hn:n≤9000000000000000000):wrap64 i=i:=by unfold wrap64;omega
theorem zG{l:List aj}{i:Nat}(h:i<l.length):ak l (i:Int)=l[i]:=by
 unfold ak;rw[Int.toNat_natCast,List.getD_eq_getElem?_getD,List.getElem?_eq_getElem h];rfl
theorem W9{φ:ByteArray→ByteArray}(h:Rn φ)(l:List aj):∀(k:Nat) (x3:List eB) (n i:Int),iL.l0 k (l.map (aZ φ)) x3 (l.map (aZ φ)) n i=iL.l0 k l x3 l n i
 |0,_,_,_=>rfl
 |k+1,x3,n,i=>by
  simp only[iL.l0,Nz h,List.length_map,← List.map_take,rn_over,Xg,W9 h l k,show(aZ φ (ak l i)).f1=(ak l i).f1 from rfl]
theorem WZ{φ:ByteArray→ByteArray}(h:Rn φ)(l:List aj)(k:Nat):iL.f k (l.map (aZ φ))=iL.f k l:=by
 unfold iL.f;rw[W9 h,List.length_map]
theorem Pg{l:List aj}{t:Int}{k:Nat}{x:Nat×aj}(h:x ∈ evs l t k):x.1<k∧x.1<l.length∧x.2.f1=t:=by
 unfold evs at h;rw[List.mem_filterMap]at h;obtain⟨j,hj,h⟩:=h;rw[List.mem_range]at hj
 cases e:l[j]? with
 |none=>rw[e]at h;cases h
 |some y=>
  rw[e]at h;simp only at h
  split at h
  ·cases h;exact⟨hj,(List.getElem?_eq_some_iff.1 e).1,by assumption⟩
  ·cases h
theorem VT(l:List aj)(i:Nat)(h:i<l.length):∃x:Int×Int×Int×Bool,eF.f l i=some x∧x.1=(l[i]).f1∧0≤x.2.2.1∧x.2.2.1≤l.length:=by
 unfold eF.f;rw[if_pos (by omega),Int.toNat_natCast,List.getElem?_eq_getElem h];refine⟨_,rfl,rfl,?_⟩;simp only
 cases e:eF.fin (evs l l[i].f1 l.length)with
 |none=>simp only;omega
 |some x=>
  have:=(Pg (List.mem_of_find?_eq_some e)).2.1;simp only;omega
theorem QM(l:List aj)(hl:l.length≤100000):∀(m i:Nat) (x3:List eB),i+m=l.length→x3.length≤i→(∀x ∈ x3,(0≤x.f2∧x.f2≤l.length)∧∃y ∈ l,x.f0=y.f1)→(0<i→0<x3.length)→
  ∃L,Ev (fun k=>iL.l0 k l x3 l (l.length:Int) (i:Int)) L∧(∀x ∈ L,(0≤x.f2∧x.f2≤l.length)∧∃y ∈ l,x.f0=y.f1)∧L.length≤l.length∧(0<l.length→0<L.length)
 |0,i,x3,him,h3,hx,hp=>by
  refine⟨x3,Ev.succ (h:=fun _=>some x3) (fun k=>?_) (Ev.pure _),hx,by omega,fun h=>hp (by omega)⟩;simp only[iL.l0];rw[if_neg (by omega)]
 |m+1,i,x3,him,h3,hx,hp=>by
  have hi:i<l.length:=by omega
  cases ho:(l.take i).any (fun x=>x.f1==(l[i]).f1)with
  |true=>
   have hpi:0<i:=by
    rcases Nat.eq_zero_or_pos i with e|e
    ·subst e;simp at ho
    ·exact e
   obtain⟨L,hL,r⟩:=QM l hl m (i+1) x3 (by omega) (by omega) hx (fun _=>hp hpi);refine⟨L,Ev.succ (fun k=>?_) hL,r⟩;simp only[iL.l0];rw[if_pos (by omega),if_pos (by omega),if_pos (by omega),if_pos (by omega),zG hi];simp only[jF.f,Int.toNat_natCast,Option.bind_some,ho,if_true];rw[mr (n:=l.length) (by omega) (by omega) (by omega)];rfl
  |false=>
   obtain⟨x,hf,h1,h20,h21⟩:=VT l i hi
   obtain⟨L,hL,r⟩:=QM l hl m (i+1) (x3++[⟨x.1,x.2.1,x.2.2.1,x.2.2.2⟩]) (by omega) (by simp;omega) (fun y hy=>by
    rcases List.mem_append.1 hy with h|h
    ·exact hx y h
    ·rw[List.mem_singleton]at h;subst h;exact⟨⟨h20,h21⟩,l[i],List.getElem_mem hi,h1⟩) (fun _=>by simp)
   refine⟨L,Ev.succ (fun k=>?_) hL,r⟩;simp only[iL.l0];rw[if_pos (by omega),if_pos (by omega),if_pos (by omega),if_pos (by omega),zG hi];simp only[jF.f,Int.toNat_natCast,Option.bind_some,ho,Bool.false_eq_true,if_false];rw[hf,Option.bind_some,if_pos (by omega),mr (n:=l.length) (by omega) (by omega) (by omega)];rfl
theorem VU(l:List aj)(hl:l.length≤100000):∃L,Ev (fun k=>iL.f k l) L∧(∀x ∈ L,(0≤x.f2∧x.f2≤l.length)∧∃y ∈ l,x.f0=y.f1)∧L.length≤l.length∧(0<l.length→0<L.length):=
 QM l hl l.length 0 [] (by omega) (by simp) (fun x h=>by cases h) (fun h=>absurd h (by omega))
theorem aaK{φ:ByteArray→ByteArray}(h:Rn φ)(l:List aj)(key:ByteArray)(k:Nat):zw.f k (l.map (aZ φ)) (φ key)=zw.f k l key:=by
 unfold zw.f;simp only[WZ h,aaP h]
theorem VL{key:ByteArray}{b:Int}{n:Nat}:∀ {m:List (Nat×aj)},(∀x ∈ m,x.1<n)→dP.all key b m<n:=by
 intro m hm;unfold dP.all
 have:∀(m:List (Nat×aj)) (o:Int),(∀x ∈ m,x.1<n)→o<n→m.foldl (dP.one key b) o<n:=by
  intro m
  induction m with
  |nil=>intro o _ ho;exact ho
  |cons x m ih=>
   intro o hm ho;rw[List.foldl_cons];refine ih _ (fun y hy=>hm y (List.mem_cons_of_mem _ hy)) ?_;have:=hm x List.mem_cons_self;unfold dP.one
   split
   ·split
    ·split<;>omega
    ·exact ho
   ·exact ho
 exact this m (-1) hm (by omega)
theorem vers_tot(l:List aj)(key:ByteArray)(h0:0<l.length)(hl:l.length≤100000):∃V,Ev (fun k=>zw.f k l key) V∧V.length≤l.length∧∀i ∈ V,0≤i∧i<(l.length:Int):=by
 obtain⟨L,hL,hx,hlen,hp⟩:=VU l hl;refine⟨rR l key (yX (L.filter (·.f3))),?_,?_,?_⟩
 ·unfold zw.f;refine Ev.bind (h:=fun _ L=>if QK L then some (rR l key (yX (L.filter (·.f3))))else none) hL (Ev.of fun k=>?_);rw[if_pos];unfold QK;rw[Bool.and_eq_true];refine⟨decide_eq_true ⟨hp h0,by omega⟩,List.all_eq_true.2 fun x hx'=>decide_eq_true ?_⟩;have:=(hx x hx').1;omega
 ·have hperm:=aaY (L.filter (·.f3)) (fun x h=>by have:=(hx x (List.mem_filter.1 h).1).1;omega);have h1:(rR l key (yX (L.filter (·.f3)))).length≤((yX (L.filter (·.f3))).map (zA l key)).length:=List.length_filter_le _ _;rw[List.length_map,hperm.length_eq]at h1;have h2:(L.filter (·.f3)).length≤L.length:=List.length_filter_le _ _;omega
 ·intro i hi;unfold rR at hi;rw[List.mem_filter]at hi;obtain⟨h1,h2⟩:=hi;obtain⟨x,_,rfl⟩:=List.mem_map.1 h1;exact⟨of_decide_eq_true h2,VL fun y hy=>(Pg hy).2.1⟩
theorem rn_of{φ:ByteArray→ByteArray}(h:Rn φ)(l:List aj)(ho:∀i:Int,iE.f (l.map (aZ φ)) i=iE.f l i)(key:ByteArray)(k:Nat):xW.f k (l.map (aZ φ)) (φ key)=xW.f k l key:=by
 unfold xW.f;simp only[aaK h,rn_ofL h l key _ ho,rn_ofOk l _ ho]
def uh(l:List aj)(e:aN):Prop:=∃i k:Nat,e.f1=nS l i∧e.f2=nS l k∧e.f3=i∧e.f4=k
theorem WH{l:List aj}{kd:Int}{i k:Nat}{e:aN}(h:e ∈ ni l kd i k):uh l e:=by
 unfold ni at h
 split at h
 ·cases h
 ·rw[List.mem_singleton]at h;subst h;exact⟨i,k,rfl,rfl,rfl,rfl⟩
theorem Rb(l:List aj)(kd:Int)(i k:Nat):(ni l kd i k).length≤1:=by unfold ni;split<;>simp
theorem Pn{α β:Type}(f:α→List β)(c:Nat)(l:List α)(h:∀x ∈ l,(f x).length≤c):(l.flatMap f).length≤c*l.length:=by
 induction l with
 |nil=>simp
 |cons x l ih=>
  have h1:=h x List.mem_cons_self;have h2:=ih fun y hy=>h y (List.mem_cons_of_mem _ hy)
  rw[List.flatMap_cons,List.length_append,List.length_cons,Nat.mul_succ];omega
theorem Wo{l:List aj}{key:ByteArray}{V:List Int}{i:Nat}:(∀e ∈ ofRow l key V i,uh l e)∧(ofRow l key V i).length≤2:=by
 have nilOk:(∀e ∈ ([]:List aN),uh l e)∧([]:List aN).length≤2:=⟨(fun e h=>nomatch h),Nat.zero_le 2⟩;unfold ofRow
 split
 ·unfold uy
  split
  ·exact nilOk
  ·refine⟨fun e he=>?_,?_⟩
   ·rcases List.mem_append.1 he with h|h<;>split at h<;>first|exact WH h|cases h
   ·have a:=Rb l 2 (V.getD (idx (oJ l i) V).toNat 0).toNat i;have b:=Rb l 3 i (V.getD (idx (oJ l i) V+1).toNat 0).toNat;rw[List.length_append]
    split<;>split<;>(try simp only[List.length_nil])<;>omega
 ·exact nilOk
theorem Wm(l:List aj)(key:ByteArray)(V:List Int):(∀e ∈ ofL l key V,uh l e)∧(ofL l key V).length≤V.length+2*l.length:=by
 unfold ofL mq uw;refine⟨fun e he=>?_,?_⟩
 ·rcases List.mem_append.1 he with h|h
  ·obtain⟨m,_,h⟩:=List.mem_flatMap.1 h;exact WH h
  ·obtain⟨m,_,h⟩:=List.mem_flatMap.1 h;exact Wo.1 e h
 ·have a:=Pn (fun m=>ni l 1 (V.getD m 0).toNat (V.getD (m+1) 0).toNat) 1 (List.range (V.length-1)) (fun m _=>Rb _ _ _ _);have b:=Pn (ofRow l key V) 2 (List.range l.length) (fun m _=>Wo.2);rw[List.length_range]at a b;rw[List.length_append];omega
theorem of_tot(l:List aj)(key:ByteArray)(h0:0<l.length)(hl:l.length≤100000)(ho:∀i:Nat,i<l.length→(iE.f l i).isSome=true):∃E,Ev (fun k=>xW.f k l key) E∧E.length≤3*l.length∧∀e ∈ E,uh l e:=by
 obtain⟨V,hV,hlen,hr⟩:=vers_tot l key h0 hl;refine⟨ofL l key V,?_,?_,(Wm l key V).1⟩
 ·unfold xW.f;refine Ev.bind (h:=fun _ V=>if F9 l V then some (ofL l key V)else none) hV (Ev.of fun k=>?_);rw[if_pos];unfold F9;rw[Bool.and_eq_true,Bool.and_eq_true];refine⟨decide_eq_true ⟨hl,by omega⟩,List.all_eq_true.2 fun x hx'=>decide_eq_true (hr x hx'),List.all_eq_true.2 fun i hi=>ho i (List.mem_range.1 hi)⟩
 ·have:=(Wm l key V).2;omega
theorem rdOf_map{φ:ByteArray→ByteArray}(h:Rn φ)(K:List ByteArray)(i:Int):fT ByteArray.empty (K.map φ) i=φ (fT ByteArray.empty K i):=by
 unfold fT;simp only[List.getD_eq_getElem?_getD,List.getElem?_map]
 cases K[i.toNat]? with
 |some x=>rfl
 |none=>exact h.zero.symm
theorem WY{φ:ByteArray→ByteArray}(h:Rn φ)(l:List aj)(ho:∀i:Int,iE.f (l.map (aZ φ)) i=iE.f l i)(K:List ByteArray):∀(k:Nat) (x3:List aN) (n i:Int),kG.l0 k (l.map (aZ φ)) x3 (K.map φ) n i=kG.l0 k l x3 K n i
 |0,_,_,_=>rfl
 |k+1,x3,n,i=>by
  simp only[kG.l0,rdOf_map h,List.length_map,rn_of h l ho,WY h l ho K k]
theorem ZM(l:List aj):(qc l).length≤l.length:=by
 unfold qc
 have:∀(m:List aj) (L:List (List UInt8)),(m.foldl (fun L x=>if sP x then sw L x.f2.data.toList else L) L).length≤L.length+m.length:=by
  intro m
  induction m with
  |nil=>intro L;simp
  |cons x m ih=>
   intro L;rw[List.foldl_cons];have:=ih (if sP x then sw L x.f2.data.toList else L)
   have h2:(if sP x then sw L x.f2.data.toList else L).length≤L.length+1:=by
    split
    ·unfold sw;split<;>simp
    ·omega
   rw[List.length_cons];omega
 simpa using this l []
theorem Xt(L:List (List UInt8)):(oL L).length=L.length:=by unfold oL;rw[List.length_map,List.length_mergeSort]
theorem rn_All(s:ByteArray)(l:List aj)(ho:∀i:Int,iE.f (l.map (aZ (gX s))) i=iE.f l i)(hs:∀x ∈ l,x.f2.size≤1000000)(hs':∀x ∈ l.map (aZ (gX s)),x.f2.size≤1000000)(k:Nat):kG.f k (l.map (aZ (gX s)))=kG.f k l:=by
 unfold kG.f AX.f
 by_cases hl:l.length≤1000000
 ·rw[if_pos ⟨by rw[List.length_map];exact hl,List.all_eq_true.2 fun x hx=>decide_eq_true (by have:=hs' x hx;omega)⟩,if_pos ⟨hl,List.all_eq_true.2 fun x hx=>decide_eq_true (by have:=hs x hx;omega)⟩,Option.bind_some,Option.bind_some,rn_Keys,WY (I4 s) l ho,List.length_map]
 ·rw[if_neg (fun h=>hl (by rw[List.length_map]at h;exact h.1)),if_neg (fun h=>hl h.1)];rfl
theorem Sl(l:List aj)(h0:0<l.length)(hl:l.length≤100000)(ho:∀i:Nat,i<l.length→(iE.f l i).isSome=true)(K:List ByteArray)(hK:K.length≤100000):∀(m i:Nat) (x3:List aN),i+m=K.length→x3.length≤i*(3*l.length)→(∀e ∈ x3,uh l e)→
  ∃E,Ev (fun k=>kG.l0 k l x3 K (K.length:Int) (i:Int)) E∧E.length≤K.length*(3*l.length)∧∀e ∈ E,uh l e
 |0,i,x3,him,h3,hx=>by
  obtain rfl:i=K.length:=by omega
  refine⟨x3,Ev.succ (h:=fun _=>some x3) (fun k=>?_) (Ev.pure _),h3,hx⟩;simp only[kG.l0];rw[if_neg (by omega)]
 |m+1,i,x3,him,h3,hx=>by
  obtain⟨E1,hE1,hl1,ho1⟩:=of_tot l (fT ByteArray.empty K i) h0 hl ho;obtain⟨E,hE,r⟩:=Sl l h0 hl ho K hK m (i+1) (x3++E1) (by omega) (by rw[List.length_append,Nat.succ_mul];omega) (fun e he=>(List.mem_append.1 he).elim (hx e) (ho1 e))
  have hb:x3.length+E1.length<3518437208883:=by
   have h1:i*(3*l.length)≤100000*300000:=Nat.mul_le_mul (by omega) (by omega);omega
  refine⟨E,Ev.succ (h:=fun k=>(xW.f k l (fT ByteArray.empty K i)).bind fun t=>if x3.length+t.length<3518437208883 then kG.l0 k l (x3++t) K (K.length:Int) (wrap64 ((i:Int)+1))else none) (fun k=>?_) (Ev.bind hE1 ?_),r⟩
  ·simp only[kG.l0];rw[if_pos (by omega),if_pos (by omega),if_pos (by omega)]
  ·refine Ev.congr (fun k=>?_) hE;rw[if_pos hb,mr (n:=K.length) (by omega) (by omega) (by omega)];rfl
theorem all_tot(l:List aj)(h0:0<l.length)(hl:l.length≤1000)(hs:∀x ∈ l,x.f2.size≤1000000)(ho:∀i:Nat,i<l.length→(iE.f l i).isSome=true):∃E,Ev (fun k=>kG.f k l) E∧E.length≤l.length*(3*l.length)∧∀e ∈ E,uh l e:=by
 have hk:(oL (qc l)).length≤l.length:=by rw[Xt];exact ZM l
 obtain⟨E,hE,hl1,he⟩:=Sl l h0 (by omega) ho (oL (qc l)) (by omega) (oL (qc l)).length 0 [] (by omega) (by simp) (fun e h=>by cases h);refine⟨E,?_,Nat.le_trans hl1 (Nat.mul_le_mul_right _ hk),he⟩;refine Ev.congr (fun k=>?_) hE;unfold kG.f AX.f;rw[if_pos ⟨by omega,List.all_eq_true.2 fun x hx=>decide_eq_true (by have:=hs x hx;omega)⟩];rfl
def KV(l:List aj):Prop:=∀x ∈ l,0≤x.f1∧x.f1≤32
theorem KU{l:List aj}(h:KV l)(i:Nat):0≤nS l i∧nS l i≤32:=by
 unfold nS;rw[List.getD_eq_getElem?_getD]
 cases e:l[i]? with
 |none=>exact⟨by decide,by decide⟩
 |some x=>exact h x (List.mem_of_getElem? e)
def Eu(l:List aj)(s:bW):Prop:=(∃i,s.f0=nS l i)∧(∃k,s.f1=nS l k)∧s.f2.length≤2∧∀e ∈ s.f2,uh l e
theorem Xz{l:List aj}{a0:Int}{E:List aN}(hE:∀e ∈ E,uh l e){e:aN}(he:e ∈ E):(∀s ∈ uD a0 E e,Eu l s)∧(uD a0 E e).length≤1+E.length:=by
 unfold uD
 split
 ·obtain⟨i,k,h1,h2,h3,h4⟩:=hE e he;refine⟨fun s hs=>?_,?_⟩
  ·rcases List.mem_cons.1 hs with h|h
   ·subst h;exact⟨⟨i,h1⟩,⟨k,h2⟩,by simp,fun x hx=>by rw[List.mem_singleton]at hx;subst hx;exact hE x he⟩
   ·unfold zI at h;obtain⟨f,hf,rfl⟩:=List.mem_map.1 h;have hf':=(List.mem_filter.1 hf).1;obtain⟨i',k',g1,g2,g3,g4⟩:=hE f hf';refine⟨⟨i,h1⟩,⟨k',g2⟩,by simp,fun x hx=>?_⟩
    rcases List.mem_cons.1 hx with h|h
    ·subst h;exact hE x he
    ·rw[List.mem_singleton]at h;subst h;exact hE x hf'
  ·unfold zI;have:=List.length_filter_le (zH a0 e) E;rw[List.length_cons,List.length_map];omega
 ·exact⟨(fun s h=>nomatch h),Nat.zero_le _⟩
theorem steps_ok{l:List aj}(a0:Int){E:List aN}(hE:∀e ∈ E,uh l e):(∀s ∈ Ew a0 E,Eu l s)∧(Ew a0 E).length≤(1+E.length)*E.length:=by
 unfold Ew;exact⟨fun s hs=>by obtain⟨e,he,h⟩:=List.mem_flatMap.1 hs;exact(Xz hE he).1 s h,Pn _ _ _ fun e he=>(Xz hE he).2⟩
theorem KN:∀(K:List Int) (a b:Int),K.Pairwise (· < ·)→(∀x ∈ K,a≤x∧x≤b)→(K.length:Int)≤b-a+1∨K=[]
 | [],_,_,_,_=>.inr rfl
 |x::r,a,b,h,hb=>by
  left;have hx:=hb x List.mem_cons_self
  rcases KN r (x+1) b (List.pairwise_cons.1 h).2 (fun y hy=>⟨by have:=(List.pairwise_cons.1 h).1 y hy;omega,(hb y (List.mem_cons_of_mem _ hy)).2⟩)with h'|h'
  ·rw[List.length_cons];omega
  ·subst h';simp;omega
theorem Po{α:Type}(g:α→Int)(q:Int→Prop):∀(m:List α) (K:List Int),K.Pairwise (· < ·)→(∀x ∈ K,q x)→(∀y ∈ m,q (g y))→(m.foldl (fun K s=>iM (g s) K) K).Pairwise (· < ·)∧∀x ∈ m.foldl (fun K s=>iM (g s) K) K,q x
 | [],K,h,hq,_=>⟨h,hq⟩
 |y::m,K,h,hq,hm=>by
  rw[List.foldl_cons];refine Po g q m _ (M6 _ K h) (fun x hx=>?_) (fun z hz=>hm z (List.mem_cons_of_mem _ hz))
  rcases(vM _ _ _).1 hx with e|e
  ·rw[e];exact hm y List.mem_cons_self
  ·exact hq x e
theorem Tq{l:List aj}(hT:KV l){S:List bW}(hS:∀s ∈ S,Eu l s):(om S).length≤33:=by
 have h:=Po (fun s:bW=>s.f0) (fun x=>0≤x∧x≤32) S [] List.Pairwise.nil (fun x h=>nomatch h) (fun y hy=>by
  obtain⟨⟨i,e⟩,_⟩:=hS y hy;rw[e];exact KU hT i)
 rcases KN (om S) 0 32 h.1 h.2 with e|e
 ·omega
 ·rw[e];simp
theorem Sn{l:List bW}:∀(R:List (List Int)) (a:Int),(∀s ∈ ve l R a,s ∈ l)∧(ve l R a).length≤R.length
 | [],_=>⟨(fun s h=>nomatch h),Nat.le_refl _⟩
 |K::R,a=>by
  unfold ve
  cases e:l.find? (BF a K)with
  |none=>exact⟨(fun s h=>nomatch h),Nat.zero_le _⟩
  |some s=>
   have ih:=Sn (l:=l) R s.f1;refine⟨fun x hx=>?_,by simp only[List.length_cons];omega⟩
   rcases List.mem_cons.1 hx with h|h
   ·rw[h];exact List.mem_of_find?_eq_some e
   ·exact ih.1 x h
theorem WX{l:List bW}{k:Nat}:∀ {F:List Int} {r:List bW},Cz l k F=some r→(∀s ∈ r,s ∈ l)∧r.length≤k+1
 | [],r,h=>by cases h
 |t::F,r,h=>by
  unfold Cz at h
  split at h
  ·have e:=Option.some.inj h;subst e;have:=Sn (l:=l) (yT l t (k+1)).reverse t;rw[List.length_reverse]at this;exact⟨this.1,by have h2:=this.2;simp only[yT,List.length_map,List.length_range]at h2;exact h2⟩
  ·exact WX h
theorem Rh{l:List bW}{F:List Int}:∀(m k:Nat),(∀s ∈ (yU l F m k).1,s ∈ l)∧(yU l F m k).1.length≤m+k
 |0,k=>⟨(fun s h=>nomatch h),Nat.zero_le _⟩
 |m+1,k=>by
  unfold yU
  cases e:Cz l k F with
  |none=>dsimp only;have:=Rh (l:=l) (F:=F) m (k+1);exact⟨this.1,by have:=this.2;omega⟩
  |some r=>dsimp only;have:=WX e;exact⟨this.1,by have:=this.2;omega⟩
theorem KX{x:Int}(h:0≤x∧x≤32):(Lit.int .i64 x).wf=true:=Vp x (by omega)
theorem ring_tot{l:List aj}(hT:KV l){S:List bW}(hS:∀s ∈ S,Eu l s)(hlen:S.length≤1000000000):∃r,Bf.f S=some r∧(∀s ∈ r.1,Eu l s)∧r.1.length≤33:=by
 refine⟨yU S (om S) (om S).length 0,?_,fun s h=>hS s ((Rh _ _).1 s h),?_⟩
 ·unfold Bf.f;have:=Tq hT hS;rw[if_pos];refine⟨⟨hlen,by omega⟩,List.all_eq_true.2 fun s hs=>?_⟩;obtain⟨⟨i,e⟩,⟨k,g⟩,_⟩:=hS s hs;rw[Bool.and_eq_true,e,g];exact⟨KX (KU hT i),KX (KU hT k)⟩
 ·have a:=(Rh (l:=S) (F:=om S) (om S).length 0).2;have:=Tq hT hS;omega
theorem Wz{l:List bW}:∀(m:Nat) (K out:List Int),(zC l m K out).1.length≤out.length+m
 |0,_,_=>Nat.zero_le _
 |m+1,K,out=>by
  unfold zC
  split
  ·show out.length≤_;omega
  ·split
   ·rename_i n _
    have:=Wz (l:=l) m (K.erase n) (out++[n]);rw[List.length_append]at this;simp only[List.length_cons,List.length_nil]at this;omega
   ·exact Nat.zero_le _
theorem Z9{l:List aj}(hT:KV l){S:List bW}(hS:∀s ∈ S,Eu l s){N:List Int}(hN:∀n ∈ N,0≤n∧n≤32)(hlen:N.length≤100000):∃r,CB.f N S=some r∧r.1.length≤34:=by
 have ha:(S.all fun s=>(Lit.int .i64 s.f0).wf&&(Lit.int .i64 s.f1).wf)=true:=List.all_eq_true.2 fun s hs=>by
  obtain⟨⟨i,e⟩,⟨k,g⟩,_⟩:=hS s hs;rw[Bool.and_eq_true,e,g];exact⟨KX (KU hT i),KX (KU hT k)⟩
 refine⟨zC S ((mX N).length+1) (mX N) [],if_pos ⟨hlen,List.all_eq_true.2 fun n hn=>KX (hN n hn),ha⟩,?_⟩;have a:=Wz (l:=S) ((mX N).length+1) (mX N) [];have h:=Po (fun n:Int=>n) (fun x=>0≤x∧x≤32) N [] List.Pairwise.nil (fun x h=>nomatch h) hN
 have b:(mX N).length≤33:=by
  rcases KN (mX N) 0 32 h.1 h.2 with e|e
  ·omega
  ·rw[e];simp
 simp only[List.length_nil]at a;omega
theorem rn_Nodes{φ:ByteArray→ByteArray}(h:Rn φ)(l:List aj)(k:Nat):wE.f k (l.map (aZ φ))=wE.f k l:=by
 unfold wE.f;rw[WZ h]
theorem Tz:∀n:Nat,n≤64→2≤n→∃m:Nat,ru.f 64 (n:Int)=some (m:Int)∧0<m∧m<n:=by
 have h:∀n:Fin 65,2≤n.val→((ru.f 64 (n.val:Int)).any fun m=>decide (0<m)&&decide (m<(n.val:Int)))=true:=by decide+kernel
 intro n hn h2;have:=h ⟨n,by omega⟩ h2;simp only at this
 cases e:ru.f 64 (n:Int)with
 |none=>rw[e]at this;cases this
 |some m=>
  rw[e]at this;simp only[Option.any_some,Bool.and_eq_true,decide_eq_true_eq]at this;exact⟨m.toNat,by rw[Int.toNat_of_nonneg (by omega)],by omega,by omega⟩
theorem NM{a:ByteArray}(h:a.size≤1000000):∃r,wu.f a=some r∧r.size=32:=by
 refine⟨⟨(Gn a).toArray⟩,if_pos (by omega),?_⟩
 show(Gn a).toArray.size=32
 rw[List.size_toArray,sumL_len]
theorem RA:∀(n:Nat) (l:List ByteArray),n≤64→1≤l.length→l.length≤n→(∀s ∈ l,s.size≤1000)→∃r,Bj n l=some r∧r.size≤2000
 |0,l,_,h1,h2,_=>absurd h2 (by omega)
 |n+1,l,hn,h1,h2,hs=>by
  unfold Bj
  by_cases h:l.length=1
  ·rw[if_pos h]
   have hm:l.getD 0 ByteArray.empty ∈ l:=by
    rw[List.getD_eq_getElem?_getD,List.getElem?_eq_getElem (by omega)];exact List.getElem_mem _
   have:=hs _ hm;unfold KR.f;rw[if_pos (by omega)];exact⟨_,rfl,by rw[ByteArray.size_append];show 1+_≤_;omega⟩
  ·rw[if_neg h];obtain⟨m,hm,hm0,hm1⟩:=Tz l.length (by omega) (by omega);obtain⟨a,ha,ha'⟩:=RA n (l.take m) (by omega) (by rw[List.length_take];omega) (by rw[List.length_take];omega) (fun s h=>hs s (List.mem_of_mem_take h));obtain⟨b,hb,hb'⟩:=RA n (l.drop m) (by omega) (by rw[List.length_drop];omega) (by rw[List.length_drop];omega) (fun s h=>hs s (List.mem_of_mem_drop h));obtain⟨sa,hsa,ea⟩:=NM (a:=a) (by omega);obtain⟨sb,hsb,eb⟩:=NM (a:=b) (by omega);have e1:((⟨#[1]⟩:ByteArray)++sa).size=33:=by rw[ByteArray.size_append,ea];rfl
   rw[hm,Option.bind_some,if_pos (by omega),Int.toNat_natCast,ha,Option.bind_some,hsa,Option.bind_some,hb,Option.bind_some,hsb,Option.bind_some];unfold KS.f;rw[if_pos (by omega),if_pos (by omega)];exact⟨_,rfl,by rw[ByteArray.size_append,e1,eb];omega⟩
theorem SN(l:List ByteArray)(hl:l.length≤64)(hs:∀s ∈ l,s.size≤1000):∃r,Dr l=some r∧r.size≤32:=by
 unfold Dr
 by_cases h:l.length=0
 ·rw[if_pos h];exact⟨_,rfl,by show 0≤32;omega⟩
 ·rw[if_neg h];obtain⟨t,ht,ht'⟩:=RA 64 l (by omega) (by omega) hl hs;obtain⟨r,hr,er⟩:=NM (a:=t) (by omega);exact⟨r,by rw[ht,Option.bind_some,hr],by omega⟩
theorem RH(i:Int):∀(f a b:Nat),b-a≤f→a<b→b≤64→∃S,zL (f+1) (a:Int) (b:Int) i=some S∧S.length≤b-a∧∀x ∈ S,0≤x.2.1∧x.2.1≤x.2.2∧x.2.2≤b
 |0,a,b,h1,h2,_=>absurd h1 (by omega)
 |f+1,a,b,h1,h2,hb=>by
  unfold zL
  by_cases h:(b:Int)-a>1
  ·rw[if_pos h];obtain⟨m,hm,hm0,hm1⟩:=Tz (b-a) (by omega) (by omega);rw[show(b:Int)-a=((b-a:Nat):Int) by omega,hm,Option.bind_some,if_pos (by omega)]
   by_cases hi:i≥(a:Int)+m
   ·rw[if_pos hi,show(a:Int)+m=((a+m:Nat):Int) by omega];obtain⟨S,hS,hl,hx⟩:=RH i f (a+m) b (by omega) (by omega) hb;rw[hS];refine⟨_,rfl,by simp only[List.length_cons];omega,fun x h=>?_⟩
    rcases List.mem_cons.1 h with e|e
    ·subst e;simp only;omega
    ·exact hx x e
   ·rw[if_neg hi,show(a:Int)+m=((a+m:Nat):Int) by omega];obtain⟨S,hS,hl,hx⟩:=RH i f a (a+m) (by omega) (by omega) (by omega);rw[hS];refine⟨_,rfl,by simp only[List.length_cons];omega,fun x h=>?_⟩
    rcases List.mem_cons.1 h with e|e
    ·subst e;simp only;omega
    ·have:=hx x e;omega
  ·rw[if_neg h];exact⟨[],rfl,Nat.zero_le _,fun x h=>nomatch h⟩
theorem path_tot(l:List ByteArray)(hl:l.length≤63)(hs:∀s ∈ l,s.size≤1000)(a:Int):∃r,Ey.f l a=some r:=by
 unfold Ey.f;rw[if_neg (by omega)]
 by_cases ha:a<0∨a≥l.length
 ·rw[if_pos ha];exact⟨_,rfl⟩
 rw[if_neg ha];obtain⟨i,rfl⟩:∃i:Nat,a=i:=⟨a.toNat,by omega⟩;have hi:i<l.length:=by omega
 obtain⟨S,hS,hl',hx⟩:=RH (i:Int) 63 0 l.length (by omega) (by omega) (by omega);rw[show(0:Int)=((0:Nat):Int)from rfl,hS,Option.bind_some,if_pos]
 ·exact⟨_,rfl⟩
 ·refine⟨by omega,fun x h=>?_⟩;obtain⟨h1,h2,h3⟩:=hx x h;refine⟨h1,h2,h3,?_⟩;obtain⟨r,hr,_⟩:=SN (slW l x) (by unfold slW;rw[List.length_drop,List.length_take];omega) (fun s h=>hs s (by unfold slW at h;exact List.mem_of_mem_take (List.mem_of_mem_drop h)));unfold wD;rw[hr];rfl
theorem Ro(a:ByteArray):(a.toList=[])↔a.size=0:=by
 rw[ByteArray.toList_eq];constructor
 ·intro h;have:a.data.size=0:=by rw[← Array.length_toList,h];rfl
  exact this
 ·intro h;have:a.data.toList.length=0:=by rw[Array.length_toList];exact h
  exact List.length_eq_zero_iff.1 this
def jG(x:aj):Bool:=x.f0==2||x.f0==3
def jO(x:aj):Bool:=decide (1≤x.f0∧x.f0≤5)&&decide (1≤x.f1∧x.f1≤32)&&(if jG x then decide (1≤x.f2.size∧x.f2.size≤32∧x.f3.size≤32)&&(x.f0==2||x.f3.toList != [])else x.f2.toList== []&&x.f3.toList== [])
theorem QR(k:Nat)(x:aj):gW.f (k+2) x.f0 x.f1 x.f2 x.f3=some (jO x):=by
 obtain⟨a,b,c,d⟩:=x;unfold jO jG gW.f gW.j0 gW.j1 oV.f;simp only;have e0:(⟨#[]⟩:ByteArray).toList=[]:=by rw[ByteArray.toList_eq]
 rw[e0]
 by_cases h1:a<1
 ·rw[if_pos h1,if_pos trivial,show decide (1≤a∧a≤5)=false from decide_eq_false (by omega)];rfl
 ·rw[if_neg h1]
  by_cases h2:a>5
  ·rw[decide_eq_true h2,if_pos trivial,show decide (1≤a∧a≤5)=false from decide_eq_false (by omega)];rfl
  ·rw[decide_eq_false h2,if_neg (by decide),show decide (1≤a∧a≤5)=true from decide_eq_true (by omega)]
   by_cases h3:b<1
   ·rw[if_pos h3,if_pos trivial,show decide (1≤b∧b≤32)=false from decide_eq_false (by omega)];rfl
   ·rw[if_neg h3]
    by_cases h4:b>32
    ·rw[decide_eq_true h4,if_pos rfl,show decide (1≤b∧b≤32)=false from decide_eq_false (by omega)];rfl
    ·rw[decide_eq_false h4,if_neg (by decide),show decide (1≤b∧b≤32)=true from decide_eq_true (by omega)]
     by_cases h5:a=2
     ·subst h5;simp only[if_true,Option.bind_some,beq_self_eq_true,Bool.true_or,Bool.true_and,Bool.and_true]
      by_cases g1:(c.size:Int)≥1
      ·rw[if_pos g1]
       by_cases g2:(c.size:Int)≤32
       ·rw[if_pos g2]
        by_cases g3:(d.size:Int)≤32
        ·rw[if_pos g3,decide_eq_true (by omega)]
        ·rw[if_neg g3,decide_eq_false (by omega)]
       ·rw[if_neg g2,decide_eq_false (by omega)]
      ·rw[if_neg g1,decide_eq_false (by omega)]
     ·have e5:(a==2)=false:=beq_eq_false_iff_ne.2 h5;rw[if_neg h5,Option.bind_some,e5]
      by_cases h6:a=3
      ·subst h6;simp only[if_true,beq_self_eq_true,Bool.false_or,Bool.true_and]
       by_cases g1:(c.size:Int)≥1
       ·rw[if_pos g1]
        by_cases g2:(c.size:Int)≤32
        ·rw[if_pos g2]
         by_cases g3:(d.size:Int)≤32
         ·rw[if_pos g3,if_neg (by decide),decide_eq_true (by omega),Bool.true_and]
         ·rw[if_neg g3,decide_eq_false (by omega),Bool.false_and]
        ·rw[if_neg g2,decide_eq_false (by omega),Bool.false_and]
       ·rw[if_neg g1,decide_eq_false (by omega),Bool.false_and]
      ·have e6:(a==3)=false:=beq_eq_false_iff_ne.2 h6;rw[e6];simp
theorem yH{x:aj}(h:jO x=true):1≤x.f1∧x.f1≤32∧x.f2.size≤32∧x.f3.size≤32∧(jG x=true→1≤x.f2.size)∧(jG x=false→x.f2.toList=[]∧x.f3.toList=[]):=by
 unfold jO at h;rw[Bool.and_eq_true,Bool.and_eq_true,decide_eq_true_eq,decide_eq_true_eq]at h;obtain⟨⟨_,h1⟩,h2⟩:=h
 cases e:jG x with
 |true=>
  rw[e,if_pos rfl,Bool.and_eq_true,decide_eq_true_eq]at h2;exact⟨h1.1,h1.2,h2.1.2.1,h2.1.2.2,fun _=>h2.1.1,fun h=>nomatch h⟩
 |false=>
  rw[e,if_neg (by decide),Bool.and_eq_true,beq_iff_eq,beq_iff_eq]at h2;have a:=(Ro _).1 h2.1;have b:=(Ro _).1 h2.2;exact⟨h1.1,h1.2,by omega,by omega,(fun h=>nomatch h),fun _=>h2⟩
theorem Vq{α:Type}(p:α→Bool)(l:List α):idx p l= -1∨(0≤idx p l∧idx p l<l.length):=by
 unfold idx
 cases e:l.findIdx? p with
 |none=>exact .inl rfl
 |some i=>right;have:=(List.findIdx?_eq_some_iff_getElem.1 e).1;simp only;omega
theorem step_tot(l:List aj)(i:Nat)(h:i<l.length):∃r,oo.f l (i:Int)=some r∧(r=0→jO l[i]=true):=by
 unfold oo.f;rw[if_pos (by omega),Int.toNat_natCast,List.getElem?_eq_getElem h];simp only;rw[QR 2,Option.bind_some]
 cases e:jO l[i]with
 |true=>exact⟨_,rfl,fun _=>rfl⟩
 |false=>rw[if_pos rfl];exact⟨1,rfl,fun h=>absurd h (by decide)⟩
theorem Tp(l:List aj)(hl:l.length≤256):∀(m i:Nat),i+m=l.length→∃r,Ev (fun k=>jd.l1 k l l (l.length:Int) (i:Int)) r∧r.1=(l.length:Int)
 |0,i,him=>by
  refine⟨((l.length:Int),0),Ev.succ (h:=fun _=>some ((l.length:Int),0)) (fun k=>?_) (Ev.pure _),rfl⟩;simp only[jd.l1];rw[if_neg (by omega)]
 |m+1,i,him=>by
  have hi:i<l.length:=by omega
  cases ho:l.any (fun x=>x.f1==(l[i]).f1&&oh x)with
  |true=>
   obtain⟨r,hr,e⟩:=Tp l hl m (i+1) (by omega);refine⟨r,Ev.succ (fun k=>?_) hr,e⟩;simp only[jd.l1];rw[if_pos (by omega),if_pos (by omega),if_pos (by omega),zG hi];simp only[jF.f,Option.bind_some,ho,if_true];rw[mr (n:=l.length) (by omega) (by omega) (by omega)];rfl
  |false=>
   refine⟨((l.length:Int),9),Ev.succ (h:=fun _=>some ((l.length:Int),9)) (fun k=>?_) (Ev.pure _),rfl⟩;simp only[jd.l1];rw[if_pos (by omega),if_pos (by omega),if_pos (by omega),zG hi];simp only[jF.f,Option.bind_some,ho,Bool.false_eq_true,if_false]
theorem Tm(l:List aj)(hl:l.length≤256):∀(m i:Nat),i+m=l.length→(∀j (hj:j<l.length),j<i→jO l[j]=true)→∃r,Ev (fun k=>jd.l0 k l (l.length:Int) (i:Int)) r∧(r.2=0→r.1=(l.length:Int)∧∀x ∈ l,jO x=true)
 |0,i,him,hm=>by
  obtain⟨r,hr,e⟩:=Tp l hl l.length 0 (by omega);refine⟨r,Ev.succ (fun k=>?_) hr,fun _=>⟨e,fun x hx=>?_⟩⟩
  ·simp only[jd.l0];rw[if_neg (by omega)];rfl
  ·obtain⟨j,hj,rfl⟩:=List.getElem_of_mem hx;exact hm j hj (by omega)
 |m+1,i,him,hm=>by
  obtain⟨s,hs,hms⟩:=step_tot l i (by omega)
  by_cases h0:s=0
  ·obtain⟨r,hr,e⟩:=Tm l hl m (i+1) (by omega) (fun j hj hji=>by
    rcases Nat.lt_or_ge j i with h|h
    ·exact hm j hj h
    ·obtain rfl:j=i:=by omega
     exact hms h0)
   refine⟨r,Ev.succ (fun k=>?_) hr,e⟩;simp only[jd.l0];rw[if_pos (by omega),hs,Option.bind_some,if_pos h0,mr (n:=l.length) (by omega) (by omega) (by omega)];rfl
  ·refine⟨((i:Int),s),Ev.succ (h:=fun _=>some ((i:Int),s)) (fun k=>?_) (Ev.pure _),fun h=>absurd h h0⟩;simp only[jd.l0];rw[if_pos (by omega),hs,Option.bind_some,if_neg h0]
theorem YX(l:List aj)(hl:l.length≤256):∃r,Ev (fun k=>jd.f k l) r∧(r.2=0→r.1=(l.length:Int)∧∀x ∈ l,jO x=true):=by
 obtain⟨r,hr,e⟩:=Tm l hl l.length 0 (by omega) (fun j hj h=>absurd h (by omega));refine⟨r,Ev.congr (fun k=>?_) hr,e⟩;unfold jd.f;rw[if_neg (by omega)];rfl
theorem Pm(l:List aj)(t:Int):∃x,iX.f l t=some x:=by
 unfold iX.f
 rcases Vq (iX.p t) l with h|⟨h1,h2⟩
 ·rw[if_pos (by omega)];exact⟨_,rfl⟩
 ·rw[if_neg (by omega)];obtain⟨x,hx,_⟩:=VT l (idx (iX.p t) l).toNat (by omega);rw[Int.toNat_of_nonneg h1]at hx;rw[hx];exact⟨_,rfl⟩
theorem Xd{φ:ByteArray→ByteArray}(h:Rn φ)(l:List aj)(i:Int):uE.f (l.map (aZ φ)) i=uE.f l i:=by
 unfold uE.f;simp only[Nz h,List.length_map,Ri,show(aZ φ (ak l i)).f0=(ak l i).f0 from rfl,show(aZ φ (ak l i)).f1=(ak l i).f1 from rfl]
theorem rn_Outer{φ:ByteArray→ByteArray}(h:Rn φ)(l:List aj)(i:Int):iE.f (l.map (aZ φ)) i=iE.f l i:=by
 unfold iE.f;simp only[Nz h,Xd h,List.length_map,show(aZ φ (ak l i)).f2=φ (ak l i).f2 from rfl,show(aZ φ (ak l i)).f1=(ak l i).f1 from rfl,rn_Last h]
theorem SL(l:List aj)(i:Int):∃b,uE.f l i=some b:=by
 unfold uE.f
 by_cases h1:i<0
 ·rw[if_pos h1];exact⟨_,rfl⟩
 ·rw[if_neg h1]
  by_cases h2:i≥(l.length:Int)
  ·rw[if_pos h2];exact⟨_,rfl⟩
  ·rw[if_neg h2,if_pos (by omega),if_pos (by omega)]
   split
   ·obtain⟨x,hx⟩:=Pm l (ak l i).f1;rw[hx,Option.bind_some]
    split
    ·split<;>exact⟨_,rfl⟩
    ·exact⟨_,rfl⟩
   ·exact⟨_,rfl⟩
theorem aac(l:List aj)(i:Nat)(hi:i<l.length):(iE.f l (i:Int)).isSome=true:=by
 unfold iE.f;obtain⟨b,hb⟩:=SL l i;rw[hb,Option.bind_some]
 split
 ·rw[if_pos (by omega),if_pos (by omega)];rfl
 ·rfl
theorem rn_own{φ:ByteArray→ByteArray}(h:Rn φ)(l:List aj)(i j:Int):Bg.f (l.map (aZ φ)) i j=Bg.f l i j:=by
 unfold Bg.f;simp only[Nz h,List.length_map,show(aZ φ (ak l i)).f3=φ (ak l i).f3 from rfl,show(aZ φ (ak l j)).f3=φ (ak l j).f3 from rfl,h.eq]
theorem own_tot(l:List aj)(i j:Int)(hi:0≤i∧i<l.length)(hj:0≤j∧j<l.length):∃r,Bg.f l i j=some r:=by
 unfold Bg.f;rw[if_pos hi.1,if_pos hi.2,if_pos hj.1,if_pos hj.2]
 split<;>exact⟨_,rfl⟩
theorem rn_AtG{φ:ByteArray→ByteArray}(h:Rn φ)(l:List aj)(i:Int)(x:aj)(v:Int):kR.g (l.map (aZ φ)) i (aZ φ x) v=kR.g l i x v:=by
 unfold kR.g;rw[List.getElem?_map]
 cases l[v.toNat]? with
 |none=>rfl
 |some y=>
  simp only[Option.map_some,Ri,List.length_map,KH,show(aZ φ x).f2=φ x.f2 from rfl,Ny h,show(aZ φ x).f1=x.f1 from rfl,show(aZ φ y).f1=y.f1 from rfl]
theorem rn_At{φ:ByteArray→ByteArray}(h:Rn φ)(l:List aj)(i:Int):kR.f (l.map (aZ φ)) i=kR.f l i:=by
 unfold kR.f;simp only[Xd h]
 congr 1
 funext c
 rw[List.getElem?_map]
 cases l[i.toNat]? with
 |none=>rfl
 |some x=>
  simp only[Option.map_some,List.length_map,show(aZ φ x).f2=φ x.f2 from rfl,show(aZ φ x).f3=φ x.f3 from rfl,show(aZ φ x).f1=x.f1 from rfl,KH,Ny h,rn_own h,h.nil,Rj l _ _ (Xb h x.f2 x.f3),rn_AtG h]
theorem atG_tot(l:List aj)(i:Int)(x:aj)(v:Int)(hv:0≤v∧v<l.length):∃r,kR.g l i x v=some r:=by
 unfold kR.g;rw[List.getElem?_eq_getElem (by omega:v.toNat<l.length)];simp only
 split
 ·exact⟨_,rfl⟩
 ·obtain⟨t,ht⟩:=Pm l (l[v.toNat]'(by omega)).f1;rw[ht,Option.bind_some]
  split
  ·exact⟨_,rfl⟩
  ·split<;>exact⟨_,rfl⟩
theorem at_tot(l:List aj)(i:Nat)(hi:i<l.length):∃r,kR.f l (i:Int)=some r:=by
 unfold kR.f;obtain⟨b,hb⟩:=SL l i;rw[hb,Option.bind_some,if_pos (by omega:(0:Int)≤i),Int.toNat_natCast,List.getElem?_eq_getElem hi]
 cases b with
 |false=>exact⟨_,rfl⟩
 |true=>
  rw[if_neg (by decide)];simp only
  split
  ·exact own_tot l _ _ (by omega) ⟨by assumption,VL fun y hy=>(Pg hy).2.1⟩
  ·split
   ·exact⟨_,rfl⟩
   ·rcases Vq (ji.p l[i].f2 l[i].f3) l with h|h
    ·rw[if_pos (by omega)];exact⟨_,rfl⟩
    ·rw[if_neg (by omega)];exact atG_tot l _ _ _ h
theorem Xa{φ:ByteArray→ByteArray}(h:Rn φ)(l:List aj):∀(k:Nat) (x3:List lW) (n i:Int),nE.l0 k (l.map (aZ φ)) x3 n i=nE.l0 k l x3 n i
 |0,_,_,_=>rfl
 |k+1,x3,n,i=>by simp only[nE.l0,rn_At h,Xa h l k]
theorem rn_First{φ:ByteArray→ByteArray}(h:Rn φ)(l:List aj)(k:Nat):yZ.f k (l.map (aZ φ))=yZ.f k l:=by
 unfold yZ.f nE.f;simp only[Xa h,List.length_map]
theorem Ry(l:List aj)(hl:l.length≤256):∀(m i:Nat) (x3:List lW),i+m=l.length→x3.length≤i→∃r,Ev (fun k=>nE.l0 k l x3 (l.length:Int) (i:Int)) r
 |0,i,x3,him,h3=>by
  refine⟨x3,Ev.succ (h:=fun _=>some x3) (fun k=>?_) (Ev.pure _)⟩;simp only[nE.l0];rw[if_neg (by omega)]
 |m+1,i,x3,him,h3=>by
  obtain⟨b,hb⟩:=at_tot l i (by omega)
  cases hc:(!(b.1==0)||(!(b.2.1==0)||(!(b.2.2==0))))with
  |true=>
   obtain⟨r,hr⟩:=Ry l hl m (i+1) (x3++[⟨b.1,b.2.1,b.2.2⟩]) (by omega) (by simp;omega);refine⟨r,Ev.succ (fun k=>?_) hr⟩;simp only[nE.l0];rw[if_pos (by omega),hb,Option.bind_some,hc,if_pos rfl,if_pos (by omega),mr (n:=l.length) (by omega) (by omega) (by omega)];rfl
  |false=>
   obtain⟨r,hr⟩:=Ry l hl m (i+1) x3 (by omega) (by omega);refine⟨r,Ev.succ (fun k=>?_) hr⟩;simp only[nE.l0];rw[if_pos (by omega),hb,Option.bind_some,hc,if_neg (by decide),mr (n:=l.length) (by omega) (by omega) (by omega)];rfl
theorem YV(l:List aj)(hl:l.length≤256):∃r,Ev (fun k=>yZ.f k l) r:=by
 obtain⟨L,hL⟩:=Ry l hl l.length 0 [] (by omega) (by simp)
 by_cases h:(L.length:Int)=0
 ·exact⟨(0,0,0,false),Ev.bind (h:=fun _ (L:List lW)=>if(L.length:Int)=0 then some (0,0,0,false)else if 0<(L.length:Int)then some ((ow L 0).f0,(ow L 0).f1,(ow L 0).f2,true)else none) hL (Ev.of fun k=>by rw[if_pos h])⟩
 ·exact⟨((ow L 0).f0,(ow L 0).f1,(ow L 0).f2,true),Ev.bind (h:=fun _ (L:List lW)=>if(L.length:Int)=0 then some (0,0,0,false)else if 0<(L.length:Int)then some ((ow L 0).f0,(ow L 0).f1,(ow L 0).f2,true)else none) hL (Ev.of fun k=>by rw[if_neg h,if_pos (by omega)])⟩
end Go.Proofs.YtdcddenojjdmjaaGreatDoor.T
