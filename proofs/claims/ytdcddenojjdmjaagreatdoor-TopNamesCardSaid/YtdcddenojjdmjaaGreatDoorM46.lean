import Derived.Test.YtdcddenojjdmjaaGreatDoorM41
import Derived.Test.YtdcddenojjdmjaaGreatDoorM45
set_option linter.all false
namespace Go.Proofs.YtdcddenojjdmjaaGreatDoor.T
open Go.RowKit Go.Proofs.YtdcddenojjdmjaaGreatDoorW.PrintWords Go.Proofs.YtdcddenojjdmjaaGreatDoorW.PrintLast Go.Proofs.YtdcddenojjdmjaaGreatDoorW.PrintMore
def Bd(seed:ByteArray)(L:List ByteArray)(i k:Nat):Prop:=∃(a b:ByteArray),L[i]? =some a∧L[k]? =some b∧a.toList≠ []∧b.toList≠ []∧a.toList≠b.toList∧(iJ seed a).toList=(iJ seed b).toList
abbrev T3:=ByteArray×ByteArray×Bool
def Ez(seed:ByteArray)(L:List ByteArray)(q:Nat→Nat→Prop)(r:T3):Prop:=(r.2.2=true∧r.1.toList≠r.2.1.toList∧(iJ seed r.1).toList=(iJ seed r.2.1).toList∧r.1.size≤1000000∧r.2.1.size≤1000000)∨(r=((⟨#[]⟩:ByteArray),(⟨#[]⟩:ByteArray),false)∧∀i k,k<i→q i k→¬Bd seed L i k)
theorem rdB{L:List ByteArray}{i:Nat}(h:i<L.length):fT ByteArray.empty L (i:Int)=L[i]:=by
 unfold fT;rw[Int.toNat_natCast,List.getD_eq_getElem?_getD,List.getElem?_eq_getElem h];rfl
theorem XK(seed:ByteArray)(L:List ByteArray)(hL:L.length≤1000000)(hs:∀s ∈ L,s.size≤1000000):∀(m i:Nat),i+m=L.length→∀(n k:Nat),k+n=i→i<L.length→(∀j,i+1+j=L.length→∃r:T3,Ev (fun f=>fF.l0 f seed L ((i+1:Nat):Int)) r∧Ez seed L (fun x _=>i+1≤x) r)→
  ∃r:T3,Ev (fun f=>fF.l1 f seed L (i:Int) (k:Int)) r∧Ez seed L (fun x y=>(x=i∧k≤y)∨i+1≤x) r
 |m,i,him,0,k,hkn,hi,ih=>by
  obtain⟨r,hr,ha⟩:=ih (m-1) (by omega);refine⟨r,Ev.succ (fun f=>?_) hr,?_⟩
  ·simp only[fF.l1];rw[if_neg (by omega),mr (n:=L.length) (by omega) (by omega) (by omega)];rfl
  ·rcases ha with h|⟨h1,h2⟩
   ·exact .inl h
   ·refine .inr ⟨h1,fun x y hxy hq=>?_⟩
    rcases hq with ⟨rfl,hk⟩|hq
    ·omega
    ·exact h2 x y hxy hq
 |m,i,him,n+1,k,hkn,hi,ih=>by
  obtain⟨r,hr,ha⟩:=XK seed L hL hs m i him n (k+1) (by omega) hi ih;have hk:k<L.length:=by omega
  have next:∀f,fF.j2 (f+1) seed L (i:Int) (k:Int) true=fF.l1 f seed L (i:Int) ((k+1:Nat):Int):=fun f=>by
   simp only[fF.j2,if_true];rw[mr (n:=L.length) (by omega) (by omega) (by omega)];rfl
  have hopen:∀f,fF.l1 (f+1) seed L (i:Int) (k:Int)=if(L[i]).toList=[]then fF.j2 f seed L (i:Int) (k:Int) true else if(L[k]).toList=[]then fF.j2 f seed L (i:Int) (k:Int) true else fF.j2 f seed L (i:Int) (k:Int) ((L[i]).toList==(L[k]).toList):=fun f=>by
   simp only[fF.l1];rw[if_pos (by omega),if_pos (by omega),if_pos (by omega),rdB hi]
   by_cases h:(L[i]).toList=[]
   ·rw[if_pos h,if_pos h]
   ·rw[if_neg h,if_neg h,if_pos (by omega),if_pos (by omega),rdB hk]
  have skip:¬Bd seed L i k→(∀f,fF.l1 (f+2) seed L (i:Int) (k:Int)=fF.l1 f seed L (i:Int) ((k+1:Nat):Int))→∃r:T3,Ev (fun f=>fF.l1 f seed L (i:Int) (k:Int)) r∧Ez seed L (fun x y=>(x=i∧k≤y)∨i+1≤x) r:=fun hno hf=>by
   refine⟨r,Ev.succ (fun f=>rfl) (Ev.succ (fun f=>hf f) hr),?_⟩
   rcases ha with h|⟨h1,h2⟩
   ·exact .inl h
   ·refine .inr ⟨h1,fun x y hxy hq=>?_⟩
    rcases hq with ⟨rfl,hq⟩|hq
    ·rcases Nat.eq_or_lt_of_le hq with e|e
     ·rw[← e];exact hno
     ·exact h2 x y hxy (.inl ⟨rfl,e⟩)
    ·exact h2 x y hxy (.inr hq)
  by_cases h1:(L[i]).toList=[]
  ·refine skip (fun⟨a,b,ha',_,hne,_⟩=>hne ?_) (fun f=>by rw[hopen (f+1),if_pos h1,next]);rw[List.getElem?_eq_getElem hi]at ha';rw[← Option.some.inj ha'];exact h1
  by_cases h2:(L[k]).toList=[]
  ·refine skip (fun⟨a,b,_,hb',_,hne,_⟩=>hne ?_) (fun f=>by rw[hopen (f+1),if_neg h1,if_pos h2,next]);rw[List.getElem?_eq_getElem hk]at hb';rw[← Option.some.inj hb'];exact h2
  by_cases h3:(L[i]).toList=(L[k]).toList
  ·refine skip (fun⟨a,b,ha',hb',_,_,hne,_⟩=>hne ?_) (fun f=>by rw[hopen (f+1),if_neg h1,if_neg h2,show((L[i]).toList==(L[k]).toList)=true from beq_iff_eq.2 h3,next]);rw[List.getElem?_eq_getElem hi]at ha';rw[List.getElem?_eq_getElem hk]at hb';rw[← Option.some.inj ha',← Option.some.inj hb'];exact h3
  have si:=hs _ (List.getElem_mem hi);have sk:=hs _ (List.getElem_mem hk)
  have hj:∀f,fF.j2 (f+1) seed L (i:Int) (k:Int) false=if(iJ seed L[i]).toList=(iJ seed L[k]).toList then some (L[k],L[i],true)else fF.l1 f seed L (i:Int) ((k+1:Nat):Int):=fun f=>by
   simp only[fF.j2,Bool.false_eq_true,if_false];rw[if_pos (by omega),if_pos (by omega),rdB hi,rdB hk];unfold gI.f;rw[if_pos (by omega),Option.bind_some,if_pos (by omega),if_pos (by omega),if_pos (by omega),Option.bind_some,mr (n:=L.length) (by omega) (by omega) (by omega)];rfl
  have h3b:((L[i]).toList==(L[k]).toList)=false:=beq_eq_false_iff_ne.2 h3
  by_cases h4:(iJ seed L[i]).toList=(iJ seed L[k]).toList
  ·refine⟨(L[k],L[i],true),Ev.succ (fun f=>rfl) (Ev.succ (h:=fun _=>some (L[k],L[i],true)) (fun f=>?_) (Ev.pure _)),.inl ⟨rfl,fun e=>h3 e.symm,h4.symm,sk,si⟩⟩;rw[hopen (f+1),if_neg h1,if_neg h2,h3b,hj,if_pos h4]
  ·refine skip (fun⟨a,b,ha',hb',_,_,_,he⟩=>h4 ?_) (fun f=>by rw[hopen (f+1),if_neg h1,if_neg h2,h3b,hj,if_neg h4]);rw[List.getElem?_eq_getElem hi]at ha';rw[List.getElem?_eq_getElem hk]at hb';rw[Option.some.inj ha',Option.some.inj hb'];exact he
theorem XL(seed:ByteArray)(L:List ByteArray)(hL:L.length≤1000000)(hs:∀s ∈ L,s.size≤1000000):∀(m i:Nat),i+m=L.length→∃r:T3,Ev (fun f=>fF.l0 f seed L (i:Int)) r∧Ez seed L (fun x _=>i≤x) r
 |0,i,him=>by
  refine⟨_,Ev.succ (h:=fun _=>some ((⟨#[]⟩:ByteArray),(⟨#[]⟩:ByteArray),false)) (fun f=>?_) (Ev.pure _),.inr ⟨rfl,fun x y hxy hq=>?_⟩⟩
  ·simp only[fF.l0];rw[if_neg (by omega)]
  ·rintro⟨a,b,ha,_⟩;rw[List.getElem?_eq_none (by omega)]at ha;cases ha
 |m+1,i,him=>by
  obtain⟨r,hr,ha⟩:=XK seed L hL hs (m+1) i him i 0 (by omega) (by omega) (fun j hj=>XL seed L hL hs m (i+1) (by omega));refine⟨r,Ev.succ (fun f=>?_) hr,?_⟩
  ·simp only[fF.l0];rw[if_pos (by omega)];rfl
  ·rcases ha with h|⟨h1,h2⟩
   ·exact .inl h
   ·refine .inr ⟨h1,fun x y hxy hq=>h2 x y hxy ?_⟩
    rcases Nat.eq_or_lt_of_le hq with e|e
    ·exact .inl ⟨e.symm,Nat.zero_le _⟩
    ·exact .inr e
theorem XM(seed:ByteArray)(L:List ByteArray)(hL:L.length≤1000000)(hs:∀s ∈ L,s.size≤1000000):∃r:T3,Ev (fun f=>fF.f f seed L) r∧Ez seed L (fun _ _=>True) r:=by
 obtain⟨r,hr,ha⟩:=XL seed L hL hs L.length 0 (by omega);refine⟨r,hr,?_⟩
 rcases ha with h|⟨h1,h2⟩
 ·exact .inl h
 ·exact .inr ⟨h1,fun x y hxy _=>h2 x y hxy (Nat.zero_le _)⟩
theorem refMay(k:Nat)(x:aj)(h:jO x=true):lq.f (k+2) x.f0 x.f1 x.f2 x.f3=some true:=by
 obtain⟨a,b,c,d⟩:=x;unfold jO at h;simp only[Bool.and_eq_true,decide_eq_true_eq]at h;obtain⟨⟨h1,h2⟩,h3⟩:=h;unfold lq.f;dsimp only;rw[if_neg (by omega),if_neg (by omega),if_neg (by omega),decide_eq_false (by omega:¬b>32)];simp only[lq.j0,lq.j1,Bool.false_eq_true,if_false];unfold jG at h3;simp only at h3
 by_cases e2:a=2
 ·subst e2;rw[if_pos (by decide)]at h3;simp only[Bool.and_eq_true,decide_eq_true_eq]at h3;rw[if_pos rfl,if_neg (by omega),if_neg (by omega),if_neg (by omega),if_pos rfl]
 ·rw[if_neg e2]
  by_cases e3:a=3
  ·subst e3;rw[if_pos (by decide)]at h3;simp only[Bool.and_eq_true,decide_eq_true_eq,Bool.or_eq_true,bne_iff_ne,ne_eq]at h3
   have hd:0<d.size:=by
    rcases h3.2 with h|h
    ·exact absurd h (by decide)
    ·rw[Ro]at h;omega
   rw[show((3:Int) != 3)=false from rfl,if_neg (by decide),if_neg (by omega),if_neg (by omega),if_neg (by omega),if_neg e2,decide_eq_true (by omega)]
  ·have b2:(a==2)=false:=beq_eq_false_iff_ne.2 e2;have b3:(a==3)=false:=beq_eq_false_iff_ne.2 e3;rw[b2,b3,if_neg (by decide)]at h3;simp only[Bool.and_eq_true,beq_iff_eq]at h3;rw[show(a != 3)=true from by rw[bne,b3];rfl,if_pos rfl,if_pos h3.1,h3.2];rfl
theorem refOne(seed:ByteArray)(hs:jm seed=0)(k:Nat)(x:aj)(h:jO x=true):∃r,lS.f (k+2) seed x.f0 x.f1 x.f2 x.f3=some r∧r.2.2.2.2=0:=by
 have hm:=yH h
 have hsz:1≤seed.size∧seed.size≤32:=by
  unfold jm at hs
  split at hs
  ·assumption
  ·exact absurd hs (by decide)
 have hk:∃r,Fh.f seed x.f2=some r:=by
  unfold Fh.f gI.f;rw[if_pos (by omega),if_pos (by rw[ByteArray.size_append];show 1+_≤_;omega),Option.bind_some];exact⟨_,rfl⟩
 have hv:∃r,Fj.f seed x.f3=some r:=by
  unfold Fj.f gI.f;rw[if_pos (by omega),if_pos (by rw[ByteArray.size_append];show 1+_≤_;omega),Option.bind_some];dsimp only;rw[if_pos hs]
  split<;>exact⟨_,rfl⟩
 obtain⟨a,ha⟩:=hk;obtain⟨b,hb⟩:=hv;unfold lS.f;rw[refMay k x h,Option.bind_some,if_pos rfl,if_neg (by omega),decide_eq_false (by omega:¬(seed.size:Int)>32)];simp only[lS.j0,Bool.false_eq_true,if_false]
 have hj:∀z:Bool,∃r,lS.j1 (k+1) seed z x.f0 x.f1 x.f2 x.f3=some r∧r.2.2.2.2=0:=fun z=>by
  simp only[lS.j1]
  cases z with
  |true=>rw[if_pos rfl,ha,Option.bind_some,hb,Option.bind_some];exact⟨_,rfl,rfl⟩
  |false=>rw[if_neg (by decide)];exact⟨_,rfl,rfl⟩
 split
 ·exact hj true
 ·exact hj _
def sQ(x:aj):ByteArray:=if jG x then(⟨#[5]⟩:ByteArray)++x.f2 else⟨#[]⟩
def rz(x:aj):ByteArray:=if jG x then(if x.f3.toList=[]then⟨#[]⟩else(⟨#[6]⟩:ByteArray)++x.f3)else⟨#[]⟩
theorem XJ(seed:ByteArray)(hs:jm seed=0)(l:List aj)(hm:∀x ∈ l,jO x=true)(hl:l.length≤256)(r:T3)(hr:Ev (fun k=>(fF.f k seed (l.map sQ)).bind fun a=>if a.2.2=true then some (a.1,a.2.1,true)else(fF.f k seed (l.map rz)).bind fun b=>some (b.1,b.2.1,b.2.2)) r):
  ∀(m i:Nat) (x7 x8:List ByteArray),i+m=l.length→x7=(l.take i).map sQ→x8=(l.take i).map rz→Ev (fun k=>iC.l0 k seed l x7 x8 (i:Int)) r
 |0,i,x7,x8,him,h7,h8=>by
  refine Ev.succ (fun k=>?_) hr;simp only[iC.l0];rw[if_neg (by omega),h7,h8,List.take_of_length_le (by omega)]
 |m+1,i,x7,x8,him,h7,h8=>by
  have hi:i<l.length:=by omega
  have hx:=hm _ (List.getElem_mem hi);have hsz:=yH hx;have ih:=XJ seed hs l hm hl r hr m (i+1) (x7++[sQ l[i]]) (x8++[rz l[i]]) (by omega) (by rw[h7,← List.take_append_getElem hi,List.map_append];rfl) (by rw[h8,← List.take_append_getElem hi,List.map_append];rfl);have l7:x7.length<8796093022208:=by rw[h7,List.length_map,List.length_take];omega
  have l8:x8.length<8796093022208:=by rw[h8,List.length_map,List.length_take];omega
  have hj:∀k,iC.j1 (k+1) seed l x7 x8 (i:Int) (⟨#[]⟩:ByteArray) (⟨#[]⟩:ByteArray) (jG l[i])=iC.l0 k seed l (x7++[sQ l[i]]) (x8++[rz l[i]]) ((i+1:Nat):Int):=fun k=>by
   simp only[iC.j1];unfold sQ rz
   cases e:jG l[i]with
   |false=>
    simp only[Bool.false_eq_true,if_false];rw[if_pos l7,if_pos l8,mr (n:=l.length) (by omega) (by omega) (by omega)];rfl
   |true=>
    simp only[if_true];rw[if_pos (by omega),if_pos (by omega),zG hi,if_pos (by omega)]
    by_cases h3:(l[i]).f3.toList=[]
    ·rw[if_pos h3,if_pos h3,if_pos l7,if_pos l8,mr (n:=l.length) (by omega) (by omega) (by omega)];rfl
    ·rw[if_neg h3,if_neg h3,if_pos (by omega),if_pos l7,if_pos l8,mr (n:=l.length) (by omega) (by omega) (by omega)];rfl
  obtain⟨N,hN⟩:=ih;refine⟨N+4,fun k hk=>?_⟩;obtain⟨k',rfl⟩:∃k',k=k'+2+1:=⟨k-3,by omega⟩;obtain⟨o,ho,ho0⟩:=refOne seed hs k' l[i] hx;simp only[iC.l0];rw[if_pos (by omega),if_pos (by omega),zG hi,ho,Option.bind_some,if_pos ho0]
  have hkb:(if(l[i]).f0=2 then iC.j1 (k'+2) seed l x7 x8 (i:Int) (⟨#[]⟩:ByteArray) (⟨#[]⟩:ByteArray) true else iC.j1 (k'+2) seed l x7 x8 (i:Int) (⟨#[]⟩:ByteArray) (⟨#[]⟩:ByteArray) ((l[i]).f0==3))=iC.j1 (k'+2) seed l x7 x8 (i:Int) (⟨#[]⟩:ByteArray) (⟨#[]⟩:ByteArray) (jG l[i]):=by
   unfold jG
   by_cases h:(l[i]).f0=2
   ·rw[if_pos h,h];rfl
   ·rw[if_neg h,beq_eq_false_iff_ne.2 h,Bool.false_or]
  rw[hkb,hj (k'+1)];exact hN (k'+1) (by omega)
theorem VE{x:aj}(h:jO x=true):(sQ x).size≤1000000∧(rz x).size≤1000000:=by
 have hm:=yH h;have e1:∀a b:ByteArray,a.size=1→b.size≤32→(a++b).size≤1000000:=fun a b h1 h2=>by rw[ByteArray.size_append];omega
 unfold sQ rz;refine⟨?_,?_⟩
 ·split
  ·exact e1 _ _ rfl (by omega)
  ·show 0≤1000000;omega
 ·split
  ·split
   ·show 0≤1000000;omega
   ·exact e1 _ _ rfl (by omega)
  ·show 0≤1000000;omega
def EI(seed:ByteArray)(l:List aj):Prop:=∃i k,k<i∧(Bd seed (l.map sQ) i k∨Bd seed (l.map rz) i k)
theorem XI(seed:ByteArray)(hs:jm seed=0)(l:List aj)(hm:∀x ∈ l,jO x=true)(hl:l.length≤256):∃b,Ev (fun k=>vC.f k seed l) b∧(EI seed l→b=true):=by
 obtain⟨a,ha,aa⟩:=XM seed (l.map sQ) (by rw[List.length_map];omega) (fun s h=>by obtain⟨x,hx,rfl⟩:=List.mem_map.1 h;exact(VE (hm x hx)).1);obtain⟨b,hb,ab⟩:=XM seed (l.map rz) (by rw[List.length_map];omega) (fun s h=>by obtain⟨x,hx,rfl⟩:=List.mem_map.1 h;exact(VE (hm x hx)).2)
 have fin:∀(t:T3),Ez seed (l.map sQ) (fun _ _=>True) t∨Ez seed (l.map rz) (fun _ _=>True) t→∀r,Ev (fun k=>iC.f k seed l) r→r=t→∃c,Ev (fun k=>vC.f k seed l) c∧(t.2.2=true→c=true):=by
  intro t ht r hr e;subst e;obtain⟨N,hN⟩:=hr;dsimp only at hN
  have hcase:(r.2.2=true∧r.1.toList≠r.2.1.toList∧(iJ seed r.1).toList=(iJ seed r.2.1).toList∧r.1.size≤1000000∧r.2.1.size≤1000000)∨r=((⟨#[]⟩:ByteArray),(⟨#[]⟩:ByteArray),false):=by
   rcases ht with (h|h)|(h|h)
   ·exact .inl h
   ·exact .inr h.1
   ·exact .inl h
   ·exact .inr h.1
  rcases hcase with ⟨h1,h2,h3,h4,h5⟩|h1
  ·refine⟨true,⟨N,fun k hk=>?_⟩,fun _=>rfl⟩;dsimp only;unfold vC.f gI.f;rw[hN k hk,Option.bind_some,if_pos (by omega),Option.bind_some,if_pos (by omega),Option.bind_some,if_pos h1,if_neg h2];dsimp only;rw[if_pos hs,if_pos hs,h3,beq_self_eq_true]
  ·refine⟨false,⟨N,fun k hk=>?_⟩,fun h=>by rw[h1]at h;cases h⟩;dsimp only;unfold vC.f gI.f;rw[hN k hk,h1];have z:(⟨#[]⟩:ByteArray).size≤140737488355328:=by show 0≤_;omega
   simp only[Option.bind_some,if_pos z,Bool.false_eq_true,if_false]
 have hT:∀r:T3,Ev (fun k=>(fF.f k seed (l.map sQ)).bind fun a=>if a.2.2=true then some (a.1,a.2.1,true)else(fF.f k seed (l.map rz)).bind fun b=>some (b.1,b.2.1,b.2.2)) r→Ev (fun k=>iC.f k seed l) r:=fun r hr=>XJ seed hs l hm hl r hr l.length 0 [] [] (by omega) rfl rfl
 cases h1:a.2.2 with
 |true=>
  have hr:=hT (a.1,a.2.1,true) (Ev.bind (h:=fun k (a:T3)=>if a.2.2=true then some (a.1,a.2.1,true)else(fF.f k seed (l.map rz)).bind fun b=>some (b.1,b.2.1,b.2.2)) ha (Ev.of fun k=>if_pos h1));have e:(a.1,a.2.1,true)=a:=by rw[← h1]
  rw[e]at hr;obtain⟨c,hc,hct⟩:=fin a (.inl aa) _ hr rfl;exact⟨c,hc,fun _=>hct h1⟩
 |false=>
  have hr:=hT b (Ev.bind (h:=fun k (a:T3)=>if a.2.2=true then some (a.1,a.2.1,true)else(fF.f k seed (l.map rz)).bind fun b=>some (b.1,b.2.1,b.2.2)) ha (by
   obtain⟨N,hN⟩:=hb;exact⟨N,fun k hk=>by dsimp only at hN ⊢;rw[h1,if_neg (by decide),hN k hk,Option.bind_some]⟩))
  obtain⟨c,hc,hct⟩:=fin b (.inr ab) _ hr rfl;refine⟨c,hc,fun hC=>?_⟩;obtain⟨i,k,hki,hC⟩:=hC
  rcases hC with hC|hC
  ·rcases aa with h|h
   ·rw[h1]at h;exact absurd h.1 (by decide)
   ·exact absurd hC (h.2 i k hki trivial)
  ·rcases ab with h|h
   ·exact hct h.1
   ·exact absurd hC (h.2 i k hki trivial)
theorem Pk{α:Type}{p q:α→Bool}:∀(l:List α),(∀x ∈ l,p x=q x)→l.findIdx p=l.findIdx q
 | [],_=>rfl
 |x::l,h=>by
  rw[List.findIdx_cons,List.findIdx_cons,h x List.mem_cons_self,Pk l fun y hy=>h y (List.mem_cons_of_mem _ hy)]
theorem IV{α β:Type}(f:α→β)(p:β→Bool):∀l:List α,(l.map f).findIdx p=l.findIdx (p∘f)
 | []=>rfl
 |x::l=>by rw[List.map_cons,List.findIdx_cons,List.findIdx_cons,IV f p l];rfl
theorem toList_inj{a b:ByteArray}(h:a.toList=b.toList):a=b:=by
 rw[ByteArray.toList_eq,ByteArray.toList_eq]at h;exact ByteArray.ext (Array.ext' h)
theorem aaT(K:List Int)(f g:Int→aj)(h0:∀i ∈ K,(f i).f0=(g i).f0∧(f i).f1=(g i).f1)(h2:∀i ∈ K,((f i).f2.toList=[])↔((g i).f2.toList=[]))(h3:∀i ∈ K,((f i).f3.toList=[])↔((g i).f3.toList=[]))
  (e2:∀i ∈ K,∀j ∈ K,((f j).f2.toList==(f i).f2.toList)=((g j).f2.toList==(g i).f2.toList)) (e3:∀i ∈ K,∀j ∈ K,((f j).f3.toList==(f i).f3.toList)=((g j).f3.toList==(g i).f3.toList)):
  (K.map f).map (oK (K.map f))=(K.map g).map (oK (K.map g)):=by
 rw[List.map_map,List.map_map];refine List.map_congr_left fun i hi=>?_
 simp only[Function.comp,oK,(h0 i hi).1,(h0 i hi).2]
 have k2:IW (K.map f) (f i).f2=IW (K.map g) (g i).f2:=by
  unfold IW;rw[IV,IV];exact Pk K fun j hj=>e2 i hi j hj
 have k3:IX (K.map f) (f i).f3=IX (K.map g) (g i).f3:=by
  unfold IX;rw[IV,IV];exact Pk K fun j hj=>e3 i hi j hj
 rw[k2,k3]
 congr 1
 ·by_cases h:(f i).f2.toList=[]
  ·rw[if_pos h,if_pos ((h2 i hi).1 h)];exact toList_inj (h.trans ((h2 i hi).1 h).symm)
  ·rw[if_neg h,if_neg (fun h'=>h ((h2 i hi).2 h'))]
 ·by_cases h:(f i).f3.toList=[]
  ·rw[if_pos h,if_pos ((h3 i hi).1 h)];exact toList_inj (h.trans ((h3 i hi).1 h).symm)
  ·rw[if_neg h,if_neg (fun h'=>h ((h3 i hi).2 h'))]
def TagInj(seed:ByteArray)(l:List aj):Prop:=∀x ∈ l,∀y ∈ l,jG x=true→jG y=true→
 ((iJ seed (⟨#[5]⟩++x.f2)).toList=(iJ seed (⟨#[5]⟩++y.f2)).toList→x.f2.toList=y.f2.toList)∧
 (x.f3.toList≠ []→y.f3.toList≠ []→(iJ seed (⟨#[6]⟩++x.f3)).toList=(iJ seed (⟨#[6]⟩++y.f3)).toList→x.f3.toList=y.f3.toList)
theorem KQ(a b:ByteArray):(a++b).toList=a.toList++b.toList:=by
 rw[ByteArray.toList_eq,ByteArray.toList_eq,ByteArray.toList_eq];simp
theorem Nh{z:UInt8}(b:ByteArray):((⟨#[z]⟩:ByteArray)++b).toList≠ []:=by
 rw[KQ];intro h;have:=(List.append_eq_nil_iff.1 h).1;rw[ByteArray.toList_eq]at this
 cases this
theorem XC{seed:ByteArray}{l:List aj}(h:¬EI seed l):TagInj seed l:=by
 have sym:∀(L:List ByteArray) (a b:Nat),Bd seed L a b→Bd seed L b a:=fun L a b ⟨x,y,h1,h2,h3,h4,h5,h6⟩=>⟨y,x,h2,h1,h4,h3,fun e=>h5 e.symm,h6.symm⟩
 have no:∀a b,a≠b→¬(Bd seed (l.map sQ) a b∨Bd seed (l.map rz) a b):=fun a b hab ht=>by
  rcases Nat.lt_or_gt_of_ne hab with e|e
  ·exact h ⟨b,a,e,ht.elim (fun t=>.inl (sym _ _ _ t)) (fun t=>.inr (sym _ _ _ t))⟩
  ·exact h ⟨a,b,e,ht⟩
 intro x hx y hy kx ky;obtain⟨a,ha,rfl⟩:=List.getElem_of_mem hx;obtain⟨b,hb,rfl⟩:=List.getElem_of_mem hy
 by_cases hab:a=b
 ·subst hab;exact⟨fun _=>rfl,fun _ _ _=>rfl⟩
 have hk:∀(f:aj→ByteArray) (c:Nat) (hc:c<l.length),(l.map f)[c]? =some (f l[c]):=fun f c hc=>by rw[List.getElem?_map,List.getElem?_eq_getElem hc];rfl
 refine⟨fun e=>Classical.byContradiction fun hne=>no a b hab (.inl ⟨_,_,hk sQ a ha,hk sQ b hb,?_⟩),fun nx ny e=>Classical.byContradiction fun hne=>no a b hab (.inr ⟨_,_,hk rz a ha,hk rz b hb,?_⟩)⟩
 ·unfold sQ;rw[if_pos kx,if_pos ky];exact⟨Nh _,Nh _,fun h'=>hne (by rw[KQ,KQ]at h';exact List.append_cancel_left h'),e⟩
 ·unfold rz;rw[if_pos kx,if_pos ky,if_neg nx,if_neg ny];exact⟨Nh _,Nh _,fun h'=>hne (by rw[KQ,KQ]at h';exact List.append_cancel_left h'),e⟩
theorem zJ(seed s:ByteArray)(hs:jm seed=0):(iJ seed s).toList≠ []:=by
 have hsz:1≤seed.size∧seed.size≤32:=by
  unfold jm at hs
  split at hs
  ·assumption
  ·exact absurd hs (by decide)
 unfold iJ;rw[if_pos hsz,ByteArray.toList_eq];intro h;have:=VI seed s;have e:(Cm seed s)=[]:=h;rw[e]at this;cases this
theorem Nq{φ:ByteArray→ByteArray}(hφ:Rn φ){seed:ByteArray}(hs:jm seed=0){x y:aj}(mx:jO x=true)(my:jO y=true)
  (i1:jG x=true→jG y=true→((iJ seed (⟨#[5]⟩++x.f2)).toList=(iJ seed (⟨#[5]⟩++y.f2)).toList→x.f2.toList=y.f2.toList)∧(x.f3.toList≠ []→y.f3.toList≠ []→(iJ seed (⟨#[6]⟩++x.f3)).toList=(iJ seed (⟨#[6]⟩++y.f3)).toList→x.f3.toList=y.f3.toList))
  (b:Bool):(((iK seed x).f2.toList==(iK seed y).f2.toList)=((jG x==jG y)&&(!jG x||x.f2.toList==y.f2.toList)))∧(((iK seed x).f3.toList==(iK seed y).f3.toList)=(if jG x=true then(if jG y=true then x.f3.toList==y.f3.toList else x.f3.toList== [])else(if jG y=true then y.f3.toList== []else true))):=by
 have hx:=yH mx;have hy:=yH my
 have vx:∀z:aj,(wW seed z.f3 (⟨#[6]⟩++z.f3)).toList=if z.f3.toList=[]then[]else(iJ seed (⟨#[6]⟩++z.f3)).toList:=fun z=>by
  unfold wW
  split
  ·rw[ByteArray.toList_eq]
  ·rfl
 unfold iK
 cases kx:jG x with
 |true=>
  cases ky:jG y with
  |true=>
   obtain⟨j1,j2⟩:=i1 kx ky;rw[if_pos rfl,if_pos rfl,if_pos rfl,if_pos rfl];refine⟨?_,?_⟩
   ·simp only[beq_self_eq_true,Bool.true_and,Bool.not_true,Bool.false_or];rw[Bool.eq_iff_iff,beq_iff_eq,beq_iff_eq];exact⟨j1,fun e=>by rw[toList_inj e]⟩
   ·rw[Bool.eq_iff_iff,beq_iff_eq,beq_iff_eq];dsimp only;rw[vx x,vx y]
    by_cases ex:x.f3.toList=[]
    ·rw[if_pos ex]
     by_cases ey:y.f3.toList=[]
     ·rw[if_pos ey,ex,ey]
     ·rw[if_neg ey,ex];exact⟨fun e=>absurd e.symm (zJ seed _ hs),fun e=>absurd e.symm ey⟩
    ·rw[if_neg ex]
     by_cases ey:y.f3.toList=[]
     ·rw[if_pos ey,ey];exact⟨fun e=>absurd e (zJ seed _ hs),fun e=>absurd e ex⟩
     ·rw[if_neg ey];exact⟨j2 ex ey,fun e=>by rw[toList_inj e]⟩
  |false=>
   obtain⟨z2,z3⟩:=hy.2.2.2.2.2 ky;rw[if_pos rfl,if_neg (by decide),if_pos rfl,if_neg (by decide),z2,z3];refine⟨?_,?_⟩
   ·show((iJ seed _).toList== [])=false
    exact beq_eq_false_iff_ne.2 (zJ seed _ hs)
   ·dsimp only;rw[vx x,Bool.eq_iff_iff,beq_iff_eq,beq_iff_eq]
    by_cases ex:x.f3.toList=[]
    ·rw[if_pos ex,ex]
    ·rw[if_neg ex];exact⟨fun e=>absurd e (zJ seed _ hs),fun e=>absurd e ex⟩
 |false=>
  obtain⟨w2,w3⟩:=hx.2.2.2.2.2 kx
  cases ky:jG y with
  |true=>
   rw[if_neg (by decide),if_pos rfl,if_neg (by decide),if_pos rfl,w2,w3];refine⟨?_,?_⟩
   ·show(([]:List UInt8)==(iJ seed _).toList)=false
    exact beq_eq_false_iff_ne.2 (fun e=>zJ seed _ hs e.symm)
   ·dsimp only;rw[vx y,Bool.eq_iff_iff,beq_iff_eq,beq_iff_eq]
    by_cases ey:y.f3.toList=[]
    ·rw[if_pos ey,ey]
    ·rw[if_neg ey];exact⟨fun e=>absurd e.symm (zJ seed _ hs),fun e=>absurd e ey⟩
  |false=>
   obtain⟨z2,z3⟩:=hy.2.2.2.2.2 ky;rw[if_neg (by decide),if_neg (by decide),if_neg (by decide),if_neg (by decide),w2,w3,z2,z3];exact⟨rfl,rfl⟩
theorem Rf{φ:ByteArray→ByteArray}(hφ:Rn φ){seed:ByteArray}(hs:jm seed=0){x:aj}(mx:jO x=true)(mx':jO (aZ φ x)=true):
  ((iK seed x).f0=(iK seed (aZ φ x)).f0∧(iK seed x).f1=(iK seed (aZ φ x)).f1)∧(((iK seed x).f2.toList=[])↔((iK seed (aZ φ x)).f2.toList=[]))∧(((iK seed x).f3.toList=[])↔((iK seed (aZ φ x)).f3.toList=[])):=by
 have hk:jG (aZ φ x)=jG x:=rfl;unfold iK;rw[hk]
 cases kx:jG x with
 |true=>
  rw[if_pos rfl,if_pos rfl];refine⟨⟨rfl,rfl⟩,⟨fun e=>absurd e (zJ seed _ hs),fun e=>absurd e (zJ seed _ hs)⟩,?_⟩;dsimp only;unfold wW;rw[show(aZ φ x).f3=φ x.f3 from rfl]
  by_cases ex:x.f3.toList=[]
  ·rw[if_pos ex,if_pos ((hφ.nil x.f3).mpr ex)]
  ·rw[if_neg ex,if_neg (fun e=>ex ((hφ.nil x.f3).mp e))];exact⟨fun e=>absurd e (zJ seed _ hs),fun e=>absurd e (zJ seed _ hs)⟩
 |false=>
  rw[if_neg (by decide),if_neg (by decide)];exact⟨⟨rfl,rfl⟩,by rw[show(aZ φ x).f2=φ x.f2 from rfl,hφ.nil],by rw[show(aZ φ x).f3=φ x.f3 from rfl,hφ.nil]⟩
theorem aaU{φ:ByteArray→ByteArray}(hφ:Rn φ){seed:ByteArray}{l:List aj}(hm:∀x ∈ l,jO x=true)(hm':∀x ∈ l.map (aZ φ),jO x=true)(hs:l≠ []→jm seed=0){K:List Int}(hK:rG l.length K)(c:¬EI seed l)(c':¬EI seed (l.map (aZ φ))):
  (K.map fun i=>ak (l.map (iK seed)) i).map (oK (K.map fun i=>ak (l.map (iK seed)) i))=(K.map fun i=>ak ((l.map (aZ φ)).map (iK seed)) i).map (oK (K.map fun i=>ak ((l.map (aZ φ)).map (iK seed)) i)):=by
 rcases List.eq_nil_or_concat l with e|_
 ·subst e
  have:K=[]:=by
   cases K with
   |nil=>rfl
   |cons i K=>have:=hK.2 i List.mem_cons_self;simp at this;omega
  rw[this];rfl
 have hne:∀i ∈ K,l≠ []:=fun i hi e=>by have:=hK.2 i hi;rw[e]at this;simp at this;omega
 have t:=XC c;have t':=XC c'
 have ix:∀i ∈ K,∃x ∈ l,ak (l.map (iK seed)) i=iK seed x∧ak ((l.map (aZ φ)).map (iK seed)) i=iK seed (aZ φ x):=fun i hi=>by
  have h:=hK.2 i hi;have hlt:i.toNat<l.length:=by omega
  refine⟨l[i.toNat],List.getElem_mem hlt,?_,?_⟩
  ·unfold ak;rw[List.getD_eq_getElem?_getD,List.getElem?_map,List.getElem?_eq_getElem hlt];rfl
  ·unfold ak;rw[List.getD_eq_getElem?_getD,List.getElem?_map,List.getElem?_map,List.getElem?_eq_getElem hlt];rfl
 refine aaT K _ _ (fun i hi=>?_) (fun i hi=>?_) (fun i hi=>?_) (fun i hi j hj=>?_) (fun i hi j hj=>?_)
 ·obtain⟨x,hx,e,e'⟩:=ix i hi;rw[e,e'];exact(Rf hφ (hs (hne i hi)) (hm x hx) (hm' _ (List.mem_map_of_mem hx))).1
 ·obtain⟨x,hx,e,e'⟩:=ix i hi;rw[e,e'];exact(Rf hφ (hs (hne i hi)) (hm x hx) (hm' _ (List.mem_map_of_mem hx))).2.1
 ·obtain⟨x,hx,e,e'⟩:=ix i hi;rw[e,e'];exact(Rf hφ (hs (hne i hi)) (hm x hx) (hm' _ (List.mem_map_of_mem hx))).2.2
 ·obtain⟨x,hx,e,e'⟩:=ix i hi;obtain⟨y,hy,g,g'⟩:=ix j hj;rw[e,e',g,g',(Nq hφ (hs (hne i hi)) (hm y hy) (hm x hx) (t y hy x hx) true).1,(Nq hφ (hs (hne i hi)) (hm' _ (List.mem_map_of_mem hy)) (hm' _ (List.mem_map_of_mem hx)) (t' _ (List.mem_map_of_mem hy) _ (List.mem_map_of_mem hx)) true).1];rw[show(aZ φ y).f2=φ y.f2 from rfl,show(aZ φ x).f2=φ x.f2 from rfl,hφ.beq];rfl
 ·obtain⟨x,hx,e,e'⟩:=ix i hi;obtain⟨y,hy,g,g'⟩:=ix j hj;rw[e,e',g,g',(Nq hφ (hs (hne i hi)) (hm y hy) (hm x hx) (t y hy x hx) true).2,(Nq hφ (hs (hne i hi)) (hm' _ (List.mem_map_of_mem hy)) (hm' _ (List.mem_map_of_mem hx)) (t' _ (List.mem_map_of_mem hy) _ (List.mem_map_of_mem hx)) true).2];have n:∀z:ByteArray,((φ z).toList== [])=(z.toList== []):=fun z=>by rw[Bool.eq_iff_iff,beq_iff_eq,beq_iff_eq,hφ.nil]
  rw[show(aZ φ y).f3=φ y.f3 from rfl,show(aZ φ x).f3=φ x.f3 from rfl,hφ.beq,n,n];rfl
end Go.Proofs.YtdcddenojjdmjaaGreatDoor.T
