import Derived.Test.YtdcddenojjdmjaaGreatDoorM40
set_option linter.all false
namespace Go.Proofs.YtdcddenojjdmjaaGreatDoor.T
open Go.RowKit Go.Proofs.YtdcddenojjdmjaaGreatDoorW.PrintWords Go.Proofs.YtdcddenojjdmjaaGreatDoorW.PrintLast Go.Proofs.YtdcddenojjdmjaaGreatDoorW.PrintMore
theorem abd{l:List aj}(h:∀x ∈ l,jO x=true):KV l:=fun x hx=>by have:=yH (h x hx);omega
theorem rn_judge(s:ByteArray)(l:List aj)(hm:∀x ∈ l,jO x=true)(hm':∀x ∈ l.map (aZ (gX s)),jO x=true)(k:Nat)(a:Int)(r r':Int×Int)(hF:jd.f k l=some r)(hF':jd.f k (l.map (aZ (gX s)))=some r')(h0:r.2=0)(h0':r'.2=0):qb.f k (l.map (aZ (gX s))) a=qb.f k l a:=by
 unfold qb.f;rw[hF,hF'];simp only[Option.bind_some,h0,h0',if_true];rw[rn_First (I4 s),rn_All s l (rn_Outer (I4 s) l) (fun x hx=>by have:=yH (hm x hx);omega) (fun x hx=>by have:=yH (hm' x hx);omega),rn_Nodes (I4 s)]
theorem Tk{l:List aj}(S:List bW)(hS:∀s ∈ S,Eu l s)(hlen:S.length≤1000000):∀(m i:Nat) (x3:List aN),i+m=S.length→x3.length≤2*i→(∀e ∈ x3,uh l e)→∃r,Ev (fun k=>qa.l0 k x3 S (S.length:Int) (i:Int)) r∧r.length≤2*S.length∧∀e ∈ r,uh l e
 |0,i,x3,him,h3,he=>by
  refine⟨x3,Ev.succ (h:=fun _=>some x3) (fun k=>?_) (Ev.pure _),by omega,he⟩;simp only[qa.l0];rw[if_neg (by omega)]
 |m+1,i,x3,him,h3,he=>by
  have hi:i<S.length:=by omega
  have hrd:ou S (i:Int)=S[i]:=by
   unfold ou;rw[Int.toNat_natCast,List.getD_eq_getElem?_getD,List.getElem?_eq_getElem hi];rfl
  obtain⟨_,_,h2,h2'⟩:=hS _ (List.getElem_mem hi);obtain⟨r,hr,e⟩:=Tk S hS hlen m (i+1) (x3++(S[i]).f2) (by omega) (by rw[List.length_append];omega) (fun e h=>(List.mem_append.1 h).elim (he e) (h2' e));refine⟨r,Ev.succ (fun k=>?_) hr,e⟩;simp only[qa.l0];rw[if_pos (by omega),if_pos (by omega),if_pos (by omega),hrd,if_pos (by omega),mr (n:=S.length) (by omega) (by omega) (by omega)];rfl
abbrev V8:=Int×Bool×List Int×Int×Int×Int×(List aN)×Int
theorem ZF(l:List aj)(hl:l.length≤60)(a:Int):∃v:V8,Ev (fun k=>qb.f k l a) v∧(v.2.2.2.2.2.2.2=0→(∃r:Int×Int,Ev (fun k=>jd.f k l) r∧r.2=0)∧(∀x ∈ l,jO x=true)∧v.2.2.2.2.2.2.1.length≤66∧v.2.2.1.length≤34):=by
 by_cases h1:a<1
 ·exact⟨(0,false,[],0,0,0,[],1),Ev.of fun k=>by unfold qb.f;rw[if_pos h1],fun h=>absurd h (show ¬((1:Int)=0) by decide)⟩
 by_cases h2:a>2
 ·exact⟨(0,false,[],0,0,0,[],1),Ev.of fun k=>by unfold qb.f;rw[if_neg h1,if_pos h2],fun h=>absurd h (show ¬((1:Int)=0) by decide)⟩
 obtain⟨fr,hF,hfr⟩:=YX l (by omega)
 by_cases h3:fr.2=0
 case neg=>
  refine⟨(0,false,[],0,0,0,[],fr.2),?_,fun h=>absurd h h3⟩;obtain⟨N,hN⟩:=hF;exact⟨N,fun k hk=>by dsimp only at hN ⊢;unfold qb.f;rw[if_neg h1,if_neg h2,hN k hk,Option.bind_some,if_neg h3]⟩
 have hm:=(hfr h3).2;have hT:=abd hm;obtain⟨t,hTf⟩:=YV l (by omega)
 cases h4:t.2.2.2 with
 |true=>
  refine⟨(a,false,[],t.1,t.2.1,t.2.2.1,[],0),?_,fun _=>⟨⟨fr,hF,h3⟩,hm,Nat.zero_le _,Nat.zero_le _⟩⟩;obtain⟨N,hN⟩:=hF;obtain⟨M,hM⟩:=hTf;exact⟨N+M,fun k hk=>by dsimp only at hN hM ⊢;unfold qb.f;rw[if_neg h1,if_neg h2,hN k (by omega),Option.bind_some,if_pos h3,hM k (by omega),Option.bind_some,if_pos h4]⟩
 |false=>
  obtain⟨E,hE,hEl,hEo⟩:∃E,Ev (fun k=>kG.f k l) E∧E.length≤60*(3*60)∧∀e ∈ E,uh l e:=by
   rcases Nat.eq_zero_or_pos l.length with h|h
   ·obtain rfl:l=[]:=List.length_eq_zero_iff.1 h;have hk:oL (qc [])=[]:=List.length_eq_zero_iff.1 (by rw[Xt];rfl);refine⟨[],Ev.succ (h:=fun _=>some []) (fun k=>?_) (Ev.pure _),Nat.zero_le _,(fun e h=>nomatch h)⟩;unfold kG.f AX.f;rw[if_pos ⟨by simp,rfl⟩,Option.bind_some,hk];rfl
   ·obtain⟨E,hE,hEl,hEo⟩:=all_tot l h (by omega) (fun x hx=>by have:=yH (hm x hx);omega) (aac l);exact⟨E,hE,Nat.le_trans hEl (Nat.mul_le_mul hl (by omega)),hEo⟩
  obtain⟨hSo,hSl⟩:=steps_ok a hEo;have hSlen:(Ew a E).length≤1000000000:=Nat.le_trans hSl (Nat.le_trans (Nat.mul_le_mul (Nat.add_le_add_left hEl 1) hEl) (by decide));have hSt:BM.f a E=some (Ew a E):=if_pos (by omega);obtain⟨L,hL,hLx,hLl,_⟩:=VU l (by omega)
  have hNd:Ev (fun k=>wE.f k l) (rf (sJ L)):=by
   obtain⟨N,hN⟩:=hL;exact⟨N,fun k hk=>by dsimp only at hN ⊢;unfold wE.f;rw[hN k hk,Option.bind_some,if_pos (by omega)]⟩
  have hNi:∀n ∈ rf (sJ L),0≤n∧n≤32:=by
   intro n hn;unfold rf sJ at hn;rw[List.mem_mergeSort]at hn;obtain⟨x,hx,rfl⟩:=List.mem_map.1 hn;obtain⟨y,hy,e⟩:=(hLx x (List.mem_filter.1 hx).1).2;rw[e];exact hT y hy
  have hNl:(rf (sJ L)).length≤100000:=by
   unfold rf sJ;rw[List.length_mergeSort,List.length_map];have:=List.length_filter_le (fun x:eB=>x.f3) L;omega
  obtain⟨o,ho,hol⟩:=Z9 hT hSo hNi hNl;obtain⟨N1,hN1⟩:=hF;obtain⟨N2,hN2⟩:=hTf;obtain⟨N3,hN3⟩:=hE;obtain⟨N4,hN4⟩:=hNd;have hF':Ev (fun k=>jd.f k l) fr:=⟨N1,hN1⟩;dsimp only at hN1 hN2 hN3 hN4
  have key:∀k,N1+N2+N3+N4≤k→qb.f k l a=if o.2=true then some (a,true,o.1,0,0,0,[],0)else(Bf.f (Ew a E)).bind fun t=>(qa.f k t.1).bind fun u=>some (a,false,[],0,0,0,u,0):=by
   intro k hk;unfold qb.f;rw[if_neg h1,if_neg h2,hN1 k (by omega),Option.bind_some,if_pos h3,hN2 k (by omega),Option.bind_some,h4,if_neg (by decide),hN3 k (by omega),Option.bind_some,hSt,Option.bind_some,hN4 k (by omega),Option.bind_some,ho,Option.bind_some]
  cases h5:o.2 with
  |true=>exact⟨(a,true,o.1,0,0,0,[],0),⟨_,fun k hk=>(key k hk).trans (by rw[h5,if_pos rfl])⟩,fun _=>⟨⟨fr,hF',h3⟩,hm,Nat.zero_le _,hol⟩⟩
  |false=>
   obtain⟨g,hg,hgo,hgl⟩:=ring_tot hT hSo hSlen;obtain⟨u,hu,hul,_⟩:=Tk g.1 hgo (by omega) g.1.length 0 [] (by omega) (by simp) (fun e h=>nomatch h);obtain⟨N5,hN5⟩:=hu;refine⟨(a,false,[],0,0,0,u,0),⟨N1+N2+N3+N4+N5,fun k hk=>(key k (by omega)).trans ?_⟩,fun _=>⟨⟨fr,hF',h3⟩,hm,(by show u.length≤66;omega),Nat.zero_le _⟩⟩;rw[h5,if_neg (by decide),hg,Option.bind_some];have:=hN5 k (by omega);unfold qa.f;simp only at this;rw[show((0:Nat):Int)=0 from rfl]at this;rw[this,Option.bind_some]
def rG(N:Nat)(K:List Int):Prop:=K.Pairwise (· < ·)∧∀i ∈ K,0≤i∧i<(N:Int)
theorem aao{N:Nat}{K:List Int}(h:rG N K)(i:Int):rG N (zF N K i):=by
 unfold zF
 split
 ·rename_i hi
  exact⟨M6 i K h.1,fun t ht=>by
   rcases(vM _ _ _).1 ht with e|e
   ·rw[e];exact hi
   ·exact h.2 t e⟩
 ·exact h
theorem Nn{N:Nat}:∀(m K:List Int),rG N K→rG N (lJ N K m)
 | [],_,h=>h
 |i::m,K,h=>Nn m _ (aao h i)
theorem O5{l:List aj}{K:List Int}(h:rG l.length K)(t:Int):∃r,zn l K t=some r∧rG l.length r:=by
 unfold zn;obtain⟨x,hx⟩:=Pm l t;rw[hx];refine⟨_,rfl,?_⟩;dsimp only
 split
 ·exact Nn _ _ h
 ·exact h
theorem Pb{l:List aj}{K:List Int}(h:rG l.length K)(i:Int):∃r,wF l K i=some r∧rG l.length r:=by
 unfold wF
 split
 ·exact O5 (Nn _ _ h) _
 ·exact⟨_,rfl,h⟩
theorem Ya{l:List aj}{K:List Int}(h:rG l.length K)(i:Int):∃r,za l K i=some r∧rG l.length r:=by
 unfold za
 split
 ·unfold ji.f;rw[Option.bind_some];exact Pb h _
 ·exact⟨_,rfl,h⟩
theorem QU{l:List aj}:∀(m:List aN) (K:List Int),rG l.length K→∃r,Bc l m K=some r∧rG l.length r
 | [],_,h=>⟨_,rfl,h⟩
 |e::m,K,h=>by
  unfold Bc F7;obtain⟨K1,h1,k1⟩:=O5 (Nn [e.f3,e.f4] _ h) e.f1;obtain⟨K2,h2,k2⟩:=O5 k1 e.f2;rw[h1,Option.bind_some,h2,Option.bind_some]
  split
  ·obtain⟨K3,h3,k3⟩:=Ya k2 e.f3;rw[h3,Option.bind_some];exact QU m K3 k3
  ·rw[Option.bind_some];exact QU m K2 k2
theorem ZX{l:List aj}(hl:l.length≤1000000)(a0:Int)(a1:Bool)(l2:List Int)(a3 a4 a5:Int)(l6:List aN)(h6:l6.length≤100000):∃K,wC.f l a0 a1 l2 a3 a4 a5 l6=some K∧rG l.length K:=by
 have h0:rG l.length []:=⟨List.Pairwise.nil,fun i h=>nomatch h⟩;unfold wC.f;rw[if_pos ⟨hl,h6⟩]
 split
 ·exact⟨[],rfl,h0⟩
 ·split
  ·exact QU l6 [] h0
  ·obtain⟨K1,h1,k1⟩:=Pb h0 a4;obtain⟨K2,h2,k2⟩:=Pb k1 a5;rw[h1,Option.bind_some,h2,Option.bind_some];exact Ya k2 a4
def iK(seed:ByteArray)(x:aj):aj:=if jG x then⟨x.f0,x.f1,iJ seed (⟨#[5]⟩++x.f2),wW seed x.f3 (⟨#[6]⟩++x.f3)⟩else x
theorem VG(x:aj):(x.f0=2∨x.f0=3)↔jG x=true:=by unfold jG;rw[Bool.or_eq_true,beq_iff_eq,beq_iff_eq]
theorem WQ(seed:ByteArray)(x:aj)(hx:jO x=true)(k:Nat):∃r,vO.f (k+2) seed x.f0 x.f1 x.f2 x.f3=some r∧(jm seed=0→(⟨r.1,r.2.1,r.2.2.1,r.2.2.2.1⟩:aj)=iK seed x∧r.2.2.2.2=0)∧(jm seed≠0→r.2.2.2.2=1):=by
 have hm:=yH hx;unfold vO.f;rw[if_pos ⟨by omega,by omega⟩,QR,Option.bind_some,hx];refine⟨_,rfl,fun h=>?_,fun h=>?_⟩
 ·unfold vO.g iK;rw[if_pos ⟨h,rfl⟩]
  cases e:jG x with
  |true=>rw[if_pos ((VG x).2 e),if_pos rfl];exact⟨rfl,rfl⟩
  |false=>rw[if_neg (fun h'=>by rw[VG,e]at h';exact nomatch h'),if_neg (by decide)];exact⟨rfl,rfl⟩
 ·unfold vO.g;rw[if_neg (fun h'=>h h'.1)]
theorem WO(seed:ByteArray)(hs:jm seed=0)(l:List aj)(hm:∀x ∈ l,jO x=true)(hl:l.length≤256):∀(m i:Nat) (x6:List aj),i+m=l.length→x6=(l.take i).map (iK seed)→Ev (fun k=>nC.l0 k seed x6 l (l.length:Int) (i:Int)) (l.map (iK seed),0)
 |0,i,x6,him,h6=>by
  refine Ev.succ (h:=fun _=>some (x6,0)) (fun k=>?_) ?_
  ·simp only[nC.l0];rw[if_neg (by omega)]
  ·rw[h6,List.take_of_length_le (by omega)];exact Ev.pure _
 |m+1,i,x6,him,h6=>by
  have hi:i<l.length:=by omega
  have ih:=WO seed hs l hm hl m (i+1) (x6++[iK seed l[i]]) (by omega) (by rw[h6,← List.take_append_getElem hi,List.map_append];rfl);obtain⟨N,hN⟩:=ih;refine⟨N+3,fun k hk=>?_⟩;obtain⟨k',rfl⟩:∃k',k=k'+2+1:=⟨k-3,by omega⟩;obtain⟨r,hr,h0,_⟩:=WQ seed l[i] (hm _ (List.getElem_mem hi)) k';obtain⟨e1,e2⟩:=h0 hs;simp only[nC.l0];rw[if_pos (by omega),if_pos (by omega),if_pos (by omega),zG hi,hr,Option.bind_some,if_pos e2,if_pos (by rw[h6,List.length_map,List.length_take];omega),e1,mr (n:=l.length) (by omega) (by omega) (by omega)];exact hN (k'+2) (by omega)
theorem aau(seed:ByteArray)(l:List aj)(hm:∀x ∈ l,jO x=true)(hl:l.length≤256):∃r,Ev (fun k=>nC.f k seed l) r∧(r.2=0→r.1=l.map (iK seed)∧(l≠ []→jm seed=0)):=by
 have hf:∀k,nC.f k seed l=nC.l0 k seed [] l (l.length:Int) ((0:Nat):Int):=fun k=>by unfold nC.f;rw[if_neg (by omega)];rfl
 by_cases hs:jm seed=0
 ·exact⟨_,Ev.congr hf (WO seed hs l hm hl l.length 0 [] (by omega) rfl),fun _=>⟨rfl,fun _=>hs⟩⟩
 ·rcases Nat.eq_zero_or_pos l.length with h|h
  ·obtain rfl:l=[]:=List.length_eq_zero_iff.1 h;refine⟨([],0),Ev.congr hf (Ev.succ (h:=fun _=>some ([],0)) (fun k=>?_) (Ev.pure _)),fun _=>⟨rfl,fun h=>absurd rfl h⟩⟩;simp only[nC.l0];rw[if_neg (by simp)]
  ·refine⟨([],1),Ev.congr hf ⟨3,fun k hk=>?_⟩,fun h=>absurd h (show ¬((1:Int)=0) by decide)⟩;obtain⟨k',rfl⟩:∃k',k=k'+2+1:=⟨k-3,by omega⟩;obtain⟨r,hr,_,h1⟩:=WQ seed l[0] (hm _ (List.getElem_mem h)) k';have e:=h1 hs;have hr0:ak l ((0:Nat):Int)=l[0]:=zG h;simp only[nC.l0];rw[if_pos (by omega),if_pos (by omega),if_pos (by omega),hr0,hr,Option.bind_some,e,if_neg (by decide)]
theorem red_size(seed:ByteArray)(x:aj)(hx:jO x=true):(iK seed x).f2.size≤32∧(iK seed x).f3.size≤32:=by
 have hm:=yH hx
 have hk:∀s,(iJ seed s).size≤32:=fun s=>by
  unfold iJ
  split
  ·show(Cm seed s).toArray.size≤32
   rw[List.size_toArray,VI];omega
  ·show 0≤32;omega
 unfold iK
 split
 ·refine⟨hk _,?_⟩
  show(wW _ _ _).size≤32
  unfold wW
  split
  ·show 0≤32;omega
  ·exact hk _
 ·omega
theorem Rp(xs:List Int):(strOfNums xs).size=xs.length:=by
 show((xs.map _).toArray).size=_
 rw[List.size_toArray,List.length_map]
theorem XD(a:ByteArray)(h:a.size≤32):∃r,qY.f a=some r∧r.1.size≤40:=by
 unfold qY.f F5.f;rw[if_neg (by omega),if_pos (by omega),Option.bind_some];have hs:(strOfNums ([((a.size:Int))%256]:List Int)).size=1:=by rw[Rp];rfl
 rw[if_pos (by omega)];exact⟨_,rfl,by rw[ByteArray.size_append,hs];omega⟩
theorem YE(x:aj)(h2:x.f2.size≤32)(h3:x.f3.size≤32):∃r,qL.f x.f0 x.f1 x.f2 x.f3=some r∧r.1.size≤1000:=by
 unfold qL.f;rw[QR 7,Option.bind_some];have hs:(strOfNums [x.f0%256,x.f1%256]).size=2:=by rw[Rp];rfl
 cases e:jO x with
 |false=>rw[if_neg (by decide)];exact⟨_,rfl,by show 0≤1000;omega⟩
 |true=>
  rw[if_pos rfl];have hk:∃q,oV.f x.f0=some q:=by unfold oV.f;split<;>exact⟨_,rfl⟩
  obtain⟨q,hq⟩:=hk;rw[hq,Option.bind_some]
  cases q with
  |false=>rw[if_neg (by decide)];exact⟨_,rfl,by show(strOfNums _).size≤1000;omega⟩
  |true=>
   rw[if_pos rfl];obtain⟨a,ha,sa⟩:=XD x.f2 h2;obtain⟨b,hb,sb⟩:=XD x.f3 h3;rw[ha,Option.bind_some,hb,Option.bind_some,if_pos (by omega)];exact⟨_,rfl,by show(_++a.1++b.1:ByteArray).size≤1000;rw[ByteArray.size_append,ByteArray.size_append,hs];omega⟩
theorem VQ(l:List aj)(hl:l.length≤60)(hs:∀x ∈ l,x.f2.size≤32∧x.f3.size≤32):∀(m i:Nat) (x4:List ByteArray),i+m=l.length→x4.length≤i→(∀s ∈ x4,s.size≤1000)→∃r:List ByteArray×Int,Ev (fun k=>oU.l0 k x4 l (l.length:Int) (i:Int)) r∧r.1.length≤63∧∀s ∈ r.1,s.size≤1000
 |0,i,x4,him,h4,hx=>by
  refine⟨(x4,0),Ev.succ (h:=fun _=>some (x4,0)) (fun k=>?_) (Ev.pure _),by show x4.length≤63;omega,hx⟩;simp only[oU.l0];rw[if_neg (by omega)]
 |m+1,i,x4,him,h4,hx=>by
  have hi:i<l.length:=by omega
  have hsz:=hs _ (List.getElem_mem hi);obtain⟨b,hb,sb⟩:=YE l[i] hsz.1 hsz.2
  by_cases h0:b.2=0
  ·obtain⟨r,hr,e⟩:=VQ l hl hs m (i+1) (x4++[b.1]) (by omega) (by simp;omega) (fun s h=>by
    rcases List.mem_append.1 h with h|h
    ·exact hx s h
    ·rw[List.mem_singleton]at h;rw[h];exact sb)
   refine⟨r,Ev.succ (fun k=>?_) hr,e⟩;simp only[oU.l0];rw[if_pos (by omega),if_pos (by omega),if_pos (by omega),zG hi,hb,Option.bind_some,if_pos h0,if_pos (by omega),mr (n:=l.length) (by omega) (by omega) (by omega)];rfl
  ·refine⟨([],b.2),Ev.succ (h:=fun _=>some ([],b.2)) (fun k=>?_) (Ev.pure _),Nat.zero_le _,fun s h=>nomatch h⟩;simp only[oU.l0];rw[if_pos (by omega),if_pos (by omega),if_pos (by omega),zG hi,hb,Option.bind_some,if_neg h0]
theorem ZQ(l:List aj)(hl:l.length≤60)(hs:∀x ∈ l,x.f2.size≤32∧x.f3.size≤32):∃r:List ByteArray×Int,Ev (fun k=>oU.f k l) r∧r.1.length≤63∧∀s ∈ r.1,s.size≤1000:=by
 obtain⟨r,hr,e⟩:=VQ l hl hs l.length 0 [] (by omega) (by simp) (fun s h=>nomatch h);exact⟨r,Ev.congr (fun k=>by unfold oU.f;rw[if_neg (by omega)];rfl) hr,e⟩
theorem Tx:∀(k:Nat) (v:Int) (acc:List Int),(dJ.go k v acc).length≤k+acc.length
 |0,_,acc=>by unfold dJ.go;omega
 |k+1,v,acc=>by
  unfold dJ.go
  split
  ·omega
  ·have:=Tx k (v/256) (v%256::acc);rw[List.length_cons]at this;omega
theorem root_tot(l:List ByteArray)(hl:l.length≤63)(hs:∀s ∈ l,s.size≤1000):∃r,CK.f l=some r:=by
 unfold CK.f;rw[if_neg (by omega)];obtain⟨c,hc,sc⟩:=SN l (by omega) hs;rw[hc,Option.bind_some];unfold KT.f dJ.f
 have hw:IntKind.u64.wrap (l.length:Int)=(l.length:Int):=by
  show(l.length:Int)%18446744073709551616=_;omega
 rw[hw,if_pos (by omega),Option.bind_some];have hd:=Tx 8 (l.length:Int) []
 have h1:(strOfNums (((dJ.digits (l.length:Int)).length:Int)::dJ.digits (l.length:Int))).size≤9:=by
  rw[Rp,List.length_cons];unfold dJ.digits;simp at hd;omega
 have h2:((⟨#[2]⟩:ByteArray)++strOfNums (((dJ.digits (l.length:Int)).length:Int)::dJ.digits (l.length:Int))).size≤10:=by
  rw[ByteArray.size_append];show 1+_≤10;omega
 rw[if_pos (by omega),if_pos (by omega),Option.bind_some];obtain⟨r,hr,_⟩:=NM (a:=((⟨#[2]⟩:ByteArray)++strOfNums (((dJ.digits (l.length:Int)).length:Int)::dJ.digits (l.length:Int)))++c) (by rw[ByteArray.size_append];omega);rw[hr,Option.bind_some];exact⟨_,rfl⟩
abbrev C14:=ByteArray×Int×ByteArray×ByteArray×Int×Int×Bool×List Int×Int×Int×Int×(List aN)×(List fo)×Int
def pr79(p:fo):Int×aj:=(p.f0,p.f1)
theorem make0(red:List aj)(lv:List ByteArray)(hlv:lv.length≤63)(hsv:∀s ∈ lv,s.size≤1000)(K:List Int)(hK:∀i ∈ K,0≤i∧i<(red.length:Int))(hKl:K.length≤1000000)(a0:ByteArray)(a1:Int)(a2 a3:ByteArray)(a4 a5:Int)(a6:Bool)(l7:List Int)(a8 a9 dH:Int)(dF:List aN):
  ∀(m j:Nat) (x:List fo),j+m=K.length→x.map pr79=(K.take j).map (fun i=>(i,ak red i))→
   ∃r:C14,Ev (fun k=>jh.l0 k red lv K (K.length:Int) (j:Int) a0 a1 a2 a3 a4 a5 a6 l7 a8 a9 dH dF x) r∧(r.2.2.2.2.2.2.2.2.2.2.2.2.2=0→∃P:List fo,P.map pr79=K.map (fun i=>(i,ak red i))∧r=(a0,a1,a2,a3,a4,a5,a6,l7,a8,a9,dH,dF,P,0))
 |0,j,x,hjm,hx=>by
  obtain⟨b,hb⟩:=YF a0 a1 a2 a3 a4 a5 a6 l7 a8 a9 dH dF x
  have hf:∀k,jh.l0 (k+1) red lv K (K.length:Int) (j:Int) a0 a1 a2 a3 a4 a5 a6 l7 a8 a9 dH dF x=if b=true then some (a0,a1,a2,a3,a4,a5,a6,l7,a8,a9,dH,dF,x,0)else some ((⟨#[]⟩:ByteArray),0,(⟨#[]⟩:ByteArray),(⟨#[]⟩:ByteArray),0,0,false,([]:List Int),0,0,0,([]:List aN),([]:List fo),1):=fun k=>by
   simp only[jh.l0];rw[if_neg (by omega),hb,Option.bind_some]
  cases b with
  |true=>exact⟨_,Ev.succ hf (Ev.of fun k=>if_pos rfl),fun _=>⟨x,by rw[hx,List.take_of_length_le (by omega)],rfl⟩⟩
  |false=>exact⟨_,Ev.succ hf (Ev.of fun k=>if_neg (by decide)),fun h=>absurd h (show ¬((1:Int)=0) by decide)⟩
 |m+1,j,x,hjm,hx=>by
  have hj:j<K.length:=by omega
  have hrd:rd K (j:Int)=K[j]:=by unfold rd;rw[Int.toNat_natCast,List.getD_eq_getElem?_getD,List.getElem?_eq_getElem hj];rfl
  have hi:=hK _ (List.getElem_mem hj);obtain⟨p,hp⟩:=path_tot lv hlv hsv K[j]
  have hxl:x.length=j:=by
   have:=congrArg List.length hx;rw[List.length_map,List.length_map,List.length_take]at this;omega
  obtain⟨r,hr,e⟩:=make0 red lv hlv hsv K hK hKl a0 a1 a2 a3 a4 a5 a6 l7 a8 a9 dH dF m (j+1) (x++[⟨K[j],⟨(ak red K[j]).f0,(ak red K[j]).f1,(ak red K[j]).f2,(ak red K[j]).f3⟩,p.1⟩]) (by omega) (by
   rw[List.map_append,hx,← List.take_append_getElem hj,List.map_append];rfl)
  refine⟨r,Ev.succ (fun k=>?_) hr,e⟩;simp only[jh.l0];rw[if_pos (by omega),if_pos (by omega),if_pos (by omega),hrd,hp,Option.bind_some,if_pos hi.1,if_pos hi.2,if_pos (by omega),mr (n:=K.length) (by omega) (by omega) (by omega)];rfl
theorem VY(a0:ByteArray)(a1:Int)(a2 a3:ByteArray)(l:List aj)(a5:Int)(hl:l.length≤60):∃r:C14,Ev (fun k=>jh.f k a0 a1 a2 a3 l a5) r∧(r.2.2.2.2.2.2.2.2.2.2.2.2.2=0→(∃f:Int×Int,Ev (fun k=>jd.f k l) f∧f.2=0)∧(∀x ∈ l,jO x=true)∧(l≠ []→jm a3=0)∧
  ∃(v:V8) (root:ByteArray) (K:List Int) (P:List fo),Ev (fun k=>qb.f k l a5) v∧(v.2.2.2.2.2.2.1.length≤66∧v.2.2.1.length≤34)∧wC.f l v.1 v.2.1 v.2.2.1 v.2.2.2.1 v.2.2.2.2.1 v.2.2.2.2.2.1 v.2.2.2.2.2.2.1=some K∧rG l.length K∧P.map pr79=K.map (fun i=>(i,ak (l.map (iK a3)) i))∧
   r=(a0,a1,a2,root,(l.length:Int),v.1,v.2.1,v.2.2.1,v.2.2.2.1,v.2.2.2.2.1,v.2.2.2.2.2.1,v.2.2.2.2.2.2.1,P,0)):=by
 obtain⟨v,hv,hv0⟩:=ZF l hl a5
 by_cases h1:v.2.2.2.2.2.2.2=0
 case neg=>
  refine⟨((⟨#[]⟩:ByteArray),0,(⟨#[]⟩:ByteArray),(⟨#[]⟩:ByteArray),0,0,false,([]:List Int),0,0,0,([]:List aN),([]:List fo),v.2.2.2.2.2.2.2),?_,fun h=>absurd h h1⟩;obtain⟨N,hN⟩:=hv;exact⟨N,fun k hk=>by dsimp only at hN ⊢;unfold jh.f;rw[hN k hk,Option.bind_some,if_neg h1]⟩
 obtain⟨hF,hm,h6,h7⟩:=hv0 h1;obtain⟨r,hr,hr0⟩:=aau a3 l hm (by omega)
 by_cases h2:r.2=0
 case neg=>
  refine⟨((⟨#[]⟩:ByteArray),0,(⟨#[]⟩:ByteArray),(⟨#[]⟩:ByteArray),0,0,false,([]:List Int),0,0,0,([]:List aN),([]:List fo),r.2),?_,fun h=>absurd h h2⟩;obtain⟨N,hN⟩:=hv;obtain⟨M,hM⟩:=hr;exact⟨N+M,fun k hk=>by dsimp only at hN hM ⊢;unfold jh.f;rw[hN k (by omega),Option.bind_some,if_pos h1,hM k (by omega),Option.bind_some,if_neg h2]⟩
 obtain⟨hr1,hs⟩:=hr0 h2
 obtain⟨lv,hlv,hll,hls⟩:=ZQ r.1 (by rw[hr1,List.length_map];exact hl) (fun x hx=>by
  rw[hr1]at hx;obtain⟨y,hy,rfl⟩:=List.mem_map.1 hx;exact red_size a3 y (hm y hy))
 obtain⟨rt,hrt⟩:=root_tot lv.1 hll hls;obtain⟨K,hK,hKo⟩:=ZX (l:=l) (by omega) v.1 v.2.1 v.2.2.1 v.2.2.2.1 v.2.2.2.2.1 v.2.2.2.2.2.1 v.2.2.2.2.2.2.1 (by omega)
 have hKl:K.length≤1000000:=by
  rcases KN K 0 ((l.length:Int)-1) hKo.1 (fun x hx=>by have:=hKo.2 x hx;omega)with e|e
  ·omega
  ·rw[e];simp
 obtain⟨c,hc,hc0⟩:=make0 r.1 lv.1 hll hls K (fun i hi=>by have:=hKo.2 i hi;rw[hr1,List.length_map];exact this) hKl a0 a1 a2 rt.1 (l.length:Int) v.1 v.2.1 v.2.2.1 v.2.2.2.1 v.2.2.2.2.1 v.2.2.2.2.2.1 v.2.2.2.2.2.2.1 K.length 0 [] (by omega) rfl;refine⟨c,?_,fun h=>⟨hF,hm,hs,?_⟩⟩
 ·obtain⟨N1,hN1⟩:=hv;obtain⟨N2,hN2⟩:=hr;obtain⟨N3,hN3⟩:=hlv;obtain⟨N4,hN4⟩:=hc;refine⟨N1+N2+N3+N4,fun k hk=>?_⟩;dsimp only at hN1 hN2 hN3 hN4 ⊢;unfold jh.f;rw[hN1 k (by omega),Option.bind_some,if_pos h1,hN2 k (by omega),Option.bind_some,if_pos h2,hN3 k (by omega),Option.bind_some,hrt,Option.bind_some,hK,Option.bind_some];exact hN4 k (by omega)
 ·obtain⟨P,hP,e⟩:=hc0 h;exact⟨v,rt.1,K,P,hv,⟨h6,h7⟩,hK,hKo,by rw[hP,hr1],e⟩
end Go.Proofs.YtdcddenojjdmjaaGreatDoor.T
