import Derived.Test.YtdcddenojjdmjaaGreatDoorM46
import Derived.Test.YtdcddenojjdmjaaGreatDoorM50
set_option linter.all false
namespace Go.Proofs.YtdcddenojjdmjaaGreatDoor.T
open Go.RowKit Go.Proofs.YtdcddenojjdmjaaGreatDoorW.PrintWords Go.Proofs.YtdcddenojjdmjaaGreatDoorW.PrintLast Go.Proofs.YtdcddenojjdmjaaGreatDoorW.PrintMore
theorem Xm(a0:ByteArray)(a1:Int)(a2 a3:ByteArray)(a4 a5:Int)(a6:Bool)(l7:List Int)(a8 a9 dH:Int)(dF:List aN)(P:List fo)(hP:P.length≤1000000):Ev (fun k=>pV.f k a0 a1 a2 a3 a4 a5 a6 l7 a8 a9 dH dF P) (P.map fun p=>p.f1):=by
 have loop:∀(m i:Nat) (x:List aj),i+m=P.length→x=(P.take i).map (fun p=>p.f1)→Ev (fun k=>pV.l0 k x (i:Int) a0 a1 a2 a3 a4 a5 a6 l7 a8 a9 dH dF P) (P.map fun p=>p.f1):=by
  intro m
  induction m with
  |zero=>
   intro i x him hx;refine Ev.succ (h:=fun _=>some x) (fun k=>?_) ?_
   ·simp only[pV.l0];rw[if_neg (by omega)]
   ·rw[hx,List.take_of_length_le (by omega)];exact Ev.pure _
  |succ m ih=>
   intro i x him hx;have hi:i<P.length:=by omega
   have hrd:iO P (i:Int)=P[i]:=by unfold iO;rw[Int.toNat_natCast,List.getD_eq_getElem?_getD,List.getElem?_eq_getElem hi];rfl
   refine Ev.succ (fun k=>?_) (ih (i+1) (x++[(P[i]).f1]) (by omega) (by rw[hx,← List.take_append_getElem hi,List.map_append];rfl));simp only[pV.l0];rw[if_pos (by omega),if_pos (by omega),if_pos (by rw[hx,List.length_map,List.length_take];omega),hrd,mr (n:=P.length) (by omega) (by omega) (by omega)];rfl
 exact loop P.length 0 [] (by omega) rfl
theorem SX(a0:ByteArray)(a1:Int)(a2 a3:ByteArray)(a4 a5:Int)(a6:Bool)(l7:List Int)(a8 a9 dH:Int)(dF:List aN)(P:List fo)(hP:P.length≤1000000)(h7:l7.length≤1000000):Ev (fun k=>mK.f k a0 a1 a2 a3 a4 a5 a6 l7 a8 a9 dH dF P) (([]++l7)++[a8,a9,dH]++P.map fun p=>p.f0):=by
 have loop:∀(m i:Nat) (x:List Int),i+m=P.length→x=([]++l7)++[a8,a9,dH]++(P.take i).map (fun p=>p.f0)→Ev (fun k=>mK.l0 k x (i:Int) a0 a1 a2 a3 a4 a5 a6 l7 a8 a9 dH dF P) (([]++l7)++[a8,a9,dH]++P.map fun p=>p.f0):=by
  intro m
  induction m with
  |zero=>
   intro i x him hx;refine Ev.succ (h:=fun _=>some x) (fun k=>?_) ?_
   ·simp only[mK.l0];rw[if_neg (by omega)]
   ·rw[hx,List.take_of_length_le (by omega)];exact Ev.pure _
  |succ m ih=>
   intro i x him hx;have hi:i<P.length:=by omega
   have hrd:iO P (i:Int)=P[i]:=by unfold iO;rw[Int.toNat_natCast,List.getD_eq_getElem?_getD,List.getElem?_eq_getElem hi];rfl
   refine Ev.succ (fun k=>?_) (ih (i+1) (x++[(P[i]).f0]) (by omega) (by rw[hx,← List.take_append_getElem hi,List.map_append,List.append_assoc];rfl));simp only[mK.l0];rw[if_pos (by omega),if_pos (by omega),if_pos (by rw[hx];simp only[List.length_append,List.length_map,List.length_take,List.length_cons,List.length_nil];omega),hrd,mr (n:=P.length) (by omega) (by omega) (by omega)];rfl
 refine Ev.congr (fun k=>?_) (loop P.length 0 (([]++l7)++[a8,a9,dH]) (by omega) (by simp));unfold mK.f;simp only[Option.bind_some];rw[if_pos (by simp only[List.length_nil];omega),if_pos (by simp only[List.length_append,List.length_cons,List.length_nil];omega)];rfl
theorem Vy(l:List Int)(hl:l.length≤1000000000):Ev (fun k=>mJ.f k l l) true:=by
 have loop:∀(m i:Nat),i+m=l.length→Ev (fun k=>mJ.l0 k l l (i:Int)) true:=by
  intro m
  induction m with
  |zero=>
   intro i him;refine Ev.succ (h:=fun _=>some true) (fun k=>?_) (Ev.pure _);simp only[mJ.l0];rw[if_neg (by omega)]
  |succ m ih=>
   intro i him;refine Ev.succ (fun k=>?_) (ih (i+1) (by omega));simp only[mJ.l0];rw[if_pos (by omega),if_pos (by omega),if_pos (by omega),if_pos trivial,mr (n:=l.length) (by omega) (by omega) (by omega)];rfl
 exact Ev.congr (fun k=>by unfold mJ.f;rw[if_pos rfl];rfl) (loop l.length 0 (by omega))
theorem aaJ(l:List aN)(hl:l.length≤1000000000):Ev (fun k=>og.f k l l) true:=by
 have loop:∀(m i:Nat),i+m=l.length→Ev (fun k=>og.l0 k l l (i:Int)) true:=by
  intro m
  induction m with
  |zero=>
   intro i him;refine Ev.succ (h:=fun _=>some true) (fun k=>?_) (Ev.pure _);simp only[og.l0];rw[if_neg (by omega)]
  |succ m ih=>
   intro i him;refine Ev.succ (fun k=>?_) (ih (i+1) (by omega));simp only[og.l0];rw[if_pos (by omega),if_pos (by omega),if_pos (by omega),if_neg (by simp),mr (n:=l.length) (by omega) (by omega) (by omega)];rfl
 exact Ev.congr (fun k=>by unfold og.f;rw[if_pos rfl];rfl) (loop l.length 0 (by omega))
theorem abf(a0:Int)(a1:Bool)(l2:List Int)(a3 a4 a5:Int)(l6:List aN)(h2:l2.length≤1000000000)(h6:l6.length≤1000000000):Ev (fun k=>Dm.f k a0 a1 l2 a3 a4 a5 l6 a0 a1 l2 a3 a4 a5 l6) true:=by
 obtain⟨N,hN⟩:=Vy l2 h2;obtain⟨M,hM⟩:=aaJ l6 h6;refine⟨N+M,fun k hk=>?_⟩;dsimp only at hN hM ⊢;unfold Dm.f;rw[hN k (by omega),Option.bind_some,hM k (by omega),Option.bind_some,if_pos rfl,if_pos rfl,if_pos rfl,if_pos (by simp)];simp
theorem same_tot(a b:List aj)(hl:a.length=b.length)(ha:a.length≤1000000000):∃r,Ev (fun k=>qJ.f k a b) r∧(a=b→r=true):=by
 have loop:∀(m i:Nat),i+m=a.length→∃r,Ev (fun k=>qJ.l0 k a b (i:Int)) r∧(a=b→r=true):=by
  intro m
  induction m with
  |zero=>
   intro i him;refine⟨true,Ev.succ (h:=fun _=>some true) (fun k=>?_) (Ev.pure _),fun _=>rfl⟩;simp only[qJ.l0];rw[if_neg (by omega)]
  |succ m ih=>
   intro i him;obtain⟨r,hr,e⟩:=ih (i+1) (by omega)
   by_cases hc:(!(((ak a i).f0)==((ak b i).f0))||(!(((ak a i).f1)==((ak b i).f1))||(!((((ak a i).f2).toList)==(((ak b i).f2).toList))||(!((((ak a i).f3).toList)==(((ak b i).f3).toList))))))=true
   ·refine⟨false,Ev.succ (h:=fun _=>some false) (fun k=>?_) (Ev.pure _),fun h=>?_⟩
    ·simp only[qJ.l0];rw[if_pos (by omega),if_pos (by omega),if_pos (by omega),if_pos hc]
    ·rw[h]at hc;simp at hc
   ·refine⟨r,Ev.succ (fun k=>?_) hr,e⟩;simp only[qJ.l0];rw[if_pos (by omega),if_pos (by omega),if_pos (by omega),if_neg hc,mr (n:=a.length) (by omega) (by omega) (by omega)];rfl
 obtain⟨r,hr,e⟩:=loop a.length 0 (by omega);exact⟨r,Ev.congr (fun k=>by unfold qJ.f;rw[if_pos (by omega)];rfl) hr,e⟩
theorem aa9(a0 a1 a2:ByteArray)(a3 a4:Int)(l:List aj)(s:ByteArray)(hlen:l.length<2932031007402)(hsz:∀x ∈ l,s.size+x.f2.size≤9223372036854775807∧s.size+x.f3.size≤9223372036854775807):
  ∃k',Dn.f l s=some k'∧(l.length≤60→∃(k:Nat) (x y:Cf) (e1 e2:Int),jh.f k a0 a3 a1 a2 l a4=some (x.t,x.q,x.p,x.r,x.n,x.v0,x.v1,x.l7,x.v3,x.v4,x.v5,x.dF,x.eG,e1)∧jh.f k a0 a3 a1 a2 k' a4=some (y.t,y.q,y.p,y.r,y.n,y.v0,y.v1,y.l7,y.v3,y.v4,y.v5,y.dF,y.eG,e2)∧(e1=0→e2=0→Rest k x y l k' a2)):=by
 have hR:Dn.f l s=some (l.map (aZ (gX s))):=if_pos ⟨hlen,hsz⟩;refine⟨_,hR,fun h60=>?_⟩;have hφ:=I4 s;obtain⟨A,hA,hA0⟩:=VY a0 a3 a1 a2 l a4 (by omega);obtain⟨B,hB,hB0⟩:=VY a0 a3 a1 a2 (l.map (aZ (gX s))) a4 (by rw[List.length_map];omega);obtain⟨NA,hA⟩:=hA;obtain⟨NB,hB⟩:=hB;dsimp only at hA hB
 by_cases hok:A.2.2.2.2.2.2.2.2.2.2.2.2.2=0∧B.2.2.2.2.2.2.2.2.2.2.2.2.2=0
 case neg=>exact⟨NA+NB,⟨A.1,A.2.1,A.2.2.1,A.2.2.2.1,A.2.2.2.2.1,A.2.2.2.2.2.1,A.2.2.2.2.2.2.1,A.2.2.2.2.2.2.2.1,A.2.2.2.2.2.2.2.2.1,A.2.2.2.2.2.2.2.2.2.1,A.2.2.2.2.2.2.2.2.2.2.1,A.2.2.2.2.2.2.2.2.2.2.2.1,A.2.2.2.2.2.2.2.2.2.2.2.2.1⟩,⟨B.1,B.2.1,B.2.2.1,B.2.2.2.1,B.2.2.2.2.1,B.2.2.2.2.2.1,B.2.2.2.2.2.2.1,B.2.2.2.2.2.2.2.1,B.2.2.2.2.2.2.2.2.1,B.2.2.2.2.2.2.2.2.2.1,B.2.2.2.2.2.2.2.2.2.2.1,B.2.2.2.2.2.2.2.2.2.2.2.1,B.2.2.2.2.2.2.2.2.2.2.2.2.1⟩,A.2.2.2.2.2.2.2.2.2.2.2.2.2,B.2.2.2.2.2.2.2.2.2.2.2.2.2,hA _ (by omega),hB _ (by omega),fun h1 h2=>absurd ⟨h1,h2⟩ hok⟩
 obtain⟨⟨f,⟨NF,hF⟩,hF0⟩,hm,hs,v,rt,K,P,⟨NV,hV⟩,⟨hv6,hv7⟩,hKn,hKo,hP,rfl⟩:=hA0 hok.1;obtain⟨⟨f',⟨NF',hF'⟩,hF0'⟩,hm',hs',v',rt',K',P',⟨NV',hV'⟩,_,hKn',hKo',hP',rfl⟩:=hB0 hok.2;dsimp only at hF hF' hV hV'
 have hvv:v'=v:=by
  have h1:=hV (NV+NV'+NF+NF') (by omega);have h2:=hV' (NV+NV'+NF+NF') (by omega);rw[rn_judge s l hm hm' (NV+NV'+NF+NF') a4 f f' (hF _ (by omega)) (hF' _ (by omega)) hF0 hF0',h1]at h2;exact(Option.some.inj h2).symm
 subst hvv;rw[rn_Needs hφ,hKn]at hKn';obtain rfl:=Option.some.inj hKn'
 have hKl:K.length≤60:=by
  rcases KN K 0 ((l.length:Int)-1) hKo.1 (fun x hx=>by have:=hKo.2 x hx;omega)with e|e
  ·omega
  ·rw[e];simp
 have hPl:P.length=K.length:=by have:=congrArg List.length hP;rw[List.length_map,List.length_map]at this;exact this
 have hPl':P'.length=K.length:=by have:=congrArg List.length hP';rw[List.length_map,List.length_map]at this;exact this
 have s1:P.map (fun p=>p.f1)=K.map fun i=>ak (l.map (iK a2)) i:=by
  have:=congrArg (List.map Prod.snd) hP;rw[List.map_map,List.map_map]at this;exact this
 have s2:P'.map (fun p=>p.f1)=K.map fun i=>ak ((l.map (aZ (gX s))).map (iK a2)) i:=by
  have:=congrArg (List.map Prod.snd) hP';rw[List.map_map,List.map_map]at this;exact this
 have i1:P.map (fun p=>p.f0)=K:=by
  have:=congrArg (List.map Prod.fst) hP;rw[List.map_map,List.map_map]at this;exact this.trans (List.map_id' K)
 have i2:P'.map (fun p=>p.f0)=K:=by
  have:=congrArg (List.map Prod.fst) hP';rw[List.map_map,List.map_map]at this;exact this.trans (List.map_id' K)
 obtain⟨b,⟨NS,hS⟩,hbs⟩:=same_tot (((K.map fun i=>ak (l.map (iK a2)) i)).map (oK (K.map fun i=>ak (l.map (iK a2)) i))) (((K.map fun i=>ak ((l.map (aZ (gX s))).map (iK a2)) i)).map (oK (K.map fun i=>ak ((l.map (aZ (gX s))).map (iK a2)) i))) (by simp) (by rw[List.length_map,List.length_map];omega);obtain⟨N1,h1⟩:=Xm a0 a3 a1 rt (l.length:Int) v'.1 v'.2.1 v'.2.2.1 v'.2.2.2.1 v'.2.2.2.2.1 v'.2.2.2.2.2.1 v'.2.2.2.2.2.2.1 P (by omega);obtain⟨N2,h2⟩:=Xm a0 a3 a1 rt' ((l.map (aZ (gX s))).length:Int) v'.1 v'.2.1 v'.2.2.1 v'.2.2.2.1 v'.2.2.2.2.1 v'.2.2.2.2.2.1 v'.2.2.2.2.2.2.1 P' (by omega);obtain⟨N3,h3⟩:=SX a0 a3 a1 rt (l.length:Int) v'.1 v'.2.1 v'.2.2.1 v'.2.2.2.1 v'.2.2.2.2.1 v'.2.2.2.2.2.1 v'.2.2.2.2.2.2.1 P (by omega) (by omega);obtain⟨N4,h4⟩:=SX a0 a3 a1 rt' ((l.map (aZ (gX s))).length:Int) v'.1 v'.2.1 v'.2.2.1 v'.2.2.2.1 v'.2.2.2.2.1 v'.2.2.2.2.2.1 v'.2.2.2.2.2.2.1 P' (by omega) (by omega);obtain⟨N5,h5⟩:=abf v'.1 v'.2.1 v'.2.2.1 v'.2.2.2.1 v'.2.2.2.2.1 v'.2.2.2.2.2.1 v'.2.2.2.2.2.2.1 (by omega) (by omega);obtain⟨N6,h6⟩:=Vy (([]++v'.2.2.1)++[v'.2.2.2.1,v'.2.2.2.2.1,v'.2.2.2.2.2.1]++K) (by simp only[List.length_append,List.length_cons,List.length_nil];omega);dsimp only at hS h1 h2 h3 h4 h5 h6;rw[s1]at h1;rw[s2]at h2;rw[i1]at h3;rw[i2]at h4;have hsh:∀m:List aj,m.length≤1000000→BJ.f m=some (m.map (oK m)):=fun m h=>if_pos h
 have hsA:=hsh (K.map fun i=>ak (l.map (iK a2)) i) (by rw[List.length_map];omega);have hsB:=hsh (K.map fun i=>ak ((l.map (aZ (gX s))).map (iK a2)) i) (by rw[List.length_map];omega)
 have fin:∀N,NA+NB+NS+N1+N2+N3+N4+N5+N6≤N→(b=false→∃t,vC.f N a2 l=some t∧(t=false→vC.f N a2 (l.map (aZ (gX s)))=some true))→∃(k:Nat) (x y:Cf) (e1 e2:Int),jh.f k a0 a3 a1 a2 l a4=some (x.t,x.q,x.p,x.r,x.n,x.v0,x.v1,x.l7,x.v3,x.v4,x.v5,x.dF,x.eG,e1)∧jh.f k a0 a3 a1 a2 (l.map (aZ (gX s))) a4=some (y.t,y.q,y.p,y.r,y.n,y.v0,y.v1,y.l7,y.v3,y.v4,y.v5,y.dF,y.eG,e2)∧(e1=0→e2=0→Rest k x y l (l.map (aZ (gX s))) a2):=fun N hN ht=>
  ⟨N,⟨a0,a3,a1,rt,(l.length:Int),v'.1,v'.2.1,v'.2.2.1,v'.2.2.2.1,v'.2.2.2.2.1,v'.2.2.2.2.2.1,v'.2.2.2.2.2.2.1,P⟩,⟨a0,a3,a1,rt',((l.map (aZ (gX s))).length:Int),v'.1,v'.2.1,v'.2.2.1,v'.2.2.2.1,v'.2.2.2.2.1,v'.2.2.2.2.2.1,v'.2.2.2.2.2.2.1,P'⟩,0,0,hA N (by omega),hB N (by omega),fun _ _=>⟨_,_,_,_,b,_,_,h1 N (by omega),h2 N (by omega),hsA,hsB,hS N (by omega),h5 N (by omega),h3 N (by omega),h4 N (by omega),h6 N (by omega),by simp only[List.length_map],ht⟩⟩
 cases b with
 |true=>exact fin _ (Nat.le_refl _) (fun h=>by cases h)
 |false=>
  have hne:¬(¬EI a2 l∧¬EI a2 (l.map (aZ (gX s)))):=fun⟨c,c'⟩=>absurd (hbs (aaU hφ hm hm' hs hKo c c')) (by decide)
  have hl0:l≠ []:=fun e=>by
   subst e;have hc:∀L:List ByteArray,L=[]→∀i k,¬Bd a2 L i k:=fun L e i k ⟨a,_,h,_⟩=>by rw[e]at h;cases h
   exact hne ⟨fun⟨i,k,_,h⟩=>h.elim (hc _ rfl i k) (hc _ rfl i k),fun⟨i,k,_,h⟩=>h.elim (hc _ rfl i k) (hc _ rfl i k)⟩
  obtain⟨t,⟨N7,h7⟩,ht⟩:=XI a2 (hs hl0) l hm (by omega);obtain⟨t',⟨N8,h8⟩,ht'⟩:=XI a2 (hs hl0) (l.map (aZ (gX s))) hm' (by rw[List.length_map];omega);dsimp only at h7 h8;refine fin (NA+NB+NS+N1+N2+N3+N4+N5+N6+N7+N8) (by omega) (fun _=>⟨t,h7 _ (by omega),fun ht1=>?_⟩);rw[h8 _ (by omega)];have:t'=true:=ht' (Classical.byContradiction fun c'=>hne ⟨(fun c=>by rw[ht c]at ht1;cases ht1),c'⟩);rw[this]
end Go.Proofs.YtdcddenojjdmjaaGreatDoor.T
