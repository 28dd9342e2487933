import Derived.Test.YtdcddenojjdmjaaGreatDoorM27
set_option linter.all false
set_option maxHeartbeats 8000000
set_option maxRecDepth 100000
namespace Go.Proofs.YtdcddenojjdmjaaGreatDoor.T
open Go.RowKit Go.Proofs.YtdcddenojjdmjaaGreatDoorW.PrintWords Go.Proofs.YtdcddenojjdmjaaGreatDoorW.PrintLast Go.Proofs.YtdcddenojjdmjaaGreatDoorW.PrintMore
def F7(l0:List aj)(K:List Int)(e:aN):Option (List Int):=
 (zn l0 (lJ l0.length K [e.f3,e.f4]) e.f1).bind fun K1=>(zn l0 K1 e.f2).bind fun K2=>if e.f0=3 then za l0 K2 e.f3 else some K2
def Bc(l0:List aj):List aN→List Int→Option (List Int)
 | [],K=>some K
 |e::l,K=>(F7 l0 K e).bind (Bc l0 l)
def wC.f(l0:List aj)(dI:Int)(eT:Bool)(gP:List Int)(dR jf jE:Int)(fK:List aN):Option (List Int):=
 if l0.length≤1000000∧fK.length≤100000 then
  if eT=true then some []else if dR=0 then Bc l0 fK []else(wF l0 [] jf).bind fun K=>(wF l0 K jE).bind fun K=>za l0 K jf
 else none
theorem WI(N:Nat)(K:List Int)(x:Int):(lJ N K [x]).length≤K.length+1:=Gd N [x] K
theorem IQ{l0:List aj}{K r:List Int}{t:Int}(h:zn l0 K t=some r):r.length≤K.length+1:=by
 obtain⟨x,_,rfl⟩:=Option.map_eq_some_iff.1 h
 split
 ·exact WI _ _ _
 ·omega
theorem O9{l0:List aj}{K r:List Int}{i:Int}(h:wF l0 K i=some r):r.length≤K.length+2:=by
 unfold wF at h
 split at h
 ·have:=IQ h;have:=WI l0.length K i;omega
 ·cases h;omega
theorem X9{l0:List aj}{K r:List Int}{i:Int}(h:za l0 K i=some r):r.length≤K.length+2:=by
 unfold za at h
 split at h
 ·obtain⟨m,_,h⟩:=Option.bind_eq_some_iff.1 h;exact O9 h
 ·cases h;omega
theorem ZV{l0:List aj}{K r:List Int}{e:aN}(h:F7 l0 K e=some r):r.length≤K.length+6:=by
 obtain⟨K1,h1,h⟩:=Option.bind_eq_some_iff.1 h;obtain⟨K2,h2,h⟩:=Option.bind_eq_some_iff.1 h;have:=IQ h1;have:=IQ h2;have h3:(lJ l0.length K [e.f3,e.f4]).length≤K.length+2:=Gd _ [e.f3,e.f4] K
 split at h
 ·have:=X9 h;omega
 ·cases h;omega
def Nd.S(w:World)(A0:Option Addr)(n c0:Nat)(vc:Array Value)(K:List Int)(W:World):Prop:=
 iW (w.heap.size+1) K W∧W.heap[w.heap.size+1+1]? =some (.cells #[.slice A0 n c0,.map (some (w.heap.size+1))] 133 (0,0))∧W.heap[w.heap.size]? =some (.cells vc 32 (0,0))∧Below w.heap.size w W
theorem Nd.S.alloc{w:World}{A0:Option Addr}{n c0:Nat}{vc:Array Value}{K:List Int}{W:World}(h:Nd.S w A0 n c0 vc K W)(o:Obj):Nd.S w A0 n c0 vc K (W.alloc o):=⟨h.1.alloc o,ay h.2.1 o,ay h.2.2.1 o,ax h.2.2.2 o⟩
theorem Nd.S.step{w:World}{A0:Option Addr}{n c0:Nat}{vc:Array Value}{K K':List Int}{W W':World}(h:Nd.S w A0 n c0 vc K W)(hS:iW (w.heap.size+1) K' W')(hg:W.grownBy W' (some (w.heap.size+1))):Nd.S w A0 n c0 vc K' W':=
 ⟨hS,fP h.2.1 hg (by simp),fP h.2.2.1 hg (by simp),h.2.2.2.grown hg h.2.2.2.size (fun k e=>by cases e;exact Nat.le_succ _)⟩
theorem Nd.S.cells{w:World}{A0:Option Addr}{n c0:Nat}{vc:Array Value}{K:List Int}{W:World}(h:Nd.S w A0 n c0 vc K W):W.cell? ⟨w.heap.size+1+1,0,none⟩=some (.slice A0 n c0)∧W.cell? ⟨w.heap.size+1+1,1,none⟩=some (.map (some (w.heap.size+1))):=⟨(ah h.2.1 0).trans rfl,(ah h.2.1 1).trans rfl⟩
theorem twoInt{W:World}{g:Nat}{x y:Int}(h:W.heap[g]? =some (.cells #[.int .i64 x,.int .i64 y] 3 (0,0))):Kd.C (Kd.int .i64) W (some ⟨g,0,none⟩) [x,y].length [x,y]:=
 ⟨rfl,(show 2≤9223372036854775807 by decide),fun _=>⟨⟨g,0,none⟩,rfl,fun i z hz=>by
  match i,hz with
  |0,hz=>
   obtain rfl:x=z:=by simpa using hz
   refine⟨[.int .i64 x],rfl,rfl,fun j u hj=>?_⟩
   cases j with
   |zero=>cases hj;exact(ah h 0).trans rfl
   |succ j=>simp at hj
  |1,hz=>
   obtain rfl:y=z:=by simpa using hz
   refine⟨[.int .i64 y],rfl,rfl,fun j u hj=>?_⟩
   cases j with
   |zero=>cases hj;exact(ah h 1).trans rfl
   |succ j=>simp at hj
  |i+2,hz=>simp at hz⟩⟩
def Nd.At(w:World)(A0:Option Addr)(c0:Nat)(l0:List aj)(vc:Array Value)(l:List aN)(r:List Int)(v14:Value)(wr:World):Prop:=
 ∃(j:Nat) (K:List Int),j≤l.length∧v14=.int .i64 j∧Bc l0 (l.drop j) K=some r∧K.length≤6*j∧Nd.S w A0 l0.length c0 vc K wr
theorem wC.calls(A0:Option Addr)(c0:Nat)(l0:List aj)(dI:Int)(eT:Bool)(jZ:Option Addr)(kr:Nat)(gP:List Int)(dR:Int)(jf:Int)(jE:Int)(kU:Option Addr)(jU:Nat)(fK:List aN)(r:List Int)(w:World)(hr0:Kd.C dw w A0 l0.length l0)(hc0:l0.length≤c0)(MR:Kd.C (Kd.int .i64) w jZ gP.length gP)(Pv:gP.length≤kr)(FL:Kd.C fZ w kU fK.length fK)(Pw:fK.length≤jU)(h:wC.f l0 dI eT gP dR jf jE fK=some r):
  Calls Tryz.prog 21 #[.slice A0 l0.length c0,.agg #[.int .i64 dI,.bool eT,.slice jZ gP.length kr,.int .i64 dR,.int .i64 jf,.int .i64 jE,.slice kU fK.length jU]] w fun e w'=>∃fE:Value,e=.returned (fE)∧Kd.R (Kd.int .i64) 3 w' w.heap.size (fun _=>True) fE r∧Below w.heap.size w w':=by
 unfold wC.f at h
 split at h
 case isFalse=>cases h
 rename_i hlen
 have hll:fK.length≤9223372036854775807:=FL.2.1;have HR:=af.mk hr0;have HV:=af.mk FL;have hmm:=@run_makeMap Tryz.prog;clear hr0 MR FL;obtain⟨vc,hvc⟩:∃vc:Array Value,vc= #[.int .i64 dI,.bool eT,.slice jZ gP.length kr,.int .i64 dR,.int .i64 jf,.int .i64 jE,.slice kU fK.length jU]:=⟨_,rfl⟩;have HVC:=af.mk hvc
 have hS0:Nd.S w A0 l0.length c0 vc [] (((w.alloc (.cells vc 32)).alloc (.map #[] 0)).alloc (.cells #[.slice A0 l0.length c0,.map (some (w.heap.size+1))] 133)):=by
  have k0:=bI w (.cells vc 32);have k2:=bI ((w.alloc (.cells vc 32)).alloc (.map #[] 0)) (.cells #[.slice A0 l0.length c0,.map (some (w.heap.size+1))] 133);have km:=eu.made (w.alloc (.cells vc 32)) (fun _=>.bool true);simp only[World.size_alloc]at k2 km;exact⟨km.alloc _,k2,ay (ay k0 _) _,ax (ax (ax (Below.refl _ _) _) _) _⟩
 subst hvc;have qB:=af.mk hS0;have v1:(((w.alloc (.cells #[.int .i64 dI,.bool eT,.slice jZ gP.length kr,.int .i64 dR,.int .i64 jf,.int .i64 jE,.slice kU fK.length jU] 32)).alloc (.map #[] 0)).alloc (.cells #[.slice A0 l0.length c0,.map (some (w.heap.size+1))] 133)).cell? ⟨w.heap.size,1,none⟩=some (.bool eT):=(ah hS0.2.2.1 1).trans rfl;have v3:(((w.alloc (.cells #[.int .i64 dI,.bool eT,.slice jZ gP.length kr,.int .i64 dR,.int .i64 jf,.int .i64 jE,.slice kU fK.length jU] 32)).alloc (.map #[] 0)).alloc (.cells #[.slice A0 l0.length c0,.map (some (w.heap.size+1))] 133)).cell? ⟨w.heap.size,3,none⟩=some (.int .i64 dR):=(ah hS0.2.2.1 3).trans rfl;obtain⟨q0,q1⟩:=hS0.cells;clear hS0
 cases eT with
 |true=>
  rw[if_pos rfl]at h
  cases h
  go_enter Tryz.func21,Tryz.ntmps21
  have kn:=bI (((w.alloc (.cells #[.int .i64 dI,.bool true,.slice jZ gP.length kr,.int .i64 dR,.int .i64 jf,.int .i64 jE,.slice kU fK.length jU] 32)).alloc (.map #[] 0)).alloc (.cells #[.slice A0 l0.length c0,.map (some (w.heap.size+1))] 133)) (.cells #[.map (some (w.heap.size+1))] 131);simp only[World.size_alloc]at kn;have HKN:=af.mk kn;clear kn
  go_wp2_with (first
   |(go_at_call 61;refine(Kv _ _).mono ?_;rintro e w' ⟨rfl,rfl⟩)
   |(go_at_call 60;refine(KM (w.heap.size+1+1+1) (w.heap.size+1) [] _ _ HKN.out (qB.out.1.alloc _) (Nat.zero_le _)).mono ?_;rintro e w9 ⟨v9,rfl,hv9,oI⟩;have H9:=af.mk (And.intro (Kd.gU hv9 (ax qB.out.2.2.2 (.cells #[.map (some (w.heap.size+1))] 131)).size) (av (ax qB.out.2.2.2 (.cells #[.map (some (w.heap.size+1))] 131)) oI));clear hv9 oI))
  go_ret
  exact⟨_,rfl,H9.out.1,H9.out.2⟩
 |false=>
  rw[if_neg (by decide)]at h
  by_cases h3:dR=0
  ·rw[if_pos h3]at h;have HN:=af.mk (show l0.length≤1000000000 by omega);have hne:(dR==0)=true:=by simpa using h3
   have HL6:=af.mk hlen.2;have v6:(((w.alloc (.cells #[.int .i64 dI,.bool false,.slice jZ gP.length kr,.int .i64 dR,.int .i64 jf,.int .i64 jE,.slice kU fK.length jU] 32)).alloc (.map #[] 0)).alloc (.cells #[.slice A0 l0.length c0,.map (some (w.heap.size+1))] 133)).cell? ⟨w.heap.size,6,none⟩=some (.slice kU fK.length jU):=(ah qB.out.2.2.1 6).trans rfl;have H0:=af.mk (show Nd.At w A0 c0 l0 #[.int .i64 dI,.bool false,.slice jZ gP.length kr,.int .i64 dR,.int .i64 jf,.int .i64 jE,.slice kU fK.length jU] fK r (.int .i64 0) (((w.alloc (.cells #[.int .i64 dI,.bool false,.slice jZ gP.length kr,.int .i64 dR,.int .i64 jf,.int .i64 jE,.slice kU fK.length jU] 32)).alloc (.map #[] 0)).alloc (.cells #[.slice A0 l0.length c0,.map (some (w.heap.size+1))] 133))from⟨0,[],Nat.zero_le _,rfl,by simpa using h,Nat.zero_le _,qB.out⟩);clear h h3
   go_enter Tryz.func21,Tryz.ntmps21
   go_wp2_with fail
   go_loopw [14] (fun v14 wr=>Nd.At w A0 c0 l0 #[.int .i64 dI,.bool false,.slice jZ gP.length kr,.int .i64 dR,.int .i64 jf,.int .i64 jE,.slice kU fK.length jU] fK r v14 wr) (fun v14 _=>fK.length-(intOf v14).toNat)
   case atStart=>exact H0.out
   case round=>
    obtain⟨j,K,hj,rfl,hL,hK,hS⟩:=hrel;clear H0 qB v1 v3 v6 q0 q1;have HS:=af.mk hS;have HKL:=af.mk (show K.length≤600000 by have:=HL6.out;omega)
    by_cases hlt:j<fK.length
    ·obtain⟨ad,hA,z0,z1,z2,z3,z4⟩:=LF HV.out hlt hS.2.2.2
     cases hA
     rw[List.drop_eq_getElem_cons hlt]at hL;obtain⟨K',hE,hL⟩:=Option.bind_eq_some_iff.1 hL;have HLE:=af.mk (ZV hE);have HLL:=af.mk hL;have lU:=af.mk hK;obtain⟨⟨e0,e1,e2,e3,e4⟩,he⟩:∃e,e=fK[j]'hlt:=⟨_,rfl⟩;rw[← he]at z0 z1 z2 z3 z4 hE;clear he hL hK hS;obtain⟨K1,h1,hE⟩:=Option.bind_eq_some_iff.1 hE;obtain⟨K2,h2,hE⟩:=Option.bind_eq_some_iff.1 hE;simp only at z0 z1 z2 z3 z4 h1 h2 hE;have HP2:=af.mk (show(lJ l0.length K [e3,e4]).length≤K.length+2 from Gd _ [e3,e4] K);have qo:=af.mk (IQ h1);have HL2:=af.mk (IQ h2);have hn1:=bI wr (.cells #[.int .i64 e0,.int .i64 e1,.int .i64 e2,.int .i64 e3,.int .i64 e4] 136);have HED:=af.mk hn1;have hn2:=bI (wr.alloc (.cells #[.int .i64 e0,.int .i64 e1,.int .i64 e2,.int .i64 e3,.int .i64 e4] 136)) (.cells #[.int .i64 e3,.int .i64 e4] 3);rw[World.size_alloc]at hn2;have HRW:=af.mk hn2;have HSa:=af.mk (HS.out.alloc (.cells #[.int .i64 e0,.int .i64 e1,.int .i64 e2,.int .i64 e3,.int .i64 e4] 136));have HSb:=af.mk (HSa.out.alloc (.cells #[.int .i64 e3,.int .i64 e4] 3));obtain⟨qa0,qa1⟩:=HSa.out.cells;have hgw:=HS.out.1.lt;have hgs:=iB HS.out.2.1;have tO:=af.mk (show wr.heap.size≠w.heap.size+1 by omega);have xE:=af.mk (Ra A0 c0 l0.length (w.heap.size+1) K (some ⟨wr.heap.size+1,0,none⟩) 2 [e3,e4] _ HN.out (twoInt HRW.out) HSb.out.1 (by have:=HKL.out;simp;omega));have HE2:=af.mk (show ∀W,Nd.S w A0 l0.length c0 #[.int .i64 dI,.bool false,.slice jZ gP.length kr,.int .i64 dR,.int .i64 jf,.int .i64 jE,.slice (some ad) fK.length jU] (lJ l0.length K [e3,e4]) W→Calls Tryz.prog 59 #[oq A0 l0.length c0 (w.heap.size+1),.int .i64 e1] W fun e w'=>e=.returned (.tuple #[])∧iW (w.heap.size+1) K1 w'∧W.grownBy w' (some (w.heap.size+1))from fun W hW=>Q8 w A0 c0 (w.heap.size+1) l0 _ K1 e1 W HR.out hc0 HN.out hW.2.2.2 hW.1 (by have:=HKL.out;have:=HP2.out;omega) h1);have xG:=af.mk (show ∀W,Nd.S w A0 l0.length c0 #[.int .i64 dI,.bool false,.slice jZ gP.length kr,.int .i64 dR,.int .i64 jf,.int .i64 jE,.slice (some ad) fK.length jU] K1 W→Calls Tryz.prog 59 #[oq A0 l0.length c0 (w.heap.size+1),.int .i64 e2] W fun e w'=>e=.returned (.tuple #[])∧iW (w.heap.size+1) K2 w'∧W.grownBy w' (some (w.heap.size+1))from fun W hW=>Q8 w A0 c0 (w.heap.size+1) l0 K1 K2 e2 W HR.out hc0 HN.out hW.2.2.2 hW.1 (by have:=HKL.out;have:=HP2.out;have:=qo.out;omega) h2);unfold oq at xE HE2 xG;clear hn1 hn2 h1 h2 hgw hgs
     by_cases h3:e0=3
     ·rw[if_pos h3]at hE;have h3b:(e0==3)=true:=by simpa using h3
      have HE4:=af.mk (show ∀W,Nd.S w A0 l0.length c0 #[.int .i64 dI,.bool false,.slice jZ gP.length kr,.int .i64 dR,.int .i64 jf,.int .i64 jE,.slice (some ad) fK.length jU] K2 W→Calls Tryz.prog 57 #[oq A0 l0.length c0 (w.heap.size+1),.int .i64 e3] W fun e w'=>e=.returned (.tuple #[])∧iW (w.heap.size+1) K' w'∧W.grownBy w' (some (w.heap.size+1))from fun W hW=>WE w A0 c0 (w.heap.size+1) l0 K2 K' e3 W HR.out hc0 HN.out hW.2.2.2 (Nat.le_succ _) hW.1 (by have:=HKL.out;have:=HP2.out;have:=qo.out;have:=HL2.out;omega) hE);unfold oq at HE4;clear hE h3
      go_wp2_with (first
       |(go_at_call 58;refine xE.out.mono ?_;clear xE;rintro e w3 ⟨rfl,hs,hg⟩;have lQ:=af.mk (HSb.out.step hs hg);have uR:=af.mk (fP (ay HED.out (.cells #[.int .i64 e3,.int .i64 e4] 3)) hg (by have:=tO.out;simp;omega));clear hs hg;have d03:w3.cell? ⟨wr.heap.size,0,none⟩=some (.int .i64 e0):=(ah uR.out 0).trans rfl;have d13:w3.cell? ⟨wr.heap.size,1,none⟩=some (.int .i64 e1):=(ah uR.out 1).trans rfl;have d23:w3.cell? ⟨wr.heap.size,2,none⟩=some (.int .i64 e2):=(ah uR.out 2).trans rfl;have d33:w3.cell? ⟨wr.heap.size,3,none⟩=some (.int .i64 e3):=(ah uR.out 3).trans rfl;have d43:w3.cell? ⟨wr.heap.size,4,none⟩=some (.int .i64 e4):=(ah uR.out 4).trans rfl;obtain⟨qb0,qb1⟩:=lQ.out.cells)
       |(go_at_call 59;refine(HE2.out _ lQ.out).mono ?_;clear HE2;rintro e w4 ⟨rfl,hs,hg⟩;have rZ:=af.mk (lQ.out.step hs hg);have uS:=af.mk (fP uR.out hg (by have:=tO.out;simp;omega));clear hs hg;have d04:w4.cell? ⟨wr.heap.size,0,none⟩=some (.int .i64 e0):=(ah uS.out 0).trans rfl;have d14:w4.cell? ⟨wr.heap.size,1,none⟩=some (.int .i64 e1):=(ah uS.out 1).trans rfl;have d24:w4.cell? ⟨wr.heap.size,2,none⟩=some (.int .i64 e2):=(ah uS.out 2).trans rfl;have d34:w4.cell? ⟨wr.heap.size,3,none⟩=some (.int .i64 e3):=(ah uS.out 3).trans rfl;have d44:w4.cell? ⟨wr.heap.size,4,none⟩=some (.int .i64 e4):=(ah uS.out 4).trans rfl;obtain⟨qc0,qc1⟩:=rZ.out.cells)
       |(go_at_call 59;refine(xG.out _ rZ.out).mono ?_;clear xG;rintro e w5 ⟨rfl,hs,hg⟩;have tV:=af.mk (rZ.out.step hs hg);have xH:=af.mk (fP uS.out hg (by have:=tO.out;simp;omega));clear hs hg;have d05:w5.cell? ⟨wr.heap.size,0,none⟩=some (.int .i64 e0):=(ah xH.out 0).trans rfl;have d15:w5.cell? ⟨wr.heap.size,1,none⟩=some (.int .i64 e1):=(ah xH.out 1).trans rfl;have d25:w5.cell? ⟨wr.heap.size,2,none⟩=some (.int .i64 e2):=(ah xH.out 2).trans rfl;have d35:w5.cell? ⟨wr.heap.size,3,none⟩=some (.int .i64 e3):=(ah xH.out 3).trans rfl;have d45:w5.cell? ⟨wr.heap.size,4,none⟩=some (.int .i64 e4):=(ah xH.out 4).trans rfl;obtain⟨qd0,qd1⟩:=tV.out.cells)
       |(go_at_call 57;refine(HE4.out _ tV.out).mono ?_;clear HE4;rintro e w6 ⟨rfl,hs,hg⟩;have HS6:=af.mk (tV.out.step hs hg);clear hs hg))
      go_roundw
      case rel=>exact⟨j+1,K',by omega,by go_num,HLL.out,by have:=HLE.out;have:=lU.out;omega,HS6.out⟩
      case measure=>simp[intOf];omega
     ·rw[if_neg h3]at hE;have h3b:(e0==3)=false:=by simpa using h3
      obtain rfl:K2=K':=by simpa using hE
      clear hE h3
      go_wp2_with (first
       |(go_at_call 58;refine xE.out.mono ?_;clear xE;rintro e w3 ⟨rfl,hs,hg⟩;have lQ:=af.mk (HSb.out.step hs hg);have uR:=af.mk (fP (ay HED.out (.cells #[.int .i64 e3,.int .i64 e4] 3)) hg (by have:=tO.out;simp;omega));clear hs hg;have d03:w3.cell? ⟨wr.heap.size,0,none⟩=some (.int .i64 e0):=(ah uR.out 0).trans rfl;have d13:w3.cell? ⟨wr.heap.size,1,none⟩=some (.int .i64 e1):=(ah uR.out 1).trans rfl;have d23:w3.cell? ⟨wr.heap.size,2,none⟩=some (.int .i64 e2):=(ah uR.out 2).trans rfl;have d33:w3.cell? ⟨wr.heap.size,3,none⟩=some (.int .i64 e3):=(ah uR.out 3).trans rfl;have d43:w3.cell? ⟨wr.heap.size,4,none⟩=some (.int .i64 e4):=(ah uR.out 4).trans rfl;obtain⟨qb0,qb1⟩:=lQ.out.cells)
       |(go_at_call 59;refine(HE2.out _ lQ.out).mono ?_;clear HE2;rintro e w4 ⟨rfl,hs,hg⟩;have rZ:=af.mk (lQ.out.step hs hg);have uS:=af.mk (fP uR.out hg (by have:=tO.out;simp;omega));clear hs hg;have d04:w4.cell? ⟨wr.heap.size,0,none⟩=some (.int .i64 e0):=(ah uS.out 0).trans rfl;have d14:w4.cell? ⟨wr.heap.size,1,none⟩=some (.int .i64 e1):=(ah uS.out 1).trans rfl;have d24:w4.cell? ⟨wr.heap.size,2,none⟩=some (.int .i64 e2):=(ah uS.out 2).trans rfl;have d34:w4.cell? ⟨wr.heap.size,3,none⟩=some (.int .i64 e3):=(ah uS.out 3).trans rfl;have d44:w4.cell? ⟨wr.heap.size,4,none⟩=some (.int .i64 e4):=(ah uS.out 4).trans rfl;obtain⟨qc0,qc1⟩:=rZ.out.cells)
       |(go_at_call 59;refine(xG.out _ rZ.out).mono ?_;clear xG;rintro e w5 ⟨rfl,hs,hg⟩;have tV:=af.mk (rZ.out.step hs hg);have xH:=af.mk (fP uS.out hg (by have:=tO.out;simp;omega));clear hs hg;have d05:w5.cell? ⟨wr.heap.size,0,none⟩=some (.int .i64 e0):=(ah xH.out 0).trans rfl;have d15:w5.cell? ⟨wr.heap.size,1,none⟩=some (.int .i64 e1):=(ah xH.out 1).trans rfl;have d25:w5.cell? ⟨wr.heap.size,2,none⟩=some (.int .i64 e2):=(ah xH.out 2).trans rfl;have d35:w5.cell? ⟨wr.heap.size,3,none⟩=some (.int .i64 e3):=(ah xH.out 3).trans rfl;have d45:w5.cell? ⟨wr.heap.size,4,none⟩=some (.int .i64 e4):=(ah xH.out 4).trans rfl;obtain⟨qd0,qd1⟩:=tV.out.cells))
      go_roundw
      case rel=>exact⟨j+1,K2,by omega,by go_num,HLL.out,by have:=HLE.out;have:=lU.out;omega,tV.out⟩
      case measure=>simp[intOf];omega
    ·obtain rfl:j=fK.length:=by omega
     rw[List.drop_length]at hL;obtain rfl:K=r:=by simpa [Bc]using hL
     clear hL hS;obtain⟨qa0,qa1⟩:=HS.out.cells
     go_wp2_with (first
      |(go_at_call 61;refine(Kv _ _).mono ?_;rintro e w' ⟨rfl,rfl⟩)
      |(go_at_call 60;refine(KM wr.heap.size (w.heap.size+1) K _ _ (bI wr _) (HS.out.1.alloc _) (by have:=HKL.out;omega)).mono ?_;rintro e w9 ⟨v9,rfl,hv9,oI⟩;have H9:=af.mk (And.intro (Kd.gU hv9 (ax HS.out.2.2.2 (.cells #[.map (some (w.heap.size+1))] 131)).size) (av (ax HS.out.2.2.2 (.cells #[.map (some (w.heap.size+1))] 131)) oI));clear hv9 oI))
     go_ret
     exact⟨_,rfl,H9.out.1,H9.out.2⟩
  ·rw[if_neg h3]at h;obtain⟨K1,hK1,h⟩:=Option.bind_eq_some_iff.1 h;obtain⟨K2,hK2,h⟩:=Option.bind_eq_some_iff.1 h;have qo:=af.mk (show K1.length≤2 from O9 hK1);have HL2:=af.mk (O9 hK2);have qp:=af.mk (X9 h);have HN:=af.mk (show l0.length≤1000000000 by omega);have hne:(dR==0)=false:=by simpa using h3
   have xE:=af.mk (Q9 w A0 c0 (w.heap.size+1) l0 [] K1 jf _ HR.out hc0 HN.out qB.out.2.2.2 (Nat.le_succ _) qB.out.1 (by decide) hK1);have HE2:=af.mk (show ∀W,Nd.S w A0 l0.length c0 #[.int .i64 dI,.bool false,.slice jZ gP.length kr,.int .i64 dR,.int .i64 jf,.int .i64 jE,.slice kU fK.length jU] K1 W→Calls Tryz.prog 56 #[oq A0 l0.length c0 (w.heap.size+1),.int .i64 jE] W fun e w'=>e=.returned (.tuple #[])∧iW (w.heap.size+1) K2 w'∧W.grownBy w' (some (w.heap.size+1))from fun W hW=>Q9 w A0 c0 (w.heap.size+1) l0 K1 K2 jE W HR.out hc0 HN.out hW.2.2.2 (Nat.le_succ _) hW.1 (by have:=qo.out;omega) hK2);have xG:=af.mk (show ∀W,Nd.S w A0 l0.length c0 #[.int .i64 dI,.bool false,.slice jZ gP.length kr,.int .i64 dR,.int .i64 jf,.int .i64 jE,.slice kU fK.length jU] K2 W→Calls Tryz.prog 57 #[oq A0 l0.length c0 (w.heap.size+1),.int .i64 jf] W fun e w'=>e=.returned (.tuple #[])∧iW (w.heap.size+1) r w'∧W.grownBy w' (some (w.heap.size+1))from fun W hW=>WE w A0 c0 (w.heap.size+1) l0 K2 r jf W HR.out hc0 HN.out hW.2.2.2 (Nat.le_succ _) hW.1 (by have:=qo.out;have:=HL2.out;omega) h);have HLR:=af.mk (show r.length≤1000000 by have:=qo.out;have:=HL2.out;have:=qp.out;omega);have v4:(((w.alloc (.cells #[.int .i64 dI,.bool false,.slice jZ gP.length kr,.int .i64 dR,.int .i64 jf,.int .i64 jE,.slice kU fK.length jU] 32)).alloc (.map #[] 0)).alloc (.cells #[.slice A0 l0.length c0,.map (some (w.heap.size+1))] 133)).cell? ⟨w.heap.size,4,none⟩=some (.int .i64 jf):=(ah qB.out.2.2.1 4).trans rfl;unfold oq at xE HE2 xG;clear h hK1 hK2 qo HL2 qp h3
   go_enter Tryz.func21,Tryz.ntmps21
   go_wp2_with (first
    |(go_at_call 56;refine xE.out.mono ?_;clear xE;rintro e w2 ⟨rfl,hs,hg⟩;have kE:=af.mk (qB.out.step hs hg);clear hs hg;have v45:w2.cell? ⟨w.heap.size,5,none⟩=some (.int .i64 jE):=(ah kE.out.2.2.1 5).trans rfl;obtain⟨qa0,qa1⟩:=kE.out.cells)
    |(go_at_call 56;refine(HE2.out _ kE.out).mono ?_;clear HE2;rintro e w3 ⟨rfl,hs,hg⟩;have HS2:=af.mk (kE.out.step hs hg);clear hs hg;have v46:w3.cell? ⟨w.heap.size,4,none⟩=some (.int .i64 jf):=(ah HS2.out.2.2.1 4).trans rfl;obtain⟨qb0,qb1⟩:=HS2.out.cells)
    |(go_at_call 57;refine(xG.out _ HS2.out).mono ?_;clear xG;rintro e w4 ⟨rfl,hs,hg⟩;have lQ:=af.mk (HS2.out.step hs hg);clear hs hg;obtain⟨qc0,qc1⟩:=lQ.out.cells)
    |(go_at_call 61;refine(Kv _ _).mono ?_;rintro e w' ⟨rfl,rfl⟩)
     |(go_at_call 60;refine(KM w4.heap.size (w.heap.size+1) r _ _ (bI w4 _) (lQ.out.1.alloc _) HLR.out).mono ?_;rintro e w9 ⟨v9,rfl,hv9,oI⟩;have H9:=af.mk (And.intro (Kd.gU hv9 (ax lQ.out.2.2.2 (.cells #[.map (some (w.heap.size+1))] 131)).size) (av (ax lQ.out.2.2.2 (.cells #[.map (some (w.heap.size+1))] 131)) oI));clear hv9 oI)
   )
   go_ret
   exact⟨_,rfl,H9.out.1,H9.out.2⟩
theorem QL{A:Option Addr}{l:List eB}{w wr:World}(h:Kd.C jY w A l.length l){i:Nat}(hi:i<l.length)(hb:Below w.heap.size w wr):
  ∃ad,A=some ad∧wr.cell? (ad.add (i*4))=some (.int .i64 (l[i]'hi).f0)∧wr.cell? ⟨(ad.add (i*4)).block,(ad.add (i*4)).off+1,none⟩=some (.int .i64 (l[i]'hi).f1)∧wr.cell? ⟨(ad.add (i*4)).block,(ad.add (i*4)).off+2,none⟩=some (.int .i64 (l[i]'hi).f2)∧wr.cell? ⟨(ad.add (i*4)).block,(ad.add (i*4)).off+3,none⟩=some (.bool (l[i]'hi).f3):=by
 obtain⟨ad,e,h0,h1,h2,h3⟩:=at_T198 h (i:Int) (by omega) (by omega);have er:Gf l (i:Int)=l[i]'hi:=by simp[Gf,List.getD_eq_getElem?_getD,List.getElem?_eq_getElem hi]
 rw[show(i:Int).toNat=i by omega,er]at h0 h1 h2 h3;exact⟨ad,e,aI hb h0,aI hb h1,aI hb h2,aI hb h3⟩
def sJ(L:List eB):List Int:=(L.filter (·.f3)).map (·.f0)
theorem YJ(L:List eB)(i:Nat)(hi:i<L.length):sJ (L.take (i+1))=if(L[i]'hi).f3 then sJ (L.take i)++[(L[i]'hi).f0]else sJ (L.take i):=by
 unfold sJ;rw[← List.take_append_getElem hi,List.filter_append,List.map_append]
 cases c:(L[i]'hi).f3<;>simp[c]
theorem SK(L:List eB):(sJ L).length≤L.length:=by
 unfold sJ;rw[List.length_map];exact List.length_filter_le _ _
def wE.f(k:Nat)(l0:List aj):Option (List Int):=(iL.f k l0).bind fun L=>if L.length≤1000000 then some (rf (sJ L))else none
def Nodes.At(w:World)(L:List eB)(A7:Value)(v3 v9:Value)(wr:World):Prop:=
 ∃i:Nat,i≤L.length∧v9=.int .i64 i∧Kd.R (Kd.int .i64) 3 wr w.heap.size (fun _=>True) v3 (sJ (L.take i))∧Kd.R jY 198 wr w.heap.size (fun _=>True) A7 L∧Below w.heap.size w wr
theorem wE.calls(k:Nat)(A0:Option Addr)(c0:Nat)(l0:List aj)(r:List Int)(w:World)(hr0:Kd.C dw w A0 l0.length l0)(hc0:l0.length≤c0)(h:wE.f k l0=some r):
  Calls Tryz.prog 48 #[.slice A0 l0.length c0] w fun e w'=>∃fE:Value,e=.returned (fE)∧Kd.R (Kd.int .i64) 3 w' w.heap.size (fun _=>True) fE r∧Below w.heap.size w w':=by
 unfold wE.f at h;obtain⟨L,hL,h⟩:=Option.bind_eq_some_iff.1 h
 split at h
 case isFalse=>cases h
 rename_i hmax
 cases h
 have HL:=af.mk hL;have HR:=af.mk hr0;clear hr0 hL
 go_enter Tryz.func48,Tryz.ntmps48
 go_wp2_with (go_at_call 104;refine(iL.calls k A0 c0 l0 L _ HR.out hc0 HL.out).mono ?_;rintro e w2 ⟨v7,rfl,ho,hb⟩;obtain⟨A7,c7,rfl⟩:=Kd.fH ho;have HO:=af.mk ho;have HB:=af.mk hb;clear ho hb)
 have H0:=af.mk (show Nodes.At w L (.slice A7 L.length c7) (.slice none 0 0) (.int .i64 0) w2 from⟨0,by omega,rfl,Kd.dV _ _ _ _ _,HO.out,HB.out⟩);clear HO HB
 go_loopw [3,9] (fun v3 v9 wr=>Nodes.At w L (.slice A7 L.length c7) v3 v9 wr) (fun _ v9 _=>L.length-(intOf v9).toNat)
 case atStart=>exact H0.out
 case round=>
  obtain⟨i,hi,rfl,hO,hC,hB⟩:=hrel;clear H0;obtain⟨A3,c3,rfl⟩:=Kd.fH hO;have HO:=af.mk hO;have HC:=af.mk hC;have HB:=af.mk hB;clear hO hC hB
  by_cases hlt:i<L.length
  ·obtain⟨ad,hA,q0,q1,q2,q3⟩:=QL (Kd.dB HC.out).2.2 hlt (Below.refl _ _)
   cases hA
   have HT:=af.mk (YJ L i hlt);have pG:=af.mk (SK (L.take i));obtain⟨⟨x0,x1,x2,x3⟩,hx⟩:∃x,x=L[i]'hlt:=⟨_,rfl⟩;rw[← hx]at q0 q1 q2 q3 HT;clear hx;simp only at q0 q1 q2 q3 HT;obtain⟨pre,hpre⟩:∃pre,pre=sJ (L.take i):=⟨_,rfl⟩;rw[← hpre]at HO HT pG;rw[← hpre];clear hpre
   cases x3 with
   |true=>
    have rY:=af.mk (show(pre.length+1)*8≤140737488355328 by have:=pG.out;rw[List.length_take]at this;omega);have j4:=af.mk (Kd.bX HO.out (.cells #[.int .i64 x0,.int .i64 x1,.int .i64 x2,.bool true] 198));have qm:=af.mk (Kd.bX HC.out (.cells #[.int .i64 x0,.int .i64 x1,.int .i64 x2,.bool true] 198));have HB2:=af.mk (ax HB.out (.cells #[.int .i64 x0,.int .i64 x1,.int .i64 x2,.bool true] 198))
    go_wp2_with ((with_reducible refine jN (b:=.append) (xs:=#[.tmp 15,.tmp 18]) rfl ?_);at_builtin;refine Kd.kY (Kd.int .i64) (w0:=w) w.heap.size rfl (.tmp 15) (.tmp 18) 27 3 (.int .i64 0) 8 rfl Tryz.underlying27 QF rfl (by decide) (by omega) (.slice A3 pre.length c3) pre x0 [.int .i64 x0] (fun _=>True) (fun _=>False) rfl (by first|(go_simp;done)|(go_simp;rfl)) rfl (fun _ h=>h.elim) (fun _ _=>trivial) j4.out HB2.out HB2.out.size rY.out ?_;intro v3 w3 ho3 hb3 hg3 mQ;have HC3:=af.mk (Kd.Oz qm.out j4.out (by decide) hg3);have nY:=af.mk ho3;have HB3:=af.mk hb3;clear ho3 hb3 hg3 mQ)
    go_roundw
    case rel=>exact⟨i+1,by omega,by go_num,by rw[HT.out,if_pos rfl];exact nY.out,HC3.out,HB3.out⟩
    case measure=>simp[intOf];omega
   |false=>
    go_wp2_with fail
    go_roundw
    case rel=>exact⟨i+1,by omega,by go_num,by rw[HT.out,if_neg (by decide)];exact Kd.bX HO.out _,Kd.bX HC.out _,ax HB.out _⟩
    case measure=>simp[intOf];omega
  ·obtain rfl:i=L.length:=by omega
   rw[List.take_length]at HO;have pG:=af.mk (SK L);rw[List.take_length]
   go_wp2_with (go_at_call 105;refine(sortInts w.heap.size _ (sJ L) _ HO.out (by have:=pG.out;omega)).mono ?_;rintro e w2 ⟨rfl,hs,hg⟩;have HS:=af.mk hs;have HG:=af.mk hg;clear hs hg)
   go_ret
   exact⟨_,rfl,HS.out,vN HB.out _ HB.out.size HG.out (fun k e=>Kd.uY HO.out k e)⟩
end Go.Proofs.YtdcddenojjdmjaaGreatDoor.T
namespace Go.Proofs.YtdcddenojjdmjaaGreatDoor.T
open Go.RowKit Go.Proofs.YtdcddenojjdmjaaGreatDoorW.PrintWords Go.Proofs.YtdcddenojjdmjaaGreatDoorW.PrintLast Go.Proofs.YtdcddenojjdmjaaGreatDoorW.PrintMore
open Go.Sort (Holds putRow putCells grow mapBlock onCells SWO)
def vK(x:eB):List Value:=[.int .i64 x.f0,.int .i64 x.f1,.int .i64 x.f2,.bool x.f3]
def QJ.At(l:List eB)(p:eB→Bool)(W:World)(v8:Value)(wr:World):Prop:=
 ∃i:Nat,i≤l.length∧v8=.int .i64 i∧Below W.heap.size W wr∧∀j (hj:j<l.length),j<i→p (l[j]'hj)=false
theorem RG(x:eB)(w:World):Calls Tryz.prog 195 #[.agg #[.int .i64 x.f0,.int .i64 x.f1,.int .i64 x.f2,.bool x.f3]] w fun e w'=>e=.returned (.bool (!x.f3))∧Below w.heap.size w w':=by
 obtain⟨x0,x1,x2,x3⟩:=x;simp only
 go_enter Tryz.func195,Tryz.ntmps195
 go_wp2_with fail
 go_ret
 exact⟨rfl,ax (Below.refl _ _) _⟩
theorem QJ(A:Option Addr)(c:Nat)(l:List eB)(W:World)(hr:Kd.C jY W A l.length l)(hc:l.length≤c):
  Calls Tryz.prog 224 #[.slice A l.length c,.func (.func 195) #[] #[]] W fun e W'=>e=.returned (.int .i64 (idx (fun x=> !x.f3) l))∧Below W.heap.size W W':=by
 have hlen:l.length≤9223372036854775807:=hr.2.1;have HR:=af.mk hr;clear hr;obtain⟨p,hp⟩:∃p:eB→Bool,p=fun x=> !x.f3:=⟨_,rfl⟩
 have HPP:=af.mk hp;rw[← hp];clear hp
 go_enter Tryz.func224,Tryz.ntmps224
 go_wp2_with fail
 go_loopw [8] (fun v8 wr=>QJ.At l p W v8 wr) (fun v8 _=>l.length-(intOf v8).toNat)
 case atStart=>exact⟨0,by omega,rfl,Below.refl _ _,fun j _ hj=>by omega⟩
 case round=>
  obtain⟨i,hi,rfl,hI,hN⟩:=hrel;have HI:=af.mk hI;have HN:=af.mk hN;clear hI hN
  by_cases hlt:i<l.length
  ·obtain⟨ad,hA,hc0,hc1,hc2,hc3⟩:=QL HR.out hlt HI.out
   cases hA
   have hpe:p (l[i]'hlt)= !(l[i]'hlt).f3:=by rw[HPP.out]
   have HPE:=af.mk hpe;clear hpe
   by_cases hp:p (l[i]'hlt)=true
   ·have HP:=af.mk (DV p l i HN.out hlt hp);have HPT:=af.mk hp;clear hp
    go_wp2_with (go_at_call 195;refine(RG (l[i]'hlt) _).mono ?_;rw[← HPE.out,HPT.out];rintro e w2 ⟨rfl,h2⟩;have H2:=af.mk (av HI.out h2);clear h2 hc0 hc1 hc2 hc3)
    go_ret
    exact⟨by rw[HP.out];rfl,H2.out⟩
   ·have hp:p (l[i]'hlt)=false:=by simpa using hp
    have HP:=af.mk hp;clear hp
    go_wp2_with (go_at_call 195;refine(RG (l[i]'hlt) _).mono ?_;rw[← HPE.out,HP.out];rintro e w2 ⟨rfl,h2⟩;have H2:=af.mk (av HI.out h2);clear h2 hc0 hc1 hc2 hc3)
    go_roundw
    case rel=>exact⟨i+1,by omega,by go_num,H2.out,fun j hj hji=>by
     rcases Nat.lt_or_ge j i with h|h
     ·exact HN.out j hj h
     ·obtain rfl:j=i:=by omega
      exact HP.out⟩
    case measure=>simp[intOf];omega
  ·have HP:=af.mk (AZ p l (fun j hj=>HN.out j hj (by omega)))
   go_wp2_with fail
   go_ret
   exact⟨by rw[HP.out];rfl,HI.out⟩
end Go.Proofs.YtdcddenojjdmjaaGreatDoor.T
