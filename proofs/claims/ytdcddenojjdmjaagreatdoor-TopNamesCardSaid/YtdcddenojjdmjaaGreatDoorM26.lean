import Derived.Test.YtdcddenojjdmjaaGreatDoorM25
set_option linter.all false
set_option maxHeartbeats 8000000
set_option maxRecDepth 100000
namespace Go.Proofs.YtdcddenojjdmjaaGreatDoor.T
open Go.RowKit Go.Proofs.YtdcddenojjdmjaaGreatDoorW.PrintWords Go.Proofs.YtdcddenojjdmjaaGreatDoorW.PrintLast Go.Proofs.YtdcddenojjdmjaaGreatDoorW.PrintMore
def zF(N:Nat)(K:List Int)(i:Int):List Int:=if 0≤i∧i<N then iM i K else K
def lJ(N:Nat)(K:List Int)(l:List Int):List Int:=l.foldl (zF N) K
theorem aan(N:Nat)(K l:List Int)(j:Nat)(hj:j<l.length):lJ N K (l.take (j+1))=zF N (lJ N K (l.take j)) (l[j]'hj):=by
 unfold lJ;rw[← List.take_append_getElem hj,List.foldl_append];rfl
theorem Vv(x:Int):∀K:List Int,(iM x K).length≤K.length+1
 | []=>by simp[iM]
 |y::r=>by
  unfold iM
  split
  ·simp
  ·split
   ·simp
   ·have:=Vv x r;simp;omega
theorem Gd(N:Nat):∀(l K:List Int),(lJ N K l).length≤K.length+l.length
 | [],K=>by simp[lJ]
 |x::l,K=>by
  have:=Gd N l (zF N K x);unfold lJ at this ⊢;rw[List.foldl_cons];have h2:(zF N K x).length≤K.length+1:=by unfold zF;split;exact Vv x K;omega
  simp;omega
def oq(A0:Option Addr)(N c0 b:Nat):Value:=.agg #[.slice A0 N c0,.map (some b)]
theorem Vp(x:Int)(h: -9223372036854775808≤x∧x≤9223372036854775807):qC x:=by
 have e:wrap64 x=x:=by unfold wrap64;omega
 unfold qC;rw[← e];exact wrap64_wf x
def Put.At(W:World)(A0:Option Addr)(c0 N:Nat)(b:Nat)(K l:List Int)(v8:Value)(wr:World):Prop:=
 ∃j:Nat,j≤l.length∧v8=.int .i64 j∧iW b (lJ N K (l.take j)) wr∧W.grownBy wr (some b)∧wr.heap[W.heap.size]? =some (.cells #[.slice A0 N c0,.map (some b)] 133 (0,0))
theorem eu.obj{b:Nat}{K:List Int}{f:Int→Value}{w:World}(h:eu b K f w):∀r,some b=some r→∃o:Obj,w.heap[r]? =some o∧o.isCells=false:=fun r e=>by
 cases e
 obtain⟨_,_,D,⟨es,clock,hb,_⟩,_⟩:=h;exact⟨_,hb,rfl⟩
theorem vD{a w w':World}{row:Option Nat}(h:a.grownBy w row)(k:w.grownBy w' row):a.grownBy w' row:=
 ⟨k.os.trans h.os,k.tape.trans h.tape,k.output.trans h.output,Nat.le_trans h.size k.size,fun i hi hne=>(k.block i (Nat.lt_of_lt_of_le hi h.size) hne).trans (h.block i hi hne)⟩
theorem Ra(A0:Option Addr)(c0 N b:Nat)(K:List Int)(A1:Option Addr)(c1:Nat)(l:List Int)(W:World)(hN:N≤1000000000)(hr:Kd.C (Kd.int .i64) W A1 l.length l)(hS:iW b K W)(hl:K.length+l.length≤1000000000):
  Calls Tryz.prog 58 #[oq A0 N c0 b,.slice A1 l.length c1] W fun e w'=>e=.returned (.tuple #[])∧iW b (lJ N K l) w'∧W.grownBy w' (some b):=by
 have hlen:l.length≤9223372036854775807:=hr.2.1;have HR:=af.mk hr;have HS:=af.mk hS;have HL:=af.mk hl;clear hr hS hl;have hbl:=HS.out.lt;have H0:=af.mk (show Put.At W A0 c0 N b K l (.int .i64 0) (W.alloc (.cells #[.slice A0 N c0,.map (some b)] 133))from⟨0,Nat.zero_le _,rfl,by simpa [lJ]using HS.out.alloc _,World.grownBy_alloc W _ _,bI W _⟩);unfold oq
 go_enter Tryz.func58,Tryz.ntmps58
 go_wp2_with fail
 go_loopw [8] (fun v8 wr=>Put.At W A0 c0 N b K l v8 wr) (fun v8 _=>l.length-(intOf v8).toNat)
 case atStart=>exact H0.out
 case round=>
  obtain⟨j,hj,rfl,hK,hG,hB⟩:=hrel;clear H0;have HK:=af.mk hK;have HG:=af.mk hG;have HB:=af.mk hB
  by_cases hlt:j<l.length
  ·obtain⟨ad,hA,q0⟩:=wP HR.out hlt (Below.refl _ _)
   cases hA
   replace q0:=cell_kept q0 hG HS.out.obj;have b0:wr.cell? ⟨W.heap.size,0,none⟩=some (.slice A0 N c0):=(ah hB 0).trans rfl;have b1:wr.cell? ⟨W.heap.size,1,none⟩=some (.map (some b)):=(ah hB 1).trans rfl;have HT:=af.mk (aan N K l j hlt);have HPL:=af.mk (show(lJ N K (l.take j)).length<maxLen by have h1:=Gd N (l.take j) K;have h2:=HL.out;rw[List.length_take]at h1;unfold maxLen;omega);obtain⟨x,hx⟩:∃x,x=l[j]'hlt:=⟨_,rfl⟩;rw[← hx]at q0 HT;clear hx hK hG hB
   by_cases h0:0≤x
   ·by_cases h1:x<(N:Int)
    ·have HX:=af.mk (Vp x (by omega));have HE:=af.mk (show zF N (lJ N K (l.take j)) x=iM x (lJ N K (l.take j))from if_pos ⟨h0,h1⟩)
     go_wp2_with (at_mapUpdate;refine Gt _ rfl _ _ _ 131 4 rfl Tryz.underlying131 b _ _ rfl HK.out HPL.out x _ rfl rfl HX.out ?_;intro w2 hm2 hg2;have HM:=af.mk hm2;have HG2:=af.mk hg2;clear hm2 hg2)
     go_roundw
     case rel=>exact⟨j+1,by omega,by go_num,by rw[HT.out,HE.out];exact Ku HM.out,vD HG.out HG2.out,fP HB.out HG2.out (by simp;omega)⟩
     case measure=>simp[intOf];omega
    ·have HE:=af.mk (show zF N (lJ N K (l.take j)) x=lJ N K (l.take j)from if_neg (fun h=>h1 h.2))
     go_wp2_with fail
     go_roundw
     case rel=>exact⟨j+1,by omega,by go_num,by rw[HT.out,HE.out];exact HK.out,HG.out,HB.out⟩
     case measure=>simp[intOf];omega
   ·have HE:=af.mk (show zF N (lJ N K (l.take j)) x=lJ N K (l.take j)from if_neg (fun h=>h0 h.1))
    go_wp2_with fail
    go_roundw
    case rel=>exact⟨j+1,by omega,by go_num,by rw[HT.out,HE.out];exact HK.out,HG.out,HB.out⟩
    case measure=>simp[intOf];omega
  ·obtain rfl:j=l.length:=by omega
   have HKL:=af.mk (show lJ N K (l.take l.length)=lJ N K l by rw[List.take_length]);clear hK hG hB
   go_wp2_with fail
   go_end0
   exact⟨rfl,by rw[← HKL.out];exact HK.out,HG.out⟩
theorem Wu{W:World}{g:Nat}{x:Int}(h:W.heap[g]? =some (.cells #[.int .i64 x] 3 (0,0))):Kd.C (Kd.int .i64) W (some ⟨g,0,none⟩) [x].length [x]:=
 ⟨rfl,(show 1≤9223372036854775807 by decide),fun _=>⟨⟨g,0,none⟩,rfl,fun i y hy=>by
  cases i with
  |zero=>
   obtain rfl:x=y:=by simpa using hy
   refine⟨[.int .i64 x],rfl,rfl,fun j u hj=>?_⟩
   cases j with
   |zero=>cases hj;exact(ah h 0).trans rfl
   |succ j=>simp at hj
  |succ i=>simp at hy⟩⟩
def zn(h:List aj)(K:List Int)(t:Int):Option (List Int):=(iX.f h t).map fun x=>if x.2.2.2.2 then lJ h.length K [x.2.2.1]else K
theorem LP{W W':World}(hb:Below W.heap.size W W')(row:Option Nat):W.grownBy W' row:=⟨hb.os,hb.tape,hb.output,hb.size,fun i hi _=>hb.block i hi⟩
theorem Q8(w0:World)(A0:Option Addr)(c0 b:Nat)(l0:List aj)(K r:List Int)(t:Int)(W:World)(hr:Kd.C dw w0 A0 l0.length l0)(hc:l0.length≤c0)(hN:l0.length≤1000000000)(hB:Below w0.heap.size w0 W)(hS:iW b K W)(hl:K.length+1≤1000000000)(hf:zn l0 K t=some r):
  Calls Tryz.prog 59 #[oq A0 l0.length c0 b,.int .i64 t] W fun e w'=>e=.returned (.tuple #[])∧iW b r w'∧W.grownBy w' (some b):=by
 have hlen:l0.length≤9223372036854775807:=hr.2.1;obtain⟨⟨x1,x2,x3,x4,x5⟩,hx,rfl⟩:=Option.map_eq_some_iff.1 hf;have HR:=af.mk hr;have HS:=af.mk hS;have HX:=af.mk hx;have HB:=af.mk (ax hB (.cells #[.slice A0 l0.length c0,.map (some b)] 133));clear hr hS hx hf hB;unfold oq;have kb:=bI W (.cells #[.slice A0 l0.length c0,.map (some b)] 133);have HKB:=af.mk kb;have q0:(W.alloc (.cells #[.slice A0 l0.length c0,.map (some b)] 133)).cell? ⟨W.heap.size,0,none⟩=some (.slice A0 l0.length c0):=(ah kb 0).trans rfl;clear kb
 cases x5 with
 |false=>
  go_enter Tryz.func59,Tryz.ntmps59
  go_wp2_with (go_at_call 117;refine(iX.calls A0 c0 l0 t x1 x2 x3 x4 false _ (Kd.dN HR.out HB.out) hc HX.out).mono ?_;rintro e w2 ⟨rfl,hb⟩;have HG:=af.mk hb;clear hb)
  go_end0
  have hG:=(vD (World.grownBy_alloc W (.cells #[.slice A0 l0.length c0,.map (some b)] 133) (some b)) (LP HG.out _));exact⟨rfl,((HS.out.alloc _).below HG.out).alloc _,vD hG (World.grownBy_alloc _ _ _)⟩
 |true=>
  go_enter Tryz.func59,Tryz.ntmps59
  go_wp2_with (first
   |(go_at_call 117;refine(iX.calls A0 c0 l0 t x1 x2 x3 x4 true _ (Kd.dN HR.out HB.out) hc HX.out).mono ?_;rintro e w2 ⟨rfl,hb⟩;have HG:=af.mk hb;have kb3:=ay (aK HKB.out hb) (.cells #[.int .i64 x1,.int .i64 x2,.int .i64 x3,.bool x4] 198);have q3:(w2.alloc (.cells #[.int .i64 x1,.int .i64 x2,.int .i64 x3,.bool x4] 198)).cell? ⟨W.heap.size,0,none⟩=some (.slice A0 l0.length c0):=(ah kb3 0).trans rfl;have q4:(w2.alloc (.cells #[.int .i64 x1,.int .i64 x2,.int .i64 x3,.bool x4] 198)).cell? ⟨W.heap.size,1,none⟩=some (.map (some b)):=(ah kb3 1).trans rfl;clear hb kb3))
  have hn:=bI (w2.alloc (.cells #[.int .i64 x1,.int .i64 x2,.int .i64 x3,.bool x4] 198)) (.cells #[.int .i64 x3] 3);rw[World.size_alloc]at hn;refine(Ra A0 c0 l0.length b K (some ⟨w2.heap.size+1,0,none⟩) 1 [x3] _ hN (Wu hn) ((((HS.out.alloc _).below HG.out).alloc _).alloc _) (by simpa using hl)).mono ?_;rintro e w5 ⟨rfl,hs5,hg5⟩;have H5:=af.mk (And.intro hs5 hg5);clear hs5 hg5 hn
  go_wp2_with fail
  go_end0
  have hG:=(vD (World.grownBy_alloc W (.cells #[.slice A0 l0.length c0,.map (some b)] 133) (some b)) (LP HG.out _));exact⟨rfl,H5.out.1,vD (vD (vD hG (World.grownBy_alloc _ _ _)) (World.grownBy_alloc _ _ _)) H5.out.2⟩
def wF(l0:List aj)(K:List Int)(i:Int):Option (List Int):=if 0≤i∧i<l0.length then zn l0 (lJ l0.length K [i]) (l0.getD i.toNat z67).f1 else some K
theorem Q9(w0:World)(A0:Option Addr)(c0 b:Nat)(l0:List aj)(K r:List Int)(i:Int)(W:World)(hr:Kd.C dw w0 A0 l0.length l0)(hc:l0.length≤c0)(hN:l0.length≤1000000000)(hB:Below w0.heap.size w0 W)(hb0:w0.heap.size≤b)(hS:iW b K W)(hl:K.length+2≤1000000000)(hf:wF l0 K i=some r):
  Calls Tryz.prog 56 #[oq A0 l0.length c0 b,.int .i64 i] W fun e w'=>e=.returned (.tuple #[])∧iW b r w'∧W.grownBy w' (some b):=by
 have hlen:l0.length≤9223372036854775807:=hr.2.1;unfold wF at hf;have HR:=af.mk hr;have HS:=af.mk hS;have HB:=af.mk hB;clear hr hS hB;unfold oq;have kb:=bI W (.cells #[.slice A0 l0.length c0,.map (some b)] 133);have HKB:=af.mk kb;have b0:(W.alloc (.cells #[.slice A0 l0.length c0,.map (some b)] 133)).cell? ⟨W.heap.size,0,none⟩=some (.slice A0 l0.length c0):=(ah kb 0).trans rfl;have b1:(W.alloc (.cells #[.slice A0 l0.length c0,.map (some b)] 133)).cell? ⟨W.heap.size,1,none⟩=some (.map (some b)):=(ah kb 1).trans rfl;clear kb
 by_cases h0:0≤i
 ·by_cases h1:i<l0.length
  ·rw[if_pos ⟨h0,h1⟩]at hf;obtain⟨n,rfl⟩:∃n:Nat,i=(n:Int):=⟨i.toNat,by omega⟩;have hn:n<l0.length:=by omega
   rw[Int.toNat_natCast]at hf;have eg:l0.getD n z67=l0[n]'hn:=by simp[List.getD_eq_getElem?_getD,List.getElem?_eq_getElem hn]
   rw[eg]at hf;obtain⟨t,ht⟩:∃t,t=(l0[n]'hn).f1:=⟨_,rfl⟩;rw[← ht]at hf;have HF:=af.mk hf;obtain⟨ad,hA,_,qt0,_,_⟩:=pW HR.out hn HB.out
   cases hA
   rw[← ht]at qt0;have HQ:=af.mk qt0;clear hf eg ht qt0
   go_enter Tryz.func56,Tryz.ntmps56
   go_wp2_with fail
   have hw:=bI (W.alloc (.cells #[.slice (some ad) l0.length c0,.map (some b)] 133)) (.cells #[.int .i64 (n:Int)] 3);rw[World.size_alloc]at hw;have HS2:=af.mk ((HS.out.alloc (.cells #[.slice (some ad) l0.length c0,.map (some b)] 133)).alloc (.cells #[.int .i64 (n:Int)] 3));refine(Ra (some ad) c0 l0.length b K (some ⟨W.heap.size+1,0,none⟩) 1 [(n:Int)] _ hN (Wu hw) HS2.out (by simp;omega)).mono ?_;rintro e w5 ⟨rfl,hs5,hg5⟩;have hbl:=HS.out.lt;have kb5:=fP (ay HKB.out (.cells #[.int .i64 (n:Int)] 3)) hg5 (by simp;omega);have hq5:=cell_kept (aI (ax (ax (Below.refl _ _) (.cells #[.slice (some ad) l0.length c0,.map (some b)] 133)) (.cells #[.int .i64 (n:Int)] 3)) HQ.out) hg5 HS2.out.obj;have hB5:=(ax (ax HB.out (.cells #[.slice (some ad) l0.length c0,.map (some b)] 133)) (.cells #[.int .i64 (n:Int)] 3)).grown hg5 (ax (ax HB.out _) _).size (fun k e=>by cases e;exact hb0);have HCE:=af.mk (Q8 w0 (some ad) c0 b l0 (lJ l0.length K [(n:Int)]) r t w5.drew HR.out hc hN (Below.drew hB5) hs5.drew (by have:=Gd l0.length [(n:Int)] K;simp at this ⊢;omega) HF.out);unfold oq at HCE;have q0:w5.drew.cell? ⟨W.heap.size,0,none⟩=some (.slice (some ad) l0.length c0):=(ah (show w5.drew.heap[W.heap.size]? =_ from kb5) 0).trans rfl;have q1:w5.drew.cell? ⟨W.heap.size,1,none⟩=some (.map (some b)):=(ah (show w5.drew.heap[W.heap.size]? =_ from kb5) 1).trans rfl;have qt:w5.drew.cell? ⟨(ad.add (n*4)).block,(ad.add (n*4)).off+1,none⟩=some (.int .i64 t):=hq5;have HG5:=af.mk (vD (vD (World.grownBy_alloc W (.cells #[.slice (some ad) l0.length c0,.map (some b)] 133) (some b)) (World.grownBy_alloc _ (.cells #[.int .i64 (n:Int)] 3) _)) hg5);clear hs5 hg5 kb5 hq5 hB5 hw b0 b1
   go_wp2_with fail
   refine gZ (n:=8) (S:=fun w'=>w'.cell? ⟨W.heap.size,0,none⟩=some (.slice (some ad) l0.length c0)∧w'.cell? ⟨W.heap.size,1,none⟩=some (.map (some b))∧w'.cell? ⟨(ad.add (n*4)).block,(ad.add (n*4)).off+1,none⟩=some (.int .i64 t)) (ds:=[7]) #[false,false,false,false,false,false,false,false] (by kernel_rfl) rfl rfl ⟨q0,q1,qt⟩ (fun hHeld=>?_);refine au 1 18 ?_;refine au 3 20 ?_;refine bU 0 17 hHeld (by rintro w' ⟨s0,s1,s2⟩;go_simp;with_reducible rfl) ?_ rfl rfl;refine bU 2 19 hHeld (by rintro w' ⟨s0,s1,s2⟩;go_simp;with_reducible rfl) ?_ rfl rfl;refine au 4 21 ?_;refine au 5 22 ?_;refine bU 6 23 hHeld (by rintro w' ⟨s0,s1,s2⟩;go_simp;with_reducible rfl) ?_ rfl rfl;refine iN (i:=7) (N:=some 24) #[true,true,true,true,true,true,true,true] rfl rfl (by kernel_rfl) (by decide) (fun K hK=>?_);refine gF Tryz.func59 (by kernel_rfl) rfl #[.agg #[.slice (some ad) l0.length c0,.map (some b)],.int .i64 t] (by rfl) rfl rfl (by simp only[List.map_toArray,List.map_cons,List.map_nil];rfl) ?_
   with_reducible refine(HCE.out).mono ?_
   rintro e w7 ⟨rfl,hs7,wM⟩;refine⟨_,rfl,?_⟩;have H7:=af.mk (And.intro hs7 wM);clear hs7 wM;refine hK.out _ _ ?_;clear hK K;refine dM ?_;refine gJ ?_
   go_wp2_with fail
   go_end0
   exact⟨rfl,H7.out.1,vD (vD HG5.out (LP (pR (Below.refl _ _)) _)) H7.out.2⟩
  ·rw[if_neg (fun h=>h1 h.2)]at hf
   cases hf
   go_enter Tryz.func56,Tryz.ntmps56
   go_wp2_with fail
   go_end0
   exact⟨rfl,HS.out.alloc _,World.grownBy_alloc _ _ _⟩
 ·rw[if_neg (fun h=>h0 h.1)]at hf
  cases hf
  go_enter Tryz.func56,Tryz.ntmps56
  go_wp2_with fail
  go_end0
  exact⟨rfl,HS.out.alloc _,World.grownBy_alloc _ _ _⟩
def za(l0:List aj)(K:List Int)(i:Int):Option (List Int):=
 if 0≤i∧i<l0.length∧(l0.getD i.toNat z67).f3.toList.isEmpty=false then(ji.f l0 (l0.getD i.toNat z67).f2 (l0.getD i.toNat z67).f3).bind fun m=>wF l0 K m else some K
theorem WE(w0:World)(A0:Option Addr)(c0 b:Nat)(l0:List aj)(K r:List Int)(i:Int)(W:World)(hr:Kd.C dw w0 A0 l0.length l0)(hc:l0.length≤c0)(hN:l0.length≤1000000000)(hB:Below w0.heap.size w0 W)(hb0:w0.heap.size≤b)(hS:iW b K W)(hl:K.length+2≤1000000000)(hf:za l0 K i=some r):
  Calls Tryz.prog 57 #[oq A0 l0.length c0 b,.int .i64 i] W fun e w'=>e=.returned (.tuple #[])∧iW b r w'∧W.grownBy w' (some b):=by
 have hlen:l0.length≤9223372036854775807:=hr.2.1;unfold za at hf;have HR:=af.mk hr;have HS:=af.mk hS;have HB:=af.mk hB;clear hr hS hB;have kb:=bI W (.cells #[.slice A0 l0.length c0,.map (some b)] 133);have HKB:=af.mk kb;have b0:(W.alloc (.cells #[.slice A0 l0.length c0,.map (some b)] 133)).cell? ⟨W.heap.size,0,none⟩=some (.slice A0 l0.length c0):=(ah kb 0).trans rfl;have b1:(W.alloc (.cells #[.slice A0 l0.length c0,.map (some b)] 133)).cell? ⟨W.heap.size,1,none⟩=some (.map (some b)):=(ah kb 1).trans rfl;clear kb
 by_cases h0:0≤i
 ·by_cases h1:i<l0.length
  ·obtain⟨n,rfl⟩:∃n:Nat,i=(n:Int):=⟨i.toNat,by omega⟩;have hn:n<l0.length:=by omega
   rw[Int.toNat_natCast]at hf;have eg:l0.getD n z67=l0[n]'hn:=by simp[List.getD_eq_getElem?_getD,List.getElem?_eq_getElem hn]
   rw[eg]at hf;obtain⟨k2,hk2⟩:∃k2,k2=(l0[n]'hn).f2:=⟨_,rfl⟩;obtain⟨k3,hk3⟩:∃k3,k3=(l0[n]'hn).f3:=⟨_,rfl⟩;rw[← hk2,← hk3]at hf;have HB1:=af.mk (ax HB.out (.cells #[.slice A0 l0.length c0,.map (some b)] 133));obtain⟨ad,hA,_,_,qk0,qv0⟩:=pW HR.out hn HB1.out
   cases hA
   rw[← hk2]at qk0;rw[← hk3]at qv0;clear hk2 hk3 eg
   cases hke:k3.toList.isEmpty with
   |true=>
    rw[if_neg (fun h=>by rw[hke]at h;cases h.2.2)]at hf
    cases hf
    unfold oq
    go_enter Tryz.func57,Tryz.ntmps57
    go_wp2_with fail
    go_end0
    exact⟨rfl,HS.out.alloc _,World.grownBy_alloc _ _ _⟩
   |false=>
    rw[if_pos ⟨h0,h1,hke⟩]at hf;obtain⟨m,hm,hf⟩:=Option.bind_eq_some_iff.1 hf;have HM:=af.mk hm;have kE:=af.mk (HS.out.alloc (.cells #[.slice (some ad) l0.length c0,.map (some b)] 133))
    have HCE:=af.mk (show ∀W',Below (W.alloc (.cells #[.slice (some ad) l0.length c0,.map (some b)] 133)).heap.size (W.alloc (.cells #[.slice (some ad) l0.length c0,.map (some b)] 133)) W'→Calls Tryz.prog 56 #[oq (some ad) l0.length c0 b,.int .i64 m] W' fun e w'=>e=.returned (.tuple #[])∧iW b r w'∧W'.grownBy w' (some b)from
     fun W' h=>Q9 w0 (some ad) c0 b l0 K r m W' HR.out hc hN (av HB1.out h) hb0 (kE.out.below h) hl hf)
    unfold oq at HCE ⊢;clear hm hf
    go_enter Tryz.func57,Tryz.ntmps57
    go_wp2_with fail
    have q0:(W.alloc (.cells #[.slice (some ad) l0.length c0,.map (some b)] 133)).drew.cell? ⟨W.heap.size,0,none⟩=some (.slice (some ad) l0.length c0):=b0;have q1:(W.alloc (.cells #[.slice (some ad) l0.length c0,.map (some b)] 133)).drew.cell? ⟨W.heap.size,1,none⟩=some (.map (some b)):=b1;have qk:(W.alloc (.cells #[.slice (some ad) l0.length c0,.map (some b)] 133)).drew.cell? ⟨(ad.add (n*4)).block,(ad.add (n*4)).off+2,none⟩=some (.string k2):=qk0;have qv:(W.alloc (.cells #[.slice (some ad) l0.length c0,.map (some b)] 133)).drew.cell? ⟨(ad.add (n*4)).block,(ad.add (n*4)).off+3,none⟩=some (.string k3):=qv0;refine gZ (n:=17) (S:=fun w'=>w'.cell? ⟨W.heap.size,0,none⟩=some (.slice (some ad) l0.length c0)∧w'.cell? ⟨W.heap.size,1,none⟩=some (.map (some b))∧w'.cell? ⟨(ad.add (n*4)).block,(ad.add (n*4)).off+2,none⟩=some (.string k2)∧w'.cell? ⟨(ad.add (n*4)).block,(ad.add (n*4)).off+3,none⟩=some (.string k3)∧Below (W.alloc (.cells #[.slice (some ad) l0.length c0,.map (some b)] 133)).heap.size (W.alloc (.cells #[.slice (some ad) l0.length c0,.map (some b)] 133)) w') (ds:=[16]) #[false,false,false,false,false,false,false,false,false,false,false,false,false,false,false,false,false] (by kernel_rfl) rfl rfl ⟨q0,q1,qk,qv,pR (Below.refl _ _)⟩ (fun hHeld=>?_);refine au 1 23 ?_;refine au 3 25 ?_;refine au 5 27 ?_;refine au 9 31 ?_;refine au 11 33 ?_;refine bU 0 22 hHeld (by rintro w' ⟨s0,s1,s2,s3,s4⟩;go_simp;with_reducible rfl) ?_ rfl rfl;refine bU 2 24 hHeld (by rintro w' ⟨s0,s1,s2,s3,s4⟩;go_simp;with_reducible rfl) ?_ rfl rfl;refine bU 4 26 hHeld (by rintro w' ⟨s0,s1,s2,s3,s4⟩;go_simp;with_reducible rfl) ?_ rfl rfl;refine au 6 28 ?_;refine au 7 29 ?_;refine bU 8 30 hHeld (by rintro w' ⟨s0,s1,s2,s3,s4⟩;go_simp;with_reducible rfl) ?_ rfl rfl;refine bU 10 32 hHeld (by rintro w' ⟨s0,s1,s2,s3,s4⟩;go_simp;with_reducible rfl) ?_ rfl rfl;refine au 12 34 ?_;refine au 13 35 ?_;refine bU 14 36 hHeld (by rintro w' ⟨s0,s1,s2,s3,s4⟩;go_simp;with_reducible rfl) ?_ rfl rfl;refine fu 15 (N:=some 37) rfl rfl fun K hK=>?_
    refine gF Tryz.func116 (by kernel_rfl) rfl #[.slice (some ad) l0.length c0,.string k2,.string k3] (by rfl) rfl rfl (by simp only[List.map_toArray,List.map_cons,List.map_nil];rfl) ?_
    with_reducible refine(ji.calls (some ad) c0 l0 k2 k3 m _ (Kd.dN HR.out (av HB1.out (hHeld.2.2.2.2))) hc HM.out).mono ?_
    rintro e w4 ⟨rfl,hb4⟩;refine⟨_,rfl,?_⟩;have H4:=af.mk (av (hHeld.2.2.2.2) hb4);refine hK.out _ _ ⟨aI hb4 (hHeld.1),aI hb4 (hHeld.2.1),aI hb4 (hHeld.2.2.1),aI hb4 (hHeld.2.2.2.1),H4.out⟩ (fun hHeld=>?_);clear hK K;refine dM ?_;refine iN (i:=16) (N:=some 38) #[true,true,true,true,true,true,true,true,true,true,true,true,true,true,true,true,true] rfl rfl (by kernel_rfl) (by decide) (fun K hK=>?_);refine gF Tryz.func56 (by kernel_rfl) rfl #[.agg #[.slice (some ad) l0.length c0,.map (some b)],.int .i64 m] (by rfl) rfl rfl (by simp only[List.map_toArray,List.map_cons,List.map_nil];rfl) ?_
    with_reducible refine(HCE.out _ H4.out).mono ?_
    rintro e w7 ⟨rfl,hs7,wM⟩;refine⟨_,rfl,?_⟩;have H7:=af.mk (And.intro hs7 (vD (LP H4.out _) wM));clear hs7 wM;refine hK.out _ _ ?_;clear hK K;refine dM ?_;refine gJ ?_
    go_wp2_with fail
    go_end0
    exact⟨rfl,H7.out.1,vD (World.grownBy_alloc W _ _) H7.out.2⟩
  ·rw[if_neg (fun h=>h1 h.2.1)]at hf
   cases hf
   unfold oq
   go_enter Tryz.func57,Tryz.ntmps57
   go_wp2_with fail
   go_end0
   exact⟨rfl,HS.out.alloc _,World.grownBy_alloc _ _ _⟩
 ·rw[if_neg (fun h=>h0 h.1)]at hf
  cases hf
  unfold oq
  go_enter Tryz.func57,Tryz.ntmps57
  go_wp2_with fail
  go_end0
  exact⟨rfl,HS.out.alloc _,World.grownBy_alloc _ _ _⟩
def BN.f(l0:List (aN))(l1:List (aN)):Option (List (aN)):=if l0.length+l1.length<3518437208883∧0<l1.length then some (l0++l1)else none
theorem BN.info:(Tryz.prog.info? 136).map (fun i=>(i.zero,i.size,i.bytes))=some (some (.agg #[(.int .i64 0),(.int .i64 0),(.int .i64 0),(.int .i64 0),(.int .i64 0)]),5,40):=by kernel_rfl
theorem BN.clip(A:Option Addr)(n c:Nat)(hA:0<n→∃ad,A=some ad)(hn:n≤9223372036854775807)(hc:n≤c)(w:World):
  Calls Tryz.prog 149 #[.slice A n c] w fun e w'=>e=.returned (.slice A n n)∧w'=w:=by
 have hs:∀W:World,(Instr.slice 30 (.slice A n c) none (some (.int .i64 (n:Int))) (some (.int .i64 (n:Int)))).run Tryz.prog W=.ok (.slice A n n) W:=by
  intro W;have ht:Tryz.prog.underlying 30=some (.slice (Tryz.prog.elem 30)):=by kernel_rfl
  have he:(sizeOf (Tryz.prog.elem 30)).run Tryz.prog W=.ok 5 W:=by kernel_rfl
  have e1:A.map (·.add 0)=A:=by cases A<;>simp[Addr.add_zero']
  simp[Instr.slice,run_underlying ht,Instr.sliceBounds,run_sliceBound,he,hc,Result.andThen,e1]
 go_enter Tryz.func149,Tryz.ntmps149
 go_wp2
 go_ret
 exact⟨rfl,rfl⟩
theorem BN.calls(A0:Option Addr)(c0:Nat)(l0:List (aN))(A1:Option Addr)(c1:Nat)(l1:List (aN))(r:List (aN))(w:World)(hr0:Kd.C fZ w A0 l0.length l0)(hc0:l0.length≤c0)(hr1:Kd.C fZ w A1 l1.length l1)(hc1:l1.length≤c1)(h:BN.f l0 l1=some r):
  Calls Tryz.prog 98 #[.slice A0 l0.length c0,.slice A1 l1.length c1] w fun e w'=>∃fE:Value,e=.returned (fE)∧Kd.R fZ 136 w' w.heap.size (fun _=>True) fE r∧Below w.heap.size w w':=by
 unfold BN.f at h
 split at h
 case isFalse=>cases h
 rename_i hb
 cases h
 obtain⟨hb1,hb2⟩:=hb;have hl0:=hr0.2.1;obtain⟨ad1,hA1,_⟩:=hr1.2.2 hb2;subst hA1;obtain⟨news,hRn,hcn⟩:=pQ.QG hr1;have hA0:0<l0.length→∃ad,A0=some ad:=fun h=>by obtain⟨ad,e,_⟩:=hr0.2.2 h;exact⟨ad,e⟩
 obtain⟨olds,hRo,hco⟩:∃olds,fC (fZ.K w) 5 l0 olds∧∀ad,A0=some ad→∀j u,olds[j]? =some u→w.cell? (ad.add j)=some u:=by
  cases A0 with
  |none=>
   have:l0=[]:=by
    cases l0 with
    |nil=>rfl
    |cons x r=>obtain⟨ad,e⟩:=hA0 (by simp);cases e
   subst this;exact⟨[],fC.none _ _,fun ad e=>by cases e⟩
  |some ad=>
   obtain⟨olds,h1,h2⟩:=pQ.QG hr0;exact⟨olds,h1,fun ad' e=>by cases e;exact h2⟩
 have hone:∀u ∈ news,u.oneCell'=true:=by
  intro u hu;obtain⟨j,hj,rfl⟩:=List.getElem_of_mem hu;have hlen:=hRn.1;have hsz:fZ.sz=5:=rfl;rw[hsz]at hlen;have hq:j/5<l1.length:=by omega
  have h2:=hRn.2 (j/5) _ (List.getElem?_eq_getElem hq);refine fZ.su h2 _ ?_;rw[hsz];have:j=j/5*5+j%5:=by omega
  rw[List.mem_iff_getElem];refine⟨j%5,by rw[List.length_take,List.length_drop];omega,?_⟩;rw[List.getElem_take,List.getElem_drop]
  congr 1;omega
 obtain⟨i0,hi,hz0,hz1,hz2⟩:=info_parts BN.info
 have hrep:fC (fZ.M w w.heap.size (fun _=>False)) 5 (l0++l1) (olds++news):=by
  have hm:∀(x:aN) (cs:List Value),fZ.K w x cs→fZ.M w w.heap.size (fun _=>False) x cs:=fun x cs hx=>by
   rw[VA hx];exact M7 _ _ _ x
  exact Kd.WW (hRo.o9 hm) (hRn.o9 hm)
 have HNO:=af.mk (show A0=none→l0.length=0∧l0.length=0 from fun e=>by
  rcases Nat.eq_zero_or_pos l0.length with h|h
  ·exact⟨h,h⟩
  ·obtain⟨ad,e'⟩:=hA0 h;rw[e]at e';cases e')
 have HREP:=af.mk hrep;have HCO:=af.mk hco;have HCN:=af.mk hcn;have HLO:=af.mk hRo.1;have pG:=af.mk hRn.1;have HONE:=af.mk hone;have HA0:=af.mk hA0;clear hrep hco hcn hRo hRn hone hr0 hr1 hA0
 go_enter Tryz.func98,Tryz.ntmps98
 go_wp2_with (first
  |(go_at_call 149;refine(BN.clip A0 l0.length c0 HA0.out hl0 hc0 _).mono ?_;rintro e w2 ⟨rfl,rfl⟩)
  |(at_builtin;refine wpList_append_grows _ rfl _ _ 30 rfl 136 i0 _ 5 40 Tryz.underlying30 hi hz0 hz1 hz2 rfl (by decide) A0 l0.length l0.length olds rfl HNO.out HLO.out (fun b hb=>HCO.out b hb) ad1 l1.length c1 news rfl pG.out HCN.out HONE.out (by omega) (by unfold maxLen;omega) (by omega) ?_;intro v w3 ho hg;have HO:=af.mk ho;have HG:=af.mk hg;clear ho hg))
 go_ret
 refine⟨v,rfl,⟨fun _ _=>trivial,olds++news,by rw[List.length_append];exact HO.out,?_⟩,vN (Below.refl _ _) none (Nat.le_refl _) HG.out (fun k e=>by cases e)⟩;refine HREP.out.o9 (fun x cs hx=>?_);rw[ZG hx];exact M7 _ _ _ x
end Go.Proofs.YtdcddenojjdmjaaGreatDoor.T
