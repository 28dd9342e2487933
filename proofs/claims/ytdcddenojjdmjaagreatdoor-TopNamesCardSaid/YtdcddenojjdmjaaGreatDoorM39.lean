import Derived.Test.YtdcddenojjdmjaaGreatDoorM38
set_option linter.all false
set_option maxHeartbeats 8000000
set_option maxRecDepth 100000
namespace Go.Proofs.YtdcddenojjdmjaaGreatDoor.T
open Go.RowKit Go.Proofs.YtdcddenojjdmjaaGreatDoorW.PrintWords Go.Proofs.YtdcddenojjdmjaaGreatDoorW.PrintLast Go.Proofs.YtdcddenojjdmjaaGreatDoorW.PrintMore
theorem Tg:∀(k n:Nat) (s:ByteArray),n<10 ^ (k+1)→n≤1000000000→s.size+k≤1000→∃r,oQ.l0 (k+1) (n:Int) s=some r∧r.size≤s.size+k+1
 |k,n,s,hn,hm,hs=>by
  have h1:∀a:Int,(strOfNums [a]).size=1:=fun a=>by rw[strOfNums_size];rfl
  have hd:wrap64 (Int.tdiv (n:Int) 10)=((n/10:Nat):Int):=by
   have e:Int.tdiv (n:Int) 10=((n/10:Nat):Int):=by rw[Int.tdiv_eq_ediv_of_nonneg (by omega)];omega
   rw[e];unfold wrap64;omega
  simp only[oQ.l0,Option.bind_some];rw[if_pos (by rw[h1];omega),hd]
  by_cases h:n/10=0
  ·rw[if_pos (by omega)];exact⟨_,rfl,by rw[ByteArray.size_append,h1];omega⟩
  ·rw[if_neg (by omega)]
   cases k with
   |zero=>exact absurd hn (by omega)
   |succ k=>
    obtain⟨r,hr,hl⟩:=Tg k (n/10) (strOfNums [(48+((Int.tmod (n:Int) 10)%256))%256]++s) (by rw[Nat.pow_succ]at hn;omega) (by omega) (by rw[ByteArray.size_append,h1];omega);exact⟨r,hr,by rw[ByteArray.size_append,h1]at hl;omega⟩
def Ah(n:Nat):ByteArray:=(oQ.f 20 n).getD ByteArray.empty
theorem Tf(n:Nat)(h:n≤1000000000):oQ.f 20 n=some (Ah n)∧(Ah n).size≤1000:=by
 obtain⟨r,hr,hl⟩:=Tg 19 n ⟨#[]⟩ (Nat.lt_of_le_of_lt h (by decide)) h (by show 0+19≤1000;omega);have e:oQ.f 20 n=some r:=hr;unfold Ah;rw[e];exact⟨rfl,Nat.le_trans hl (by show 0+19+1≤1000;omega)⟩
def IW(h:List aj)(s:ByteArray):Nat:=h.findIdx fun y=>y.f2.toList==s.toList
def IX(h:List aj)(s:ByteArray):Nat:=h.findIdx fun y=>y.f3.toList==s.toList
def oK(h:List aj)(x:aj):aj:=⟨x.f0,x.f1,if x.f2.toList=[]then x.f2 else⟨#[107]⟩++Ah (IW h x.f2),if x.f3.toList=[]then x.f3 else⟨#[118]⟩++Ah (IX h x.f3)⟩
def BJ.f(h:List aj):Option (List aj):=if h.length≤1000000 then some (h.map (oK h))else none
theorem Ti{α:Type}{p:α→Bool}{l:List α}{i:Nat}(hi:i<l.length)(hp:p (l[i]'hi)=true):l.findIdx p≤i∧(∀j (hj:j<l.length),j<l.findIdx p→p (l[j]'hj)=false)∧∀hj:l.findIdx p<l.length,p (l[l.findIdx p]'hj)=true:=
 ⟨Nat.le_of_not_lt (fun h=>by have:=List.not_of_lt_findIdx h;rw[hp]at this;cases this),(fun j hj h=>List.not_of_lt_findIdx h),fun hj=>List.findIdx_getElem⟩
def Sh.S(w:World)(g:Nat)(cs:Array Value)(v:Value)(xs:List aj)(W:World):Prop:=W.heap[g]? =some (.cells cs 67 (0,0))∧Kd.R dw 67 W w.heap.size (fun k=>True∧k≠g) v xs∧Below w.heap.size w W∧w.heap.size≤g
theorem Sh.S.below{w:World}{g:Nat}{cs:Array Value}{v:Value}{xs:List aj}{W W':World}(h:Sh.S w g cs v xs W)(hb:Below W.heap.size W W'):Sh.S w g cs v xs W':=⟨aK h.1 hb,Kd.gD h.2.1 hb,av h.2.2.1 hb,h.2.2.2⟩
theorem Sh.S.drewN{w:World}{g:Nat}{cs:Array Value}{v:Value}{xs:List aj}{W:World}(h:Sh.S w g cs v xs W)(n:Nat):Sh.S w g cs v xs (W.drewN n):=⟨aU h.1 n,Kd.dK h.2.1 n,dm h.2.2.1 n,h.2.2.2⟩
theorem Sh.S.set{w:World}{g:Nat}{cs:Array Value}{v:Value}{xs:List aj}{W:World}(h:Sh.S w g cs v xs W)(i:Nat)(u:Value):Sh.S w g (cs.setIfInBounds i u) v xs (W.setCell ⟨g,i,none⟩ u):=⟨dS h.1 u,Kd.aD h.2.1 (fun k hk=>hk.2) u,mI h.2.2.1 h.2.2.2,h.2.2.2⟩
theorem Sh.S.new{w wr:World}{cs:Array Value}{v:Value}{xs:List aj}(hO:Kd.R dw 67 wr w.heap.size (fun _=>True) v xs)(hB:Below w.heap.size w wr):Sh.S w wr.heap.size cs v xs (wr.alloc (.cells cs 67)):=⟨bI wr _,Kd.bX (Kd.Dh hO wr.heap.size (Nat.le_refl _)) _,ax hB _,hB.size⟩
def Sh.At(w:World)(l:List aj)(v3 v4:Value)(wr:World):Prop:=
 ∃i:Nat,i≤l.length∧v4=.int .i64 i∧Kd.R dw 67 wr w.heap.size (fun _=>True) v3 ((l.take i).map (oK l))∧Below w.heap.size w wr
def Sh.In(w:World)(g K:Nat)(cs:Array Value)(v:Value)(xs:List aj)(v6:Value)(wr:World):Prop:=∃j:Nat,j≤K∧v6=.int .i64 j∧Sh.S w g cs v xs wr
theorem BJ.calls(A0:Option Addr)(c0:Nat)(l0:List aj)(r:List aj)(w:World)(hr0:Kd.C dw w A0 l0.length l0)(hc0:l0.length≤c0)(h:BJ.f l0=some r):
  Calls Tryz.prog 8 #[.slice A0 l0.length c0] w fun e w'=>∃fE:Value,e=.returned (fE)∧Kd.R dw 67 w' w.heap.size (fun _=>True) fE r∧Below w.heap.size w w':=by
 unfold BJ.f at h
 split at h
 case isFalse=>cases h
 rename_i hmax
 cases h
 have hlen:l0.length≤9223372036854775807:=by omega
 have HR:=af.mk hr0;have H0:=af.mk (show Sh.At w l0 (.slice none 0 0) (.int .i64 0) w from⟨0,by omega,rfl,Kd.dV _ _ _ _ _,Below.refl _ _⟩);clear hr0
 go_enter Tryz.func8,Tryz.ntmps8
 go_wp2_with fail
 go_loopw [3,4] (fun v3 v4 wr=>Sh.At w l0 v3 v4 wr) (fun _ v4 _=>l0.length-(intOf v4).toNat)
 case atStart=>exact H0.out
 case round=>
  obtain⟨i,hi,rfl,hO,hB⟩:=hrel;clear H0;obtain⟨Av,cv,rfl⟩:=Kd.fH hO;have HO:=af.mk hO;have HB:=af.mk hB;clear hO hB
  by_cases hlt:i<l0.length
  ·obtain⟨ad,hA,q0,q1,q2,q3⟩:=pW HR.out hlt HB.out
   cases hA
   have HT:=af.mk (show(l0.take (i+1)).map (oK l0)=(l0.take i).map (oK l0)++[oK l0 (l0[i]'hlt)] by rw[← List.take_append_getElem hlt,List.map_append];rfl);have pG:=af.mk (show((l0.take i).map (oK l0)).length≤i by rw[List.length_map];exact List.length_take_le _ _);have gK:=af.mk (Ti (p:=fun y=>y.f2.toList==(l0[i]'hlt).f2.toList) hlt (beq_self_eq_true _));have gq:=af.mk (Ti (p:=fun y=>y.f3.toList==(l0[i]'hlt).f3.toList) hlt (beq_self_eq_true _));have oO:=af.mk (show ∀W,Below w.heap.size w W→W.cell? ⟨(ad.add (i*4)).block,(ad.add (i*4)).off+3,none⟩=some (.string (l0[i]'hlt).f3)from fun W hb=>(pW HR.out hlt hb).elim fun a ha=>by obtain⟨e,_,_,_,h⟩:=ha;cases e;exact h);obtain⟨⟨x0,x1,x2,x3⟩,hx⟩:∃x,x=l0[i]'hlt:=⟨_,rfl⟩;rw[← hx]at q0 q1 q2 q3 HT gK gq oO;clear hx;simp only at q0 q1 q2 q3 gK gq oO;obtain⟨K2,hK2⟩:∃K,K=IW l0 x2:=⟨_,rfl⟩;obtain⟨K3,hK3⟩:∃K,K=IX l0 x3:=⟨_,rfl⟩;have HF2:=af.mk hK2;have HF3:=af.mk hK3;replace gK:=af.mk (show K2≤i∧(∀j (hj:j<l0.length),j<K2→((l0[j]'hj).f2.toList==x2.toList)=false)∧∀hj:K2<l0.length,((l0[K2]'hj).f2.toList==x2.toList)=true by rw[hK2];exact gK.out);replace gq:=af.mk (show K3≤i∧(∀j (hj:j<l0.length),j<K3→((l0[j]'hj).f3.toList==x3.toList)=false)∧∀hj:K3<l0.length,((l0[K3]'hj).f3.toList==x3.toList)=true by rw[hK3];exact gq.out);clear hK2 hK3;have HG2:=af.mk (Tf K2 (by have:=gK.out.1;omega));have vV:=af.mk (Tf K3 (by have:=gq.out.1;omega));have hE:oK l0 ⟨x0,x1,x2,x3⟩=⟨x0,x1,if x2.toList=[]then x2 else⟨#[107]⟩++Ah K2,if x3.toList=[]then x3 else⟨#[118]⟩++Ah K3⟩:=by rw[HF2.out,HF3.out];rfl
   clear HF2 HF3;obtain⟨f2,hf2⟩:∃f,f=Ah K2:=⟨_,rfl⟩;obtain⟨f3,hf3⟩:∃f,f=Ah K3:=⟨_,rfl⟩;rw[← hf2]at hE HG2;rw[← hf3]at hE vV;clear hf2 hf3;obtain⟨pre,hpre⟩:∃pre,pre=(l0.take i).map (oK l0):=⟨_,rfl⟩;rw[← hpre]at HO HT pG;rw[← hpre];clear hpre;have rY:=af.mk (show(pre.length+1)*48≤140737488355328 by have:=pG.out;omega);have HS:=af.mk (Sh.S.new (cs:=#[.int .i64 x0,.int .i64 x1,.string x2,.string x3]) HO.out HB.out);have hg:=ax HB.out (.cells #[.int .i64 x0,.int .i64 x1,.string x2,.string x3] 67);generalize hgg:wr.heap.size=g at HS
   cases h2:x2.toList.isEmpty with
   |true=>
    cases h3:x3.toList.isEmpty with
    |true=>
     have HE:=af.mk (hE.trans (by rw[if_pos (List.isEmpty_iff.1 h2),if_pos (List.isEmpty_iff.1 h3)]):oK l0 ⟨x0,x1,x2,x3⟩=⟨x0,x1,x2,x3⟩);clear hE
     go_wp2_with ((with_reducible refine jN (b:=.append) (xs:=#[.tmp 55,.tmp 57]) rfl ?_);at_builtin;refine Kd.kY dw (w0:=w) w.heap.size rfl (.tmp 55) (.tmp 57) 22 67 (.agg #[(.int .i64 0),(.int .i64 0),(.string ⟨#[]⟩),(.string ⟨#[]⟩)]) 48 rfl Tryz.underlying22 wO rfl (by decide) (by omega) (.slice Av pre.length cv) pre ⟨x0,x1,x2,x3⟩ [.int .i64 x0,.int .i64 x1,.string x2,.string x3] (fun _=>True) (fun _=>False) rfl (by first|(go_simp;done)|(go_simp;rfl)) ?aP (fun _ h=>h.elim) (fun _ _=>trivial) ?aO ?aB ?aS rY.out ?_;(case aP=>exact yG _ _ _ ⟨x0,x1,x2,x3⟩);(case aO=>exact Kd.bY HS.out.2.1 (fun _ _=>trivial));(case aB=>exact HS.out.2.2.1);(case aS=>exact HS.out.2.2.1.size);intro v9 w9 qM oI hg9 DF;have HO9:=af.mk qM;have HB9:=af.mk oI;clear qM oI hg9 DF)
     go_roundw
     case rel=>exact⟨i+1,by omega,by go_num,by rw[HT.out,HE.out];exact HO9.out,HB9.out⟩
     case measure=>simp[intOf];omega
    |false=>
     have HE:=af.mk (hE.trans (by rw[if_pos (List.isEmpty_iff.1 h2),if_neg (fun e=>by rw[e]at h3;cases h3)]):oK l0 ⟨x0,x1,x2,x3⟩=⟨x0,x1,x2,((⟨#[118]⟩:ByteArray)++f3)⟩);clear hE
     go_wp2_with fail
     clear HO HB hg hgg q0 q1 q2 q3;revert HS;generalize wr.alloc (.cells #[.int .i64 x0,.int .i64 x1,.string x2,.string x3] 67)=W0;intro HS
     go_loopw [7] (fun v7 wq=>Sh.In w g K3 #[.int .i64 x0,.int .i64 x1,.string x2,.string x3] (.slice Av pre.length cv) pre v7 wq) (fun v7 _=>K3-(intOf v7).toNat)
     case atStart=>exact⟨0,Nat.zero_le _,rfl,HS.out⟩
     case round=>
      clear HS;obtain⟨j,hj,rfl,hS⟩:=hrel;have HS:=af.mk hS;clear hS;have hjl:j<l0.length:=by have:=gq.out.1;omega
      obtain⟨ad',hA',p0,p1,p2,p3⟩:=pW HR.out hjl HS.out.2.2.1
      cases hA'
      have HJ:=af.mk (show j<K3→((l0[j]'hjl).f3.toList==x3.toList)=false from gq.out.2.1 j hjl);have HJ2:=af.mk (show j=K3→((l0[j]'hjl).f3.toList==x3.toList)=true from fun e=>by subst e;exact gq.out.2.2 hjl);obtain⟨⟨z0,z1,z2,z3⟩,hz⟩:∃z,z=l0[j]'hjl:=⟨_,rfl⟩;rw[← hz]at p0 p1 p2 p3 HJ HJ2;clear hz;simp only at p0 p1 p2 p3 HJ HJ2;have u2:=(ah HS.out.1 2).trans (rfl:_=some (Value.string x2));have u3:=(ah HS.out.1 3).trans (rfl:_=some (Value.string x3));have qi:=oO.out _ HS.out.2.2.1
      by_cases hjk:j<K3
      ·have hq:=HJ.out hjk;have hq':(z3.toList != x3.toList)=true:=by rw[bne,hq];rfl
       go_wp2_with fail
       go_quiet (fail)
       go_wp2_with fail
       go_roundw
       case rel=>exact⟨j+1,by omega,by go_num,HS.out.drewN _⟩
       case measure=>simp[intOf];omega
      ·have hq:=HJ2.out (by omega);obtain rfl:j=K3:=by omega
       have hq':(z3.toList != x3.toList)=false:=by rw[bne,hq];rfl
       clear HJ HJ2 hjk
       go_wp2_with fail
       go_quiet (fail)
       rename_i nq
       go_wp2_with fail
       have kE:=af.mk (HS.out.drewN nq);have hsz:1+f3.size≤9223372036854775807:=by have:=vV.out.2;omega
       clear p0 p1 p2 p3 u2 u3 qi HS;refine(oQ.calls 20 _ f3 _ vV.out.1).mono ?_;rintro e w2 ⟨rfl,hb⟩;have HS2:=af.mk (kE.out.below hb);clear hb kE;have HS:=af.mk (show Sh.S w g #[.int .i64 x0,.int .i64 x1,.string x2,.string ((⟨#[118]⟩:ByteArray)++f3)] (.slice Av pre.length cv) pre (w2.setCell ⟨g,3,none⟩ (.string ((⟨#[118]⟩:ByteArray)++f3)))from HS2.out.set 3 _);have c0:w2.cell? ⟨g,0,none⟩=some (.int .i64 x0):=(ah HS2.out.1 0).trans rfl;have c1:w2.cell? ⟨g,1,none⟩=some (.int .i64 x1):=(ah HS2.out.1 1).trans rfl;have c2:w2.cell? ⟨g,2,none⟩=some (.string x2):=(ah HS2.out.1 2).trans rfl;have c3:w2.cell? ⟨g,3,none⟩=some (.string x3):=(ah HS2.out.1 3).trans rfl;have z2:=aA HS2.out.1 3
       go_wp2_with ((with_reducible refine jN (b:=.append) (xs:=#[.tmp 55,.tmp 57]) rfl ?_);at_builtin;refine Kd.kY dw (w0:=w) w.heap.size rfl (.tmp 55) (.tmp 57) 22 67 (.agg #[(.int .i64 0),(.int .i64 0),(.string ⟨#[]⟩),(.string ⟨#[]⟩)]) 48 rfl Tryz.underlying22 wO rfl (by decide) (by omega) (.slice Av pre.length cv) pre ⟨x0,x1,x2,((⟨#[118]⟩:ByteArray)++f3)⟩ [.int .i64 x0,.int .i64 x1,.string x2,.string ((⟨#[118]⟩:ByteArray)++f3)] (fun _=>True) (fun _=>False) rfl (by first|(go_simp;done)|(go_simp;rfl)) ?aP (fun _ h=>h.elim) (fun _ _=>trivial) ?aO ?aB ?aS rY.out ?_;(case aP=>exact yG _ _ _ ⟨x0,x1,x2,((⟨#[118]⟩:ByteArray)++f3)⟩);(case aO=>exact Kd.bY HS.out.2.1 (fun _ _=>trivial));(case aB=>exact HS.out.2.2.1);(case aS=>exact HS.out.2.2.1.size);intro v9 w9 qM oI hg9 DF;have HO9:=af.mk qM;have HB9:=af.mk oI;clear qM oI hg9 DF)
       go_roundw
       case rel=>exact⟨i+1,by omega,by go_num,by rw[HT.out,HE.out];exact HO9.out,HB9.out⟩
       case measure=>simp[intOf];omega
   |false=>
    cases h3:x3.toList.isEmpty with
    |true=>
     have HE:=af.mk (hE.trans (by rw[if_neg (fun e=>by rw[e]at h2;cases h2),if_pos (List.isEmpty_iff.1 h3)]):oK l0 ⟨x0,x1,x2,x3⟩=⟨x0,x1,((⟨#[107]⟩:ByteArray)++f2),x3⟩);clear hE
     go_wp2_with fail
     clear HO HB hg hgg q0 q1 q2 q3;revert HS;generalize wr.alloc (.cells #[.int .i64 x0,.int .i64 x1,.string x2,.string x3] 67)=W0;intro HS
     go_loopw [6] (fun v6 wq=>Sh.In w g K2 #[.int .i64 x0,.int .i64 x1,.string x2,.string x3] (.slice Av pre.length cv) pre v6 wq) (fun v6 _=>K2-(intOf v6).toNat)
     case atStart=>exact⟨0,Nat.zero_le _,rfl,HS.out⟩
     case round=>
      clear HS;obtain⟨j,hj,rfl,hS⟩:=hrel;have HS:=af.mk hS;clear hS;have hjl:j<l0.length:=by have:=gK.out.1;omega
      obtain⟨ad',hA',p0,p1,p2,p3⟩:=pW HR.out hjl HS.out.2.2.1
      cases hA'
      have HJ:=af.mk (show j<K2→((l0[j]'hjl).f2.toList==x2.toList)=false from gK.out.2.1 j hjl);have HJ2:=af.mk (show j=K2→((l0[j]'hjl).f2.toList==x2.toList)=true from fun e=>by subst e;exact gK.out.2.2 hjl);obtain⟨⟨z0,z1,z2,z3⟩,hz⟩:∃z,z=l0[j]'hjl:=⟨_,rfl⟩;rw[← hz]at p0 p1 p2 p3 HJ HJ2;clear hz;simp only at p0 p1 p2 p3 HJ HJ2;have u2:=(ah HS.out.1 2).trans (rfl:_=some (Value.string x2));have u3:=(ah HS.out.1 3).trans (rfl:_=some (Value.string x3))
      by_cases hjk:j<K2
      ·have hq:=HJ.out hjk;have hq':(z2.toList != x2.toList)=true:=by rw[bne,hq];rfl
       go_wp2_with fail
       go_quiet (fail)
       go_wp2_with fail
       go_roundw
       case rel=>exact⟨j+1,by omega,by go_num,HS.out.drewN _⟩
       case measure=>simp[intOf];omega
      ·have hq:=HJ2.out (by omega);obtain rfl:j=K2:=by omega
       have hq':(z2.toList != x2.toList)=false:=by rw[bne,hq];rfl
       clear HJ HJ2 hjk
       go_wp2_with fail
       go_quiet (fail)
       rename_i nq
       go_wp2_with fail
       have kE:=af.mk (HS.out.drewN nq);have hsz:1+f2.size≤9223372036854775807:=by have:=HG2.out.2;omega
       clear p0 p1 p2 p3 u2 u3 HS;refine(oQ.calls 20 _ f2 _ HG2.out.1).mono ?_;rintro e w2 ⟨rfl,hb⟩;have HS2:=af.mk (kE.out.below hb);clear hb kE;have HS:=af.mk (show Sh.S w g #[.int .i64 x0,.int .i64 x1,.string ((⟨#[107]⟩:ByteArray)++f2),.string x3] (.slice Av pre.length cv) pre (w2.setCell ⟨g,2,none⟩ (.string ((⟨#[107]⟩:ByteArray)++f2)))from HS2.out.set 2 _);have c0:w2.cell? ⟨g,0,none⟩=some (.int .i64 x0):=(ah HS2.out.1 0).trans rfl;have c1:w2.cell? ⟨g,1,none⟩=some (.int .i64 x1):=(ah HS2.out.1 1).trans rfl;have c2:w2.cell? ⟨g,2,none⟩=some (.string x2):=(ah HS2.out.1 2).trans rfl;have c3:w2.cell? ⟨g,3,none⟩=some (.string x3):=(ah HS2.out.1 3).trans rfl;have z2:=aA HS2.out.1 2
       go_wp2_with ((with_reducible refine jN (b:=.append) (xs:=#[.tmp 55,.tmp 57]) rfl ?_);at_builtin;refine Kd.kY dw (w0:=w) w.heap.size rfl (.tmp 55) (.tmp 57) 22 67 (.agg #[(.int .i64 0),(.int .i64 0),(.string ⟨#[]⟩),(.string ⟨#[]⟩)]) 48 rfl Tryz.underlying22 wO rfl (by decide) (by omega) (.slice Av pre.length cv) pre ⟨x0,x1,((⟨#[107]⟩:ByteArray)++f2),x3⟩ [.int .i64 x0,.int .i64 x1,.string ((⟨#[107]⟩:ByteArray)++f2),.string x3] (fun _=>True) (fun _=>False) rfl (by first|(go_simp;done)|(go_simp;rfl)) ?aP (fun _ h=>h.elim) (fun _ _=>trivial) ?aO ?aB ?aS rY.out ?_;(case aP=>exact yG _ _ _ ⟨x0,x1,((⟨#[107]⟩:ByteArray)++f2),x3⟩);(case aO=>exact Kd.bY HS.out.2.1 (fun _ _=>trivial));(case aB=>exact HS.out.2.2.1);(case aS=>exact HS.out.2.2.1.size);intro v9 w9 qM oI hg9 DF;have HO9:=af.mk qM;have HB9:=af.mk oI;clear qM oI hg9 DF)
       go_roundw
       case rel=>exact⟨i+1,by omega,by go_num,by rw[HT.out,HE.out];exact HO9.out,HB9.out⟩
       case measure=>simp[intOf];omega
    |false=>
     have HE:=af.mk (hE.trans (by rw[if_neg (fun e=>by rw[e]at h2;cases h2),if_neg (fun e=>by rw[e]at h3;cases h3)]):oK l0 ⟨x0,x1,x2,x3⟩=⟨x0,x1,((⟨#[107]⟩:ByteArray)++f2),((⟨#[118]⟩:ByteArray)++f3)⟩);clear hE
     go_wp2_with fail
     clear HO HB hg hgg q0 q1 q2 q3;revert HS;generalize wr.alloc (.cells #[.int .i64 x0,.int .i64 x1,.string x2,.string x3] 67)=W0;intro HS
     go_loopw [6] (fun v6 wq=>Sh.In w g K2 #[.int .i64 x0,.int .i64 x1,.string x2,.string x3] (.slice Av pre.length cv) pre v6 wq) (fun v6 _=>K2-(intOf v6).toNat)
     case atStart=>exact⟨0,Nat.zero_le _,rfl,HS.out⟩
     case round=>
      clear HS;obtain⟨j,hj,rfl,hS⟩:=hrel;have HS:=af.mk hS;clear hS;have hjl:j<l0.length:=by have:=gK.out.1;omega
      obtain⟨ad',hA',p0,p1,p2,p3⟩:=pW HR.out hjl HS.out.2.2.1
      cases hA'
      have HJ:=af.mk (show j<K2→((l0[j]'hjl).f2.toList==x2.toList)=false from gK.out.2.1 j hjl);have HJ2:=af.mk (show j=K2→((l0[j]'hjl).f2.toList==x2.toList)=true from fun e=>by subst e;exact gK.out.2.2 hjl);obtain⟨⟨z0,z1,z2,z3⟩,hz⟩:∃z,z=l0[j]'hjl:=⟨_,rfl⟩;rw[← hz]at p0 p1 p2 p3 HJ HJ2;clear hz;simp only at p0 p1 p2 p3 HJ HJ2;have u2:=(ah HS.out.1 2).trans (rfl:_=some (Value.string x2));have u3:=(ah HS.out.1 3).trans (rfl:_=some (Value.string x3))
      by_cases hjk:j<K2
      ·have hq:=HJ.out hjk;have hq':(z2.toList != x2.toList)=true:=by rw[bne,hq];rfl
       go_wp2_with fail
       go_quiet (fail)
       go_wp2_with fail
       go_roundw
       case rel=>exact⟨j+1,by omega,by go_num,HS.out.drewN _⟩
       case measure=>simp[intOf];omega
      ·have hq:=HJ2.out (by omega);obtain rfl:j=K2:=by omega
       have hq':(z2.toList != x2.toList)=false:=by rw[bne,hq];rfl
       clear HJ HJ2 hjk
       go_wp2_with fail
       go_quiet (fail)
       rename_i nq
       go_wp2_with fail
       have kE:=af.mk (HS.out.drewN nq);have hsz:1+f2.size≤9223372036854775807:=by have:=HG2.out.2;omega
       clear p0 p1 p2 p3 u2 u3 HS;refine(oQ.calls 20 _ f2 _ HG2.out.1).mono ?_;rintro e w2 ⟨rfl,hb⟩;have HS2:=af.mk (kE.out.below hb);clear hb kE;have HS:=af.mk (show Sh.S w g #[.int .i64 x0,.int .i64 x1,.string ((⟨#[107]⟩:ByteArray)++f2),.string x3] (.slice Av pre.length cv) pre (w2.setCell ⟨g,2,none⟩ (.string ((⟨#[107]⟩:ByteArray)++f2)))from HS2.out.set 2 _);have c0:w2.cell? ⟨g,0,none⟩=some (.int .i64 x0):=(ah HS2.out.1 0).trans rfl;have c1:w2.cell? ⟨g,1,none⟩=some (.int .i64 x1):=(ah HS2.out.1 1).trans rfl;have c2:w2.cell? ⟨g,2,none⟩=some (.string x2):=(ah HS2.out.1 2).trans rfl;have c3:w2.cell? ⟨g,3,none⟩=some (.string x3):=(ah HS2.out.1 3).trans rfl;have z2:=aA HS2.out.1 2
       go_wp2_with fail
       clear HS2 c0 c1 c2 c3 z2;revert HS;generalize w2.setCell ⟨g,2,none⟩ (.string ((⟨#[107]⟩:ByteArray)++f2))=W1;intro HS
       go_loopw [7] (fun v7 wq=>Sh.In w g K3 #[.int .i64 x0,.int .i64 x1,.string ((⟨#[107]⟩:ByteArray)++f2),.string x3] (.slice Av pre.length cv) pre v7 wq) (fun v7 _=>K3-(intOf v7).toNat)
       case atStart=>exact⟨0,Nat.zero_le _,rfl,HS.out⟩
       case round=>
        clear HS;obtain⟨j,hj,rfl,hS⟩:=hrel;have HS:=af.mk hS;clear hS;have hjl:j<l0.length:=by have:=gq.out.1;omega
        obtain⟨ad',hA',p0,p1,p2,p3⟩:=pW HR.out hjl HS.out.2.2.1
        cases hA'
        have HJ:=af.mk (show j<K3→((l0[j]'hjl).f3.toList==x3.toList)=false from gq.out.2.1 j hjl);have HJ2:=af.mk (show j=K3→((l0[j]'hjl).f3.toList==x3.toList)=true from fun e=>by subst e;exact gq.out.2.2 hjl);obtain⟨⟨z0,z1,z2,z3⟩,hz⟩:∃z,z=l0[j]'hjl:=⟨_,rfl⟩;rw[← hz]at p0 p1 p2 p3 HJ HJ2;clear hz;simp only at p0 p1 p2 p3 HJ HJ2;have u2:=(ah HS.out.1 2).trans (rfl:_=some (Value.string ((⟨#[107]⟩:ByteArray)++f2)));have u3:=(ah HS.out.1 3).trans (rfl:_=some (Value.string x3));have qi:=oO.out _ HS.out.2.2.1
        by_cases hjk:j<K3
        ·have hq:=HJ.out hjk;have hq':(z3.toList != x3.toList)=true:=by rw[bne,hq];rfl
         go_wp2_with fail
         go_quiet (fail)
         go_wp2_with fail
         go_roundw
         case rel=>exact⟨j+1,by omega,by go_num,HS.out.drewN _⟩
         case measure=>simp[intOf];omega
        ·have hq:=HJ2.out (by omega);obtain rfl:j=K3:=by omega
         have hq':(z3.toList != x3.toList)=false:=by rw[bne,hq];rfl
         clear HJ HJ2 hjk
         go_wp2_with fail
         go_quiet (fail)
         rename_i nq
         go_wp2_with fail
         have kE:=af.mk (HS.out.drewN nq);have hsz:1+f3.size≤9223372036854775807:=by have:=vV.out.2;omega
         clear p0 p1 p2 p3 u2 u3 qi HS;refine(oQ.calls 20 _ f3 _ vV.out.1).mono ?_;rintro e w2 ⟨rfl,hb⟩;have HS2:=af.mk (kE.out.below hb);clear hb kE;have HS:=af.mk (show Sh.S w g #[.int .i64 x0,.int .i64 x1,.string ((⟨#[107]⟩:ByteArray)++f2),.string ((⟨#[118]⟩:ByteArray)++f3)] (.slice Av pre.length cv) pre (w2.setCell ⟨g,3,none⟩ (.string ((⟨#[118]⟩:ByteArray)++f3)))from HS2.out.set 3 _);have c0:w2.cell? ⟨g,0,none⟩=some (.int .i64 x0):=(ah HS2.out.1 0).trans rfl;have c1:w2.cell? ⟨g,1,none⟩=some (.int .i64 x1):=(ah HS2.out.1 1).trans rfl;have c2:w2.cell? ⟨g,2,none⟩=some (.string ((⟨#[107]⟩:ByteArray)++f2)):=(ah HS2.out.1 2).trans rfl;have c3:w2.cell? ⟨g,3,none⟩=some (.string x3):=(ah HS2.out.1 3).trans rfl;have z2:=aA HS2.out.1 3
         go_wp2_with ((with_reducible refine jN (b:=.append) (xs:=#[.tmp 55,.tmp 57]) rfl ?_);at_builtin;refine Kd.kY dw (w0:=w) w.heap.size rfl (.tmp 55) (.tmp 57) 22 67 (.agg #[(.int .i64 0),(.int .i64 0),(.string ⟨#[]⟩),(.string ⟨#[]⟩)]) 48 rfl Tryz.underlying22 wO rfl (by decide) (by omega) (.slice Av pre.length cv) pre ⟨x0,x1,((⟨#[107]⟩:ByteArray)++f2),((⟨#[118]⟩:ByteArray)++f3)⟩ [.int .i64 x0,.int .i64 x1,.string ((⟨#[107]⟩:ByteArray)++f2),.string ((⟨#[118]⟩:ByteArray)++f3)] (fun _=>True) (fun _=>False) rfl (by first|(go_simp;done)|(go_simp;rfl)) ?aP (fun _ h=>h.elim) (fun _ _=>trivial) ?aO ?aB ?aS rY.out ?_;(case aP=>exact yG _ _ _ ⟨x0,x1,((⟨#[107]⟩:ByteArray)++f2),((⟨#[118]⟩:ByteArray)++f3)⟩);(case aO=>exact Kd.bY HS.out.2.1 (fun _ _=>trivial));(case aB=>exact HS.out.2.2.1);(case aS=>exact HS.out.2.2.1.size);intro v9 w9 qM oI hg9 DF;have HO9:=af.mk qM;have HB9:=af.mk oI;clear qM oI hg9 DF)
         go_roundw
         case rel=>exact⟨i+1,by omega,by go_num,by rw[HT.out,HE.out];exact HO9.out,HB9.out⟩
         case measure=>simp[intOf];omega
  ·obtain rfl:i=l0.length:=by omega
   rw[List.take_length]at HO;rw[List.length_map,List.take_length]
   go_wp2_with fail
   go_ret
   exact⟨_,rfl,by simpa using HO.out,HB.out⟩
end Go.Proofs.YtdcddenojjdmjaaGreatDoor.T
