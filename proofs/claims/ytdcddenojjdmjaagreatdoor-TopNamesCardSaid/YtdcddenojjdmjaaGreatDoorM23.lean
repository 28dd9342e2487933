import Derived.Test.YtdcddenojjdmjaaGreatDoorM22
set_option linter.all false
set_option maxHeartbeats 8000000
set_option maxRecDepth 100000
namespace Go.Proofs.YtdcddenojjdmjaaGreatDoor.T
open Go.RowKit Go.Proofs.YtdcddenojjdmjaaGreatDoorW.PrintWords Go.Proofs.YtdcddenojjdmjaaGreatDoorW.PrintLast Go.Proofs.YtdcddenojjdmjaaGreatDoorW.PrintMore
theorem QF:(Tryz.prog.info? 3).map (fun i=>(i.zero,i.size,i.bytes))=some (some (.int .i64 0),1,8):=by kernel_rfl
def zu(K:List Int)(n:Int)(s:bW):Bool:=s.f1==n&&K.contains s.f0
theorem Z8(x:bW)(A2:Option Addr)(c2 gn gl b:Nat)(K:List Int)(n:Int)(w:World)(hn:w.heap[gn]? =some (.cells #[.int .i64 n] 3 (0,0)))(hl:w.heap[gl]? =some (.cells #[.map (some b)] 131 (0,0)))(hS:iW b K w)(hx:qC x.f0):
  Calls Tryz.prog 103 #[.agg #[.int .i64 x.f0,.int .i64 x.f1,.slice A2 x.f2.length c2],.pointer (some ⟨gn,0,none⟩),.pointer (some ⟨gl,0,none⟩)] w fun e w'=>e=.returned (.bool (zu K n x))∧Below w.heap.size w w':=by
 obtain⟨x0,x1,x2⟩:=x;simp only at hx ⊢;have ln:=iB hn;have ll:=iB hl;have cn:w.cell? ⟨gn,0,none⟩=some (.int .i64 n):=(ah hn 0).trans rfl;have cl:w.cell? ⟨gl,0,none⟩=some (.map (some b)):=(ah hl 0).trans rfl;have hk:=Vz (hS.alloc (.cells #[.int .i64 x0,.int .i64 x1,.slice A2 x2.length c2] 189)) hx;clear hn hl hS;unfold zu;simp only
 cases h1:(x1==n)with
 |true=>
  simp only[Bool.true_and];generalize K.contains x0=c at hk ⊢
  go_enter Tryz.func103,Tryz.ntmps103
  go_wp2_with fail
  go_ret
  exact⟨rfl,ax (Below.refl _ _) _⟩
 |false=>
  simp only[Bool.false_and];clear hk
  go_enter Tryz.func103,Tryz.ntmps103
  go_wp2_with fail
  go_ret
  exact⟨rfl,ax (Below.refl _ _) _⟩
theorem Wy(n:Int)(g3 gl b c0:Nat)(A0:Option Addr)(l:List bW)(K:List Int)(w0 w:World)(hr:Kd.C nP w0 A0 l.length l)(hc0:l.length≤c0)(hwf:∀s ∈ l,qC s.f0∧qC s.f1)(hB:Below w0.heap.size w0 w)
  (h3:w.heap[g3]? =some (.cells #[.slice A0 l.length c0] 116 (0,0))) (hl:w.heap[gl]? =some (.cells #[.map (some b)] 131 (0,0))) (hS:iW b K w):
  Calls Tryz.prog 101 #[.int .i64 n,.pointer (some ⟨g3,0,none⟩),.pointer (some ⟨gl,0,none⟩)] w fun e w'=>e=.returned (.bool (l.any (zu K n)))∧Below w.heap.size w w':=by
 have HR:=af.mk hr;have HW:=af.mk hwf;have l3:=iB h3;have c3:w.cell? ⟨g3,0,none⟩=some (.slice A0 l.length c0):=(ah h3 0).trans rfl;have kn:=bI w (.cells #[.int .i64 n] 3);have HB:=af.mk (ax hB (.cells #[.int .i64 n] 3));have HK:=af.mk (And.intro kn (And.intro (ay hl (.cells #[.int .i64 n] 3)) (hS.alloc (.cells #[.int .i64 n] 3))));have hmf:∀(fn:Fn) (first cap:Array Value) (w:World),(Instr.makeFunc fn first cap).run Tryz.prog w=.ok (.func fn first cap) w:=fun _ _ _ _=>rfl
 clear hr hwf hB h3 hl hS kn;generalize hq:l.any (zu K n)=q;have HQ:=af.mk hq;clear hq
 go_enter Tryz.func101,Tryz.ntmps101
 go_wp2_with (go_at_call 102;refine(stAny 103 #[.pointer (some ⟨w.heap.size,0,none⟩),.pointer (some ⟨gl,0,none⟩)] (mO Tryz.func103 (by kernel_rfl) rfl) A0 c0 l (zu K n) (w.alloc (.cells #[.int .i64 n] 3)) _ (Kd.dN HR.out HB.out) hc0 (fun W'=>Below (w.alloc (.cells #[.int .i64 n] 3)).heap.size (w.alloc (.cells #[.int .i64 n] 3)) W') (Below.refl _ _) (fun _ h=>h) (fun x A2 c2 W' hx hb=>((Z8 x A2 c2 w.heap.size gl b K n W' (aK HK.out.1 hb) (aK HK.out.2.1 hb) (HK.out.2.2.below hb) (HW.out x hx).1).mono (fun e w2 h=>⟨h.1,hb.trans (h.2.mono hb.size)⟩)))).mono ?_;rw[HQ.out];rintro e w2 ⟨rfl,h2⟩;have H2:=af.mk h2;clear h2)
 go_ret
 exact⟨rfl,av (ax (Below.refl _ _) _) H2.out⟩
def zC(l:List bW):Nat→List Int→List Int→List Int×Bool
 |0,_,_=>([],false)
 |m+1,K,out=>if K=[]then(out,true)else match K.find? (fun n=> !(l.any (zu K n)))with
  |some n=>zC l m (K.erase n) (out++[n])
  |none=>([],false)
def mX(nodes:List Int):List Int:=nodes.foldl (fun K n=>iM n K) []
def CB.f(l0:List Int)(l1:List bW):Option (List Int×Bool):=
 if l0.length≤100000∧(l0.all fun n=>(Lit.int .i64 n).wf)=true∧(l1.all fun s=>(Lit.int .i64 s.f0).wf&&(Lit.int .i64 s.f1).wf)=true then some (zC l1 ((mX l0).length+1) (mX l0) [])else none
theorem Wj(l:List Int)(i:Nat)(hi:i<l.length):mX (l.take (i+1))=iM (l[i]'hi) (mX (l.take i)):=by
 unfold mX;rw[← List.take_append_getElem hi,List.foldl_append];rfl
theorem QV(l:List Int):∀i,i≤l.length→(mX (l.take i)).length≤i
 |0,_=>by simp[mX]
 |i+1,hi=>by
  rw[Wj l i (by omega)];have:=QV l i (by omega);have:=M5 (l[i]'(by omega)) (mX (l.take i));omega
def Order.In(w:World)(A1:Option Addr)(n1 c1:Nat)(K:List Int)(wr:World):Prop:=
 wr.heap[w.heap.size]? =some (.cells #[.slice A1 n1 c1] 116 (0,0))∧wr.heap[w.heap.size+1+1]? =some (.cells #[.map (some (w.heap.size+1))] 131 (0,0))∧iW (w.heap.size+1) K wr∧Below w.heap.size w wr
theorem Order.In.below{w:World}{A1:Option Addr}{n1 c1:Nat}{K:List Int}{wr w2:World}(h:Order.In w A1 n1 c1 K wr)(hb:Below wr.heap.size wr w2):Order.In w A1 n1 c1 K w2:=⟨aK h.1 hb,aK h.2.1 hb,h.2.2.1.below hb,av h.2.2.2 hb⟩
def Order.At1(w:World)(A1:Option Addr)(n1 c1:Nat)(l0:List Int)(v16:Value)(wr:World):Prop:=
 ∃i:Nat,i≤l0.length∧v16=.int .i64 i∧Order.In w A1 n1 c1 (mX (l0.take i)) wr
def Order.At2(w:World)(A1:Option Addr)(n1 c1:Nat)(l1:List bW)(r:List Int×Bool)(N m:Nat)(v10:Value)(wr:World):Prop:=
 ∃K out:List Int,K.length+1=m∧out.length+K.length≤N∧zC l1 m K out=r∧Kd.R (Kd.int .i64) 3 wr w.heap.size (fun _=>True) v10 out∧Order.In w A1 n1 c1 K wr
def Order.At3(w:World)(A1:Option Addr)(n1 c1:Nat)(l1:List bW)(K out:List Int)(A10:Option Addr)(c10:Nat)(A29:Option Addr)(v10 v31:Value)(wr:World):Prop:=
 ∃j:Nat,j≤K.length∧v10=.slice A10 out.length c10∧v31=.int .i64 j∧(∀i (hi:i<K.length),i<j→l1.any (zu K (K[i]'hi))=true)∧Kd.R (Kd.int .i64) 3 wr w.heap.size (fun _=>True) (.slice A10 out.length c10) out∧Order.In w A1 n1 c1 K wr∧Kd.C (Kd.int .i64) wr A29 K.length K
theorem eu.Cn{b:Nat}{K:List Int}{f:Int→Value}{w:World}{α:Type}{d:Kd α}{e base:Nat}{ok:Nat→Prop}{v:Value}{xs:List α}(h:eu b K f w)(hR:d.R e w base ok v xs):some b≠v.ownBlock:=by
 intro he;obtain⟨_,_,D,⟨es,clock,hb,_⟩,_⟩:=h;obtain⟨inner,ho⟩:=Kd.zV hR;obtain⟨cells,hc⟩:=Gc ho b he.symm;rw[hb]at hc
 cases hc
theorem eu.past{b:Nat}{K:List Int}{f:Int→Value}{w w1:World}{α:Type}{d:Kd α}{e base:Nat}{ok:Nat→Prop}{v:Value}{xs:List α}(h:eu b K f w)(hR:d.R e w base ok v xs)(hg:w.grownBy w1 (some b)):d.R e w1 base ok v xs:=by
 obtain⟨_,_,D,⟨es,clock,hb,_⟩,_⟩:=h;refine Kd.bY (Kd.Sd (Kd.pO hR) hg (fun k hk he=>?_)) (fun _ hk=>hk.1);obtain⟨_,_,_,q,_,cells,hc⟩:=hk
 cases he
 rw[hb]at hc
 cases hc
theorem CB.calls(A0:Option Addr)(c0:Nat)(l0:List Int)(A1:Option Addr)(c1:Nat)(l1:List bW)(r1:List Int)(r2:Bool)(w:World)(hr0:Kd.C (Kd.int .i64) w A0 l0.length l0)(hc0:l0.length≤c0)(hr1:Kd.C nP w A1 l1.length l1)(hc1:l1.length≤c1)(h:CB.f l0 l1=some (r1,r2)):
  Calls Tryz.prog 47 #[.slice A0 l0.length c0,.slice A1 l1.length c1] w fun e w'=>∃fE:Value,e=.returned (.tuple #[fE,.bool r2])∧Kd.R (Kd.int .i64) 3 w' w.heap.size (fun _=>True) fE r1∧Below w.heap.size w w':=by
 unfold CB.f at h
 split at h
 case isFalse=>cases h
 rename_i hh
 obtain⟨hmax,hw0,hw1⟩:=hh;have EP:=af.mk (show zC l1 ((mX l0).length+1) (mX l0) []=(r1,r2)from Option.some.inj h);have HW0:=af.mk (show ∀n ∈ l0,qC n from fun n hn=>List.all_eq_true.1 hw0 n hn);have HW1:=af.mk (show ∀s ∈ l1,qC s.f0∧qC s.f1 from fun s hs=>Bool.and_eq_true_iff.1 (List.all_eq_true.1 hw1 s hs));have cZ:=af.mk hr0;have HR1:=af.mk hr1;have hmm:=@run_makeMap Tryz.prog;have hmf:∀(fn:Fn) (first cap:Array Value) (w:World),(Instr.makeFunc fn first cap).run Tryz.prog w=.ok (.func fn first cap) w:=fun _ _ _ _=>rfl
 clear hr0 hr1 h hw0 hw1
 go_enter Tryz.func47,Tryz.ntmps47
 go_wp2_with fail
 go_step3
 go_wp2_with fail
 have e1:(w.alloc (.cells #[.slice A1 l1.length c1] 116)).heap.size=w.heap.size+1:=by simp
 have e2:((w.alloc (.cells #[.slice A1 l1.length c1] 116)).alloc (.map #[] 0)).heap.size=w.heap.size+1+1:=by simp
 have b1:=eu.made (w.alloc (.cells #[.slice A1 l1.length c1] 116)) (fun _=>.bool true);have b2:=bI ((w.alloc (.cells #[.slice A1 l1.length c1] 116)).alloc (.map #[] 0)) (.cells #[.map (some (w.heap.size+1))] 131);rw[e1]at b1;rw[e2]at b2;have HI:=af.mk (show Order.At1 w A1 l1.length c1 l0 (.int .i64 0) _ from⟨0,by omega,rfl,ay (ay (bI w (.cells #[.slice A1 l1.length c1] 116)) _) _,b2,b1.alloc _,ax (ax (ax (Below.refl _ _) _) _) _⟩);clear e1 e2 b1 b2
 go_loopw [16] (fun v16 wr=>Order.At1 w A1 l1.length c1 l0 v16 wr) (fun v16 _=>l0.length-(intOf v16).toNat)
 case atStart=>exact HI.out
 case round=>
  obtain⟨i,hi,rfl,hI⟩:=hrel;clear HI;have cl:wr.cell? ⟨w.heap.size+1+1,0,none⟩=some (.map (some (w.heap.size+1))):=(ah hI.2.1 0).trans rfl;have HI:=af.mk hI;clear hI
  by_cases hlt:i<l0.length
  ·obtain⟨ad,hA,q0⟩:=wP cZ.out hlt HI.out.2.2.2
   cases hA
   have HN:=af.mk (And.intro (Wj l0 i hlt) (And.intro (QV l0 i hi) (HW0.out _ (List.getElem_mem hlt))));obtain⟨x,hx⟩:∃x,x=l0[i]'hlt:=⟨_,rfl⟩;rw[← hx]at q0 HN;clear hx
   go_wp2_with (at_mapUpdate;refine Gt _ rfl _ _ _ 131 4 rfl Tryz.underlying131 (w.heap.size+1) _ _ rfl HI.out.2.2.1 (by have:=HN.out.2.1;unfold maxLen;omega) x _ rfl rfl HN.out.2.2 ?_;intro w2 hm2 hg2;have HM:=af.mk hm2;have HG:=af.mk hg2;clear hm2 hg2)
   go_roundw
   case rel=>exact⟨i+1,by omega,by go_num,fP HI.out.1 HG.out (by simp),fP HI.out.2.1 HG.out (by simp),by rw[HN.out.1];exact Ku HM.out,vN HI.out.2.2.2 _ HI.out.2.2.2.size HG.out (fun k e=>by cases e;omega)⟩
   case measure=>simp[intOf];omega
  ·obtain rfl:i=l0.length:=by omega
   rw[List.take_length]at HI;have HN:=af.mk (by have:=QV l0 l0.length (Nat.le_refl _);rw[List.take_length]at this;exact this:(mX l0).length≤l0.length);clear cl
   go_wp2_with fail
   go_step3
   go_wp2_with fail
   have H2:=af.mk (show Order.At2 w A1 l1.length c1 l1 (r1,r2) (mX l0).length ((mX l0).length+1) (.slice none 0 0) wr from⟨mX l0,[],rfl,by simp,EP.out,Kd.dV _ _ _ _ _,HI.out⟩)
   go_loopg [10] ((mX l0).length+1) (fun m v10 wr=>Order.At2 w A1 l1.length c1 l1 (r1,r2) (mX l0).length m v10 wr)
   case atStart=>exact H2.out
   case round=>
    obtain⟨K,out,rfl,hN,hO,hR,hI⟩:=hrel;clear H2 HI EP;obtain⟨A10,c10,rfl⟩:=Kd.fH hR;have cl:wr.cell? ⟨w.heap.size+1+1,0,none⟩=some (.map (some (w.heap.size+1))):=(ah hI.2.1 0).trans rfl;have hlen:=fun ty=>hI.2.2.1.len Tryz.underlying131 ty
    have HI:=af.mk hI;have HR:=af.mk hR;have HO:=af.mk hO;have HNN:=af.mk hN;clear hI hR hO hN
    cases K with
    |nil=>
     have HE:=HO.out;rw[zC,if_pos rfl]at HE
     cases HE
     go_wp2_with fail
     rw[Exit.noGoto_ret]
     go_ret2
     exact⟨_,rfl,HR.out,HI.out.2.2.2⟩
    |cons x0 xr=>
     obtain⟨K,hK⟩:∃K,K=x0::xr:=⟨_,rfl⟩;have hpos:0<K.length:=by rw[hK];simp
     have hne:K≠ []:=by rw[hK];simp
     rw[← hK]at HI HO HNN hlen;have HKK:=af.mk hK;clear hK
     go_wp2_with (first
      |(go_at_call 61;refine(Kv _ _).mono ?_;rintro e w2 ⟨rfl,rfl⟩)
      |(go_at_call 60;refine(KM wr.heap.size (w.heap.size+1) K _ _ (bI wr _) (HI.out.2.2.1.alloc _) (by have:=HN.out;have:=HNN.out;omega)).mono ?_;rintro e w2 ⟨v29,rfl,hs,hb⟩;obtain⟨A29,c29,rfl⟩:=Kd.fH hs;have HS2:=af.mk hs;have HBB:=af.mk hb;clear hs hb))
     have HB2:=af.mk (av (ax (Below.refl wr.heap.size wr) _) HBB.out);have H3:=af.mk (show Order.At3 w A1 l1.length c1 l1 K out A10 c10 A29 (.slice A10 out.length c10) (.int .i64 0) w2 from⟨0,by omega,rfl,rfl,fun i hi h=>by omega,Kd.gD HR.out HB2.out,HI.out.below HB2.out,(Kd.dB HS2.out).2.2⟩);have tO:=af.mk hne;have HPO:=af.mk hpos;have hle:K.length≤100000:=by have:=HN.out;have:=HNN.out;omega
     clear HB2 HS2 HBB cl hlen HR HI hne hpos
     go_loopw [10,31] (fun v10 v31 wr=>Order.At3 w A1 l1.length c1 l1 K out A10 c10 A29 v10 v31 wr) (fun _ v31 _=>K.length-(intOf v31).toNat)
     case atStart=>exact H3.out
     case round=>
      obtain⟨j,hj,rfl,rfl,hall,hR,hI,hC⟩:=hrel;clear H3;have cl:wr.cell? ⟨w.heap.size+1+1,0,none⟩=some (.map (some (w.heap.size+1))):=(ah hI.2.1 0).trans rfl;have HI:=af.mk hI;have HR:=af.mk hR;have HC:=af.mk hC;have HALL:=af.mk hall;clear hI hR hC hall
      by_cases hlt:j<K.length
      ·obtain⟨ad,hA,q0⟩:=wP HC.out hlt (Below.refl _ _)
       cases hA
       obtain⟨n,hn⟩:∃n,n=K[j]'hlt:=⟨_,rfl⟩;have HM:=af.mk (show n ∈ K by rw[hn];exact List.getElem_mem hlt);rw[← hn]at q0;have HNJ:=af.mk hn;clear hn
       cases hq:l1.any (zu K n)with
       |true=>
        have HQ:=af.mk hq;clear hq
        go_wp2_with (go_at_call 101;refine(Wy n w.heap.size (w.heap.size+1+1) (w.heap.size+1) c1 A1 l1 K w _ HR1.out hc1 HW1.out HI.out.2.2.2 HI.out.1 HI.out.2.1 HI.out.2.2.1).mono ?_;rw[HQ.out];rintro e w2 ⟨rfl,h2⟩;have H2:=af.mk h2;clear h2)
        go_roundw
        case rel=>exact⟨j+1,by omega,rfl,by go_num,fun i hi h=>by
         rcases Nat.lt_or_ge i j with h'|h'
         ·exact HALL.out i hi h'
         ·obtain rfl:i=j:=by omega
          rw[← HNJ.out];exact HQ.out,Kd.gD HR.out H2.out,HI.out.below H2.out,Kd.dN HC.out H2.out⟩
        case measure=>simp[intOf];omega
       |false=>
        have HQ:=af.mk hq;clear hq
        have hfind:K.find? (fun n=> !(l1.any (zu K n)))=some n:=by
         rw[List.find?_eq_some_iff_getElem];refine⟨by rw[HQ.out];rfl,j,hlt,HNJ.out.symm,fun i hi=>?_⟩;rw[HALL.out i (by omega) hi];rfl
        have hO:=HO.out;rw[zC,if_neg tO.out,hfind]at hO;have j4:=af.mk hO;have HNW:=af.mk (HI.out.2.2.1.2.1 n HM.out);have rY:=af.mk (show(out.length+1)*8≤140737488355328 by have:=HN.out;have:=HNN.out;omega);clear hO hfind
        go_wp2_with (first
         |(go_at_call 101;refine(Wy n w.heap.size (w.heap.size+1+1) (w.heap.size+1) c1 A1 l1 K w _ HR1.out hc1 HW1.out HI.out.2.2.2 HI.out.1 HI.out.2.1 HI.out.2.2.1).mono ?_;rw[HQ.out];rintro e w2 ⟨rfl,h2⟩;have HI2:=af.mk (HI.out.below h2);have HR2:=af.mk (Kd.gD HR.out h2);clear h2)
         |((with_reducible refine jN (b:=.append) (xs:=#[.tmp 39,.tmp 41]) rfl ?_);at_builtin;refine Kd.kY (Kd.int .i64) (w0:=w) w.heap.size rfl (.tmp 39) (.tmp 41) 27 3 (.int .i64 0) 8 rfl Tryz.underlying27 QF rfl (by decide) (by omega) (.slice A10 out.length c10) out n [.int .i64 n] (fun _=>True) (fun _=>False) rfl (by first|(go_simp;done)|(go_simp;rfl)) rfl (fun _ h=>h.elim) (fun _ _=>trivial) HR2.out HI2.out.2.2.2 HI2.out.2.2.2.size rY.out ?_;intro v10 w3 ho3 hb3 hg3 mQ;
           have kl3:=fP HI2.out.2.1 hg3 (Kd.jK HR2.out HI2.out.2.1 (by decide));have kb3:=fP HI2.out.1 hg3 (Kd.jK HR2.out HI2.out.1 (by decide));have ks3:=HI2.out.2.2.1.kept hg3 (eu.Cn HI2.out.2.2.1 HR2.out);have HI3:=af.mk (show Order.In w A1 l1.length c1 K w3 from⟨kb3,kl3,ks3,hb3⟩);have HR3:=af.mk ho3;have cl3:w3.cell? ⟨w.heap.size+1+1,0,none⟩=some (.map (some (w.heap.size+1))):=(ah kl3 0).trans rfl;clear ho3 hb3 hg3 mQ kl3 kb3 ks3)
         |(at_delete;refine abq _ rfl _ _ 131 4 rfl Tryz.underlying131 (w.heap.size+1) K _ rfl HI3.out.2.2.1 n rfl HNW.out ?_;intro w4 hm4 hg4;have HM4:=af.mk hm4;have HG4:=af.mk hg4;clear hm4 hg4))
        go_frame
        have hm:0<K.length:=HPO.out
        have hle1:(K.erase n).length+1=K.length:=by
         rw[List.length_erase,if_pos HM.out];omega
        go_roundg K.length
        case measure=>rw[HKK.out];omega
        case rel=>exact⟨K.erase n,out++[n],hle1,by have:=HNN.out;simp only[List.length_append,List.length_singleton];omega,j4.out,eu.past HI3.out.2.2.1 HR3.out HG4.out,fP HI3.out.1 HG4.out (by simp),fP HI3.out.2.1 HG4.out (by simp),HM4.out,vN HI3.out.2.2.2 _ HI3.out.2.2.2.size HG4.out (fun k e=>by cases e;omega)⟩
      ·have hnone:K.find? (fun n=> !(l1.any (zu K n)))=none:=by
        rw[List.find?_eq_none];intro x hx;obtain⟨i,hi,rfl⟩:=List.getElem_of_mem hx;rw[HALL.out i hi (by omega)];decide
       have hO:=HO.out;rw[zC,if_neg tO.out,hnone]at hO
       cases hO
       go_wp2_with fail
       rw[Exit.noGoto_ret]
       go_ret2
       exact⟨_,rfl,Kd.dV _ _ _ _ _,HI.out.2.2.2⟩
end Go.Proofs.YtdcddenojjdmjaaGreatDoor.T
