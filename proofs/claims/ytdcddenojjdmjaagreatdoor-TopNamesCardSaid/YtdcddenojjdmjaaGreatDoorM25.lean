import Derived.Test.YtdcddenojjdmjaaGreatDoorM24
set_option linter.all false
set_option maxHeartbeats 8000000
set_option maxRecDepth 100000
namespace Go.Proofs.YtdcddenojjdmjaaGreatDoor.T
open Go.RowKit Go.Proofs.YtdcddenojjdmjaaGreatDoorW.PrintWords Go.Proofs.YtdcddenojjdmjaaGreatDoorW.PrintLast Go.Proofs.YtdcddenojjdmjaaGreatDoorW.PrintMore
def slW(l:List ByteArray)(x:Way):List ByteArray:=(l.take x.2.2.toNat).drop x.2.1.toNat
def wD(l:List ByteArray)(x:Way):ByteArray:=(Dr (slW l x)).getD ByteArray.empty
def okW(l:List ByteArray)(x:Way):Prop:=0≤x.2.1∧x.2.1≤x.2.2∧x.2.2≤l.length∧Dr (slW l x)=some (wD l x)
instance (l:List ByteArray)(x:Way):Decidable (okW l x):=by unfold okW;infer_instance
def Ey.f(l0:List ByteArray)(a1:Int):Option (List ByteArray×Int):=
 if l0.length>4096 then some ([],4)else if a1<0∨a1≥l0.length then some ([],1)else
 (zL 64 0 l0.length a1).bind fun S=>if S.length≤4096∧(∀x ∈ S,okW l0 x)then some ((S.map (wD l0)).reverse,0)else none
open Go.Sort (Holds putRow putCells grow mapBlock onCells) in
theorem revCall(base:Nat)(v:Value)(xs:List ByteArray)(W:World)(hR:Kd.R Kd.string 9 W base (fun _=>True) v xs)(hl:xs.length≤1000000):
  Calls Tryz.prog 63 #[v] W fun e w'=>e=.returned (.tuple #[])∧Kd.R Kd.string 9 w' base (fun _=>True) v xs.reverse∧W.grownBy w' v.ownBlock:=by
 rcases Nat.eq_zero_or_pos xs.length with h0|h0
 ·obtain rfl:xs=[]:=List.eq_nil_of_length_eq_zero h0;obtain⟨A,c,rfl⟩:=Kd.fH hR;refine(Tryz.slices_Reverse_string_empty A c W).mono ?_;rintro e w' ⟨rfl,rfl⟩;exact⟨rfl,by simpa using hR,World.grownBy.refl _ _⟩
 ·obtain⟨g,c,rfl,hbg,hgl,_⟩:=Kd.xL hR h0;have hown:=Kd.wQ hR;have hmm:∀l:List ByteArray,(l.map (·.data.toList)).map encStr=l.map Value.string:=fun l=>by rw[List.map_map];rfl
  have hH:=UK encStr (xs:=xs.map (·.data.toList)) (n:=xs.length) (by simp) (by rw[hmm];exact hown);have hz:(xs.map (·.data.toList)).length=xs.length:=by simp
  have hc:=Tryz.slices_Reverse_string g 0 c (xs.map (·.data.toList)) W hH (by rw[hz];omega);rw[hz]at hc;refine hc.mono ?_;rintro e w' ⟨rfl,n,rfl⟩;have hq:=QZ encStr (m:=n) hown (xs.map (·.data.toList)).reverse.toArray (by simp) #[];have hgr:∀W:World,grow W #[]=W:=fun W=>by simp[grow]
  rw[hgr]at hq;refine⟨rfl,?_,hq.2⟩;have h1:=hq.1;rw[show(((xs.map (·.data.toList)).reverse.toArray).toList.map encStr)=xs.reverse.map Value.string by rw[List.toList_toArray,← List.map_reverse];exact hmm _]at h1;exact Kd.EX (enc:=Value.string) (h1:=fun _=>rfl) (ok:=fun _=>True) (xs:=xs.reverse) (v:=.slice (some ⟨g,0,none⟩) xs.length c) (base:=base) (e:=9) (by rw[List.length_reverse];exact h1) (fun _ _=>trivial)
theorem info9v:(Tryz.prog.info? 9).map (fun i=>(i.zero,i.size,i.bytes))=some (some (.string ⟨#[]⟩),1,16):=by kernel_rfl
section
attribute [local go_sem] Oper.semAt_some
def Path.I(w:World)(A0:Option Addr)(c0:Nat)(l0:List ByteArray)(a1:Int)(pre:List {x:Way//okW l0 x})(W:World):Prop:=
 ((W.heap[w.heap.size]? =some (.cells #[.slice A0 l0.length c0] 56 (0,0))∧W.heap[w.heap.size+1+1+1]? =some (.cells #[.int .i64 a1] 3 (0,0)))∧∃v,W.heap[w.heap.size+1]? =some (.cells #[v] 56 (0,0))∧Kd.R Kd.string 9 W w.heap.size (fun _=>True) v (pre.map fun x=>wD l0 x.1))∧Below w.heap.size w W∧w.heap.size+1+1+1<W.heap.size
theorem Path.hI(w W0:World)(A0:Option Addr)(c0:Nat)(l0:List ByteArray)(a1:Int)(hW:Below w.heap.size w W0):OwnFrom W0.heap.size (Path.I w A0 c0 l0 a1):=
 OwnFrom.and (OwnFrom.and (OwnFrom.and (uz w.heap.size (fun _=>#[.slice A0 l0.length c0]) _) (uz (w.heap.size+1+1+1) (fun _=>#[.int .i64 a1]) _)) (fun s X Y row hs hg hr=>by
  obtain⟨v,hv,hR⟩:=hs;refine⟨v,uz (β:=Unit) (w.heap.size+1) (fun _=>#[v]) _ () X Y row hv hg hr,?_⟩;refine Kd.bY (Kd.EY (Kd.pO hR) (fun k hk hlt=>hg.block k hlt (fun e=>?_))) (fun _ _=>trivial);obtain⟨_,_,_,q,_,cells,hc⟩:=hk;obtain⟨_,o,ho,hc'⟩:=hr k e.symm;rw[hc]at ho;cases ho;cases hc')) (OwnFrom.and (ownFrom_below (Nat.le_refl _) hW.size) (fun _ _ _ _ hs hg _=>Nat.lt_of_lt_of_le hs hg.size))
def Path.Ax(w:World)(A0:Option Addr)(c0:Nat)(l0:List ByteArray)(a1:Int)(x: {x:Way//okW l0 x})(a':Act)(W:World):Prop:=
 ∃Bx,w.heap.size+1+1+1<Bx∧W.heap[Bx]? =some (.cells #[.bool x.1.1,.int .i64 x.1.2.1,.int .i64 x.1.2.2] 146 (0,0))∧a'= {tmps:=#[.slice A0 l0.length c0,.int .i64 a1,.pointer (some ⟨w.heap.size,0,none⟩),undef,.slice none 0 0,.int .i64 0,.pointer (some ⟨w.heap.size+1,0,none⟩),.pointer (some ⟨Bx,0,none⟩),.bool false,.slice A0 l0.length c0,.int .i64 l0.length,.bool false,.bool false,.int .i64 a1,.bool false,.bool false,.int .i64 a1,.slice A0 l0.length c0,.int .i64 l0.length,.bool false,.bool false,.slice A0 l0.length c0,.int .i64 l0.length,.int .i64 a1,.func (.func 120) #[] #[.pointer (some ⟨w.heap.size+1+1,0,none⟩),.pointer (some ⟨w.heap.size+1+1+1,0,none⟩)],EC x.1,undef,undef,undef,undef,undef,undef,undef,undef,undef,undef,undef,undef,undef],defers:=[]}
theorem Path.hAx(w:World)(A0:Option Addr)(c0:Nat)(l0:List ByteArray)(a1:Int)(B:Nat)(x: {x:Way//okW l0 x})(a':Act):OwnFrom B (fun(_:Unit) W=>Path.Ax w A0 c0 l0 a1 x a' W):=fun s X Y row hs hg hr=>by
 obtain⟨Bx,h1,h2,h3⟩:=hs;exact⟨Bx,h1,uz (β:=Unit) Bx (fun _=>#[.bool x.1.1,.int .i64 x.1.2.1,.int .i64 x.1.2.2]) _ () X Y row h2 hg hr,h3⟩
theorem Ey.calls(A0:Option Addr)(c0:Nat)(l0:List ByteArray)(a1:Int)(r1:List ByteArray)(r2:Int)(w:World)(hr0:Kd.C Kd.string w A0 l0.length l0)(hc0:l0.length≤c0)(h:Ey.f l0 a1=some (r1,r2))(hG:jR w):
  Calls Tryz.prog 22 #[.slice A0 l0.length c0,.int .i64 a1] w fun e w'=>∃fE:Value,e=.returned (.tuple #[fE,.int .i64 r2])∧Kd.R Kd.string 9 w' w.heap.size (fun _=>True) fE r1∧Below w.heap.size w w':=by
 have hlen:l0.length≤9223372036854775807:=hr0.2.1;unfold Ey.f at h;have HR:=af.mk hr0;have HG:=af.mk hG;clear hr0 hG
 by_cases h0:l0.length>4096
 ·rw[if_pos h0]at h
  cases h
  have q0:(w.alloc (.cells #[.slice A0 l0.length c0] 56)).cell? ⟨w.heap.size,0,none⟩=some (.slice A0 l0.length c0):=(ah (bI w _) 0).trans rfl
  go_enter Tryz.func22,Tryz.ntmps22
  go_wp2_with fail
  go_ret2
  exact⟨_,rfl,Kd.dV _ _ _ _ _,ax (Below.refl _ _) _⟩
 ·rw[if_neg h0]at h
  by_cases h1:a1<0∨a1≥l0.length
  ·rw[if_pos h1]at h
   cases h
   have q0:(w.alloc (.cells #[.slice A0 l0.length c0] 56)).cell? ⟨w.heap.size,0,none⟩=some (.slice A0 l0.length c0):=(ah (bI w _) 0).trans rfl
   by_cases h2:a1<0
   ·go_enter Tryz.func22,Tryz.ntmps22
    go_wp2_with fail
    go_ret2
    exact⟨_,rfl,Kd.dV _ _ _ _ _,ax (Below.refl _ _) _⟩
   ·have h3:(l0.length:Int)≤a1:=by omega
    go_enter Tryz.func22,Tryz.ntmps22
    go_wp2_with fail
    go_ret2
    exact⟨_,rfl,Kd.dV _ _ _ _ _,ax (Below.refl _ _) _⟩
  ·rw[if_neg h1]at h;obtain⟨S,hS,h⟩:=Option.bind_eq_some_iff.1 h
   split at h
   case isFalse=>cases h
   rename_i hok
   cases h
   obtain⟨hSl,hSo⟩:=hok;have h2:¬a1<0:=by omega
   have h3:¬(l0.length:Int)≤a1:=by omega
   obtain⟨steps,hst⟩:∃steps:List {x:Way//okW l0 x},S=steps.map (·.1):=⟨S.attach.map fun x=>⟨x.1,hSo x.1 x.2⟩,by rw[List.map_map];exact(List.attach_map_subtype_val S).symm⟩;subst hst;have HST:=af.mk hS;have pG:=af.mk hSl;have q0:(w.alloc (.cells #[.slice A0 l0.length c0] 56)).cell? ⟨w.heap.size,0,none⟩=some (.slice A0 l0.length c0):=(ah (bI w _) 0).trans rfl;have q1:((w.alloc (.cells #[.slice A0 l0.length c0] 56)).alloc (.cells #[.slice none 0 0] 56)).cell? ⟨w.heap.size,0,none⟩=some (.slice A0 l0.length c0):=(ah (ay (bI w _) _) 0).trans rfl;clear hS hSl hSo;have hd0:decide (4096<(l0.length:Int))=false:=decide_eq_false (by omega);have hd1:¬4096<(l0.length:Int):=by omega
   refine(callsIn_wide (n:=8)).1 ?_;refine callsIn_of_wp_marks Tryz.func22 rfl trivial ?_ rfl;simp only[Tryz.ntmps22,List.size_toArray,List.length_cons,List.length_nil,Nat.reduceAdd,Nat.reduceSub,Array.replicate_succ,Array.replicate_zero,List.push_toArray,List.append_toArray,List.nil_append,List.cons_append]
   gi_wp2_with (refine⟨trivial,?_⟩;gi_at_call 62;refine(callsIn_wide.2 (wayCall _ _ _)).mono ?_;rintro e w' ⟨rfl,rfl⟩)
   have k0:=ay (ay (ay (bI w (.cells #[.slice A0 l0.length c0] 56)) (.cells #[.slice none 0 0] 56)) (.cells #[.int .i64 (l0.length:Int)] 3)) (.cells #[.int .i64 a1] 3);have k1:=bI (w.alloc (.cells #[.slice A0 l0.length c0] 56)) (.cells #[.slice none 0 0] 56);have k2:=bI ((w.alloc (.cells #[.slice A0 l0.length c0] 56)).alloc (.cells #[.slice none 0 0] 56)) (.cells #[.int .i64 (l0.length:Int)] 3);have k3:=bI (((w.alloc (.cells #[.slice A0 l0.length c0] 56)).alloc (.cells #[.slice none 0 0] 56)).alloc (.cells #[.int .i64 (l0.length:Int)] 3)) (.cells #[.int .i64 a1] 3);simp only[World.size_alloc]at k1 k2 k3;have m1:=ay (ay k1 (.cells #[.int .i64 (l0.length:Int)] 3)) (.cells #[.int .i64 a1] 3);have m2:=ay k2 (.cells #[.int .i64 a1] 3);have hB0:Below w.heap.size w ((((w.alloc (.cells #[.slice A0 l0.length c0] 56)).alloc (.cells #[.slice none 0 0] 56)).alloc (.cells #[.int .i64 (l0.length:Int)] 3)).alloc (.cells #[.int .i64 a1] 3)):=ax (ax (ax (ax (Below.refl _ _) _) _) _) _;have hsz:((((w.alloc (.cells #[.slice A0 l0.length c0] 56)).alloc (.cells #[.slice none 0 0] 56)).alloc (.cells #[.int .i64 (l0.length:Int)] 3)).alloc (.cells #[.int .i64 a1] 3)).heap.size=w.heap.size+1+1+1+1:=by simp
   clear k1 k2 q0 q1;revert k0 m1 m2 k3 hB0 hsz;generalize ((((w.alloc (.cells #[.slice A0 l0.length c0] 56)).alloc (.cells #[.slice none 0 0] 56)).alloc (.cells #[.int .i64 (l0.length:Int)] 3)).alloc (.cells #[.int .i64 a1] 3))=W0;intro k0 k3 k1 k2 hB0 hsz
   refine wpIn_rangeFunc_ownH (F:=Fence.wide) rfl (by omega) (gf:=120) (lb:=#[.pointer (some ⟨w.heap.size+1+1,0,none⟩),.pointer (some ⟨w.heap.size+1+1+1,0,none⟩)]) rfl trivial (mO Tryz.func120 (by kernel_rfl) rfl)
    (wayStops (P:=okW l0) 7 (by omega) (w.heap.size+1+1) (w.heap.size+1+1+1) l0.length a1 (by omega) (by omega) steps HST.out w W0 hB0 k2 k3) Na (M9 hB0.size) (Below.refl _ _) (fun _=>rfl)
    (Path.I w A0 c0 l0 a1) (fun _ _ _=>False) (Path.hI w W0 A0 c0 l0 a1 hB0) (fun _ _ _ _ _ hs _ _=>hs) ⟨⟨⟨k0,k3⟩,_,k1,Kd.dV _ _ _ _ _⟩,hB0,by omega⟩ (Path.Ax w A0 c0 l0 a1) (Path.hAx w A0 c0 l0 a1 _) ?assign ?body ?done ?stop
   case assign=>
    rintro l pre ⟨⟨x0,x1,x2⟩,hx⟩ W K hi hK;obtain⟨⟨⟨hi0,hi3⟩,v,hi1,hiR⟩,hiB,hiS⟩:=hi;dsimp only[EC]
    gi_wp2
    exact hK _ _ ((KeepsOthers.alloc _ _).from _) ⟨(Below.refl _ W).alloc hiB.size _,fun cs t e=>ay e _⟩ ⟨⟨⟨ay hi0 _,ay hi3 _⟩,v,ay hi1 _,Kd.bX hiR _⟩,ax hiB _,by simp;omega⟩ ⟨W.heap.size,hiS,bI W _,rfl⟩
   case body=>
    rintro l pre ⟨⟨x0,x1,x2⟩,hx⟩ a' W hl ⟨r,hr⟩ ⟨⟨⟨hi0,hi3⟩,v,hi1,hiR⟩,hiB,hiS⟩ ⟨Bx,hBx,kX,rfl⟩ hlt;obtain⟨ho0,ho1,ho2,hcr⟩:=id hx;obtain⟨lo,rfl⟩:∃lo:Nat,x1=(lo:Int):=⟨x1.toNat,by have:0≤x1:=ho0;omega⟩;obtain⟨hi,rfl⟩:∃hi:Nat,x2=(hi:Int):=⟨x2.toNat,by have:(lo:Int)≤x2:=ho1;omega⟩;have hp0:lo≤hi:=by have:(lo:Int)≤(hi:Int):=ho1;omega
    have hp1:hi≤l0.length:=by have:(hi:Int)≤(l0.length:Int):=ho2;omega
    have hq0:(0:Int)≤(lo:Int):=by omega
    have hq1:(lo:Int)≤(hi:Int):=by omega
    have hq2:(hi:Int)≤(c0:Int):=by omega
    have hq3:(0:Int)≤(hi:Int):=by omega
    obtain⟨s,hs⟩:∃s,s=wD l0 (x0,((lo:Int),(hi:Int))):=⟨_,rfl⟩;obtain⟨Av,cv,hv⟩:=Kd.fH hiR;rw[List.length_map]at hv;subst hv;have HPM:=af.mk (show((pre++[(⟨(x0,((lo:Int),(hi:Int))),hx⟩: {x:Way//okW l0 x})]).map fun x: {x:Way//okW l0 x}=>wD l0 x.1)=(pre.map fun x=>wD l0 x.1)++[s] by rw[List.map_append,hs];rfl)
    have HL:=af.mk (show((pre.map fun x: {x:Way//okW l0 x}=>wD l0 x.1).length+1)*16≤140737488355328 by
     have:=pG.out;rw[List.length_map]at this ⊢;omega)
    have HO:=af.mk hiR;have HB:=af.mk hiB;have HK:=af.mk (And.intro hi0 (And.intro hi1 hi3));have hsl:slW l0 (x0,((lo:Int),(hi:Int)))=(l0.take hi).drop lo:=by simp[slW]
    rw[hsl,← hs]at hcr
    have HCR:=af.mk (show ∀W',Below W.heap.size W W'→Calls Tryz.prog 55 #[.slice (if c0=lo then A0 else Option.map (fun x=>x.add lo) A0) (hi-lo) (c0-lo)] W' fun e w'=>e=.returned (.string s)∧Below W'.heap.size W' w' from fun W' hb'=>by
     have hl1:(l0.take hi).length=hi:=by rw[List.length_take];omega
     have hl2:((l0.take hi).drop lo).length=hi-lo:=by rw[List.length_drop,hl1]
     have hC:=Kd.R9 (m:=lo) (c:=c0) (Kd.GU HR.out hp1) (by omega) (by omega);rw[show(Kd.string).sz=1 from rfl,Nat.mul_one]at hC;have hBW:=av HB.out hb';have:=XH _ (c0-lo) ((l0.take hi).drop lo) s W' (Kd.dN hC hBW) (by omega) hcr (HG.out.below hBW);rwa [hl2]at this)
    have c6:W.drew.cell? ⟨w.heap.size+1,0,none⟩=some (.slice Av pre.length cv):=(ah (show W.drew.heap[w.heap.size+1]? =_ from hi1) 0).trans rfl;have c2:W.drew.cell? ⟨w.heap.size,0,none⟩=some (.slice A0 l0.length c0):=(ah (show W.drew.heap[w.heap.size]? =_ from hi0) 0).trans rfl;have x1:W.drew.cell? ⟨Bx,1,none⟩=some (.int .i64 (lo:Int)):=(ah (show W.drew.heap[Bx]? =_ from kX) 1).trans rfl;have x2:W.drew.cell? ⟨Bx,2,none⟩=some (.int .i64 (hi:Int)):=(ah (show W.drew.heap[Bx]? =_ from kX) 2).trans rfl;have HS:=af.mk hiS;have HZ:=af.mk hsz;clear hi0 hi1 hi3 hiR hiB hiS kX hcr hsl ho0 ho1 ho2 hr hs;dsimp only[EC]
    gi_wp2
    refine startIn_ (by kernel_rfl) (by rintro⟨_,_,h⟩;exact h) (n:=11) (S:=fun w'=>w'.cell? ⟨w.heap.size+1,0,none⟩=some (.slice Av pre.length cv)∧w'.cell? ⟨w.heap.size,0,none⟩=some (.slice A0 l0.length c0)∧w'.cell? ⟨Bx,1,none⟩=some (.int .i64 (lo:Int))∧w'.cell? ⟨Bx,2,none⟩=some (.int .i64 (hi:Int))∧Below W.heap.size W w') (ds:=[9,10]) #[false,false,false,false,false,false,false,false,false,false,false] (by kernel_rfl) rfl rfl ⟨c6,c2,x1,x2,pR (Below.refl _ _)⟩ (fun hHeld=>?_);refine au 2 28 ?_;refine au 4 30 ?_;refine bU 0 26 hHeld (by rintro w' ⟨s0,s1,s2,s3,s4⟩;go_simp;with_reducible rfl) ?_ rfl rfl;refine bU 1 27 hHeld (by rintro w' ⟨s0,s1,s2,s3,s4⟩;go_simp;with_reducible rfl) ?_ rfl rfl;refine bU 3 29 hHeld (by rintro w' ⟨s0,s1,s2,s3,s4⟩;go_simp;with_reducible rfl) ?_ rfl rfl;refine bU 5 31 hHeld (by rintro w' ⟨s0,s1,s2,s3,s4⟩;go_simp;with_reducible rfl) ?_ rfl rfl;refine au 6 32 ?_;refine fu 7 (N:=some 33) rfl rfl fun K hK=>?_
    refine gF Tryz.func55 (by kernel_rfl) rfl #[.slice (if c0=lo then A0 else Option.map (fun x=>x.add lo) A0) (hi-lo) (c0-lo)] (by rfl) rfl rfl (by simp only[List.map_toArray,List.map_cons,List.map_nil];rfl) ?_
    with_reducible refine(HCR.out _ (hHeld.2.2.2.2)).mono ?_
    rintro e w4 ⟨rfl,hb4⟩;refine⟨_,rfl,?_⟩;have H4:=af.mk (av (hHeld.2.2.2.2) hb4);refine hK.out _ _ ⟨aI hb4 (hHeld.1),aI hb4 (hHeld.2.1),aI hb4 (hHeld.2.2.1),aI hb4 (hHeld.2.2.2.1),H4.out⟩ (fun hHeld=>?_);clear hK K;refine dM ?_;refine fu 8 (N:=some 34) rfl rfl fun K hK=>?_
    refine Bp (w1:=?_) (v:=?_) (by rfl) rfl ?_ ?_;rotate_left 2
    ·go_simp
     constructor
     ·rfl
     ·rfl
    refine hK.out _ _ ⟨aI (ax (Below.refl _ _) _) (hHeld.1),aI (ax (Below.refl _ _) _) (hHeld.2.1),aI (ax (Below.refl _ _) _) (hHeld.2.2.1),aI (ax (Below.refl _ _) _) (hHeld.2.2.2.1),ax H4.out _⟩ (fun hHeld=>?_);clear hK K;refine dM ?_;refine iN (i:=9) (N:=some 35) #[true,true,true,true,true,true,true,true,true,true,false] rfl rfl (by kernel_rfl) (by decide) (fun K hK=>?_);refine Kd.H8 Kd.string (w0:=W) w.heap.size (by rfl) (.tmp 26) (.tmp 34) 56 9 (.string ⟨#[]⟩) 16 rfl Tryz.underlying56 info9v rfl (by decide) (by omega) (.slice Av pre.length cv) (pre.map fun x=>wD l0 x.1) s [.string s] (fun _=>True) (fun _=>False) rfl rfl ?aP (fun k h=>h.elim) (fun _ _=>trivial) ?aO ?aB ?aS ?aL ?_
    case aP=>exact rfl
    case aO=>exact Kd.gD HO.out H4.out
    case aB=>exact H4.out.mono HB.out.size
    case aS=>exact Nat.le_trans HB.out.size H4.out.size
    case aL=>exact HL.out
    intro v6 w6 mU hb6 pY DC;have HO4:=af.mk (Kd.gD HO.out H4.out);have k61:=fP (aK HK.out.2.1 H4.out) pY (Kd.jK HO4.out (aK HK.out.2.1 H4.out) (by decide));have k60:=fP (aK HK.out.1 H4.out) pY (Kd.jK HO4.out (aK HK.out.1 H4.out) (by decide));have k63:=fP (aK HK.out.2.2 H4.out) pY (Kd.jK HO4.out (aK HK.out.2.2 H4.out) (by decide));have c61:w6.cell? ⟨w.heap.size+1,0,none⟩=some (.slice Av pre.length cv):=(ah k61 0).trans rfl;have f61:=aA k61 0;have lU:=af.mk (And.intro k60 (And.intro k61 (And.intro k63 (And.intro mU hb6))));have HG6:=af.mk pY;obtain⟨A6,c6',rfl⟩:=Kd.fH mU;clear mU hb6 pY DC k60 k61 k63;refine hK.out _ _ ?_;clear hK K;refine dM ?_;refine iN (i:=10) (N:=none) #[true,true,true,true,true,true,true,true,true,true,true] rfl rfl (by kernel_rfl) (by decide) (fun K hK=>?_);refine jQ (w1:=?_) (by rfl) rfl ?_ ?_;rotate_left
    ·go_simp
     rfl
    refine hK.out _ _ ?_;clear hK K;refine gJ ?_
    all_goals gi_wp2
    all_goals
     obtain⟨k60,k61,k63,mU,hb6⟩:=lU.out
     try subst_vars
     have hz6:=hb6.size;rw[List.length_append,List.length_map,List.length_singleton]at mU;have hs0:=HS.out
     refine⟨(KeepsFrom.of_grownBy (Dy H4.out none) (fun j e=>by cases e)).trans (((KeepsOthers.of_grownBy HG6.out (fun j o e ho=>by
       obtain⟨cells,hc⟩:=Kd.Dj HO4.out j e;rw[hc]at ho;cases ho;rfl)).trans (KeepsOthers.setCell _ _ _)).from _),⟨hb6.setCell (p:=⟨w.heap.size+1,0,none⟩) (Nat.le_succ _) _,fun cs t e=>(iV (by omega) _).trans (by have:=HK.out.2.2;rw[e]at this;cases this;exact k63)⟩,
      ⟨⟨⟨(iV (by omega) _).trans k60,(iV (by omega) _).trans k63⟩,.slice A6 (pre.length+1) c6',(dS k61 _).trans (by simp),by rw[HPM.out];exact Kd.OA mU k61 (by decide) 0 _⟩,HB.out.trans (hb6.setCell (p:=⟨w.heap.size+1,0,none⟩) (Nat.le_succ _) _),by simp[World.setCell];omega⟩⟩
   case done=>
    rintro D ys W hD rfl ⟨⟨⟨hi0,hi3⟩,v,hi1,hiR⟩,hiB,hiS⟩ hK;have HM:=af.mk (show(ys.map fun x: {x:Way//okW l0 x}=>wD l0 x.1)=(ys.map (·.1)).map (wD l0) by rw[List.map_map];rfl);have HRV:=af.mk (revCall w.heap.size v (ys.map fun x=>wD l0 x.1) W hiR (by have:=pG.out;rw[List.length_map]at this ⊢;omega));have HR2:=af.mk hiR;have HB2:=af.mk hiB;have gK:=af.mk hi1;have HD:=af.mk (And.intro hD hK);have c6:W.cell? ⟨w.heap.size+1,0,none⟩=some v:=(ah hi1 0).trans rfl;clear hi0 hi1 hi3 hiR hiB hiS hD hK
    gi_wp2_with (refine⟨trivial,?_⟩;gi_at_call 63;refine(callsIn_wide.2 HRV.out).mono ?_;rintro e w7 ⟨rfl,hr7,wM⟩;have c7:w7.cell? ⟨w.heap.size+1,0,none⟩=some v:=(ah (fP gK.out wM (Kd.jK HR2.out gK.out (by decide))) 0).trans rfl;have HR7:=af.mk (And.intro hr7 wM);clear hr7 wM)
    obtain⟨hr7,wM⟩:=HR7.out
    have hD7:w7.heap[D]? =some (.deferred (some [])):=(wM.block D (Array.getElem?_eq_some_iff.1 HD.out.2).1 (fun e=>by
     obtain⟨cells,hc⟩:=Kd.Dj HR2.out D e.symm;rw[HD.out.2]at hc;cases hc)).trans HD.out.2
    refine⟨by simp,.inl ⟨_,_,rfl,run_takeDeferred (show w7.heap[D]? =_ from hD7),?_⟩⟩;have hb7:Below w.heap.size w w7:=HB2.out.grown wM HB2.out.size (fun k e=>Kd.uY HR2.out k e);refine⟨_,results_tmp2 rfl _ _ _,v,rfl,?_,hb7.trans (belowK_b (w:=w) (Nat.le_refl _) w7 D _ _ (by have:=HD.out.1;omega) hD7 rfl rfl)⟩;rw[← HM.out];refine Kd.bY (Kd.EY (Kd.pO hr7) (fun k hk hlt=>World.putObj_heap_other (fun e=>?_))) (fun _ _=>trivial);obtain⟨_,_,_,q,_,cells,hc⟩:=hk;rw[e,hD7]at hc;cases hc
   case stop=>
    rintro D c pre W _ _ h _;exact h.elim
end
end Go.Proofs.YtdcddenojjdmjaaGreatDoor.T
