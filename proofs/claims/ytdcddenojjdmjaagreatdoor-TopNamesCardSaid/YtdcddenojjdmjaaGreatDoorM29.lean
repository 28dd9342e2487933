import Derived.Shelf.SlSortCmp.WholeK
import Derived.Test.YtdcddenojjdmjaaGreatDoorM28
set_option linter.all false
set_option maxHeartbeats 8000000
set_option maxRecDepth 100000
namespace Go.Proofs.YtdcddenojjdmjaaGreatDoor.T
open Go.RowKit Go.Proofs.YtdcddenojjdmjaaGreatDoorW.PrintWords Go.Proofs.YtdcddenojjdmjaaGreatDoorW.PrintLast Go.Proofs.YtdcddenojjdmjaaGreatDoorW.PrintMore
theorem Xn(g e:Nat):∀(vs:List Value) (o:Nat) (w:World) (cur:Array Value),w.heap[g]? =some (.cells cur e (0,0))→∃cur',(w.setCells g o vs).heap[g]? =some (.cells cur' e (0,0))∧cur'.size=cur.size∧(∀j,j<o→cur'[j]? =cur[j]?)∧w.grownBy (w.setCells g o vs) (some g)
 | [],o,w,cur,h=>⟨cur,h,rfl,fun _ _=>rfl,World.grownBy.refl _ _⟩
 |v::r,o,w,cur,h=>by
  have h1:=dS h (j:=o) v;obtain⟨cur',h2,h3,h4,h5⟩:=Xn g e r (o+1) (w.setCell ⟨g,o,none⟩ v) _ h1;refine⟨cur',h2,by rw[h3];simp,fun j hj=>?_,?_⟩
  ·rw[h4 j (by omega),Array.getElem?_setIfInBounds,if_neg (by omega)]
  ·refine⟨h5.os,h5.tape,h5.output,by have:=h5.size;simp only[World.setCell,Array.size_modify]at this;exact this,fun k hk hne=>(h5.block k (by simpa [World.setCell]using hk) hne).trans (iV (fun e=>hne (by rw[e])) v)⟩
theorem YG(w:World)(g o n c:Nat)(cur:Array Value)(hn:0<n)(hh:w.heap[g]? =some (.cells cur 198 (0,0)))(hs:o+n*4≤cur.size)(ty:TypeId):
  (Builtin.clear_ #[195] ty #[.slice (some ⟨g,o,none⟩) n c]).run Tryz.prog w=.ok (.tuple #[]) (w.setCells g o (Builtin.zeroCells #[.int .i64 0,.int .i64 0,.int .i64 0,.bool false] n).toList):=by
 have hv:∀w,(zeroValue 198).run Tryz.prog w=.ok (.agg #[.int .i64 0,.int .i64 0,.int .i64 0,.bool false]) w:=fun w=>by kernel_rfl
 have hzl:(Builtin.zeroCells #[.int .i64 0,.int .i64 0,.int .i64 0,.bool false] n).toList.length=n*4:=by simp[Builtin.zeroCells]
 have hst:=run_storeCells_cells (P:=Tryz.prog) g o (Builtin.zeroCells #[.int .i64 0,.int .i64 0,.int .i64 0,.bool false] n).toList 0 w (fun j hj=>by
  rw[hzl]at hj;rw[ah hh,Array.getElem?_eq_getElem (by omega)];rfl) (fun j hj=>aA hh _) (fun v hv=>by
  simp only[Builtin.zeroCells,Array.toList_map,Array.toList_range,List.mem_map,List.mem_range]at hv;obtain⟨j,hj,rfl⟩:=hv;have hsz:(#[Value.int .i64 0,.int .i64 0,.int .i64 0,.bool false]:Array Value).size=4:=rfl;rw[hsz];have:j%4<4:=Nat.mod_lt _ (by omega)
  rcases(by omega:j%4=0∨j%4=1∨j%4=2∨j%4=3)with h|h|h|h<;>rw[h]<;>rfl)
 simp only[Nat.add_zero]at hst;have ht:=Tryz.underlying195;obtain⟨m,rfl⟩:∃m,n=m+1:=⟨n-1,by omega⟩;simp[Builtin.clear_,run_underlying ht,hv,Value.cells,hst]
theorem Nb{W:World}{g n c base:Nat}{ok:Nat→Prop}{xs:List eB}(h:Kd.R jY 198 W base ok (.slice (some ⟨g,0,none⟩) n c) xs){i:Nat}(hi:i<xs.length):
  W.cell? ⟨g,i*4,none⟩=some (.int .i64 (xs[i]'hi).f0)∧W.cell? ⟨g,i*4+1,none⟩=some (.int .i64 (xs[i]'hi).f1)∧W.cell? ⟨g,i*4+2,none⟩=some (.int .i64 (xs[i]'hi).f2)∧W.cell? ⟨g,i*4+3,none⟩=some (.bool (xs[i]'hi).f3):=by
 obtain⟨ad,hA,q0,q1,q2,q3⟩:=QL (Kd.dB h).2.2 hi (Below.refl _ _)
 cases hA
 simp only[Addr.add_lit,Nat.zero_add]at q0 q1 q2 q3;exact⟨q0,q1,q2,q3⟩
theorem VR{W:World}{g n c base:Nat}{ok:Nat→Prop}{xs:List eB}(h:Kd.R jY 198 W base ok (.slice (some ⟨g,0,none⟩) n c) xs){i:Nat}(hi:i<xs.length):∀j u,(vK (xs[i]'hi))[j]? =some u→W.cell? ⟨g,(i:Int).toNat*jY.sz+j,none⟩=some u:=by
 intro j u hu;obtain⟨h0,h1,h2,h3⟩:=Nb h hi;have hz:(i:Int).toNat*jY.sz=i*4:=by show(i:Int).toNat*4=i*4;omega
 rw[hz]
 match j,hu with
 |0,hu=>cases hu;exact h0
 |1,hu=>cases hu;exact h1
 |2,hu=>cases hu;exact h2
 |3,hu=>cases hu;exact h3
 |j+4,hu=>simp[vK]at hu
theorem VS(x:eB):∀q ∈ vK x,q.oneCell'=true:=by
 intro q hq;simp only[vK,List.mem_cons,List.not_mem_nil,or_false]at hq
 rcases hq with rfl|rfl|rfl|rfl<;>rfl
theorem Ye{W:World}{g m c base:Nat}{xs:List eB}(h:Kd.R jY 198 W base (fun _=>True) (.slice (some ⟨g,0,none⟩) m c) xs)(vs:List Value):Kd.R jY 198 (W.setCells g (m*4) vs) base (fun _=>True) (.slice (some ⟨g,0,none⟩) m c) xs∧W.grownBy (W.setCells g (m*4) vs) (some g):=by
 have hm:=(Kd.dB h).1;subst hm;obtain⟨h0,inner,⟨hl,ho⟩,hr⟩:=h
 rcases ho with ⟨ho,_⟩|⟨g',c',cur,hv,hb,hh,hnc,hcm,hcs,ht⟩
 ·cases ho
 cases hv
 have hcs:cur.size=c*4:=hcs;have ht:cur.toList.take (xs.length*4)=inner:=ht;obtain⟨cur',k1,k2,k3,k4⟩:=Xn g 198 vs (xs.length*4) W cur hh;refine⟨⟨h0,inner,⟨hl,.inr ⟨g,c,cur',rfl,hb,k1,hnc,hcm,k2.trans hcs,?_⟩⟩,?_⟩,k4⟩
 ·rw[← ht];apply List.ext_getElem?;intro j
  rcases Nat.lt_or_ge j (xs.length*4)with hj|hj
  ·have hz:jY.sz=4:=rfl;rw[hz,List.getElem?_take_of_lt hj,List.getElem?_take_of_lt hj];simpa using k3 j hj
  ·have hz:jY.sz=4:=rfl;rw[hz,List.getElem?_take_eq_none hj,List.getElem?_take_eq_none hj]
 ·refine hr.o9 (fun x cs hx=>?_);rw[ZJ hx];exact M8 _ _ _ x
def Del.At(base:Nat)(w0:World)(g c:Nat)(xs:List eB)(v5 v6:Value)(wr:World):Prop:=
 ∃(i j:Nat) (ys:List eB),v5=.int .i64 i∧v6=.int .i64 j∧i<j∧j≤xs.length∧ys.length=xs.length∧ys.take i=(xs.take j).filter (·.f3)∧ys.drop j=xs.drop j∧Kd.R jY 198 wr base (fun _=>True) (.slice (some ⟨g,0,none⟩) xs.length c) ys∧Below base w0 wr
theorem YN(base g c:Nat)(xs:List eB)(w0 W:World)(hR:Kd.R jY 198 W base (fun _=>True) (.slice (some ⟨g,0,none⟩) xs.length c) xs)(hB:Below base w0 W)(hbase:base≤W.heap.size)(hl:xs.length≤1000000)(h0:0<xs.length):
  Calls Tryz.prog 194 #[.slice (some ⟨g,0,none⟩) xs.length c,.func (.func 195) #[] #[]] W fun e w'=>e=.returned (.slice (some ⟨g,0,none⟩) (xs.filter (·.f3)).length c)∧Kd.R jY 198 w' base (fun _=>True) (.slice (some ⟨g,0,none⟩) (xs.filter (·.f3)).length c) (xs.filter (·.f3))∧Below base w0 w':=by
 obtain⟨_,hc,hC⟩:=Kd.dB hR;have HR:=af.mk hR;have HB:=af.mk hB;have hix:∃m:Int,m=idx (fun x=> !x.f3) xs:=⟨_,rfl⟩;have HID:=af.mk (QJ (some ⟨g,0,none⟩) c xs W hC hc)
 by_cases hany:xs.any (fun x=> !x.f3)=true
 ·obtain⟨i,hi,hidx,_,hpi⟩:=QD hany
  have hpre:(xs.take i).filter (·.f3)=xs.take i:=by
   rw[List.filter_eq_self];intro x hx;obtain⟨j,hj,rfl⟩:=List.getElem_of_mem hx;rw[List.length_take]at hj;rw[List.getElem_take]
   have hf:xs.findIdx? (fun x=> !x.f3)=some i:=by
    unfold idx at hidx
    cases h:xs.findIdx? (fun x=> !x.f3)with
    |none=>rw[h]at hidx;simp at hidx
    |some i'=>rw[h]at hidx;simp only at hidx;rw[show i'=i by omega]
   rw[List.findIdx?_eq_some_iff_getElem]at hf;obtain⟨_,_,h3⟩:=hf;simpa using h3 j (by omega)
  have hst:∀w2,Below W.heap.size W w2→Del.At base w0 g c xs (.int .i64 i) (.int .i64 ((i:Int)+1)) w2:=fun w2 hb2=>⟨i,i+1,xs,rfl,rfl,by omega,by omega,rfl,by
   rw[← List.take_append_getElem hi,List.filter_append,hpre];have:(xs[i]'hi).f3=false:=by simpa using hpi
   simp[this],rfl,Kd.gD HR.out hb2,OL HB.out hbase hb2⟩
  rw[hidx]at HID;have HS:=af.mk hst;have hne:((i:Int)== -1)=false:=beq_eq_false_iff_ne.2 (by omega);clear hR hB hC hst hpre hpi hidx hany hix
  go_enter Tryz.func194,Tryz.ntmps194
  go_wp2_with (go_at_call 224;refine HID.out.mono ?_;rintro e w2 ⟨rfl,h2⟩;have HS2:=af.mk (HS.out w2 h2);clear h2)
  clear HS HR HB HID
  go_loopw [5,6] (fun v5 v6 wr=>Del.At base w0 g c xs v5 v6 wr) (fun _ v6 _=>xs.length-(intOf v6).toNat)
  case atStart=>exact HS2.out
  case round=>
   obtain⟨i,j,ys,rfl,rfl,hij,hj,hyl,htk,hdr,hO,hB⟩:=hrel;clear HS2;have HX:=af.mk (And.intro htk (And.intro hdr hyl));have HO:=af.mk hO;have HB:=af.mk hB;have hbs:base≤g:=Kd.uY hO g rfl;clear htk hdr hO hB hyl
   by_cases hlt:j<xs.length
   ·obtain⟨q0,q1,q2,q3⟩:=Nb HO.out (show j<ys.length by rw[HX.out.2.2];exact hlt);have HP:=af.mk (Nb HO.out (show i<ys.length by rw[HX.out.2.2];omega))
    have hyx:ys[j]'(by rw[HX.out.2.2];exact hlt)=xs[j]'hlt:=by
     have h1:(ys.drop j)[0]? =(xs.drop j)[0]? :=by rw[HX.out.2.1]
     simp[List.getElem?_drop,hlt,HX.out.2.2]at h1;exact h1
    rw[hyx]at q0 q1 q2 q3
    have HTF:=af.mk (show(xs.take (j+1)).filter (·.f3)=(xs.take j).filter (·.f3)++(if(xs[j]'hlt).f3 then[xs[j]'hlt]else[]) by
     rw[← List.take_append_getElem hlt,List.filter_append]
     cases h:(xs[j]'hlt).f3<;>simp[h])
    have HDR:=af.mk (show xs.drop j=xs[j]'hlt::xs.drop (j+1)from List.drop_eq_getElem_cons hlt);obtain⟨⟨x0,x1,x2,x3⟩,hx⟩:∃x,x=xs[j]'hlt:=⟨_,rfl⟩;rw[← hx]at q0 q1 q2 q3 HTF HDR;clear hx hyx;simp only at q0 q1 q2 q3;have HO1:=af.mk (Kd.bX HO.out (.cells #[.int .i64 x0,.int .i64 x1,.int .i64 x2,.bool x3] 198));have HB1:=af.mk (Below.alloc HB.out (show base≤wr.heap.size by have:=Kd.mF HO.out g rfl;omega) (.cells #[.int .i64 x0,.int .i64 x1,.int .i64 x2,.bool x3] 198));have dD:=af.mk (bI wr (.cells #[.int .i64 x0,.int .i64 x1,.int .i64 x2,.bool x3] 198));have HV:=af.mk (RG ⟨x0,x1,x2,x3⟩)
    cases x3 with
    |true=>
     go_wp2_with (first
      |(go_at_call 195;refine(HV.out _).mono ?_;rintro e w2 ⟨rfl,h2⟩;have j4:=af.mk (Kd.gD HO1.out h2);have HB2:=af.mk (HB1.out.trans (h2.mono (by simp;have:=Kd.mF HO.out g rfl;omega)));have k2:=aK dD.out h2;have y0:w2.cell? ⟨wr.heap.size,0,none⟩=some (.int .i64 x0):=(ah k2 0).trans rfl;have y1:w2.cell? ⟨wr.heap.size,1,none⟩=some (.int .i64 x1):=(ah k2 1).trans rfl;have y2:w2.cell? ⟨wr.heap.size,2,none⟩=some (.int .i64 x2):=(ah k2 2).trans rfl;have y3:w2.cell? ⟨wr.heap.size,3,none⟩=some (.bool true):=(ah k2 3).trans rfl;clear h2 k2 q0 q1 q2 q3)
      |((with_reducible refine mP (.store 198 (.tmp 33) (.tmp 32)) rfl ?_);refine Kd.R_store jY (w0:=w0) base rfl rfl 198 (.tmp 33) (.tmp 32) rfl 198 (i:Int) 0 ys ⟨x0,x1,x2,true⟩ (.agg #[.int .i64 x0,.int .i64 x1,.int .i64 x2,.bool true]) (vK ⟨x0,x1,x2,true⟩) (vK (ys[i]'(by rw[HX.out.2.2];omega))) (fun _=>True) (fun _=>False) rfl (show i*4=(i:Int).toNat*4+0 by omega) rfl rfl (by kernel_rfl) (VS _) j4.out (by omega) (by omega) rfl (VR j4.out _) (show 0+4≤4 from Nat.le_refl 4) (M8 _ _ _ ⟨x0,x1,x2,true⟩) (fun _ h=>h.elim) HB2.out ?_;intro w3 ho3 hb3 hg3;have nY:=af.mk ho3;have HB3:=af.mk hb3;clear ho3 hb3 hg3 y0 y1 y2 y3))
     go_roundw
     case rel=>
      refine⟨i+1,j+1,ys.set i ⟨x0,x1,x2,true⟩,by go_num,by go_num,by omega,by omega,by rw[List.length_set];exact HX.out.2.2,?_,?_,by have:=nY.out;rw[show(i:Int).toNat=i by omega]at this;exact this,HB3.out⟩
      ·rw[HTF.out,if_pos trivial,← HX.out.1,List.take_set,List.take_succ_eq_append_getElem (show i<ys.length by rw[HX.out.2.2];omega),List.set_append_right _ _ (by rw[List.length_take];omega)];rw[show i-(ys.take i).length=0 by rw[List.length_take];have:=HX.out.2.2;omega];rfl
      ·rw[List.drop_set,if_pos (by omega),← List.drop_drop,HX.out.2.1,HDR.out];rfl
     case measure=>simp[intOf];omega
    |false=>
     go_wp2_with (go_at_call 195;refine(HV.out _).mono ?_;rintro e w2 ⟨rfl,h2⟩;have j4:=af.mk (Kd.gD HO1.out h2);have HB2:=af.mk (HB1.out.trans (h2.mono (by simp;have:=Kd.mF HO.out g rfl;omega)));clear h2 q0 q1 q2 q3)
     go_roundw
     case rel=>
      refine⟨i,j+1,ys,rfl,by go_num,by omega,by omega,HX.out.2.2,by rw[HTF.out,if_neg (by decide),List.append_nil];exact HX.out.1,?_,j4.out,HB2.out⟩;rw[← List.drop_drop,HX.out.2.1,HDR.out];rfl
     case measure=>simp[intOf];omega
   ·obtain rfl:j=xs.length:=by omega
    have htk:=HX.out.1;rw[List.take_length]at htk;have hfl:(xs.filter (·.f3)).length=i:=by rw[← htk,List.length_take];have:=HX.out.2.2;omega
    have HFL:=af.mk hfl;clear hfl;have hRt:=Kd.R_take HO.out (show i≤ys.length by rw[HX.out.2.2];omega);rw[htk]at hRt;have hOy:Kd.R jY 198 wr base (fun _=>True) (.slice (some ⟨g,0,none⟩) ys.length c) ys:=by rw[HX.out.2.2];exact HO.out
    have hown:=Kd.zV hOy;obtain⟨cells,hcells⟩:=Kd.Dj HO.out g rfl
    have hcs:xs.length*4≤cells.size:=by
     obtain⟨inner,_,h2⟩:=hown
     rcases h2 with ⟨h2,_⟩|⟨g',c',cur,hv,_,hh,hnc,_,hcs,_⟩
     ·cases h2
     cases hv
     rw[hcells]at hh
     cases hh
     have hcs:cells.size=c*4:=hcs;omega
    have hcl:=fun ty=>YG wr g (i*4) (xs.length-i) (c-i) cells (by omega) hcells (by omega) ty
    have hB2:=Ye hRt (Builtin.zeroCells #[.int .i64 0,.int .i64 0,.int .i64 0,.bool false] (xs.length-i)).toList;have HB2:=af.mk hB2;have hci:¬c=i:=by omega
    have HBS:=af.mk (show base≤wr.heap.size by have:=Kd.mF HO.out g rfl;omega);clear hB2 hRt hown hOy htk hcells hcs
    go_wp2_with fail
    go_ret
    exact⟨by rw[HFL.out];rfl,by rw[HFL.out];exact HB2.out.1,vN HB.out _ HBS.out HB2.out.2 (fun k e=>by cases e;exact hbs)⟩
 ·have hall:xs.filter (·.f3)=xs:=by
   rw[List.filter_eq_self];intro x hx
   cases h:x.f3 with
   |true=>rfl
   |false=>exact absurd (List.any_eq_true.2 ⟨x,hx,by rw[h];rfl⟩) hany
  have hidx:idx (fun x:eB=> !x.f3) xs= -1:=AZ _ _ (fun j hj=>by
   cases h:(xs[j]'hj).f3 with
   |true=>rfl
   |false=>exact absurd (List.any_eq_true.2 ⟨_,List.getElem_mem hj,by rw[h];rfl⟩) hany)
  rw[hall];rw[hidx]at HID;clear hR hB hC hall hidx hany hix
  go_enter Tryz.func194,Tryz.ntmps194
  go_wp2_with (go_at_call 224;refine HID.out.mono ?_;rintro e w2 ⟨rfl,h2⟩;have HB2:=af.mk h2;clear h2)
  go_ret
  exact⟨rfl,Kd.gD HR.out HB2.out,OL HB.out hbase HB2.out⟩
end Go.Proofs.YtdcddenojjdmjaaGreatDoor.T
namespace Go.Proofs
open Go.Shelf
def Tryz.aaW:Go.Shelf.Ren:=⟨fun|6=>196|15=>160|14=>225|28=>207|29=>208|20=>250|21=>251|22=>252|23=>253|24=>254|25=>255|26=>256|27=>257|46=>264|47=>227|48=>228|49=>265|50=>266|57=>268|n=>n,fun|22=>195|24=>198|25=>278|3=>3|39=>224|0=>0|53=>159|55=>47|4=>4|46=>281|45=>280|50=>286|5=>5|9=>9|66=>310|70=>314|76=>335|77=>336|n=>n,fun|n=>n⟩
theorem Tryz.Rq:Go.Proofs.SlLaysF0.n6 Tryz.prog Tryz.aaW:= {
 mixed:=by kernel_rfl
 f6:=⟨Tryz.f196.name,by decide,Tryz.func196.trans (congrArg some (by kernel_rfl))⟩
 f14:=⟨Tryz.f225.name,by decide,Tryz.func225.trans (congrArg some (by kernel_rfl))⟩
 f15:=Tryz.func160.trans (congrArg some (by kernel_rfl))
 f20:=⟨Tryz.f250.name,by decide,Tryz.func250.trans (congrArg some (by kernel_rfl))⟩
 f21:=⟨Tryz.f251.name,by decide,Tryz.func251.trans (congrArg some (by kernel_rfl))⟩
 f22:=⟨Tryz.f252.name,by decide,Tryz.func252.trans (congrArg some (by kernel_rfl))⟩
 f23:=⟨Tryz.f253.name,by decide,Tryz.func253.trans (congrArg some (by kernel_rfl))⟩
 f24:=⟨Tryz.f254.name,by decide,Tryz.func254.trans (congrArg some (by kernel_rfl))⟩
 f25:=⟨Tryz.f255.name,by decide,Tryz.func255.trans (congrArg some (by kernel_rfl))⟩
 f26:=⟨Tryz.f256.name,by decide,Tryz.func256.trans (congrArg some (by kernel_rfl))⟩
 f27:=⟨Tryz.f257.name,by decide,Tryz.func257.trans (congrArg some (by kernel_rfl))⟩
 f28:=Tryz.func207.trans (congrArg some (by kernel_rfl))
 f29:=Tryz.func208.trans (congrArg some (by kernel_rfl))
 f46:=⟨Tryz.f264.name,by decide,Tryz.func264.trans (congrArg some (by kernel_rfl))⟩
 f47:=Tryz.func227.trans (congrArg some (by kernel_rfl))
 f48:=Tryz.func228.trans (congrArg some (by kernel_rfl))
 f49:=⟨Tryz.f265.name,by decide,Tryz.func265.trans (congrArg some (by kernel_rfl))⟩
 f50:=⟨Tryz.f266.name,by decide,Tryz.func266.trans (congrArg some (by kernel_rfl))⟩
 f57:=⟨Tryz.f268.name,by decide,Tryz.func268.trans (congrArg some (by kernel_rfl))⟩
 t0:=Tryz.underlying0
 a0:=Tryz.isAgg0
 z0:=Tryz.sizeOf0
 v0:=Tryz.zeroValue0
 t3:=Tryz.underlying3
 a3:=Tryz.isAgg3
 z3:=Tryz.sizeOf3
 v3:=Tryz.zeroValue3
 t4:=Tryz.underlying4
 a4:=Tryz.isAgg4
 z4:=Tryz.sizeOf4
 v4:=Tryz.zeroValue4
 t5:=Tryz.underlying5
 a5:=Tryz.isAgg5
 z5:=Tryz.sizeOf5
 v5:=Tryz.zeroValue5
 t9:=Tryz.underlying9
 a9:=Tryz.isAgg9
 z9:=Tryz.sizeOf9
 v9:=Tryz.zeroValue9
 t22:=Tryz.underlying195
 a22:=Tryz.isAgg195
 z22:=Tryz.sizeOf195
 v22:=Tryz.zeroValue195
 t25:=Tryz.underlying278
 a25:=Tryz.isAgg278
 z25:=Tryz.sizeOf278
 v25:=Tryz.zeroValue278
 t39:=Tryz.underlying224
 a39:=Tryz.isAgg224
 z39:=Tryz.sizeOf224
 v39:=Tryz.zeroValue224
 t45:=Tryz.underlying280
 a45:=Tryz.isAgg280
 z45:=Tryz.sizeOf280
 v45:=Tryz.zeroValue280
 t46:=Tryz.underlying281
 a46:=Tryz.isAgg281
 z46:=Tryz.sizeOf281
 v46:=Tryz.zeroValue281
 t50:=Tryz.underlying286
 a50:=Tryz.isAgg286
 z50:=Tryz.sizeOf286
 v50:=Tryz.zeroValue286
 t53:=Tryz.underlying159
 a53:=Tryz.isAgg159
 z53:=Tryz.sizeOf159
 v53:=Tryz.zeroValue159
 t55:=Tryz.underlying47
 a55:=Tryz.isAgg47
 z55:=Tryz.sizeOf47
 v55:=Tryz.zeroValue47
 t66:=Tryz.underlying310
 a66:=Tryz.isAgg310
 z66:=Tryz.sizeOf310
 v66:=Tryz.zeroValue310
 t70:=Tryz.underlying314
 a70:=Tryz.isAgg314
 z70:=Tryz.sizeOf314
 v70:=Tryz.zeroValue314
 t76:=Tryz.underlying335
 a76:=Tryz.isAgg335
 z76:=Tryz.sizeOf335
 v76:=Tryz.zeroValue335
 t77:=Tryz.underlying336
 a77:=Tryz.isAgg336
 z77:=Tryz.sizeOf336
 v77:=Tryz.zeroValue336}
end Go.Proofs
namespace Go.Proofs.YtdcddenojjdmjaaGreatDoor.T
open Go.RowKit Go.Proofs.YtdcddenojjdmjaaGreatDoorW.PrintWords Go.Proofs.YtdcddenojjdmjaaGreatDoorW.PrintLast Go.Proofs.YtdcddenojjdmjaaGreatDoorW.PrintMore
open Go.Sort (Holds putRow putCells grow mapBlock onCells SWO alloc_eq_grow grow_grow)
abbrev xB:= {x:eB//0≤x.f2∧x.f2≤1000000}
instance:Inhabited xB:=⟨⟨z198,by decide,by decide⟩⟩
def uj(x:xB):List Value:=vK x.1
def cfB(x y:xB):Int:=x.1.f2-y.1.f2
theorem ltB(x y:xB):ltOf cfB x y=decide (x.1.f2<y.1.f2):=by
 unfold ltOf cfB;rw[Bool.eq_iff_iff,decide_eq_true_iff,decide_eq_true_iff];omega
theorem swoB:SWO (ltOf cfB) where
 irrefl x:=by rw[ltB];simp
 trans x y z h1 h2:=by rw[ltB]at*;simp at*;omega
 ntrans x y z h1 h2:=by rw[ltB]at*;simp at*;omega
theorem versCmp(x y:xB)(W:World):Calls Tryz.prog 197 #[.agg (uj x).toArray,.agg (uj y).toArray] W fun e w'=>e=.returned (.int .i64 (cfB x y))∧∃q os',w'=grow (W.drewN q) os':=by
 obtain⟨⟨x0,x1,x2,x3⟩,hx⟩:=x;obtain⟨⟨y0,y1,y2,y3⟩,hy⟩:=y;simp only at hx hy;have e:IntKind.i64.wrap (x2-y2)=x2-y2:=IntWalk.i64_in _ (by omega)
 show Calls Tryz.prog 197 #[.agg #[.int .i64 x0,.int .i64 x1,.int .i64 x2,.bool x3],.agg #[.int .i64 y0,.int .i64 y1,.int .i64 y2,.bool y3]] W fun e w'=>e=.returned (.int .i64 (x2-y2))∧∃q os',w'=grow (W.drewN q) os'
 have h1:=hx.1;have h2:=hx.2;have h3:=hy.1;have h4:=hy.2;clear hx hy
 go_enter Tryz.func197,Tryz.ntmps197
 go_wp2_with fail
 go_ret
 exact⟨rfl,0,_,by rw[alloc_eq_grow,alloc_eq_grow,grow_grow];rfl⟩
def lK(x:eB):xB:=if h:0≤x.f2∧x.f2≤1000000 then⟨x,h⟩else default
theorem XE{xs:List eB}(h:∀x ∈ xs,0≤x.f2∧x.f2≤1000000):(xs.map lK).map (·.1)=xs:=by
 rw[List.map_map]
 conv=>rhs;rw[← List.map_id xs]
 exact List.map_congr_left fun x hx=>by
  show(lK x).1=x
  unfold lK;rw[dif_pos (h x hx)]
def zD(d:Array xB):Array xB:=Go.Sort.pdq (ltOf cfB) d 0 d.size (Lib.bitLen d.size) true true
def yX(xs:List eB):List eB:=(zD (xs.map lK).toArray).toList.map (·.1)
theorem Q7(d:Array xB):(zD d).size=d.size:=
 (Go.Sort.pdq_sorts (ltOf cfB) swoB d 0 d.size (Lib.bitLen d.size) true true (Nat.zero_le _) (Nat.le_refl _) (Or.inl rfl)).1.1
theorem Xu(xs:List eB):(yX xs).length=xs.length:=by
 unfold yX;rw[List.length_map,Array.length_toList,Q7];simp
theorem aaY(xs:List eB)(h:∀x ∈ xs,0≤x.f2∧x.f2≤1000000):(yX xs).Perm xs:=by
 have hp:=(Go.Sort.pdq_sorts (ltOf cfB) swoB (xs.map lK).toArray 0 (xs.map lK).toArray.size (Lib.bitLen (xs.map lK).toArray.size) true true (Nat.zero_le _) (Nat.le_refl _) (Or.inl rfl)).1.2.2
 have h1:((zD (xs.map lK).toArray).extract 0 (xs.map lK).toArray.size).toList=(zD (xs.map lK).toArray).toList:=by
  rw[← Q7,Array.extract_size]
 have h2:(((xs.map lK).toArray).extract 0 (xs.map lK).toArray.size).toList=xs.map lK:=by rw[Array.extract_size]
 have hp':(zD (xs.map lK).toArray).toList.Perm (xs.map lK):=by rw[h2]at hp;rw[← h1];exact hp
 have:=hp'.map (·.1);rw[XE h]at this;exact this
theorem Tj(d:Array xB)(j i:Nat)(hj:j<d.size)(hi:i<4):(Go.Sort.flatK uj 4 d)[j*4+i]! =(vK (d[j]!).1)[i]! :=by
 rw[Go.Sort.get_flatK _ _ _ _ (by omega),show(j*4+i)/4=j by omega,show(j*4+i)%4=i by omega];rfl
theorem aaD(d:Array xB)(R:eB→List Value→Prop)(hR:∀x,R x (vK x)):fC R 4 (d.toList.map (·.1)) (Go.Sort.flatK uj 4 d).toList:=by
 refine⟨by simp,fun j p hj=>?_⟩;rw[List.getElem?_map]at hj
 cases hx:d.toList[j]? with
 |none=>rw[hx]at hj;cases hj
 |some x=>
  rw[hx]at hj
  cases hj
  obtain⟨hjl,hxe⟩:=List.getElem?_eq_some_iff.1 hx;rw[Array.length_toList]at hjl;have hd:d[j]! =x:=by rw[getElem!_pos d j hjl,← hxe];simp
  have hl:(((Go.Sort.flatK uj 4 d).toList.drop (j*4)).take 4)=vK x.1:=by
   apply List.ext_getElem
   ·rw[List.length_take,List.length_drop,Array.length_toList,Go.Sort.size_flatK]
    show min 4 (d.size*4-j*4)=4
    omega
   ·intro i h1 h2;have hi:i<4:=h2;rw[List.getElem_take,List.getElem_drop];have:=Tj d j i hjl hi;rw[hd,getElem!_pos (vK x.1) i h2,getElem!_pos (Go.Sort.flatK uj 4 d) (j*4+i) (by rw[Go.Sort.size_flatK];omega)]at this;simpa using this
  rw[hl];exact hR x.1
theorem holdsB{W:World}{g n c base:Nat}{xs:List eB}(h:Kd.R jY 198 W base (fun _=>True) (.slice (some ⟨g,0,none⟩) n c) xs)(hb:∀x ∈ xs,0≤x.f2∧x.f2≤1000000):Go.Sort.HoldsK uj 4 W g 0 (xs.map lK).toArray:=by
 obtain⟨cells,hcells⟩:=Kd.Dj h g rfl;intro j hj;rw[Go.Sort.size_flatK]at hj;have hj':j<xs.length*4:=by simpa using hj
 refine⟨?_,aA hcells _⟩;have hi:j/4<xs.length:=by omega
 have hx:=XE hb
 have hg:((xs.map lK).toArray[j/4]!).1=xs[j/4]'hi:=by
  rw[getElem!_pos _ _ (by simpa using hi)];have:((xs.map lK).map (·.1))[j/4]? =xs[j/4]? :=by rw[hx]
  simp[List.getElem?_map,hi]at this;simpa using this
 have hf:=Tj (xs.map lK).toArray (j/4) (j%4) (by simpa using hi) (Nat.mod_lt _ (by omega));rw[show j/4*4+j%4=j by omega,hg]at hf;have hm:j%4<(vK (xs[j/4]'hi)).length:=Nat.mod_lt _ (by omega);have hc:=VR h hi (j%4) _ (List.getElem?_eq_getElem hm);have hz:((j/4:Nat):Int).toNat*jY.sz+j%4=j:=by show((j/4:Nat):Int).toNat*4+j%4=j;omega
 rw[hz]at hc;rw[Nat.zero_add,hc]
 show some _=some ((Go.Sort.flatK uj 4 (xs.map lK).toArray)[j]!)
 rw[hf,getElem!_pos (vK (xs[j/4]'hi)) (j%4) hm]
theorem Rq(base g c n:Nat)(xs:List eB)(W:World)(hR:Kd.R jY 198 W base (fun _=>True) (.slice (some ⟨g,0,none⟩) n c) xs)(hl:xs.length≤1000000)(hb:∀x ∈ xs,0≤x.f2∧x.f2≤1000000):
  Calls Tryz.prog 196 #[.slice (some ⟨g,0,none⟩) n c,.func (.func 197) #[] #[]] W fun e w'=>e=.returned (.tuple #[])∧Kd.R jY 198 w' base (fun _=>True) (.slice (some ⟨g,0,none⟩) n c) (yX xs)∧W.grownBy w' (some g):=by
 have hn:=(Kd.dB hR).1;subst hn;have hgl:=Kd.mF hR g rfl;have hd:(xs.map lK).toArray.size=xs.length:=by simp
 have hcon:=AnyQ.slices_SortFunc_eq Tryz.Rq 4 Tryz.isAgg198 Tryz.sizeOf198 uj (fun _=>rfl) (fun x=>VS x.1) cfB swoB 197 #[] g 0 c (xs.map lK).toArray W (enters_of Tryz.func197 (by kernel_rfl) rfl) (fun m os dk _ x y=>versCmp x y _) (holdsB hR hb) hgl (by omega)
 change Calls Tryz.prog 196 _ _ _ at hcon
 rw[hd]at hcon;refine hcon.mono ?_;rintro e w' ⟨rfl,m,os,rfl⟩;obtain⟨inner,hown⟩:=Kd.zV hR;have hsz:(Go.Sort.flatK uj 4 (zD (xs.map lK).toArray)).size=xs.length*4:=by rw[Go.Sort.size_flatK,Q7,hd]
 have hq:=QZ id (m:=m) hown (Go.Sort.flatK uj 4 (zD (xs.map lK).toArray)) hsz os
 have heq:sortWorldK uj 4 W g 0 m (Go.Sort.pdq (ltOf cfB) (xs.map lK).toArray 0 xs.length (Lib.bitLen xs.length) true true) os=grow (putRow id (Go.Sort.ahead W m) g 0 (Go.Sort.flatK uj 4 (zD (xs.map lK).toArray))) os:=by
  unfold zD;rw[hd];rfl
 rw[heq];refine⟨rfl,⟨fun _ _=>trivial,(Go.Sort.flatK uj 4 (zD (xs.map lK).toArray)).toList,?_,aaD _ _ (fun x=>M8 _ _ _ x)⟩,hq.2⟩;rw[Xu];have:=hq.1;rwa [List.map_id]at this
end Go.Proofs.YtdcddenojjdmjaaGreatDoor.T
namespace Go.Proofs.YtdcddenojjdmjaaGreatDoor.T
open Go.RowKit Go.Proofs.YtdcddenojjdmjaaGreatDoorW.PrintWords Go.Proofs.YtdcddenojjdmjaaGreatDoorW.PrintLast Go.Proofs.YtdcddenojjdmjaaGreatDoorW.PrintMore
def zA(h:List aj)(key:ByteArray)(x:eB):Int:=dP.all key x.f2 (evs h x.f0 h.length)
def rR(h:List aj)(key:ByteArray)(S:List eB):List Int:=(S.map (zA h key)).filter (fun i=>decide (i≥0))
def QK(L:List eB):Bool:=decide (0<L.length∧L.length≤1000000)&&L.all fun x=>decide (0≤x.f2∧x.f2≤1000000)
def zw.f(k:Nat)(l0:List aj)(a1:ByteArray):Option (List Int):=(iL.f k l0).bind fun L=>if QK L then some (rR l0 a1 (yX (L.filter (·.f3))))else none
theorem abh(h:List aj)(key:ByteArray)(S:List eB)(i:Nat)(hi:i<S.length):rR h key (S.take (i+1))=if zA h key (S[i]'hi)≥0 then rR h key (S.take i)++[zA h key (S[i]'hi)]else rR h key (S.take i):=by
 unfold rR;rw[← List.take_append_getElem hi,List.map_append,List.filter_append]
 by_cases c:zA h key (S[i]'hi)≥0<;>simp[c]
theorem abg(h:List aj)(key:ByteArray)(S:List eB):(rR h key S).length≤S.length:=by
 unfold rR;have:=List.length_filter_le (fun i:Int=>decide (i≥0)) (S.map (zA h key));rw[List.length_map]at this;exact this
def Vers.At(w:World)(h:List aj)(key:ByteArray)(S:List eB)(g c:Nat)(v6 v17:Value)(wr:World):Prop:=
 ∃i:Nat,i≤S.length∧v17=.int .i64 i∧Kd.R (Kd.int .i64) 3 wr w.heap.size (fun _=>True) v6 (rR h key (S.take i))∧Kd.R jY 198 wr w.heap.size (fun _=>True) (.slice (some ⟨g,0,none⟩) S.length c) S∧Below w.heap.size w wr
theorem zw.calls(k:Nat)(A0:Option Addr)(c0:Nat)(l0:List aj)(a1:ByteArray)(r:List Int)(w:World)(hr0:Kd.C dw w A0 l0.length l0)(hc0:l0.length≤c0)(h:zw.f k l0 a1=some r):
  Calls Tryz.prog 153 #[.slice A0 l0.length c0,.string a1] w fun e w'=>∃fE:Value,e=.returned (fE)∧Kd.R (Kd.int .i64) 3 w' w.heap.size (fun _=>True) fE r∧Below w.heap.size w w':=by
 unfold zw.f at h;obtain⟨L,hL,h⟩:=Option.bind_eq_some_iff.1 h
 split at h
 case isFalse=>cases h
 rename_i hok
 cases h
 obtain⟨h1,h2⟩:=Bool.and_eq_true_iff.1 hok;obtain⟨h0,hmax⟩:=of_decide_eq_true h1;have HB0:=af.mk (show ∀x ∈ L.filter (·.f3),0≤x.f2∧x.f2≤1000000 from fun x hx=>of_decide_eq_true (List.all_eq_true.1 h2 x (List.mem_filter.1 hx).1));have HL:=af.mk hL;have HR:=af.mk hr0;have HDL:=af.mk (show(L.filter (·.f3)).length≤1000000 by have:=List.length_filter_le (fun x:eB=>x.f3) L;omega);have pK:=af.mk (show(L.filter (·.f3)).length=(yX (L.filter (·.f3))).length from(Xu _).symm);clear hr0 hL hok h1 h2
 go_enter Tryz.func153,Tryz.ntmps153
 go_wp2_with (first
  |(go_at_call 104;refine(iL.calls k A0 c0 l0 L _ HR.out hc0 HL.out).mono ?_;rintro e w2 ⟨v7,rfl,ho,hb⟩;obtain⟨g,c,rfl,hg1,hg2,_⟩:=Kd.xL ho h0;have HO:=af.mk ho;have HB:=af.mk hb;clear ho hb)
  |(go_at_call 194;refine(YN w.heap.size g c L w w2 HO.out HB.out HB.out.size hmax h0).mono ?_;rintro e w3 ⟨rfl,ho,hb⟩;have nY:=af.mk ho;have HB3:=af.mk hb;clear ho hb)
  |(go_at_call 196;refine(Rq w.heap.size g c _ (L.filter (·.f3)) w3 nY.out HDL.out HB0.out).mono ?_;rintro e w4 ⟨rfl,ho,hg4⟩;have HO4:=af.mk ho;have vU:=af.mk (vN HB3.out _ HB3.out.size hg4 (fun k e=>by cases e;exact hg1));clear ho hg4))
 obtain⟨S,hS⟩:∃S,S=yX (L.filter (·.f3)):=⟨_,rfl⟩;have H0:=af.mk (show Vers.At w l0 a1 S g c (.slice none 0 0) (.int .i64 0) w4 from⟨0,by omega,rfl,Kd.dV _ _ _ _ _,by rw[hS,← pK.out];exact HO4.out,vU.out⟩);have HSM:=af.mk (show S.length≤1000000 by rw[hS,← pK.out];exact HDL.out);rw[pK.out,← hS];have HSS:=af.mk hS;clear hS HO HB nY HB3 HO4 vU HB0 HDL pK h;have hsm:S.length≤1000000:=HSM.out
 go_loopw [6,17] (fun v6 v17 wr=>Vers.At w l0 a1 S g c v6 v17 wr) (fun _ v17 _=>S.length-(intOf v17).toNat)
 case atStart=>exact H0.out
 case round=>
  obtain⟨i,hi,rfl,hO,hC,hB⟩:=hrel;clear H0;obtain⟨A3,c3,rfl⟩:=Kd.fH hO;have HO:=af.mk hO;have HC:=af.mk hC;have HB:=af.mk hB;clear hO hC hB
  by_cases hlt:i<S.length
  ·obtain⟨q0,q1,q2,q3⟩:=Nb HC.out hlt;have HT:=af.mk (abh l0 a1 S i hlt);have pG:=af.mk (abg l0 a1 (S.take i));obtain⟨⟨x0,x1,x2,x3⟩,hx⟩:∃x,x=S[i]'hlt:=⟨_,rfl⟩;rw[← hx]at q0 q1 q2 q3 HT;clear hx;simp only at q0 q1 q2 q3;obtain⟨pre,hpre⟩:∃pre,pre=rR l0 a1 (S.take i):=⟨_,rfl⟩;rw[← hpre]at HO HT pG;rw[← hpre];clear hpre;obtain⟨m,hm⟩:∃m,m=zA l0 a1 ⟨x0,x1,x2,x3⟩:=⟨_,rfl⟩;rw[← hm]at HT;have HM:=af.mk (show dP.f l0 x0 a1 x2=some m by rw[hm];rfl);clear hm;have HO1:=af.mk (Kd.bX HO.out (.cells #[.int .i64 x0,.int .i64 x1,.int .i64 x2,.bool x3] 198));have tK:=af.mk (Kd.bX HC.out (.cells #[.int .i64 x0,.int .i64 x1,.int .i64 x2,.bool x3] 198));have HB1:=af.mk (ax HB.out (.cells #[.int .i64 x0,.int .i64 x1,.int .i64 x2,.bool x3] 198));have rY:=af.mk (show(pre.length+1)*8≤140737488355328 by have:=pG.out;rw[List.length_take]at this;omega)
   by_cases hp:m≥0
   ·have HP:=af.mk hp;have hpb:decide (m≥0)=true:=decide_eq_true hp;clear hp
    go_wp2_with (first
     |(go_at_call 189;refine(dP.calls A0 c0 l0 x0 a1 x2 m _ (Kd.dN HR.out HB1.out) hc0 HM.out).mono ?_;rintro e w2 ⟨rfl,hb⟩;have j4:=af.mk (Kd.gD HO1.out hb);have qm:=af.mk (Kd.gD tK.out hb);have HB2:=af.mk (av HB1.out hb);clear hb)
     |((with_reducible refine jN (b:=.append) (xs:=#[.tmp 30,.tmp 32]) rfl ?_);at_builtin;refine Kd.kY (Kd.int .i64) (w0:=w) w.heap.size rfl (.tmp 30) (.tmp 32) 27 3 (.int .i64 0) 8 rfl Tryz.underlying27 QF rfl (by decide) (by omega) (.slice A3 pre.length c3) pre m [.int .i64 m] (fun _=>True) (fun _=>False) rfl (by first|(go_simp;done)|(go_simp;rfl)) rfl (fun _ h=>h.elim) (fun _ _=>trivial) j4.out HB2.out HB2.out.size rY.out ?_;intro v3 w3 ho3 hb3 hg3 mQ;have HC3:=af.mk (Kd.Oz qm.out j4.out (by decide) hg3);have nY:=af.mk ho3;have HB3:=af.mk hb3;clear ho3 hb3 hg3 mQ))
    go_roundw
    case rel=>exact⟨i+1,by omega,by go_num,by rw[HT.out,if_pos (by have:=HP.out;omega)];exact nY.out,HC3.out,HB3.out⟩
    case measure=>simp[intOf];omega
   ·have HP:=af.mk hp;have hpb:decide (m≥0)=false:=decide_eq_false hp;clear hp
    go_wp2_with (go_at_call 189;refine(dP.calls A0 c0 l0 x0 a1 x2 m _ (Kd.dN HR.out HB1.out) hc0 HM.out).mono ?_;rintro e w2 ⟨rfl,hb⟩;have j4:=af.mk (Kd.gD HO1.out hb);have qm:=af.mk (Kd.gD tK.out hb);have HB2:=af.mk (av HB1.out hb);clear hb)
    go_roundw
    case rel=>exact⟨i+1,by omega,by go_num,by rw[HT.out,if_neg (by have:=HP.out;omega)];exact j4.out,qm.out,HB2.out⟩
    case measure=>simp[intOf];omega
  ·obtain rfl:i=S.length:=by omega
   rw[List.take_length]at HO;rw[List.take_length]
   go_wp2_with fail
   go_ret
   exact⟨_,rfl,by rw[← HSS.out];exact HO.out,HB.out⟩
end Go.Proofs.YtdcddenojjdmjaaGreatDoor.T
