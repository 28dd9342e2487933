import Derived.Lib.FrozenHead
import Derived.Lib.AppendZeros
import Derived.Laws.IdiomStrings
import Derived.Test.YtdcddenojjdmjaaGreatDoorM09
set_option linter.all false
set_option maxHeartbeats 8000000
set_option maxRecDepth 100000
namespace Go.Proofs.YtdcddenojjdmjaaGreatDoor.Cvb
open Go.RowKit Go.Lib Go.Proofs.YtdcddenojjdmjaaGreatDoorW.PrintWords Go.Proofs.YtdcddenojjdmjaaGreatDoorW.PrintLast
def At(e:TypeId)(B:Nat)(v:Value)(acc:ByteArray)(w:World):Prop:=
 ∃g cap cur fz,v=.slice (some ⟨g,0,none⟩) acc.size cap∧B≤g∧w.heap[g]? =some (.cells cur e fz)∧(fz.2=0∨cur.size≤fz.1)∧acc.size≤cap∧cap≤maxLen∧cur.size=cap∧cur.toList.take acc.size=strCells acc
theorem Rs(P:Program)(g o:Nat)(t:TypeId)(fz:Nat×Nat):∀(vs:List Value) (i:Nat) (cur:Array Value) (w:World),w.heap[g]? =some (.cells cur t fz)→(fz.2=0∨cur.size≤fz.1)→o+i+vs.length≤cur.size→(∀v ∈ vs,v.oneCell'=true)→
  (storeCells ⟨g,o,none⟩ vs i).run P w=.ok () (w.setRow g (cur.toList.take (o+i)++vs++cur.toList.drop (o+i+vs.length)).toArray)
 | [],i,cur,w,hg,_,_,_=>by
  simp only[storeCells,List.append_nil,List.length_nil,Nat.add_zero,List.take_append_drop,Array.toArray_toList];rw[setRow_self w g cur t fz hg];rfl
 |v::rest,i,cur,w,hg,hfz,hl,h1=>by
  have hi:o+i<cur.size:=by simp at hl;omega
  have hadd:(⟨g,o,none⟩:Addr).add i=⟨g,o+i,none⟩:=by unfold Addr.add;split<;>simp_all
  have hcell:w.cell? ⟨g,o+i,none⟩=some cur[o+i]:=by simp[World.cell?,hg,hi]
  have hfro:w.frozen? ⟨g,o+i,none⟩=false:=by
   obtain⟨lo,hi'⟩:=fz;simp only[World.frozen?,hg,Bool.and_eq_false_iff,decide_eq_false_iff_not];simp only at hfz
   rcases hfz with h|h
   ·right;omega
   ·left;omega
  have hst:(store ((⟨g,o,none⟩:Addr).add i) v).run P w=.ok () (w.setRow g (cur.setIfInBounds (o+i) v)):=by
   rw[hadd,run_store P w _ v _ (h1 v (by simp)),hcell];simp[hfro,setCell_eq_setRow w g (o+i) cur t fz v hg]
  have ih:=Rs P g o t fz rest (i+1) (cur.setIfInBounds (o+i) v) (w.setRow g (cur.setIfInBounds (o+i) v)) (setRow_heap w g cur _ t _ hg) (by simpa using hfz) (by simp at hl ⊢;omega) (fun x hx=>h1 x (by simp[hx]));simp only[storeCells,Sem.run_bind,hst,Result.andThen_ok,ih,setRow_setRow]
  congr 3
  have e:=list_seg_step cur.toList (o+i) v rest (by simp at hl ⊢;omega);simpa [Array.toList_setIfInBounds,Nat.add_assoc]using e
theorem LB(s x:ByteArray):strCells s++strCells x=strCells (s++x):=by
 simp[strCells,ByteArray.data_append]
theorem Yl{P:Program}(w:World)(t u ty e:TypeId)(i:TypeInfo)(ht:P.underlying t=some (.slice e))(hu:P.underlying u=some .string)(hi:P.info? e=some i)(hs1:i.size=1)
  (g sLen sCap:Nat) (cur:Array Value) (fz:Nat×Nat) (hg:w.heap[g]? =some (.cells cur e fz)) (hfz:fz.2=0∨cur.size≤fz.1) (s:ByteArray)
  (hroom:sLen+s.size≤sCap) (hfit:sLen+s.size≤cur.size):
  (Builtin.append_ #[t,u] ty #[.slice (some ⟨g,0,none⟩) sLen sCap,.string s]).run P w=
   .ok (.slice (some ⟨g,0,none⟩) (sLen+s.size) sCap) (w.setRow g (cur.toList.take sLen++strCells s++cur.toList.drop (sLen+s.size)).toArray):=by
 have hf:=run_firstCells_string (P:=P) w 1 s;have hst:=Rs P g sLen e fz (strCells s) 0 cur w hg hfz (by simpa [strCells_length]using hfit) (strCells_oneCell s);simp only[Nat.add_zero,strCells_length]at hst;simp[Builtin.append_,run_underlying ht,run_underlying hu,sizeOf,typeInfo,hi,hs1,Builtin.lenOf,hroom,hf,Addr.add_lit,hst]
theorem At.cells{e:TypeId}{B g n cap:Nat}{acc:ByteArray}{w:World}(h:At e B (.slice (some ⟨g,0,none⟩) n cap) acc w):∀j u,(strCells acc)[j]? =some u→w.cell? ((⟨g,0,none⟩:Addr).add j)=some u:=by
 obtain⟨g',cap',cur,fz,hv,hb,hg,_,_,_,_,htake⟩:=h;injection hv with hv _ _
 injection hv with hv
 injection hv with hv _ _
 subst hv;intro j u hu;have hadd:(⟨g,0,none⟩:Addr).add j=⟨g,j,none⟩:=by unfold Addr.add;split<;>simp_all
 rw[hadd,cell_of_row w g j cur e fz hg];rw[← htake,List.getElem?_take]at hu
 split at hu
 ·simpa using hu
 ·cases hu
theorem append_law{P:Program}(w:World)(t u ty e:TypeId)(i:TypeInfo)(ht:P.underlying t=some (.slice e))(hu:P.underlying u=some .string)(hi:P.info? e=some i)(hz:i.zero=some (.int .u8 0))
  (hsize:i.size=1) (hby:i.bytes=1) (B:Nat) (v:Value) (acc s:ByteArray) (h:At e B v acc w) (hbytes:acc.size+s.size≤140737488355328) (hB:B≤w.heap.size):
  ∃v' w',(Builtin.append_ #[t,u] ty #[v,.string s]).run P w=.ok v' w'∧At e B v' (acc++s) w'∧Below B w w':=by
 have h63:acc.size+s.size≤maxLen:=by unfold maxLen;omega
 have hsz:(acc++s).size=acc.size+s.size:=ByteArray.size_append;obtain⟨g,cap,cur,fz,rfl,hbg,hg,hfz,hnc,hcm,hcs,htake⟩:=h;have h:At e B (.slice (some ⟨g,0,none⟩) acc.size cap) acc w:=⟨g,cap,cur,fz,rfl,hbg,hg,hfz,hnc,hcm,hcs,htake⟩
 by_cases hroom:acc.size+s.size≤cap
 ·have hr:=Yl (P:=P) w t u ty e i ht hu hi hsize g acc.size cap cur fz hg hfz s hroom (by omega)
  have hn:(cur.toList.take acc.size++strCells s++cur.toList.drop (acc.size+s.size)).toArray.size=cap:=by
   simp only[List.size_toArray,List.length_append,List.length_take,List.length_drop,Array.length_toList,strCells_length];omega
  refine⟨_,_,hr,⟨g,cap,_,fz,by rw[hsz],hbg,setRow_heap w g cur _ e _ hg,by rw[hn];omega,by omega,hcm,hn,?_⟩,⟨rfl,rfl,rfl,by simp,fun k hk=>setRow_other w g k _ (by omega)⟩⟩;rw[htake,LB,hsz,← hsz,← strCells_length (acc++s)];exact List.take_left
 ·have hr:=run_append_grow_string (P:=P) w t u ty e i (.int .u8 0) ht hu hi hz ⟨g,0,none⟩ acc.size cap (strCells acc) (by rw[hsize,strCells_length,Nat.mul_one]) h.cells s (by omega) (by unfold maxLen at h63;omega) (by rw[hby];exact growslice_fits (by omega) (by omega));have hge:=grownCap_ge w (acc.size+s.size) cap e;have hcm2:grownCap w (acc.size+s.size) cap e≤maxLen:=grownCap_le_maxLen w (acc.size+s.size) cap e h63;refine⟨_,_,hr,⟨w.heap.size,_,_,(0,0),by rw[hsz],hB,heap_alloc_new w.drew _,.inl rfl,by omega,hcm2,?_,?_⟩,⟨rfl,rfl,rfl,by simp,fun k hk=>Lib.alloc_old w.drew _ k (by simpa using Nat.lt_of_lt_of_le hk hB)⟩⟩
  ·have hz1:(Value.int IntKind.u8 0).cells.size=1:=rfl;simp only[Array.size_append,List.size_toArray,size_zeroCells,hz1,strCells_length];omega
  ·simp only[Array.toList_append,List.append_assoc];rw[← List.append_assoc,LB,← strCells_length (acc++s)];exact List.take_left
theorem at_new(w:World)(e:TypeId)(s:ByteArray)(hs:s.size≤maxLen):At e w.heap.size (.slice (some ⟨w.heap.size,0,none⟩) s.size (grownCap w s.size 0 e)) s (bytesWorld w e s):=by
 have hge:=grownCap_ge w s.size 0 e
 have hn:(bytesCells w e s).size=grownCap w s.size 0 e:=by
  have h1:s.data.size=s.size:=rfl;simp[bytesCells,h1];omega
 refine⟨_,_,_,_,rfl,Nat.le_refl _,bytesWorld_at_new w e s,.inr (Nat.le_refl _),hge,grownCap_le_maxLen w s.size 0 e hs,hn,?_⟩
 have h1:(bytesCells w e s).toList=strCells s++(Array.replicate (grownCap w s.size 0 e-s.size) (Value.int .u8 0)).toList:=by
  simp[bytesCells,strCells]
 rw[h1,← strCells_length s];exact List.take_left
theorem Yp{e:TypeId}{B:Nat}{v:Value}{acc:ByteArray}{w w':World}(h:At e B v acc w)(hb:Below w.heap.size w w'):At e B v acc w':=by
 obtain⟨g,cap,cur,fz,rfl,h1,h2,h3⟩:=h;exact⟨g,cap,cur,fz,rfl,h1,(hb.block g (Array.getElem?_eq_some_iff.1 h2).1).trans h2,h3⟩
theorem aa3(s:ByteArray):strOfNums (bytesOf s)=s:=by
 have h:(strOfNums (bytesOf s)).data=s.data:=by
  apply Array.ext';rw[strOfNums_data];rw[bytesOf,List.map_map]
  have hf:((fun n:Int=>UInt8.ofNat n.toNat)∘fun b:UInt8=>(b.toNat:Int))=id:=by
   funext b;simp
  rw[hf,List.map_id]
 rcases h1:strOfNums (bytesOf s)with ⟨d⟩
 rcases s with ⟨d'⟩
 rw[h1]at h
 cases h
 rfl
theorem aa4{P:Program}{w:World}{src dst e:TypeId}{B g n cap:Nat}{acc:ByteArray}(hs:P.underlying src=some (.slice e))(he:P.underlying e=some (.int .u8))(hd:P.underlying dst=some .string)
  (h:At e B (.slice (some ⟨g,0,none⟩) n cap) acc w):(convert src dst (.slice (some ⟨g,0,none⟩) n cap)).run P w=.ok (.string acc) w:=by
 have hc:=h.cells;obtain⟨g',cap',cur,fz,hv,_,_,_,hcap,hcm,_,_⟩:=h;injection hv with _ hn hcc
 have hr:Lm w .u8 (some ⟨g,0,none⟩) n (bytesOf acc):=by
  refine⟨by rw[bytesOf_length,hn],by unfold maxLen at hcm;omega,fun _=>⟨_,rfl,fun j hj=>?_⟩⟩;refine hc j _ ?_;have hj':j<acc.data.toList.length:=by rw[LD];omega
  simp[strCells,bytesOf,List.getD_eq_getElem?_getD,List.getElem?_eq_getElem hj']
 rw[NK hs he hd hr,aa3]
theorem Ym{P:Program}(w:World)(t ty e:TypeId)(i:TypeInfo)(ht:P.underlying t=some (.slice e))(hi:P.info? e=some i)(hs1:i.size=1)
  (g sLen sCap:Nat) (cur:Array Value) (fz:Nat×Nat) (hg:w.heap[g]? =some (.cells cur e fz)) (hfz:fz.2=0∨cur.size≤fz.1)
  (a:Addr) (m c:Nat) (news:List Value) (hl:news.length=m) (hnews:∀j u,news[j]? =some u→w.cell? (a.add j)=some u) (h1:∀u ∈ news,u.oneCell'=true)
  (hroom:sLen+m≤sCap) (hfit:sLen+m≤cur.size):
  (Builtin.append_ #[t,t] ty #[.slice (some ⟨g,0,none⟩) sLen sCap,.slice (some a) m c]).run P w=
   .ok (.slice (some ⟨g,0,none⟩) (sLen+m) sCap) (w.setRow g (cur.toList.take sLen++news++cur.toList.drop (sLen+m)).toArray):=by
 have hf:=run_firstCells_some (P:=P) w i.size m a m c news (by rw[hl,hs1,Nat.mul_one]) hnews;have hst:=Rs P g sLen e fz news 0 cur w hg hfz (by rw[hl];simpa using hfit) h1;simp only[Nat.add_zero,hl]at hst;simp only[hs1]at hf;simp[Builtin.append_,run_underlying ht,sizeOf,typeInfo,hi,hs1,Builtin.lenOf,hroom,hf,Addr.add_lit,hst]
theorem Yj{P:Program}(w:World)(t ty e:TypeId)(i:TypeInfo)(ht:P.underlying t=some (.slice e))(hi:P.info? e=some i)(hz:i.zero=some (.int .u8 0))
  (hsize:i.size=1) (hby:i.bytes=1) (B:Nat) (v:Value) (acc s:ByteArray) (h:At e B v acc w) (a:Addr) (c:Nat) (hs:∀j u,(strCells s)[j]? =some u→w.cell? (a.add j)=some u) (hbytes:acc.size+s.size≤140737488355328) (hB:B≤w.heap.size):
  ∃v' w',(Builtin.append_ #[t,t] ty #[v,.slice (some a) s.size c]).run P w=.ok v' w'∧At e B v' (acc++s) w'∧Below B w w':=by
 have h63:acc.size+s.size≤maxLen:=by unfold maxLen;omega
 have hsz:(acc++s).size=acc.size+s.size:=ByteArray.size_append;obtain⟨g,cap,cur,fz,rfl,hbg,hg,hfz,hnc,hcm,hcs,htake⟩:=h;have h:At e B (.slice (some ⟨g,0,none⟩) acc.size cap) acc w:=⟨g,cap,cur,fz,rfl,hbg,hg,hfz,hnc,hcm,hcs,htake⟩
 by_cases hroom:acc.size+s.size≤cap
 ·have hr:=Ym (P:=P) w t ty e i ht hi hsize g acc.size cap cur fz hg hfz a s.size c (strCells s) (strCells_length s) hs (strCells_oneCell s) hroom (by omega)
  have hn:(cur.toList.take acc.size++strCells s++cur.toList.drop (acc.size+s.size)).toArray.size=cap:=by
   simp only[List.size_toArray,List.length_append,List.length_take,List.length_drop,Array.length_toList,strCells_length];omega
  refine⟨_,_,hr,⟨g,cap,_,fz,by rw[hsz],hbg,setRow_heap w g cur _ e _ hg,by rw[hn];omega,by omega,hcm,hn,?_⟩,⟨rfl,rfl,rfl,by simp,fun k hk=>setRow_other w g k _ (by omega)⟩⟩;rw[htake,LB,hsz,← hsz,← strCells_length (acc++s)];exact List.take_left
 ·have hr:=run_append_grow (P:=P) w t ty e i (.int .u8 0) ht hi hz ⟨g,0,none⟩ acc.size cap (strCells acc) (by rw[hsize,strCells_length,Nat.mul_one]) h.cells a s.size c (strCells s) (by rw[hsize,strCells_length,Nat.mul_one]) hs (by omega) (by unfold maxLen at h63;omega) (by rw[hby];exact growslice_fits (by omega) (by omega));have hge:=grownCap_ge w (acc.size+s.size) cap e;have hcm2:grownCap w (acc.size+s.size) cap e≤maxLen:=grownCap_le_maxLen w (acc.size+s.size) cap e h63;refine⟨_,_,hr,⟨w.heap.size,_,_,(0,0),by rw[hsz],hB,heap_alloc_new w.drew _,.inl rfl,by omega,hcm2,?_,?_⟩,⟨rfl,rfl,rfl,by simp,fun k hk=>Lib.alloc_old w.drew _ k (by simpa using Nat.lt_of_lt_of_le hk hB)⟩⟩
  ·have hz1:(Value.int IntKind.u8 0).cells.size=1:=rfl;simp only[Array.size_append,List.size_toArray,size_zeroCells,hz1,strCells_length];omega
  ·simp only[Array.toList_append,List.append_assoc];rw[← List.append_assoc,LB,← strCells_length (acc++s)];exact List.take_left
theorem abo{P:Program}(w:World){ops:Array Oper}{rest:List Oper}{o:Oper}{a:Act}{Q:Exit→Act→World→Prop}(hgd:o.guard=none)(sl x:Operand)(t:TypeId)
  (ho:o.op=.call {callee:=.builtin .append,args:=#[sl,x],argTypes:=#[t,t]})
  (e:TypeId) (i:TypeInfo) (ht:P.underlying t=some (.slice e)) (hi:P.info? e=some i) (hz:i.zero=some (.int .u8 0))
  (hsize:i.size=1) (hby:i.bytes=1) (B:Nat) (v:Value) (acc s:ByteArray) (ad:Addr) (n c:Nat) (hs:a.eval sl=v) (hx:a.eval x=.slice (some ad) n c) (hn:n=s.size) (h:At e B v acc w) (hc:∀j u,(strCells s)[j]? =some u→w.cell? (ad.add j)=some u) (hbytes:acc.size+s.size≤140737488355328) (hB:B≤w.heap.size)
  (hK:∀v' w',At e B v' (acc++s) w'→Below B w w'→wpList P ops Q rest (a.put o.dst v') w'):wpList P ops Q (o::rest) a w:=by
 subst hn;obtain⟨v',w',hr,h2,h3⟩:=Yj (P:=P) w t o.type e i ht hi hz hsize hby B v acc s h ad c hc hbytes hB;exact wpList_append_run w hgd sl x t t ho v (.slice (some ad) s.size c) hs hx v' w' hr (hK v' w' h2 h3)
end Go.Proofs.YtdcddenojjdmjaaGreatDoor.Cvb
namespace Go.Proofs.YtdcddenojjdmjaaGreatDoor.T
open Go.RowKit Go.Proofs.YtdcddenojjdmjaaGreatDoorW.PrintWords Go.Proofs.YtdcddenojjdmjaaGreatDoorW.PrintLast Go.Proofs.YtdcddenojjdmjaaGreatDoorW.PrintMore
theorem WU(x:UInt8):∀m,Lib.repeatL [x] (m+1)=Lib.repeatL [x] m++[x]
 |0=>rfl
 |m+1=>by
  have:=WU x m;simp[Lib.repeatL]at this ⊢;exact this
theorem aai(s:ByteArray)(m:Nat):lI s (m+1)=lI s m++⟨#[0]⟩:=by
 unfold lI;apply ByteArray.ext;simp[WU]
theorem WC(s:ByteArray)(m:Nat):(lI s m).size=s.size+m:=by
 unfold lI;rw[ByteArray.size_append]
 show s.size+(Lib.repeatL [0] m).toArray.size=s.size+m
 rw[List.size_toArray,Gj]
def lenOf:Value→Nat|.slice _ n _=>n|_=>0
theorem aaj(s:ByteArray):lI s 0=s:=by
 unfold lI;apply ByteArray.ext;simp[Lib.repeatL]
theorem refPad(s:ByteArray)(hs:s.size≤64)(w:World):Calls Tryz.prog 76 #[.string s] w fun e w'=>e=.returned (.string (lI s (64-s.size)))∧Below w.heap.size w w':=by
 obtain⟨i0,hi,hz0,hz1,hz2⟩:=info_parts Vt;have HI:=af.mk (And.intro hi (And.intro hz0 (And.intro hz1 hz2)));clear hi hz0 hz1 hz2
 go_enter Tryz.func76,Tryz.ntmps76
 have kb:=fun W=>aal (P:=Tryz.prog) 9 155 5 Tryz.underlying9 Tryz.underlying155 Tryz.underlying5 s W
 go_wp2_with fail
 clear kb;have HN:=af.mk (Cvb.at_new w 5 s (by unfold maxLen;omega));have HB0:=af.mk (YD (Below.refl w.heap.size w) (Nat.le_refl _) 5 s)
 go_loopw [3] (fun v wr=>∃m:Nat,s.size+m≤64∧Cvb.At 5 w.heap.size v (lI s m) wr∧Below w.heap.size w wr) (fun v _=>64-lenOf v)
 case atStart=>exact⟨0,by omega,by rw[aaj];exact HN.out,HB0.out⟩
 case round=>
  obtain⟨m,hm,hA,hB⟩:=hrel;have hz:=WC s m;have HA:=af.mk hA;have HB:=af.mk hB;obtain⟨g,cap,cur,fz,rfl,_⟩:=hA;rw[hz]at HA ⊢;have HZ:=af.mk hz;clear hz hB HN HB0
  by_cases hlt:s.size+m<64
  ·have h1:((s.size+m:Nat):Int)<64:=by omega
   go_wp2_with (at_builtin;refine Cvb.abo _ rfl _ _ 155 rfl 5 i0 Tryz.underlying155 HI.out.1 HI.out.2.1 HI.out.2.2.1 HI.out.2.2.2 w.heap.size _ (lI s m) ⟨#[0]⟩ ⟨wr.heap.size,0,none⟩ 1 1 rfl rfl rfl ?c1 ?c2 ?c3 ?c4 ?_)
   case c1=>exact Cvb.Yp HA.out (ax (Below.refl _ _) _)
   case c2=>
    intro j u hj
    rcases j with _|j
    ·simp[Lib.strCells]at hj;subst hj;simp[Addr.add]
    ·simp[Lib.strCells]at hj
   case c3=>
    rw[HZ.out]
    show s.size+m+1≤_
    omega
   case c4=>have:=HB.out.size;simp;omega
   intro v' w' hA' hB';rw[← aai]at hA';have HA':=af.mk hA';have HB':=af.mk ((ax HB.out _).trans hB');obtain⟨g',cap',cur',fz',rfl,_⟩:=hA';have hz':=WC s (m+1);rw[hz']at HA' ⊢;clear hB' hz'
   go_wp2_with fail
   go_roundw
   case rel=>exact⟨m+1,by omega,HA'.out,HB'.out⟩
   case measure=>simp[lenOf];omega
  ·have h1:¬((s.size+m:Nat):Int)<64:=by omega
   have hcv:=Cvb.aa4 (P:=Tryz.prog) (src:=155) (dst:=9) (e:=5) Tryz.underlying155 Tryz.underlying5 Tryz.underlying9 HA.out;have HM:=af.mk (show m=64-s.size by omega)
   go_wp2_with fail
   go_ret
   exact⟨by rw[← HM.out];rfl,HB.out⟩
theorem Ty(hh V:List Int)(hl:hh.length=8):∀n,n≤8→∀j,j<n→0≤(hOut hh V n).getD j 0∧(hOut hh V n).getD j 0<4294967296
 |0,_,j,h=>by omega
 |n+1,hn,j,h=>by
  rw[hOut]
  by_cases e:j=n
  ·subst e;rw[List.getD_eq_getElem?_getD,List.getElem?_set_self (by rw[yc];omega)];exact bXor_wf _ _
  ·rw[List.getD_eq_getElem?_getD,List.getElem?_set_ne (by omega),← List.getD_eq_getElem?_getD];exact Ty hh V hl n (by omega) j (by omega)
theorem Yz(hh:List Int)(hl:hh.length=8)(s:ByteArray)(t:Int)(last:Bool)(j:Nat)(h:j<8):0≤(pU hh s t last).getD j 0∧(pU hh s t last).getD j 0<4294967296:=
 Ty hh _ hl 8 (Nat.le_refl _) j h
theorem aa7(l:List Int)(i k:Nat)(hi:i≤l.length):(nR l i k).length=4*i+k:=by
 unfold nR y8
 have h:∀m:List Int,(m.flatMap fun x=>(List.range 4).map (byteOf x)).length=4*m.length:=by
  intro m;induction m with
  |nil=>rfl
  |cons a r ih=>simp[List.flatMap_cons,ih];omega
 rw[List.length_append,h,List.length_map,List.length_range,List.length_take,Nat.min_eq_left hi]
theorem WT(s:ByteArray)(m:Nat)(hm:s.size+m=64)(w:World):Calls Tryz.prog 76 #[.string s] w fun e w'=>e=.returned (.string (lI s m))∧Below w.heap.size w w':=by
 obtain rfl:m=64-s.size:=by omega
 exact refPad s (by omega) w
theorem told_string{w:World}{B:Nat}{u:Value}{bb:List Int}(hl:bb.length=8)(hO:w.ownsRow B 5 1 u (4*8) (Lib.byteCells (nR bb 8 0))):
  ∃g cap,u=.slice (some ⟨g,0,none⟩) 32 cap∧(convert 155 9 (.slice (some ⟨g,0,none⟩) 32 cap)).run Tryz.prog w=.ok (.string ⟨(y8 bb).toArray⟩) w:=by
 have hT:y8 bb=nR bb 8 0:=by unfold nR;rw[← hl,List.take_length];simp
 have hO':=hO;obtain⟨_,⟨_,h⟩|⟨g,cap,cur,rfl,_⟩⟩:=hO'
 ·omega
 ·refine⟨g,cap,rfl,?_⟩;have hc:=hO.cells (g:=g) rfl;have h32:(nR bb 8 0).length=32:=aa7 _ _ _ (by omega);have:=run_convert_bytes_back (P:=Tryz.prog) w 155 9 5 ⟨g,0,none⟩ cap (nR bb 8 0) Tryz.underlying155 Tryz.underlying5 Tryz.underlying9 (fun j hj=>hc j _ (by simp[Lib.byteCells,List.getElem?_eq_getElem hj]));rw[h32,← hT]at this;exact this
theorem aae{w wr w2:World}{u:Value}{o:Obj}{n:Nat}{xs:List Value}{ob:Obj}(hI:wr.heap[w.heap.size]? =some ob)(hO:wr.ownsRow (w.heap.size+1) 5 1 u n xs)(hg:(wr.alloc o).grownBy w2 u.ownBlock):w2.heap[w.heap.size]? =some ob:=by
 have hlt:w.heap.size<wr.heap.size:=by
  rcases Nat.lt_or_ge w.heap.size wr.heap.size with h'|h'
  ·exact h'
  ·simp[Array.getElem?_eq_none h']at hI
 rw[hg.block w.heap.size (by simp;omega) (fun e=>by have:=(hO.lt _ e.symm).1;omega)];exact(Below.heap_alloc wr _ _ hlt).trans hI
theorem refAll(hh:List Int)(hl:hh.length=8)(s:ByteArray)(hs:s.size≤281474976710656)(w:World):
  Calls Tryz.prog 75 #[.agg (aJ hh),.string s] w fun e w'=>e=.returned (.string ⟨(BD hh s).toArray⟩)∧Below w.heap.size w w':=by
 obtain⟨h0,h1,h2,h3,h4,h5,h6,h7,e8⟩:=qh hh hl;have HL:=af.mk hl;have HE:=af.mk e8;rw[show aJ hh= #[.int .u32 h0,.int .u32 h1,.int .u32 h2,.int .u32 h3,.int .u32 h4,.int .u32 h5,.int .u32 h6,.int .u32 h7] by rw[e8];rfl];clear hl e8
 go_enter Tryz.func75,Tryz.ntmps75
 go_wp2_with fail
 go_loopw [5] (fun v wr=>∃k:Nat,(k=0∨64*k<s.size)∧v=.int .i64 (64*k)∧wr.heap[w.heap.size]? =some (.cells (aJ (xZ hh s k)) 160 (0,0))∧Below w.heap.size w wr) (fun v _=>s.size-(intOf v).toNat)
 case atStart=>exact⟨0,.inl rfl,rfl,by rw[HE.out];exact bI _ _,ax (Below.refl _ _) _⟩
 case round=>
  obtain⟨k,hk,rfl,hI⟩:=hrel;obtain⟨a0,a1,a2,a3,a4,a5,a6,a7,ea⟩:=qh (xZ hh s k) (by rw[Fv,HL.out]);have HA:=af.mk ea;rw[ea]at hI;have HI:=af.mk hI;obtain⟨q0,q1,q2,q3,q4,q5,q6,q7⟩:=qK hI.1
  by_cases hlt:64*k+64<s.size
  ·have HC:=af.mk (show(s.extract (64*k) (64*k+64)).size=64 by simp;omega);have hs1:(64*(k:Int)+64)<s.size:=by omega
   have hs2:(64*(k:Int)+64)≤s.size:=by omega
   have e1:wrap64 (64*(k:Int)+64)=64*k+64:=by unfold wrap64;omega
   have eU:IntKind.u64.wrap (64*(k:Int)+64)=64*k+64:=by unfold IntKind.wrap;simp[IntKind.bits,IntKind.signed];omega
   have e2:(64*(k:Int)).toNat=64*k:=by omega
   have e3:(64*(k:Int)+64).toNat=64*k+64:=by omega
   have b0:(0:Int)≤64*k:=by omega
   have b1:(64*(k:Int))≤64*k+64:=by omega
   clear hI ea
   go_wp2_with fail
   refine gZ (n:=14) (S:=fun w'=>w'.cell? ⟨w.heap.size,0,none⟩=some (.int .u32 a0)∧w'.cell? ⟨w.heap.size,1,none⟩=some (.int .u32 a1)∧w'.cell? ⟨w.heap.size,2,none⟩=some (.int .u32 a2)∧w'.cell? ⟨w.heap.size,3,none⟩=some (.int .u32 a3)∧w'.cell? ⟨w.heap.size,4,none⟩=some (.int .u32 a4)∧w'.cell? ⟨w.heap.size,5,none⟩=some (.int .u32 a5)∧w'.cell? ⟨w.heap.size,6,none⟩=some (.int .u32 a6)∧w'.cell? ⟨w.heap.size,7,none⟩=some (.int .u32 a7)∧w'.heap[w.heap.size]? =some (.cells (aJ [a0,a1,a2,a3,a4,a5,a6,a7]) 160 (0,0))) (ds:=[13]) #[false,false,false,false,false,false,false,false,false,false,false,false,false,false] (by kernel_rfl) rfl rfl ⟨q0,q1,q2,q3,q4,q5,q6,q7,HI.out.1⟩ (fun hHeld=>?_);refine au 1 17 ?_;refine au 2 18 ?_;refine au 3 19 ?_;refine au 4 20 ?_;refine au 5 21 ?_;refine au 6 22 ?_;refine au 7 23 ?_;refine au 8 24 ?_;refine bU 0 16 hHeld (by rintro w' ⟨s0,s1,s2,s3,s4,s5,s6,s7,s8⟩;go_simp;with_reducible rfl) ?_ rfl rfl;refine fu 9 (N:=some 25) rfl rfl fun K hK=>?_
   refine gF Tryz.func133 (by kernel_rfl) rfl #[.agg (aJ [a0,a1,a2,a3,a4,a5,a6,a7]),.string (s.extract (64*k) (64*k+64)),.int .u64 (64*k+64),.bool false] (by rfl) rfl rfl (by simp only[List.map_toArray,List.map_cons,List.map_nil];rfl) ?_
   with_reducible refine(WR [a0,a1,a2,a3,a4,a5,a6,a7] rfl (s.extract (64*k) (64*k+64)) HC.out (64*k+64) (by omega) (by omega) false wr.drew).mono ?_
   rintro e w3 ⟨rfl,hb3⟩;refine⟨_,rfl,?_⟩;refine hK.out _ _ ⟨aI hb3 (hHeld.1),aI hb3 (hHeld.2.1),aI hb3 (hHeld.2.2.1),aI hb3 (hHeld.2.2.2.1),aI hb3 (hHeld.2.2.2.2.1),aI hb3 (hHeld.2.2.2.2.2.1),aI hb3 (hHeld.2.2.2.2.2.2.1),aI hb3 (hHeld.2.2.2.2.2.2.2.1),aK hHeld.2.2.2.2.2.2.2.2 hb3⟩ (fun hHeld=>?_);clear hK K;refine dM ?_;refine au 10 15 ?_;refine au 11 26 ?_;refine au 12 27 ?_;refine iN (i:=13) (N:=none) #[true,true,true,true,true,true,true,true,true,true,true,true,true,true] rfl rfl (by kernel_rfl) (by decide) (fun K hK=>?_);obtain⟨b0,b1,b2,b3,b4,b5,b6,b7,eb⟩:=qh (pU [a0,a1,a2,a3,a4,a5,a6,a7] (s.extract (64*k) (64*k+64)) (64*k+64) false) (by unfold pU;rw[yc];rfl);obtain⟨z0,z1,z2,z3,z4,z5,z6,z7⟩:=BO hHeld.2.2.2.2.2.2.2.2;obtain⟨y0,y1,y2,y3,y4,y5,y6,y7⟩:=qK hHeld.2.2.2.2.2.2.2.2;rw[eb,Bo];have HEb:=af.mk eb;clear eb;refine jQ (w1:=?_) (by rfl) rfl ?_ ?_;rotate_left
   ·go_simp
    rfl
   refine hK.out _ _ ?_;clear hK K;refine gJ ?_;clear e2 e3
   go_wp2_with fail
   go_roundw
   case rel=>exact⟨k+1,.inr (by omega),by go_num,by
     rw[xZ,HA.out];exact(Et rfl (aK (w:=wr.drew) HI.out.1 hb3) b0 b1 b2 b3 b4 b5 b6 b7).trans (by rw[HEb.out]),zZ ((Below.drew HI.out.2).trans (hb3.mono (Below.drew HI.out.2).size)) (Nat.le_refl _) _ _ _ _ _ _ _ _⟩
   case measure=>simp[intOf];omega
  ·have hx64:(s.extract (64*k) s.size).size≤64:=by simp;omega
   obtain⟨m,hm⟩:∃m:Nat,(s.extract (64*k) s.size).size+m=64:=⟨64-(s.extract (64*k) s.size).size,by omega⟩;have HR:=af.mk hm;have HP:=af.mk (KC (s.extract (64*k) s.size) m hm);have HK:=af.mk (show k=(s.size-1)/64 by omega);have hs1:¬(64*(k:Int)+64)<s.size:=by omega
   have hs2:(64*(k:Int))≤s.size:=by omega
   have e1:wrap64 (64*(k:Int)+64)=64*k+64:=by unfold wrap64;omega
   have e2:(64*(k:Int)).toNat=64*k:=by omega
   have b0:(0:Int)≤64*k:=by omega
   have eU:IntKind.u64.wrap (s.size:Int)=s.size:=by unfold IntKind.wrap;simp[IntKind.bits,IntKind.signed];omega
   clear hI ea hlt hm hx64
   go_wp2_with fail
   refine gZ (n:=13) (S:=fun w'=>w'.cell? ⟨w.heap.size,0,none⟩=some (.int .u32 a0)∧w'.cell? ⟨w.heap.size,1,none⟩=some (.int .u32 a1)∧w'.cell? ⟨w.heap.size,2,none⟩=some (.int .u32 a2)∧w'.cell? ⟨w.heap.size,3,none⟩=some (.int .u32 a3)∧w'.cell? ⟨w.heap.size,4,none⟩=some (.int .u32 a4)∧w'.cell? ⟨w.heap.size,5,none⟩=some (.int .u32 a5)∧w'.cell? ⟨w.heap.size,6,none⟩=some (.int .u32 a6)∧w'.cell? ⟨w.heap.size,7,none⟩=some (.int .u32 a7)∧w'.heap[w.heap.size]? =some (.cells (aJ [a0,a1,a2,a3,a4,a5,a6,a7]) 160 (0,0))∧Below w.heap.size w w') (ds:=[12]) #[false,false,false,false,false,false,false,false,false,false,false,false,false] (by kernel_rfl) rfl rfl ⟨q0,q1,q2,q3,q4,q5,q6,q7,⟨HI.out.1,Below.drew HI.out.2⟩⟩ (fun hHeld=>?_);refine au 1 32 ?_;refine au 2 33 ?_;refine au 3 34 ?_;refine au 5 36 ?_;refine au 6 37 ?_;refine au 7 38 ?_;refine bU 0 31 hHeld (by rintro w' ⟨s0,s1,s2,s3,s4,s5,s6,s7,s8⟩;go_simp;with_reducible rfl) ?_ rfl rfl;refine fu 4 (N:=some 35) rfl rfl fun K hK=>?_
   refine gF Tryz.func76 (by kernel_rfl) rfl #[.string (s.extract (64*k) s.size)] (by rfl) rfl rfl (by simp only[List.map_toArray,List.map_cons,List.map_nil];rfl) ?_
   with_reducible refine(WT (s.extract (64*k) s.size) m HR.out wr.drew).mono ?_
   rintro e w2 ⟨rfl,hb2⟩;refine⟨_,rfl,?_⟩;refine hK.out _ _ ⟨aI hb2 (hHeld.1),aI hb2 (hHeld.2.1),aI hb2 (hHeld.2.2.1),aI hb2 (hHeld.2.2.2.1),aI hb2 (hHeld.2.2.2.2.1),aI hb2 (hHeld.2.2.2.2.2.1),aI hb2 (hHeld.2.2.2.2.2.2.1),aI hb2 (hHeld.2.2.2.2.2.2.2.1),⟨aK hHeld.2.2.2.2.2.2.2.2.1 hb2,hHeld.2.2.2.2.2.2.2.2.2.trans (hb2.mono hHeld.2.2.2.2.2.2.2.2.2.size)⟩⟩ (fun hHeld=>?_);clear hK K;refine dM ?_;refine fu 8 (N:=some 39) rfl rfl fun K hK=>?_
   refine gF Tryz.func133 (by kernel_rfl) rfl #[.agg (aJ [a0,a1,a2,a3,a4,a5,a6,a7]),.string (lI (s.extract (64*k) s.size) m),.int .u64 s.size,.bool true] (by rfl) rfl rfl (by simp only[List.map_toArray,List.map_cons,List.map_nil];rfl) ?_
   with_reducible refine(WR [a0,a1,a2,a3,a4,a5,a6,a7] rfl (lI (s.extract (64*k) s.size) m) HP.out s.size (by omega) (by omega) true _).mono ?_
   rintro e w3 ⟨rfl,hb3⟩;refine⟨_,rfl,?_⟩;refine hK.out _ _ ⟨aI hb3 (hHeld.1),aI hb3 (hHeld.2.1),aI hb3 (hHeld.2.2.1),aI hb3 (hHeld.2.2.2.1),aI hb3 (hHeld.2.2.2.2.1),aI hb3 (hHeld.2.2.2.2.2.1),aI hb3 (hHeld.2.2.2.2.2.2.1),aI hb3 (hHeld.2.2.2.2.2.2.2.1),⟨aK hHeld.2.2.2.2.2.2.2.2.1 hb3,hHeld.2.2.2.2.2.2.2.2.2.trans (hb3.mono hHeld.2.2.2.2.2.2.2.2.2.size)⟩⟩ (fun hHeld=>?_);clear hK K;refine dM ?_;refine au 9 30 ?_;refine au 10 40 ?_;refine au 11 41 ?_;refine iN (i:=12) (N:=none) #[true,true,true,true,true,true,true,true,true,true,true,true,true] rfl rfl (by kernel_rfl) (by decide) (fun K hK=>?_);obtain⟨b0,b1,b2,b3,b4,b5,b6,b7,eb⟩:=qh (pU [a0,a1,a2,a3,a4,a5,a6,a7] (lI (s.extract (64*k) s.size) m) s.size true) (by unfold pU;rw[yc];rfl);obtain⟨z0,z1,z2,z3,z4,z5,z6,z7⟩:=BO hHeld.2.2.2.2.2.2.2.2.1;obtain⟨y0,y1,y2,y3,y4,y5,y6,y7⟩:=qK hHeld.2.2.2.2.2.2.2.2.1;rw[eb,Bo];have HEb:=af.mk eb;have qp:=af.mk hHeld.2.2.2.2.2.2.2.2;clear eb;refine jQ (w1:=?_) (by rfl) rfl ?_ ?_;rotate_left
   ·go_simp
    rfl
   refine hK.out _ _ ?_;clear hK K;refine gJ ?_;clear e1 e2 eU y0 y1 y2 y3 y4 y5 y6 y7 z0 z1 z2 z3 z4 z5 z6 z7 q0 q1 q2 q3 q4 q5 q6 q7;have hwf:=fun j hj=>Yz [a0,a1,a2,a3,a4,a5,a6,a7] rfl (lI (s.extract (64*k) s.size) m) s.size true j hj
   rw[HEb.out]at hwf;have HF:=af.mk hwf;have HS:=af.mk (And.intro (Et rfl qp.out.1 b0 b1 b2 b3 b4 b5 b6 b7) (zZ qp.out.2 (Nat.le_refl _) (.int .u32 b0) (.int .u32 b1) (.int .u32 b2) (.int .u32 b3) (.int .u32 b4) (.int .u32 b5) (.int .u32 b6) (.int .u32 b7)));clear hwf;obtain⟨i0,hi,hz0,hz1,hz2⟩:=info_parts Vt;have HI5:=af.mk (And.intro hi (And.intro hz0 (And.intro hz1 hz2)));clear hi hz0 hz1 hz2
   go_wp2_with fail
   go_loopw [6,7] (fun u v wr=>∃i:Nat,i≤8∧v=.int .i64 i∧wr.heap[w.heap.size]? =some (.cells (aJ [b0,b1,b2,b3,b4,b5,b6,b7]) 160 (0,0))∧wr.ownsRow (w.heap.size+1) 5 1 u (4*i) (Lib.byteCells (nR [b0,b1,b2,b3,b4,b5,b6,b7] i 0))∧Below w.heap.size w wr) (fun _ v _=>8-(intOf v).toNat)
   case atStart=>exact⟨0,by omega,rfl,HS.out.1,World.ownsRow_nil _ _ _ _,HS.out.2⟩
   case round=>
    obtain⟨i,hi,rfl,hI,hO,hB⟩:=hrel;have HJ:=af.mk (And.intro hI (And.intro hO hB))
    by_cases hlt:i<8
    ·have vE:(i:Int)<8:=by omega
     obtain⟨x,hx⟩:∃x,[b0,b1,b2,b3,b4,b5,b6,b7].getD i 0=x:=⟨_,rfl⟩;have hc:wr.cell? ⟨w.heap.size,i,none⟩=some (.int .u32 x):=by rw[← hx];exact(ah hI i).trans (gQ _ _ (by simpa using hlt))
     have HX:=af.mk (And.intro hx (hx▸HF.out i hlt));clear hx hI hO hB
     go_wp2_with fail
     go_loopw [6,8,9] (fun u y v wr=>∃j:Nat,j≤4∧v=.int .i64 j∧(∃z,y=.int .u32 z∧af (z=x/2 ^ (8*j)))∧wr.heap[w.heap.size]? =some (.cells (aJ [b0,b1,b2,b3,b4,b5,b6,b7]) 160 (0,0))∧wr.ownsRow (w.heap.size+1) 5 1 u (4*i+j) (Lib.byteCells (nR [b0,b1,b2,b3,b4,b5,b6,b7] i j))∧Below w.heap.size w wr) (fun _ _ v _=>4-(intOf v).toNat)
     case atStart=>exact⟨0,by omega,rfl,⟨_,rfl,⟨by simp⟩⟩,HJ.out⟩
     case round=>
      obtain⟨j,hj,rfl,⟨z,rfl,HZ⟩,hI,hO,hB⟩:=hrel;have HO:=af.mk (And.intro hI (And.intro hO hB));have z0:0≤z:=by rw[HZ.out];exact Int.ediv_nonneg HX.out.2.1 (Int.le_of_lt (Int.pow_pos (by decide)))
      have z1:z<4294967296:=by rw[HZ.out];exact Int.lt_of_le_of_lt (Int.ediv_le_self _ HX.out.2.1) HX.out.2.2
      clear hI hO hB
      by_cases hj4:j<4
      ·have hj1:(j:Int)<4:=by omega
       have f1:z.tmod 256=z%256:=Int.tmod_eq_emod_of_nonneg z0;have f2:z.tdiv 256=z/256:=Int.tdiv_eq_ediv_of_nonneg z0
       go_wp2_with (at_builtin;refine wpList_append_own _ rfl _ _ 155 rfl (w.heap.size+1) 5 i0 (.int .u8 0) 1 1 Tryz.underlying155 HI5.out.1 HI5.out.2.1 HI5.out.2.2.1 HI5.out.2.2.2 rfl (by decide) _ _ _ rfl (HO.out.2.1.alloc _) ⟨wr.heap.size,0,none⟩ 1 1 [.int .u8 (z%256)] rfl rfl ?c1 ?c2 ?c3 ?c4 ?c5 ?_)
       case c1=>
        intro j u hj
        rcases j with _|j
        ·simp at hj;subst hj;simp[Addr.add]
        ·simp at hj
       case c2=>simp[Value.oneCell']
       case c3=>unfold maxLen;omega
       case c4=>omega
       case c5=>have:=HO.out.2.2.size;simp;omega
       intro v' w2 hown' hgrow _;have j4:=af.mk (And.intro hown' hgrow);clear hown' hgrow
       go_wp2_with fail
       go_roundw
       case rel=>exact⟨j+1,by omega,by go_num,⟨_,rfl,⟨by rw[HZ.out,Int.ediv_ediv_of_nonneg (Int.le_of_lt (Int.pow_pos (by decide))),Nat.mul_succ,Int.pow_add];rfl⟩⟩,aae HO.out.1 HO.out.2.1 j4.out.2,by rw[XF,HX.out.1,← HZ.out];exact j4.out.1,(ax HO.out.2.2 _).grown j4.out.2 (by have:=HO.out.2.2.size;simp;omega) (fun k hk=>by have:=(HO.out.2.1.lt k hk).1;omega)⟩
       case measure=>simp[intOf];omega
      ·obtain rfl:j=4:=by omega
       go_wp2_with fail
       go_roundw
       case rel=>exact⟨i+1,by omega,by go_num,HO.out.1,by rw[← XG [b0,b1,b2,b3,b4,b5,b6,b7] i hlt];exact HO.out.2.1,HO.out.2.2⟩
       case measure=>simp[intOf];omega
    ·obtain rfl:i=8:=by omega
     clear hI hO hB;obtain⟨g,cap,rfl,hcv⟩:=told_string rfl HJ.out.2.1
     go_wp2_with fail
     go_ret
     refine⟨?_,HJ.out.2.2⟩;unfold BD;rw[← HK.out,HA.out,show 64-(s.extract (64*k) s.size).size=m by have:=HR.out;omega,HEb.out];rfl
end Go.Proofs.YtdcddenojjdmjaaGreatDoor.T
