import Derived.StillTailTactics
import Derived.Shelf.Strings.Builder1
import Derived.Shelf.Strings.Builder2
import Derived.Shelf.Small.Bits
import Derived.Shelf.Small.Wraps
import Derived.Shelf.Strings.BuilderF
import Derived.Shelf.Strings.BuilderK
import Derived.Shelf.Strings.Builder2Cap
import Derived.Shelf.Strconv.Itoa0
import Derived.Shelf.Strings.Prefix
import Derived.Shelf.Bits.Mul64
import Derived.Shelf.Strings.Repeat
import Derived.Shelf.Strings.BuilderCap
import Derived.Ground.Names2Prog
import Derived.Shelf.Slices.ReverseS
import Derived.Shelf.Slices.SearchI
import Derived.Shelf.Slices.Cells
import Derived.Test.YtdcddenojjdmjaaGreatDoorM05
set_option linter.all false
set_option maxHeartbeats 8000000
set_option maxRecDepth 100000
namespace Go.Proofs.YtdcddenojjdmjaaGreatDoor.T
open Go.RowKit Go.Proofs.YtdcddenojjdmjaaGreatDoorW.PrintWords Go.Proofs.YtdcddenojjdmjaaGreatDoorW.PrintLast Go.Proofs.YtdcddenojjdmjaaGreatDoorW.PrintMore
def rO(s:ByteArray)(i:Nat):Nat→Int
 |0=>0
 |j+1=>bits .or .u32 (IntKind.u32.wrap (rO s i j*256)) (IntKind.u32.wrap (bt s (4*i+(3-j))))
def dG(s:ByteArray)(i:Nat):List Int:=(List.range i).map (fun k=>rO s k 4)++List.replicate (16-i) 0
theorem F6(s:ByteArray)(i:Nat)(hi:i≤16):(dG s i).length=16:=by simp[dG];omega
theorem mRow_at(s:ByteArray)(i:Nat)(hi:i<16):(dG s i).set i 0=dG s i:=by
 apply List.ext_getElem (by simp);intro k h1 h2;rw[List.getElem_set]
 split
 ·rename_i h;subst h
  simp[dG]
 ·rfl
theorem VW(s:ByteArray)(i:Nat)(hi:i<16):(dG s i).set i (rO s i 4)=dG s (i+1):=by
 unfold dG;have e:List.replicate (16-i) (0:Int)=0::List.replicate (16-(i+1)) 0:=by rw[show 16-i=(16-(i+1))+1 by omega];rfl
 rw[e,List.set_append_right _ _ (by simp)];simp[List.range_succ]
def kV(w wr:World)(hh mm vv:List Int):Prop:=
 wr.heap[w.heap.size]? =some (.cells (aJ hh) 160 (0,0))∧wr.heap[w.heap.size+1]? =some (.cells (aJ [0,0,0,0,0,0,0,0]) 160 (0,0))∧wr.heap[w.heap.size+2]? =some (.cells (aJ mm) 258 (0,0))∧wr.heap[w.heap.size+3]? =some (.cells (aJ vv) 258 (0,0))∧Below w.heap.size w wr
theorem kV.setM{w wr:World}{hh mm vv:List Int}(h:kV w wr hh mm vv)(i:Nat)(x:Int):kV w (wr.setCell ⟨w.heap.size+2,i,none⟩ (.int .u32 x)) hh (mm.set i x) vv:=
 ⟨(jo (by omega) _).trans h.1,(jo (by omega) _).trans h.2.1,jl h.2.2.1 _ _,(jo (by omega) _).trans h.2.2.2.1,h.2.2.2.2.setCell (p:=⟨w.heap.size+2,i,none⟩) (by show w.heap.size≤w.heap.size+2;omega) _⟩
theorem kV.sZ{w wr:World}{hh mm vv:List Int}(h:kV w wr hh mm vv)(i:Nat)(x:Int):kV w (wr.setCell ⟨w.heap.size+3,i,none⟩ (.int .u32 x)) hh mm (vv.set i x):=
 ⟨(jo (by omega) _).trans h.1,(jo (by omega) _).trans h.2.1,(jo (by omega) _).trans h.2.2.1,jl h.2.2.2.1 _ _,h.2.2.2.2.setCell (p:=⟨w.heap.size+3,i,none⟩) (by show w.heap.size≤w.heap.size+3;omega) _⟩
theorem kV.setH{w wr:World}{hh mm vv:List Int}(h:kV w wr hh mm vv)(i:Nat)(x:Int):kV w (wr.setCell ⟨w.heap.size,i,none⟩ (.int .u32 x)) (hh.set i x) mm vv:=
 ⟨jl h.1 _ _,(jo (by omega) _).trans h.2.1,(jo (by omega) _).trans h.2.2.1,(jo (by omega) _).trans h.2.2.2.1,h.2.2.2.2.setCell (p:=⟨w.heap.size,i,none⟩) (Nat.le_refl _) _⟩
theorem kV.drew{w wr:World}{hh mm vv:List Int}(h:kV w wr hh mm vv):kV w wr.drew hh mm vv:=⟨h.1,h.2.1,h.2.2.1,h.2.2.2.1,Below.drew h.2.2.2.2⟩
theorem kV.mix{w wr w3:World}{hh mm vv vP:List Int}(h:kV w wr hh mm vv)(hg:wr.grownBy w3 (some (w.heap.size+3)))(hb:w3.heap[w.heap.size+3]? =some (.cells (aJ vP) 258 (0,0))):kV w w3 hh mm vP:=
 ⟨fP h.1 hg (by simp),fP h.2.1 hg (by simp),fP h.2.2.1 hg (by simp),hb,h.2.2.2.2.grown hg h.2.2.2.2.size (fun k e=>by cases e;omega)⟩
theorem kV.start(w:World)(hh:List Int):kV w ((((w.alloc (.cells (aJ hh) 160)).alloc (.cells (aJ [0,0,0,0,0,0,0,0]) 160)).alloc (.cells (aJ [0,0,0,0,0,0,0,0,0,0,0,0,0,0,0,0]) 258)).alloc (.cells (aJ [0,0,0,0,0,0,0,0,0,0,0,0,0,0,0,0]) 258)) hh [0,0,0,0,0,0,0,0,0,0,0,0,0,0,0,0] [0,0,0,0,0,0,0,0,0,0,0,0,0,0,0,0]:=
 ⟨ay (ay (ay (bI _ _) _) _) _,ay (ay (xP _ _ _) _) _,ay (by have:=xP (w.alloc (.cells (aJ hh) 160)) (.cells (aJ [0,0,0,0,0,0,0,0]) 160) (.cells (aJ [0,0,0,0,0,0,0,0,0,0,0,0,0,0,0,0]) 258);rwa [World.size_alloc]at this) _,
  by have:=xP ((w.alloc (.cells (aJ hh) 160)).alloc (.cells (aJ [0,0,0,0,0,0,0,0]) 160)) (.cells (aJ [0,0,0,0,0,0,0,0,0,0,0,0,0,0,0,0]) 258) (.cells (aJ [0,0,0,0,0,0,0,0,0,0,0,0,0,0,0,0]) 258);rwa [World.size_alloc,World.size_alloc]at this,
  ax (ax (ax (ax (Below.refl _ _) _) _) _) _⟩
def sS(i j:Nat):Nat:=((Lr.getD i []).getD j 0).toNat
def gY(r j:Nat):Nat:=((Lu.getD r []).getD j 0).toNat
theorem Nf:∀i,i<8→∀j,j<4→sS i j<16:=by decide
theorem Ga:∀r,r<10→∀j,j<16→gY r j<16:=by decide
theorem ZT:∀i,i<8→∀j,j<4→Lr.flatten[i*4+j]? =some (sS i j:Int):=by decide
theorem Z7:∀r,r<10→∀j,j<16→Lu.flatten[r*16+j]? =some (gY r j:Int):=by decide
theorem Nc{w w1:World}(h:jR w)(hb:Below w.heap.size w w1){i j:Nat}(hi:i<8)(hj:j<4):w1.cell? ⟨1,i*4+j,none⟩=some (.int .u8 (sS i j)):=
 aI hb (h.2.1 _ _ (by rw[List.getElem?_map,ZT i hi j hj];rfl))
theorem Ww{w w1:World}(h:jR w)(hb:Below w.heap.size w w1){r j:Nat}(hr:r<10)(hj:j<16):w1.cell? ⟨2,r*16+j,none⟩=some (.int .u8 (gY r j)):=
 aI hb (h.2.2 _ _ (by rw[List.getElem?_map,Z7 r hr j hj];rfl))
def Wd(M V:List Int)(r i:Nat):List Int:=nQ V (sS i 0) (sS i 1) (sS i 2) (sS i 3) (M.getD (gY r (2*i)) 0) (M.getD (gY r (2*i+1)) 0)
def tu(M:List Int)(r:Nat)(V:List Int):Nat→List Int
 |0=>V
 |i+1=>Wd M (tu M r V i) r i
def uF(M V:List Int):Nat→List Int
 |0=>V
 |r+1=>tu M r (uF M V r) 8
theorem RF(M:List Int)(r:Nat)(V:List Int):∀i,(tu M r V i).length=V.length
 |0=>rfl
 |i+1=>by rw[tu,Wd,Bb,RF M r V i]
theorem KW(M V:List Int):∀r,(uF M V r).length=V.length
 |0=>rfl
 |r+1=>by rw[uF,RF,KW M V r]
def CP(hh:List Int)(i:Nat):List Int:=xX hh 8 i++xX jg 8 i
theorem XT(hh:List Int)(hl:hh.length=8)(i:Nat)(hi:i<8):((CP hh i).set i (hh.getD i 0)).set (i+8) (jg.getD i 0)=CP hh (i+1):=by
 unfold CP;have l1:=Fs hh 8 i (by omega) (by omega);have l2:=Fs hh 8 (i+1) (by omega) (by omega);rw[List.set_append_left _ _ (by omega),LH hh 8 i hi (by omega),List.set_append_right _ _ (by omega),l2,Nat.add_sub_cancel,LH jg 8 i hi (by decide)]
theorem NP(hh:List Int)(hl:hh.length=8)(i:Nat)(hi:i≤8):(CP hh i).length=16:=by
 unfold CP;rw[List.length_append,Fs hh 8 i hi (by omega),Fs jg 8 i hi (by decide)]
def CQ(hh:List Int)(t:Int)(last:Bool):List Int:=
 let v:=((CP hh 8).set 12 (bits .xor .u32 1359893119 (t%4294967296))).set 13 (bits .xor .u32 2600822924 (t/4294967296))
 if last then v.set 14 (bits .xor .u32 IntKind.u32.max 528734635)else v
theorem XU(hh:List Int)(hl:hh.length=8)(t:Int)(last:Bool):(CQ hh t last).length=16:=by
 unfold CQ
 cases last<;>simp[NP hh hl]
def hOut(hh V:List Int):Nat→List Int
 |0=>hh
 |i+1=>(hOut hh V i).set i (bits .xor .u32 (hh.getD i 0) (bits .xor .u32 (V.getD i 0) (V.getD (i+8) 0)))
theorem yc(hh V:List Int):∀i,(hOut hh V i).length=hh.length
 |0=>rfl
 |i+1=>by rw[hOut,List.length_set,yc hh V i]
theorem Pt(hh V:List Int):∀i k,i≤k→(hOut hh V i).getD k 0=hh.getD k 0
 |0,_,_=>rfl
 |i+1,k,h=>by
  rw[hOut,List.getD_eq_getElem?_getD,List.getElem?_set_ne (by omega),← List.getD_eq_getElem?_getD,Pt hh V i k (by omega)]
def pU(hh:List Int)(s:ByteArray)(t:Int)(last:Bool):List Int:=hOut hh (uF (dG s 16) (CQ hh t last) 10) 8
theorem BQ{P:Program}{ops:Array Oper}{Q:Exit→Act→World→Prop}{oi:Oper}{N:Option Tmp}{a:Act}{w:World}{K:Act→World→Prop}{f:FuncId}{fn:Func}{k:Tmp}{cap:Array Value}{xs:Array Operand}{ts:Array TypeId}(hf:P.funcs[f]? =some fn)(hname:(fn.name== "runtime.NumGoroutine")=false)(hb:fn.body.isSome=true)(args:Array Value)
  (hw:Region.wanted oi (yielded ops a.tmps)=true) (hN:oi.dst=N) (hop:oi.op=.call {callee:=.value (.tmp k),args:=xs,argTypes:=ts}) (hv:a.eval (.tmp k)=.func (.func f) #[] cap) (hargs:xs.map a.eval=args) {args':Array Value} (hc:args++cap=args')
  (h:Calls P f args' w fun e w'=>∃v,e=.returned v∧K (a.put N v) w'):if Region.wanted oi (yielded ops a.tmps)=true then Oper.wp P oi a w K Q else K (a.put N undef) w:=by
 subst hc;refine call_ f (args++cap) hw hN ?_ h;have he:=O6 hf hname hb (args++cap) w;unfold execOp;simp[hop,resolve,Deferred.ofValue,invoke,hv,hargs,he]
theorem Sz(hh:List Int)(hl:hh.length=8)(s:ByteArray)(hs:s.size=64)(t:Int)(ht0:0≤t)(ht:t<18446744073709551616)(last:Bool)(w:World)(hG:jR w):
  Calls Tryz.prog 164 #[.agg (aJ hh),.string s,.int .u64 t,.bool last] w fun e w'=>e=.returned (.tuple #[.agg (aJ (pU hh s t last)),.int .i64 0])∧Below w.heap.size w w':=by
 have HG:=af.mk hG;have hsz:(s.size:Int)=64:=by omega
 have hH0:0<w.heap.size:=World.block_lt_of_cell? w _ (hG.1 0 (.int .u32 1779033703) rfl);obtain⟨h0,h1,h2,h3,h4,h5,h6,h7,e8⟩:=qh hh hl;have HS:=af.mk hs;have HL:=af.mk hl;have HE:=af.mk e8;rw[show aJ hh= #[.int .u32 h0,.int .u32 h1,.int .u32 h2,.int .u32 h3,.int .u32 h4,.int .u32 h5,.int .u32 h6,.int .u32 h7] by rw[e8];rfl];clear hG hs hl e8
 go_enter Tryz.func164,Tryz.ntmps164
 go_wp2_with fail
 go_loopw [23] (fun v wr=>∃i:Nat,i≤16∧v=.int .i64 i∧kV w wr hh (dG s i) [0,0,0,0,0,0,0,0,0,0,0,0,0,0,0,0]) (fun v _=>16-(intOf v).toNat)
 case atStart=>exact⟨0,by omega,rfl,by rw[HE.out];exact kV.start w [h0,h1,h2,h3,h4,h5,h6,h7]⟩
 case round=>
  obtain⟨i,hi,rfl,hI⟩:=hrel
  by_cases hlt:i<16
  ·have Ju:(i:Int)<16:=by omega
   go_wp2_with fail
   go_loopw [13] (fun v wr=>∃j:Nat,j≤4∧v=.int .i64 (3-j)∧kV w wr hh ((dG s i).set i (rO s i j)) [0,0,0,0,0,0,0,0,0,0,0,0,0,0,0,0]) (fun v _=>(1+intOf v).toNat)
   case atStart=>exact⟨0,by omega,rfl,by rw[rO,mRow_at s i hlt];exact hI⟩
   case round=>
    obtain⟨j,hj,rfl,hJ⟩:=hrel
    by_cases hj4:j<4
    ·have hj3:(j:Int)≤3:=by omega
     have cm:wr.cell? ⟨w.heap.size+2,i,none⟩=some (.int .u32 (rO s i j)):=(ah hJ.2.2.1 i).trans ((gQ _ _ (by rw[List.length_set,F6 s i hi];exact hlt)).trans (by rw[List.getD_eq_getElem?_getD,List.getElem?_set_self (by rw[F6 s i hi];exact hlt)];rfl));have fm:=aA hJ.2.2.1 i;have HJ:=af.mk hJ;clear hJ hI
     go_wp2_with fail
     have hb0:(0:Int)≤4*i+(3-j):=by omega
     have hb1:(4*i+(3-j):Int)<64:=by omega
     have e1:wrap64 (4*(i:Int))=4*i:=by unfold wrap64;omega
     have e2:wrap64 (4*(i:Int)+(3-(j:Int)))=4*i+(3-j):=by unfold wrap64;omega
     have e3:=jM s (4*(i:Int)+(3-(j:Int)));refine gZ (n:=15) (S:=fun w'=>w'.cell? ⟨w.heap.size+2,i,none⟩=some (.int .u32 (rO s i j))) (ds:=[14]) #[false,false,false,false,false,false,false,false,false,false,false,false,false,false,false] (by kernel_rfl) rfl rfl (cm) (fun hHeld=>?_);refine au 0 30 ?_;refine au 1 31 ?_;refine au 2 32 ?_;refine au 5 35 ?_;refine au 6 36 ?_;refine au 7 37 ?_;refine au 8 38 ?_;refine au 9 39 ?_;refine bU 3 33 hHeld (by intro w' s0;go_simp;with_reducible rfl) ?_ rfl rfl;refine au 4 34 ?_;refine bU 10 40 hHeld (by intro w' s0;go_simp;with_reducible rfl) ?_ rfl rfl;refine au 11 41 ?_;refine au 12 42 ?_;refine au 13 43 ?_;refine iN (i:=14) (N:=none) #[true,true,true,true,true,true,true,true,true,true,true,true,true,true,true] rfl rfl (by kernel_rfl) (by decide) (fun K hK=>?_);refine jQ (w1:=?_) (by rfl) rfl ?_ ?_;rotate_left
     ·go_simp
      rfl
     refine hK.out _ _ ?_;clear hK K;refine gJ ?_;clear e1 e2 e3 cm
     go_wp2_with fail
     go_roundw
     case rel=>exact⟨j+1,by omega,by go_num,by have:=(HJ.out.setM i (rO s i (j+1))).drew;rw[List.set_set]at this;exact this⟩
     case measure=>simp[intOf];omega
    ·obtain rfl:j=4:=by omega
     have HJ:=af.mk hJ;clear hJ hI
     go_wp2_with fail
     go_roundw
     case rel=>exact⟨i+1,by omega,by go_num,by have:=HJ.out;rw[VW s i hlt]at this;exact this⟩
     case measure=>simp[intOf];omega
  ·obtain rfl:i=16:=by omega
   have HI:=af.mk hI;clear hI
   go_wp2_with fail
   go_loopw [45] (fun v wr=>∃i:Nat,i≤8∧v=.int .i64 i∧kV w wr hh (dG s 16) (CP hh i)) (fun v _=>8-(intOf v).toNat)
   case atStart=>exact⟨0,by omega,rfl,HI.out⟩
   case round=>
    obtain⟨i,vE,rfl,hI⟩:=hrel
    by_cases hlt:i<8
    ·have Ju:(i:Int)<8:=by omega
     have hi15:(i:Int)<16:=by omega
     have ch:=(ah hI.1 i).trans (gQ hh i (by rw[HL.out];exact hlt));have cg:=Tw HG.out hI.2.2.2.2 i hlt;have fv:=aA hI.2.2.2.1 i;have fw:=aA hI.2.2.2.1 (i+8);have n1:w.heap.size≠w.heap.size+3:=by omega
     have n2:0≠w.heap.size+3:=by omega
     have hp0:i<16:=by omega
     have hp1:i+8<16:=by omega
     have HJ:=af.mk hI;clear hI
     go_wp2_with fail
     have b1:(0:Int)≤(i:Int)+8:=by omega
     have b2:(i:Int)+8<16:=by omega
     have e1:wrap64 ((i:Int)+8)=(i:Int)+8:=by unfold wrap64;omega
     have e2:((i:Int)+8).toNat=i+8:=by omega
     refine gZ (n:=13) (S:=fun w'=>w'.cell? ⟨w.heap.size,i,none⟩=some (.int .u32 (hh.getD i 0))∧w'.cell? ⟨0,i,none⟩=some (.int .u32 (jg.getD i 0))∧∃V':List Int,V'.length=16∧w'.heap[w.heap.size+3]? =some (.cells (aJ V') 258 (0,0))) (ds:=[]) #[false,false,false,false,false,false,false,false,false,false,false,false,false] (by kernel_rfl) rfl rfl ⟨ch,cg,⟨_,NP hh HL.out i vE,HJ.out.2.2.2.1⟩⟩ (fun hHeld=>?_);refine au 0 48 ?_;refine au 1 49 ?_;refine au 2 50 ?_;refine au 3 51 ?_;refine au 4 52 ?_;refine au 6 54 ?_;refine au 7 55 ?_;refine bU 5 53 hHeld (by rintro w' ⟨s0,s1,s2⟩;go_simp;with_reducible rfl) ?_ rfl rfl;refine au 9 57 ?_;refine bU 8 56 hHeld (by rintro w' ⟨s0,s1,s2⟩;go_simp;with_reducible rfl) ?_ rfl rfl;refine fu 10 (N:=none) rfl rfl fun K hK=>?_
     obtain⟨mR,yt⟩:=Gq hHeld.2.2 hp0;obtain⟨vc_,mR⟩:=mR;refine jQ (w1:=?_) (by rfl) rfl ?_ ?_;rotate_left
     ·go_simp
      rfl
     clear mR yt;refine hK.out _ _ ⟨(oH _ _ n1).trans hHeld.1,(oH _ _ n2).trans hHeld.2.1,Gr hHeld.2.2 _ _⟩ (fun hHeld=>?_);clear hK K;refine au 11 58 ?_;refine fu 12 (N:=none) rfl rfl fun K hK=>?_
     obtain⟨mR,yt⟩:=Gq hHeld.2.2 hp1;obtain⟨vc_,mR⟩:=mR;refine jQ (w1:=?_) (by rfl) rfl ?_ ?_;rotate_left
     ·go_simp
      rfl
     clear mR yt;refine hK.out _ _ ⟨(oH _ _ n1).trans hHeld.1,(oH _ _ n2).trans hHeld.2.1,Gr hHeld.2.2 _ _⟩ (fun hHeld=>?_);clear hK K;refine gJ ?_;clear e1 e2 ch cg
     go_wp2_with fail
     go_roundw
     case rel=>exact⟨i+1,by omega,by go_num,by have:=((HJ.out.sZ i (hh.getD i 0)).sZ (i+8) (jg.getD i 0)).drew;rw[XT hh HL.out i hlt]at this;exact this⟩
     case measure=>simp[intOf];omega
    ·obtain rfl:i=8:=by omega
     have jP:wr.cell? ⟨w.heap.size+3,12,none⟩=some (.int .u32 1359893119):=(ah hI.2.2.2.1 12).trans (by rw[HE.out];rfl);have q13:wr.cell? ⟨w.heap.size+3,13,none⟩=some (.int .u32 2600822924):=(ah hI.2.2.2.1 13).trans (by rw[HE.out];rfl);have q14:wr.cell? ⟨w.heap.size+3,14,none⟩=some (.int .u32 528734635):=(ah hI.2.2.2.1 14).trans (by rw[HE.out];rfl);have f12:=aA hI.2.2.2.1 12;have f13:=aA hI.2.2.2.1 13;have f14:=aA hI.2.2.2.1 14;have HJ:=af.mk hI;have hmf:∀(fn:Fn) (first cap:Array Value) (w:World),(Instr.makeFunc fn first cap).run Tryz.prog w=.ok (.func fn first cap) w:=fun _ _ _ _=>rfl
     clear hI;have hH1:1<w.heap.size:=World.block_lt_of_cell? w _ (HG.out.2.1 0 (.int .u8 0) rfl);have hH2:2<w.heap.size:=World.block_lt_of_cell? w _ (HG.out.2.2 0 (.int .u8 0) rfl);obtain⟨V0,hV0⟩:∃V0,V0=CQ hh t last:=⟨_,rfl⟩;have HV:=af.mk hV0;have HVl:=af.mk (show V0.length=16 by rw[hV0];exact XU hh HL.out t last);clear hV0
     cases last
     case' false=>
      go_wp2_with fail
      have HK:=af.mk (show kV w ((wr.setCell ⟨w.heap.size+3,12,none⟩ (.int .u32 (bits .xor .u32 1359893119 (t%4294967296)))).setCell ⟨w.heap.size+3,13,none⟩ (.int .u32 (bits .xor .u32 2600822924 (t/4294967296)))) hh (dG s 16) V0 by rw[HV.out];exact(HJ.out.sZ 12 _).sZ 13 _)
     case' true=>
      go_wp2_with fail
      have HK:=af.mk (show kV w (((wr.setCell ⟨w.heap.size+3,12,none⟩ (.int .u32 (bits .xor .u32 1359893119 (t%4294967296)))).setCell ⟨w.heap.size+3,13,none⟩ (.int .u32 (bits .xor .u32 2600822924 (t/4294967296)))).setCell ⟨w.heap.size+3,14,none⟩ (.int .u32 (bits .xor .u32 IntKind.u32.max 528734635))) hh (dG s 16) V0 by rw[HV.out];exact((HJ.out.sZ 12 _).sZ 13 _).sZ 14 _)
     all_goals
      clear HJ jP q13 q14 f12 f13 f14
      go_loopw [79] (fun v wr=>∃r:Nat,r≤10∧v=.int .i64 r∧kV w wr hh (dG s 16) (uF (dG s 16) V0 r)) (fun v _=>10-(intOf v).toNat)
      case atStart=>exact⟨0,by omega,rfl,HK.out⟩
      case round=>
       obtain⟨r,hr10,rfl,hR⟩:=hrel;have HR:=af.mk hR;clear hR HK
       by_cases hlr:r<10
       ·have hr1:(r:Int)<10:=by omega
        go_wp2_with fail
        go_loopw [82] (fun v wr=>∃i:Nat,i≤8∧v=.int .i64 i∧kV w wr hh (dG s 16) (tu (dG s 16) r (uF (dG s 16) V0 r) i)) (fun v _=>8-(intOf v).toNat)
        case atStart=>exact⟨0,by omega,rfl,HR.out⟩
        case round=>
         obtain⟨i,vE,rfl,hI⟩:=hrel
         by_cases hi:i<8
         ·have HJ:=af.mk hI;have i1:(i:Int)<8:=by omega
          have c0:=Nc HG.out hI.2.2.2.2 hi (show 0<4 by decide);have c1:=Nc HG.out hI.2.2.2.2 hi (show 1<4 by decide);have c2:=Nc HG.out hI.2.2.2.2 hi (show 2<4 by decide);have c3:=Nc HG.out hI.2.2.2.2 hi (show 3<4 by decide);have o0:=Ww HG.out hI.2.2.2.2 hlr (show 2*i<16 by omega);have o1:=Ww HG.out hI.2.2.2.2 hlr (show 2*i+1<16 by omega);have m0:=(ah hI.2.2.1 (gY r (2*i))).trans (gQ (dG s 16) (gY r (2*i)) (by rw[F6 s 16 (by omega)];exact Ga r hlr _ (by omega)));have m1:=(ah hI.2.2.1 (gY r (2*i+1))).trans (gQ (dG s 16) (gY r (2*i+1)) (by rw[F6 s 16 (by omega)];exact Ga r hlr _ (by omega)));have l0:(gY r (2*i):Int)<16:=by have:=Ga r hlr (2*i) (by omega);omega
          have l1:(gY r (2*i+1):Int)<16:=by have:=Ga r hlr (2*i+1) (by omega);omega
          have HB3:=af.mk hI.2.2.2.1;clear hI HR
          go_wp2_with fail
          have e1:wrap64 (2*(i:Int))=2*i:=by unfold wrap64;omega
          have e2:wrap64 (2*(i:Int)+1)=2*i+1:=by unfold wrap64;omega
          have e3:(2*(i:Int)).toNat=2*i:=by omega
          have e4:(2*(i:Int)+1).toNat=2*i+1:=by omega
          have b1:(0:Int)≤2*i:=by omega
          have b2:(2*i:Int)<16:=by omega
          have b3:(0:Int)≤2*i+1:=by omega
          have b4:(2*i+1:Int)<16:=by omega
          refine gZ (n:=22) (S:=fun w'=>w'.cell? ⟨1,i*4,none⟩=some (.int .u8 (sS i 0))∧w'.cell? ⟨1,i*4+1,none⟩=some (.int .u8 (sS i 1))∧w'.cell? ⟨1,i*4+2,none⟩=some (.int .u8 (sS i 2))∧w'.cell? ⟨1,i*4+3,none⟩=some (.int .u8 (sS i 3))∧w'.cell? ⟨2,r*16+2*i,none⟩=some (.int .u8 (gY r (2*i)))∧w'.cell? ⟨2,r*16+(2*i+1),none⟩=some (.int .u8 (gY r (2*i+1)))∧w'.cell? ⟨w.heap.size+2,gY r (2*i),none⟩=some (.int .u32 ((dG s 16).getD (gY r (2*i)) 0))∧w'.cell? ⟨w.heap.size+2,gY r (2*i+1),none⟩=some (.int .u32 ((dG s 16).getD (gY r (2*i+1)) 0))) (ds:=[21]) #[false,false,false,false,false,false,false,false,false,false,false,false,false,false,false,false,false,false,false,false,false,false] (by kernel_rfl) rfl rfl ⟨c0,c1,c2,c3,o0,o1,m0,m1⟩ (fun hHeld=>?_);refine au 0 85 ?_;refine au 1 86 ?_;refine au 2 87 ?_;refine au 4 89 ?_;refine au 5 90 ?_;refine au 6 91 ?_;refine au 7 92 ?_;refine au 8 93 ?_;refine au 12 97 ?_;refine au 13 98 ?_;refine au 14 99 ?_;refine au 15 100 ?_;refine au 16 101 ?_;refine au 17 102 ?_;refine bU 3 88 hHeld (by rintro w' ⟨s0,s1,s2,s3,s4,s5,s6,s7⟩;go_simp;with_reducible rfl) ?_ rfl rfl;refine bU 9 94 hHeld (by rintro w' ⟨s0,s1,s2,s3,s4,s5,s6,s7⟩;go_simp;with_reducible rfl) ?_ rfl rfl;refine au 10 95 ?_;refine bU 11 96 hHeld (by rintro w' ⟨s0,s1,s2,s3,s4,s5,s6,s7⟩;go_simp;with_reducible rfl) ?_ rfl rfl;refine bU 18 103 hHeld (by rintro w' ⟨s0,s1,s2,s3,s4,s5,s6,s7⟩;go_simp;with_reducible rfl) ?_ rfl rfl;refine au 19 104 ?_;refine bU 20 105 hHeld (by rintro w' ⟨s0,s1,s2,s3,s4,s5,s6,s7⟩;go_simp;with_reducible rfl) ?_ rfl rfl;refine iN (i:=21) (N:=some 106) #[true,true,true,true,true,true,true,true,true,true,true,true,true,true,true,true,true,true,true,true,true,true] rfl rfl (by kernel_rfl) (by decide) (fun K hK=>?_);refine BQ Tryz.func209 (by kernel_rfl) rfl (cap:=#[.pointer (some ⟨w.heap.size+3,0,none⟩)]) #[.agg #[.int .u8 (sS i 0),.int .u8 (sS i 1),.int .u8 (sS i 2),.int .u8 (sS i 3)],.int .u32 ((dG s 16).getD (gY r (2*i)) 0),.int .u32 ((dG s 16).getD (gY r (2*i+1)) 0)] (by rfl) rfl rfl (by rfl) (by simp only[List.map_toArray,List.map_cons,List.map_nil];rfl) (by rfl) ?_;refine(ZR (tu (dG s 16) r (uF (dG s 16) V0 r) i) (by rw[RF,KW,HVl.out]) _ _ _ _ (Nf i hi 0 (by decide)) (Nf i hi 1 (by decide)) (Nf i hi 2 (by decide)) (Nf i hi 3 (by decide)) _ _ (w.heap.size+3) wr.drew HB3.out).mono ?_;rintro e w3 ⟨⟨v_,rfl⟩,hb3,hg3⟩;refine⟨_,rfl,?_⟩;refine hK.out _ _ ?_;clear hK K;refine dM ?_;refine gJ ?_;clear e1 e2 e3 e4 c0 c1 c2 c3 o0 o1 m0 m1
          go_wp2_with fail
          go_roundw
          case rel=>exact⟨i+1,by omega,by go_num,HJ.out.drew.mix hg3 hb3⟩
          case measure=>simp[intOf];omega
         ·obtain rfl:i=8:=by omega
          have HJ:=af.mk hI;clear hI HR
          go_wp2_with fail
          go_roundw
          case rel=>exact⟨r+1,by omega,by go_num,HJ.out⟩
          case measure=>simp[intOf];omega
       ·obtain rfl:r=10:=by omega
        obtain⟨V1,hV1⟩:∃V1,V1=uF (dG s 16) V0 10:=⟨_,rfl⟩;have HW:=af.mk hV1;have HWl:=af.mk (show V1.length=16 by rw[hV1,KW,HVl.out]);have HR1:=af.mk (show kV w wr hh (dG s 16) V1 by rw[hV1];exact HR.out);clear HR hV1
        go_wp2_with fail
        go_loopw [109] (fun v wr=>∃i:Nat,i≤8∧v=.int .i64 i∧kV w wr (hOut hh V1 i) (dG s 16) V1) (fun v _=>8-(intOf v).toNat)
        case atStart=>exact⟨0,by omega,rfl,HR1.out⟩
        case round=>
         obtain⟨i,vE,rfl,hI⟩:=hrel
         by_cases hi:i<8
         ·have HJ:=af.mk hI;have i1:(i:Int)<8:=by omega
          have i2:(i:Int)<16:=by omega
          have c0:wr.cell? ⟨w.heap.size,i,none⟩=some (.int .u32 (hh.getD i 0)):=(ah hI.1 i).trans ((gQ _ i (by rw[yc,HL.out];exact hi)).trans (by rw[Pt hh V1 i i (Nat.le_refl _)]));have c1:=(ah hI.2.2.2.1 i).trans (gQ V1 i (by rw[HWl.out];omega));have c2:=(ah hI.2.2.2.1 (i+8)).trans (gQ V1 (i+8) (by rw[HWl.out];omega));have f0:=aA hI.1 i;clear hI HR1
          go_wp2_with fail
          have b1:(0:Int)≤(i:Int)+8:=by omega
          have b2:(i:Int)+8<16:=by omega
          have e1:wrap64 ((i:Int)+8)=(i:Int)+8:=by unfold wrap64;omega
          have e2:((i:Int)+8).toNat=i+8:=by omega
          refine gZ (n:=14) (S:=fun w'=>w'.cell? ⟨w.heap.size,i,none⟩=some (.int .u32 (hh.getD i 0))∧w'.cell? ⟨w.heap.size+3,i,none⟩=some (.int .u32 (V1.getD i 0))∧w'.cell? ⟨w.heap.size+3,i+8,none⟩=some (.int .u32 (V1.getD (i+8) 0))) (ds:=[13]) #[false,false,false,false,false,false,false,false,false,false,false,false,false,false] (by kernel_rfl) rfl rfl ⟨c0,c1,c2⟩ (fun hHeld=>?_);refine au 0 112 ?_;refine au 1 113 ?_;refine au 3 115 ?_;refine au 4 116 ?_;refine au 6 118 ?_;refine au 7 119 ?_;refine au 8 120 ?_;refine bU 2 114 hHeld (by rintro w' ⟨s0,s1,s2⟩;go_simp;with_reducible rfl) ?_ rfl rfl;refine bU 5 117 hHeld (by rintro w' ⟨s0,s1,s2⟩;go_simp;with_reducible rfl) ?_ rfl rfl;refine bU 9 121 hHeld (by rintro w' ⟨s0,s1,s2⟩;go_simp;with_reducible rfl) ?_ rfl rfl;refine au 10 122 ?_;refine au 11 123 ?_;refine au 12 124 ?_;refine iN (i:=13) (N:=none) #[true,true,true,true,true,true,true,true,true,true,true,true,true,true] rfl rfl (by kernel_rfl) (by decide) (fun K hK=>?_);refine jQ (w1:=?_) (by rfl) rfl ?_ ?_;rotate_left
          ·go_simp
           rfl
          refine hK.out _ _ ?_;clear hK K;refine gJ ?_;clear e1 e2 c0 c1 c2
          go_wp2_with fail
          go_roundw
          case rel=>exact⟨i+1,by omega,by go_num,(HJ.out.setH i _).drew⟩
          case measure=>simp[intOf];omega
         ·obtain rfl:i=8:=by omega
          obtain⟨k0,k1,k2,k3,k4,k5,k6,k7,ek⟩:=qh (hOut hh V1 8) (by rw[yc,HL.out]);have HX:=af.mk (show pU hh s t _=[k0,k1,k2,k3,k4,k5,k6,k7] by rw[← ek];show hOut hh (uF (dG s 16) (CQ hh t _) 10) 8=_;rw[← HV.out,← HW.out]);rw[ek]at hI;clear ek;obtain⟨q0,q1,q2,q3,q4,q5,q6,q7⟩:=qK hI.1;obtain⟨r0,r1,r2,r3,r4,r5,r6,r7⟩:=qK hI.2.1;obtain⟨z0,z1,z2,z3,z4,z5,z6,z7⟩:=BO hI.2.1;have HJ:=af.mk hI;clear hI HR1
          go_wp2_with fail
          rw[HX.out]
          exact bodyPost_ret (sW (rs:=[.cell 8 160,.tmp 9]) (vs:=[.agg (aJ [k0,k1,k2,k3,k4,k5,k6,k7]),.int .i64 0]) rfl (by simp) (.cell (w.heap.size+1) 160 _ (0,0) _ rfl (Et rfl HJ.out.2.1 _ _ _ _ _ _ _ _) Tryz.underlying160 rfl (by kernel_rfl) (.tmp .nil))) rfl
           ⟨rfl,zZ HJ.out.2.2.2.2 (Nat.le_succ _) _ _ _ _ _ _ _ _⟩
end Go.Proofs.YtdcddenojjdmjaaGreatDoor.T
namespace Go.Proofs
open Go.Shelf
def Tryz.VO:Go.Shelf.Ren:=⟨fun|169=>185|n=>n,fun|70=>265|9=>9|0=>0|72=>267|37=>155|127=>305|3=>3|5=>5|n=>n,fun|n=>n⟩
theorem Tryz.lays169:Go.Proofs.Lays.n169 Tryz.prog Tryz.VO:= {
 mixed:=by kernel_rfl
 f169:=Tryz.func185.trans (congrArg some (by kernel_rfl))
 t0:=Tryz.underlying0
 a0:=Tryz.isAgg0
 z0:=Tryz.sizeOf0
 v0:=Tryz.zeroValue0
 t3:=Tryz.underlying3
 a3:=Tryz.isAgg3
 z3:=Tryz.sizeOf3
 v3:=Tryz.zeroValue3
 t9:=Tryz.underlying9
 a9:=Tryz.isAgg9
 z9:=Tryz.sizeOf9
 v9:=Tryz.zeroValue9
 t37:=Tryz.underlying155
 a37:=Tryz.isAgg155
 z37:=Tryz.sizeOf155
 v37:=Tryz.zeroValue155
 t70:=Tryz.underlying265
 a70:=Tryz.isAgg265
 z70:=Tryz.sizeOf265
 v70:=Tryz.zeroValue265
 t72:=Tryz.underlying267
 a72:=Tryz.isAgg267
 z72:=Tryz.sizeOf267
 v72:=Tryz.zeroValue267
 t127:=Tryz.underlying305
 a127:=Tryz.isAgg305
 z127:=Tryz.sizeOf305
 v127:=Tryz.zeroValue305}
theorem Tryz.Yc:Builder.Extra Tryz.prog Tryz.VO:= {
 sizeBuilder:=by kernel_rfl
 liesBuilder:=by kernel_rfl
 t5:=Tryz.underlying5
 a5:=Tryz.isAgg5
 z5:=Tryz.sizeOf5
 v5:=Tryz.zeroValue5
 infoByte:=by kernel_rfl
 cellsByte:=by kernel_rfl
 sizeByte:=by kernel_rfl
 neB5:=by decide}
open Go.RowKit in
theorem Tryz.Builder_String_any(B b:Nat)(l:List UInt8)(w:World)(h:Lib.IsBuilder 267 5 B b (Lib.byteCells l) w)(hBw:B≤w.heap.size):
  Calls Tryz.prog 185 #[.pointer (some ⟨b,0,none⟩)] w fun e w'=>e=.returned (.string ⟨l.toArray⟩)∧Below B w w':=Any.Builder_String_any Tryz.lays169 Tryz.Yc B b l w h hBw
def Tryz.VN:Go.Shelf.Ren:=⟨fun|105=>165|212=>211|99=>212|165=>213|166=>182|170=>214|169=>185|263=>233|264=>234|206=>235|240=>220|241=>236|276=>240|277=>259|n=>n,fun|9=>9|3=>3|4=>4|20=>20|0=>0|46=>224|109=>297|5=>5|72=>267|76=>270|51=>159|146=>317|53=>47|148=>319|70=>265|37=>155|75=>269|127=>305|164=>323|80=>250|n=>n,fun|n=>n⟩
theorem Tryz.lays105:Go.Proofs.Lays.n105 Tryz.prog Tryz.VN:= {
 mixed:=by kernel_rfl
 f99:=Tryz.func212.trans (congrArg some (by kernel_rfl))
 f105:=Tryz.func165.trans (congrArg some (by kernel_rfl))
 f165:=Tryz.func213.trans (congrArg some (by kernel_rfl))
 f166:=Tryz.func182.trans (congrArg some (by kernel_rfl))
 f169:=Tryz.func185.trans (congrArg some (by kernel_rfl))
 f170:=Tryz.func214.trans (congrArg some (by kernel_rfl))
 f206:=Tryz.func235.trans (congrArg some (by kernel_rfl))
 f212:=Tryz.func211.trans (congrArg some (by kernel_rfl))
 f240:=Tryz.func220.trans (congrArg some (by kernel_rfl))
 f241:=Tryz.func236.trans (congrArg some (by kernel_rfl))
 f263:=Tryz.func233.trans (congrArg some (by kernel_rfl))
 f264:=Tryz.func234.trans (congrArg some (by kernel_rfl))
 f276:=Tryz.func240.trans (congrArg some (by kernel_rfl))
 f277:=Tryz.func259.trans (congrArg some (by kernel_rfl))
 t0:=Tryz.underlying0
 a0:=Tryz.isAgg0
 z0:=Tryz.sizeOf0
 v0:=Tryz.zeroValue0
 t3:=Tryz.underlying3
 a3:=Tryz.isAgg3
 z3:=Tryz.sizeOf3
 v3:=Tryz.zeroValue3
 t4:=Tryz.underlying4
 a4:=Tryz.isAgg4
 z4:=Tryz.sizeOf4
 v4:=Tryz.zeroValue4
 t5:=Tryz.underlying5
 a5:=Tryz.isAgg5
 z5:=Tryz.sizeOf5
 v5:=Tryz.zeroValue5
 t9:=Tryz.underlying9
 a9:=Tryz.isAgg9
 z9:=Tryz.sizeOf9
 v9:=Tryz.zeroValue9
 t20:=Tryz.underlying20
 a20:=Tryz.isAgg20
 z20:=Tryz.sizeOf20
 v20:=Tryz.zeroValue20
 t37:=Tryz.underlying155
 a37:=Tryz.isAgg155
 z37:=Tryz.sizeOf155
 v37:=Tryz.zeroValue155
 t46:=Tryz.underlying224
 a46:=Tryz.isAgg224
 z46:=Tryz.sizeOf224
 v46:=Tryz.zeroValue224
 t51:=Tryz.underlying159
 a51:=Tryz.isAgg159
 z51:=Tryz.sizeOf159
 v51:=Tryz.zeroValue159
 t53:=Tryz.underlying47
 a53:=Tryz.isAgg47
 z53:=Tryz.sizeOf47
 v53:=Tryz.zeroValue47
 t70:=Tryz.underlying265
 a70:=Tryz.isAgg265
 z70:=Tryz.sizeOf265
 v70:=Tryz.zeroValue265
 t72:=Tryz.underlying267
 a72:=Tryz.isAgg267
 z72:=Tryz.sizeOf267
 v72:=Tryz.zeroValue267
 t75:=Tryz.underlying269
 a75:=Tryz.isAgg269
 z75:=Tryz.sizeOf269
 v75:=Tryz.zeroValue269
 t76:=Tryz.underlying270
 a76:=Tryz.isAgg270
 z76:=Tryz.sizeOf270
 v76:=Tryz.zeroValue270
 t109:=Tryz.underlying297
 a109:=Tryz.isAgg297
 z109:=Tryz.sizeOf297
 v109:=Tryz.zeroValue297
 t127:=Tryz.underlying305
 a127:=Tryz.isAgg305
 z127:=Tryz.sizeOf305
 v127:=Tryz.zeroValue305
 t146:=Tryz.underlying317
 a146:=Tryz.isAgg317
 z146:=Tryz.sizeOf317
 v146:=Tryz.zeroValue317
 t148:=Tryz.underlying319
 a148:=Tryz.isAgg319
 z148:=Tryz.sizeOf319
 v148:=Tryz.zeroValue319
 t164:=Tryz.underlying323
 a164:=Tryz.isAgg323
 z164:=Tryz.sizeOf323
 v164:=Tryz.zeroValue323}
theorem Tryz.Yb:Builder.Extra Tryz.prog Tryz.VN:= {
 sizeBuilder:=by kernel_rfl
 liesBuilder:=by kernel_rfl
 t5:=Tryz.underlying5
 a5:=Tryz.isAgg5
 z5:=Tryz.sizeOf5
 v5:=Tryz.zeroValue5
 infoByte:=by kernel_rfl
 cellsByte:=by kernel_rfl
 sizeByte:=by kernel_rfl
 neB5:=by decide}
open Go.RowKit Go.Lib in
theorem Tryz.strings_Repeat(s:ByteArray)(c:Nat)(w:World)(hc:c≤9223372036854775807)(hlen:s.size*c≤140737488355328):
  Calls Tryz.prog 165 #[.string s,.int .i64 c] w fun e w'=>e=.returned (.string ⟨(Lib.repeatL s.data.toList c).toArray⟩)∧Below w.heap.size w w':=Any.strings_Repeat Tryz.lays105 Tryz.Yb s c w hc hlen
def Tryz.ZP:Go.Shelf.Ren:=⟨fun|17=>63|n=>n,fun|24=>56|9=>9|3=>3|4=>4|0=>0|n=>n,fun|n=>n⟩
theorem Tryz.VP:Go.Proofs.Lays2.n17 Tryz.prog Tryz.ZP:= {
 mixed:=by kernel_rfl
 f17:=Tryz.func63.trans (congrArg some (by kernel_rfl))
 t0:=Tryz.underlying0
 a0:=Tryz.isAgg0
 z0:=Tryz.sizeOf0
 v0:=Tryz.zeroValue0
 t3:=Tryz.underlying3
 a3:=Tryz.isAgg3
 z3:=Tryz.sizeOf3
 v3:=Tryz.zeroValue3
 t4:=Tryz.underlying4
 a4:=Tryz.isAgg4
 z4:=Tryz.sizeOf4
 v4:=Tryz.zeroValue4
 t9:=Tryz.underlying9
 a9:=Tryz.isAgg9
 z9:=Tryz.sizeOf9
 v9:=Tryz.zeroValue9
 t24:=Tryz.underlying56
 a24:=Tryz.isAgg56
 z24:=Tryz.sizeOf56
 v24:=Tryz.zeroValue56}
open Go.RowKit Go.Lib Go.Sort in
theorem Tryz.slices_Reverse_string(blk off cap:Nat)(zs:List (List UInt8))(w:World)(hH:Holds encStr w blk off zs.toArray)(hsz:zs.length≤9223372036854775807):
  Calls Tryz.prog 63 #[.slice (some ⟨blk,off,none⟩) zs.length cap] w fun e w'=>e=.returned (.tuple #[])∧∃n,w'=putRow encStr (Sort.ahead w n) blk off zs.reverse.toArray:=Any.slices_Reverse_string Tryz.VP blk off cap zs w hH hsz
open Go.RowKit Go.Lib Go.Sort in
theorem Tryz.slices_Reverse_string_empty(a:Option Addr)(cap:Nat)(w:World):
  Calls Tryz.prog 63 #[.slice a 0 cap] w fun e w'=>e=.returned (.tuple #[])∧w'=w:=Any.slices_Reverse_string_empty Tryz.VP a cap w
end Go.Proofs
