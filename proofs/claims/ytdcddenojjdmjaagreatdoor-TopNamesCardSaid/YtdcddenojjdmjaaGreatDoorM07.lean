import Derived.Lib.Walk
import Derived.Test.YtdcddenojjdmjaaGreatDoorM06
set_option linter.all false
set_option maxHeartbeats 8000000
set_option maxRecDepth 100000
namespace Go.Proofs.YtdcddenojjdmjaaGreatDoor.T
open Go.RowKit Go.Proofs.YtdcddenojjdmjaaGreatDoorW.PrintWords Go.Proofs.YtdcddenojjdmjaaGreatDoorW.PrintLast Go.Proofs.YtdcddenojjdmjaaGreatDoorW.PrintMore
namespace Bld
theorem Yu{B:Nat}{w W:World}(h:Below B w W)(hB:B≤W.heap.size){o:Obj}:Below B w (W.alloc o):=h.alloc hB o
theorem sizeBuilder:(Tryz.prog.info? 267).map (·.size)=some 2:=by kernel_rfl
theorem liesBuilder:liesAt Tryz.prog Tryz.prog.depth 267 (2/Tryz.prog.cellsOf 267) 0 267 1=true:=by kernel_rfl
theorem infoByte:(Tryz.prog.info? 5).map (fun i=>(i.zero,i.size,i.bytes))=some (some (.int .u8 0),1,1):=by kernel_rfl
theorem YM(b:Nat)(w:World)(h0:w.cell? ⟨b,0,none⟩=some (.pointer (some ⟨b,0,none⟩))):
  Calls Tryz.prog 220 #[.pointer (some ⟨b,0,none⟩)] w fun e w'=>e=.returned (.tuple #[])∧w'=w:=by
 obtain⟨j,hj,_⟩:=Option.map_eq_some_iff.1 sizeBuilder
 go_enter Tryz.func220,Tryz.ntmps220
 go_wp2
 rw[Lib.run_neq_ptr_same w _ Tryz.underlying265 hj]
 go_wp2
 go_end0
 exact⟨rfl,rfl⟩
theorem YL(b:Nat)(w:World)(h0:w.cell? ⟨b,0,none⟩=some (.pointer none))(hsh:w.shape? b=some (267,2))(hfz:w.frozen? ⟨b,0,none⟩=false):
  Calls Tryz.prog 220 #[.pointer (some ⟨b,0,none⟩)] w fun e w'=>e=.returned (.tuple #[])∧w'=w.setCell ⟨b,0,none⟩ (.pointer (some ⟨b,0,none⟩)):=by
 obtain⟨j,hj,hjs⟩:=Option.map_eq_some_iff.1 sizeBuilder
 go_enter Tryz.func220,Tryz.ntmps220
 go_wp2
 rw[Lib.run_to_unsafe w ⟨b,0,none⟩ Tryz.underlying265 Tryz.underlying323 hj (by rw[hjs];decide) hsh (Nat.zero_lt_succ 1)];simp only[Result.andThen];rw[Oper.upon_value]
 go_wp2
 rw[run_callFunc_extern Tryz.func240 (by kernel_rfl) (by kernel_rfl) (by kernel_rfl) (e:=Extern.AbiNoEscape.same) (by kernel_rfl)];rw[Lib.run_noEscape];simp only[Result.andThen];rw[Oper.upon_value]
 go_wp2
 rw[Lib.run_from_unsafe w ⟨b,0,none⟩ Tryz.underlying323 Tryz.underlying265 hj hsh liesBuilder];simp only[Result.andThen];rw[Oper.upon_value]
 go_wp2
 go_end0
 exact⟨rfl,rfl⟩
theorem copyCheck(B b:Nat)(bs:List Value)(w:World)(h:Lib.IsBuilder 267 5 B b bs w):
  Calls Tryz.prog 220 #[.pointer (some ⟨b,0,none⟩)] w fun e w'=>e=.returned (.tuple #[])∧(Lib.BuilderAt 267 5 B b (.pointer (some ⟨b,0,none⟩)) bs w'∧Below B w w'):=by
 rcases h with h|h
 ·refine(YL b w h.cell0 h.shape h.frozen0).mono ?_;rintro e w' ⟨rfl,rfl⟩;exact⟨rfl,h.used _,(Below.refl B w).setCell (p:=⟨b,0,none⟩) h.1 _⟩
 ·refine(YM b w h.cell0).mono ?_;rintro e w' ⟨rfl,rfl⟩;exact⟨rfl,h,Below.refl B _⟩
theorem abu(B b:Nat)(bs:List Value)(c:Int)(w:World)(h:Lib.IsBuilder 267 5 B b bs w)(hlen:bs.length+1≤140737488355328)(hBw:B≤w.heap.size):
  Calls Tryz.prog 215 #[.pointer (some ⟨b,0,none⟩),.int .u8 c] w fun e w'=>e=.returned .nilIface∧(Lib.BuilderAt 267 5 B b (.pointer (some ⟨b,0,none⟩)) (bs++[.int .u8 c]) w'∧Below B w w'):=by
 obtain⟨i0,hi,hz0,hz1,hz2⟩:=info_parts infoByte
 go_enter Tryz.func215,Tryz.ntmps215
 go_wp2_with (go_at_call 220;refine(copyCheck B b bs _ h).mono ?_)
 rintro e w1 ⟨rfl,h1,hb1⟩;obtain⟨hB,v,hbk,hown,hne⟩:=h1;have c0:w1.cell? ⟨b,0,none⟩=some (.pointer (some ⟨b,0,none⟩)):=by rw[Lib.cell_of_heap hbk];rfl
 have c1:w1.cell? ⟨b,1,none⟩=some v:=by rw[Lib.cell_of_heap hbk];rfl
 go_wp2_with (at_builtin;refine wpList_append_own _ rfl _ _ 155 rfl B 5 i0 (.int .u8 0) 1 1 Tryz.underlying155 hi hz0 hz1 hz2 rfl (by decide) _ _ _ rfl (hown.alloc _) ⟨w1.heap.size,0,none⟩ 1 1 [.int .u8 c] rfl rfl ?c1 ?c2 ?c3 ?c4 ?c5 ?_)
 case c1=>
  intro j u hj
  rcases j with _|j
  ·simp at hj;subst hj;simp[Addr.add]
  ·simp at hj
 case c2=>simp[Value.oneCell']
 case c3=>unfold maxLen;omega
 case c4=>omega
 case c5=>have:=hb1.size;simp;omega
 intro v' w2 hown' hgrow _
 have hlt:b<w1.heap.size:=by
  rcases Nat.lt_or_ge b w1.heap.size with h'|h'
  ·exact h'
  ·simp[Array.getElem?_eq_none h']at hbk
 have hb2:w2.heap[b]? =some (.cells #[.pointer (some ⟨b,0,none⟩),v] 267 (0,0)):=by
  rw[hgrow.block b (by simp;omega) (fun e=>hne e.symm)];exact(Below.heap_alloc w1 _ b hlt).trans hbk
 have d0:w2.cell? ⟨b,0,none⟩=some (.pointer (some ⟨b,0,none⟩)):=by rw[Lib.cell_of_heap hb2];rfl
 have d1:w2.cell? ⟨b,1,none⟩=some v:=by rw[Lib.cell_of_heap hb2];rfl
 have f1:w2.frozen? ⟨b,1,none⟩=false:=Lib.frozen_of_heap hb2 1
 obtain⟨ao,n',cap,rfl⟩:∃ao n' cap,v'=.slice ao n' cap:=by
  rcases hown'.2 with ⟨hv,_⟩|⟨g,cap,cur,hv,_⟩
  ·exact⟨_,_,_,hv⟩
  ·exact⟨_,_,_,hv⟩
 go_wp2
 go_ret
 refine⟨rfl,?_,?_⟩
 ·exact Lib.BuilderAt.put (T:=267) (e:=5) hB hb2 (bs':=bs++[.int .u8 c]) (by simpa using hown') (by decide)
 ·exact((Yu hb1 (by have:=hb1.size;omega)).grown hgrow (by have:=hb1.size;simp;omega) (fun k hk=>(hown.lt k hk).1)).setCell (p:=⟨b,1,none⟩) hB _
end Bld
def byteOf(x:Int)(k:Nat):UInt8:=UInt8.ofNat (x/2 ^ (8*k)%256).toNat
def y8(l:List Int):List UInt8:=l.flatMap fun x=>(List.range 4).map (byteOf x)
def nR(l:List Int)(i k:Nat):List UInt8:=y8 (l.take i)++(List.range k).map (byteOf (l.getD i 0))
theorem YC(x:Int)(k:Nat):((byteOf x k).toNat:Int)=x/2 ^ (8*k)%256:=by
 unfold byteOf;have h0:0≤x/2 ^ (8*k)%256:=Int.emod_nonneg _ (by decide);have h1:x/2 ^ (8*k)%256<256:=Int.emod_lt_of_pos _ (by decide);have h2:(x/2 ^ (8*k)%256).toNat<256:=by omega
 simp[UInt8.toNat_ofNat',Nat.mod_eq_of_lt h2];omega
theorem XF(l:List Int)(i k:Nat):Lib.byteCells (nR l i (k+1))=Lib.byteCells (nR l i k)++[.int .u8 (l.getD i 0/2 ^ (8*k)%256)]:=by
 unfold nR;rw[List.range_succ,List.map_append,← List.append_assoc];simp[Lib.byteCells,YC]
theorem XG(l:List Int)(i:Nat)(hi:i<l.length):nR l i 4=nR l (i+1) 0:=by
 unfold nR y8;rw[← List.take_append_getElem hi,List.flatMap_append];simp[List.getD_eq_getElem?_getD,List.getElem?_eq_getElem hi]
theorem aa6(l:List Int)(i k:Nat):(nR l i k).length≤4*i+k:=by
 unfold nR y8
 have h:∀m:List Int,(m.flatMap fun x=>(List.range 4).map (byteOf x)).length=4*m.length:=by
  intro m;induction m with
  |nil=>rfl
  |cons a r ih=>simp[List.flatMap_cons,ih];omega
 rw[List.length_append,h,List.length_map,List.length_range,List.length_take];omega
theorem index8(h0 h1 h2 h3 h4 h5 h6 h7:Int)(i:Nat)(hi:i<8)(w:World):
  (Instr.index 160 (.agg #[.int .u32 h0,.int .u32 h1,.int .u32 h2,.int .u32 h3,.int .u32 h4,.int .u32 h5,.int .u32 h6,.int .u32 h7]) (.int .i64 i)).run Tryz.prog w=.ok (.int .u32 ([h0,h1,h2,h3,h4,h5,h6,h7].getD i 0)) w:=by
 rcases i with _|_|_|_|_|_|_|_|i
 all_goals first|(exfalso;omega)|simp[Instr.index,run_underlying Tryz.underlying160,asIntOf,go_sem]
theorem Yy(hh:List Int)(hl:hh.length=8)(w:World):
  Calls Tryz.prog 166 #[.agg (aJ hh)] w fun e w'=>e=.returned (.string ⟨(y8 hh).toArray⟩)∧Below w.heap.size w w':=by
 obtain⟨h0,h1,h2,h3,h4,h5,h6,h7,e8⟩:=qh hh hl;have HL:=af.mk hl;have HE:=af.mk e8;rw[show aJ hh= #[.int .u32 h0,.int .u32 h1,.int .u32 h2,.int .u32 h3,.int .u32 h4,.int .u32 h5,.int .u32 h6,.int .u32 h7] by rw[e8];rfl];clear hl e8
 go_enter Tryz.func166,Tryz.ntmps166
 go_wp2_with fail
 go_loopw [8] (fun v wr=>∃i:Nat,i≤8∧v=.int .i64 i∧Lib.IsBuilder 267 5 (w.heap.size+1) (w.heap.size+1) (Lib.byteCells (nR hh i 0)) wr∧Below w.heap.size w wr∧w.heap.size+1≤wr.heap.size) (fun v _=>8-(intOf v).toNat)
 case atStart=>exact⟨0,by omega,rfl,by have:=Lib.fresh_isBuilder 267 5 (w.alloc (.cells (aJ [h0,h1,h2,h3,h4,h5,h6,h7]) 160));rw[World.size_alloc]at this;exact this,ax (ax (Below.refl _ _) _) _,by simp⟩
 case round=>
  obtain⟨i,hi,rfl,hI,hB,hS⟩:=hrel;have HI:=af.mk (And.intro hI (And.intro hB hS));clear hI hB hS
  by_cases hlt:i<8
  ·have vE:(i:Int)<8:=by omega
   have hx:=fun W=>index8 h0 h1 h2 h3 h4 h5 h6 h7 i hlt W
   rw[← HE.out]at hx;obtain⟨x,hx0⟩:∃x,x=hh.getD i 0:=⟨_,rfl⟩;rw[← hx0]at hx;have HX:=af.mk hx0;clear hx0
   go_wp2_with fail
   go_loopw [11] (fun v wr=>∃k:Nat,k≤4∧v=.int .i64 k∧Lib.IsBuilder 267 5 (w.heap.size+1) (w.heap.size+1) (Lib.byteCells (nR hh i k)) wr∧Below w.heap.size w wr∧w.heap.size+1≤wr.heap.size) (fun v _=>4-(intOf v).toNat)
   case atStart=>exact⟨0,by omega,rfl,HI.out⟩
   case round=>
    obtain⟨k,hk,rfl,hI,hB,hS⟩:=hrel;have HJ:=af.mk (And.intro hI (And.intro hB hS));clear hI hB hS
    by_cases hk4:k<4
    ·have e1:wrap64 (8*(k:Int))=8*k:=by unfold wrap64;omega
     have e2:(8*(k:Int)).toNat=8*k:=by omega
     have b1:(0:Int)≤8*k:=by omega
     have b2:(8*(k:Int))≤32:=by omega
     have hk1:(k:Int)<4:=by omega
     go_wp2_with (go_at_call 215;(with_reducible refine(Bld.abu (w.heap.size+1) (w.heap.size+1) _ (x/2 ^ (8*k)%256) _ HJ.out.1 (by have:=aa6 hh i k;simp[Lib.byteCells];omega) HJ.out.2.2).mono ?_);rintro e w2 ⟨rfl,h2,hb2⟩)
     have HK:=af.mk (And.intro h2 hb2);clear h2 hb2 e1 e2
     go_wp2_with fail
     go_roundw
     case rel=>exact⟨k+1,by omega,by go_num,by rw[XF,← HX.out];exact .inr HK.out.1,HJ.out.2.1.trans (HK.out.2.mono (by omega)),by have:=HK.out.2.size;have:=HJ.out.2.2;omega⟩
     case measure=>simp[intOf];omega
    ·obtain rfl:k=4:=by omega
     go_wp2_with fail
     go_roundw
     case rel=>exact⟨i+1,by omega,by go_num,by rw[← XG hh i (by rw[HL.out];exact hlt)];exact HJ.out.1,HJ.out.2⟩
     case measure=>simp[intOf];omega
  ·obtain rfl:i=8:=by omega
   go_wp2_with (go_at_call 185;(refine(Tryz.Builder_String_any (w.heap.size+1) (w.heap.size+1) (nR hh 8 0) _ HI.out.1 HI.out.2.2).mono ?_);rintro e w2 ⟨rfl,hb2⟩)
   have HK:=af.mk hb2;clear hb2
   go_ret
   exact⟨by rw[show y8 hh=nR hh 8 0 by unfold nR;rw[← HL.out,List.take_length];simp];rfl,HI.out.2.1.trans (HK.out.mono (Nat.le_succ _))⟩
theorem SC(hh:List Int)(s:ByteArray)(t:Int)(last:Bool):(pU hh s t last).length=hh.length:=by unfold pU;rw[yc]
theorem Bo(a0 a1 a2 a3 a4 a5 a6 a7:Int):aJ [a0,a1,a2,a3,a4,a5,a6,a7]= #[.int .u32 a0,.int .u32 a1,.int .u32 a2,.int .u32 a3,.int .u32 a4,.int .u32 a5,.int .u32 a6,.int .u32 a7]:=rfl
def lI(r:ByteArray)(m:Nat):ByteArray:=r++⟨(Lib.repeatL [0] m).toArray⟩
theorem Gj(x:UInt8):∀m,(Lib.repeatL [x] m).length=m
 |0=>rfl
 |m+1=>by simp[Lib.repeatL,Gj x m]
theorem KC(r:ByteArray)(m:Nat)(h:r.size+m=64):(lI r m).size=64:=by
 unfold lI;rw[ByteArray.size_append]
 show r.size+(Lib.repeatL [0] m).toArray.size=64
 rw[List.size_toArray,Gj,h]
def xZ(hh:List Int)(s:ByteArray):Nat→List Int
 |0=>hh
 |k+1=>pU (xZ hh s k) (s.extract (64*k) (64*k+64)) (64*k+64) false
theorem Fv(hh:List Int)(s:ByteArray):∀k,(xZ hh s k).length=hh.length
 |0=>rfl
 |k+1=>by rw[xZ,SC,Fv hh s k]
def BD(hh:List Int)(s:ByteArray):List UInt8:=
 y8 (pU (xZ hh s ((s.size-1)/64)) (lI (s.extract (64*((s.size-1)/64)) s.size) (64-(s.extract (64*((s.size-1)/64)) s.size).size)) s.size true)
theorem Te(s:ByteArray)(a b i j:Nat):(s.extract a b).extract i j=s.extract (a+i) (min (a+j) b):=by
 apply ByteArray.ext;simp[ByteArray.data_extract,Array.extract_extract]
theorem YS(s:ByteArray)(k:Nat)(h:64*k+64≤s.size):(s.extract (64*k) s.size).extract 0 64=s.extract (64*k) (64*k+64):=by
 rw[Te,Nat.add_zero,Nat.min_eq_left h]
theorem YT(s:ByteArray)(k:Nat)(h:64*k+64≤s.size):(s.extract (64*k) s.size).extract 64 (s.size-64*k)=s.extract (64*(k+1)) s.size:=by
 rw[Te];congr 1;omega
theorem Sy(hh:List Int)(hl:hh.length=8)(s:ByteArray)(hs:s.size≤281474976710656)(w:World)(hG:jR w):
  Calls Tryz.prog 114 #[.agg (aJ hh),.string s] w fun e w'=>e=.returned (.string ⟨(BD hh s).toArray⟩)∧Below w.heap.size w w':=by
 obtain⟨h0,h1,h2,h3,h4,h5,h6,h7,e8⟩:=qh hh hl;have HL:=af.mk hl;have HE:=af.mk e8;have HG:=af.mk hG;rw[show aJ hh= #[.int .u32 h0,.int .u32 h1,.int .u32 h2,.int .u32 h3,.int .u32 h4,.int .u32 h5,.int .u32 h6,.int .u32 h7] by rw[e8];rfl];clear hl e8 hG
 go_enter Tryz.func114,Tryz.ntmps114
 go_wp2_with fail
 go_loopw [1,5] (fun u v wr=>∃k:Nat,(k=0∨64*k<s.size)∧(∃r,u=.string r∧af (r=s.extract (64*k) s.size))∧v=.int .u64 (64*k)∧wr.heap[w.heap.size]? =some (.cells (aJ (xZ hh s k)) 160 (0,0))∧Below w.heap.size w wr) (fun _ v _=>s.size-(intOf v).toNat)
 case atStart=>exact⟨0,.inl rfl,⟨_,rfl,⟨by simp⟩⟩,rfl,by rw[HE.out];exact bI _ _,ax (Below.refl _ _) _⟩
 case round=>
  obtain⟨k,hk,⟨r,rfl,HR⟩,rfl,hI⟩:=hrel;have hrs:r.size=s.size-64*k:=by rw[HR.out];simp
  by_cases hlt:64*k+64<s.size
  ·obtain⟨a0,a1,a2,a3,a4,a5,a6,a7,ea⟩:=qh (xZ hh s k) (by rw[Fv,HL.out]);have HA:=af.mk ea;rw[ea]at hI;have HI:=af.mk hI;obtain⟨q0,q1,q2,q3,q4,q5,q6,q7⟩:=qK hI.1;have HC:=af.mk (show(r.extract 0 64).size=64 by simp;omega);have hs1:(64:Int)<r.size:=by omega
   have hs2:(64:Int)≤r.size:=by omega
   have HS:=af.mk hrs;clear hI ea hrs
   go_wp2_with fail
   refine gZ (n:=9) (S:=fun w'=>w'.cell? ⟨w.heap.size,0,none⟩=some (.int .u32 a0)∧w'.cell? ⟨w.heap.size,1,none⟩=some (.int .u32 a1)∧w'.cell? ⟨w.heap.size,2,none⟩=some (.int .u32 a2)∧w'.cell? ⟨w.heap.size,3,none⟩=some (.int .u32 a3)∧w'.cell? ⟨w.heap.size,4,none⟩=some (.int .u32 a4)∧w'.cell? ⟨w.heap.size,5,none⟩=some (.int .u32 a5)∧w'.cell? ⟨w.heap.size,6,none⟩=some (.int .u32 a6)∧w'.cell? ⟨w.heap.size,7,none⟩=some (.int .u32 a7)∧w'.heap[w.heap.size]? =some (.cells (aJ [a0,a1,a2,a3,a4,a5,a6,a7]) 160 (0,0))) (ds:=[8]) #[false,false,false,false,false,false,false,false,false] (by kernel_rfl) rfl rfl ⟨q0,q1,q2,q3,q4,q5,q6,q7,HI.out.1⟩ (fun hHeld=>?_);refine au 1 13 ?_;refine au 2 14 ?_;refine au 3 15 ?_;refine bU 0 12 hHeld (by rintro w' ⟨s0,s1,s2,s3,s4,s5,s6,s7,s8⟩;go_simp;with_reducible rfl) ?_ rfl rfl;refine fu 4 (N:=some 16) rfl rfl fun K hK=>?_
   refine gF Tryz.func164 (by kernel_rfl) rfl #[.agg (aJ [a0,a1,a2,a3,a4,a5,a6,a7]),.string (r.extract 0 64),.int .u64 (64*k+64),.bool false] (by rfl) rfl rfl (by simp only[List.map_toArray,List.map_cons,List.map_nil];rfl) ?_
   with_reducible refine(Sz [a0,a1,a2,a3,a4,a5,a6,a7] rfl (r.extract 0 64) HC.out (64*k+64) (by omega) (by omega) false wr.drew (HG.out.below (Below.drew HI.out.2))).mono ?_
   rintro e w3 ⟨rfl,hb3⟩;refine⟨_,rfl,?_⟩;refine hK.out _ _ ⟨aI hb3 (hHeld.1),aI hb3 (hHeld.2.1),aI hb3 (hHeld.2.2.1),aI hb3 (hHeld.2.2.2.1),aI hb3 (hHeld.2.2.2.2.1),aI hb3 (hHeld.2.2.2.2.2.1),aI hb3 (hHeld.2.2.2.2.2.2.1),aI hb3 (hHeld.2.2.2.2.2.2.2.1),aK hHeld.2.2.2.2.2.2.2.2 hb3⟩ (fun hHeld=>?_);clear hK K;refine dM ?_;refine au 5 11 ?_;refine au 6 17 ?_;refine au 7 18 ?_;refine iN (i:=8) (N:=none) #[true,true,true,true,true,true,true,true,true] rfl rfl (by kernel_rfl) (by decide) (fun K hK=>?_);obtain⟨b0,b1,b2,b3,b4,b5,b6,b7,eb⟩:=qh (pU [a0,a1,a2,a3,a4,a5,a6,a7] (r.extract 0 64) (64*k+64) false) (by unfold pU;rw[yc];rfl);obtain⟨z0,z1,z2,z3,z4,z5,z6,z7⟩:=BO hHeld.2.2.2.2.2.2.2.2;obtain⟨y0,y1,y2,y3,y4,y5,y6,y7⟩:=qK hHeld.2.2.2.2.2.2.2.2;rw[eb,Bo];have HEb:=af.mk eb;clear eb;refine jQ (w1:=?_) (by rfl) rfl ?_ ?_;rotate_left
   ·go_simp
    rfl
   refine hK.out _ _ ?_;clear hK K;refine gJ ?_;have HN:=af.mk (Fv hh s (k+1))
   go_wp2_with fail
   go_roundw
   case rel=>exact⟨k+1,.inr (by omega),⟨_,rfl,⟨by rw[HS.out,HR.out,YT s k (by omega)]⟩⟩,by go_num,by
     rw[xZ,HA.out,← YS s k (by omega),← HR.out];exact(Et rfl (aK (w:=wr.drew) HI.out.1 hb3) b0 b1 b2 b3 b4 b5 b6 b7).trans (by rw[HEb.out]),zZ ((Below.drew HI.out.2).trans (hb3.mono (Below.drew HI.out.2).size)) (Nat.le_refl _) _ _ _ _ _ _ _ _⟩
   case measure=>simp[intOf];omega
  ·obtain⟨a0,a1,a2,a3,a4,a5,a6,a7,ea⟩:=qh (xZ hh s k) (by rw[Fv,HL.out]);have HK:=af.mk (show k=(s.size-1)/64 by omega);obtain⟨m,hm⟩:∃m:Nat,r.size+m=64:=⟨64-r.size,by omega⟩;have HA:=af.mk ea;rw[ea]at hI;have HI:=af.mk hI;have HM:=af.mk (show m=64-r.size by omega);obtain⟨q0,q1,q2,q3,q4,q5,q6,q7⟩:=qK hI.1;have hs1:(r.size:Int)≤64:=by omega
   have e0:64*(k:Int)+r.size=s.size:=by omega
   have e1:(64:Int)-r.size=m:=by omega
   have e2:wrap64 (m:Int)=m:=by unfold wrap64;omega
   have e3:¬(9223372036854775807<r.size+(Lib.repeatL [0] m).length):=by rw[Gj];omega
   clear hI ea hrs
   go_wp2_with fail
   refine gZ (n:=13) (S:=fun w'=>w'.cell? ⟨w.heap.size,0,none⟩=some (.int .u32 a0)∧w'.cell? ⟨w.heap.size,1,none⟩=some (.int .u32 a1)∧w'.cell? ⟨w.heap.size,2,none⟩=some (.int .u32 a2)∧w'.cell? ⟨w.heap.size,3,none⟩=some (.int .u32 a3)∧w'.cell? ⟨w.heap.size,4,none⟩=some (.int .u32 a4)∧w'.cell? ⟨w.heap.size,5,none⟩=some (.int .u32 a5)∧w'.cell? ⟨w.heap.size,6,none⟩=some (.int .u32 a6)∧w'.cell? ⟨w.heap.size,7,none⟩=some (.int .u32 a7)∧w'.heap[w.heap.size]? =some (.cells (aJ [a0,a1,a2,a3,a4,a5,a6,a7]) 160 (0,0))∧Below w.heap.size w w') (ds:=[12]) #[false,false,false,false,false,false,false,false,false,false,false,false,false] (by kernel_rfl) rfl rfl ⟨q0,q1,q2,q3,q4,q5,q6,q7,⟨HI.out.1,Below.drew HI.out.2⟩⟩ (fun hHeld=>?_);refine au 1 28 ?_;refine au 2 29 ?_;refine au 3 30 ?_;refine au 4 31 ?_;refine au 7 34 ?_;refine bU 0 27 hHeld (by rintro w' ⟨s0,s1,s2,s3,s4,s5,s6,s7,s8⟩;go_simp;with_reducible rfl) ?_ rfl rfl;refine fu 5 (N:=some 32) rfl rfl fun K hK=>?_
   refine gF Tryz.func165 (by kernel_rfl) rfl #[.string ⟨#[0]⟩,.int .i64 (wrap64 (m:Int))] (by rfl) rfl rfl (by simp only[List.map_toArray,List.map_cons,List.map_nil];rfl) ?_;rw[e2]
   with_reducible refine(Tryz.strings_Repeat ⟨#[0]⟩ m _ (by omega) (by rw[show(⟨#[0]⟩:ByteArray).size=1 from rfl];omega)).mono ?_
   rintro e w2 ⟨rfl,hb2⟩;refine⟨_,rfl,?_⟩;refine hK.out _ _ ⟨aI hb2 (hHeld.1),aI hb2 (hHeld.2.1),aI hb2 (hHeld.2.2.1),aI hb2 (hHeld.2.2.2.1),aI hb2 (hHeld.2.2.2.2.1),aI hb2 (hHeld.2.2.2.2.2.1),aI hb2 (hHeld.2.2.2.2.2.2.1),aI hb2 (hHeld.2.2.2.2.2.2.2.1),⟨aK hHeld.2.2.2.2.2.2.2.2.1 hb2,hHeld.2.2.2.2.2.2.2.2.2.trans (hb2.mono hHeld.2.2.2.2.2.2.2.2.2.size)⟩⟩ (fun hHeld=>?_);clear hK K;refine dM ?_;refine au 6 33 ?_;refine fu 8 (N:=some 35) rfl rfl fun K hK=>?_
   refine gF Tryz.func164 (by kernel_rfl) rfl #[.agg (aJ [a0,a1,a2,a3,a4,a5,a6,a7]),.string (lI r m),.int .u64 s.size,.bool true] (by rfl) rfl rfl (by simp only[List.map_toArray,List.map_cons,List.map_nil];rfl) ?_
   with_reducible refine(Sz [a0,a1,a2,a3,a4,a5,a6,a7] rfl (lI r m) (KC r m hm) s.size (by omega) (by omega) true _ (HG.out.below hHeld.2.2.2.2.2.2.2.2.2)).mono ?_
   rintro e w3 ⟨rfl,hb3⟩;refine⟨_,rfl,?_⟩;refine hK.out _ _ ⟨aI hb3 (hHeld.1),aI hb3 (hHeld.2.1),aI hb3 (hHeld.2.2.1),aI hb3 (hHeld.2.2.2.1),aI hb3 (hHeld.2.2.2.2.1),aI hb3 (hHeld.2.2.2.2.2.1),aI hb3 (hHeld.2.2.2.2.2.2.1),aI hb3 (hHeld.2.2.2.2.2.2.2.1),⟨aK hHeld.2.2.2.2.2.2.2.2.1 hb3,hHeld.2.2.2.2.2.2.2.2.2.trans (hb3.mono hHeld.2.2.2.2.2.2.2.2.2.size)⟩⟩ (fun hHeld=>?_);clear hK K;refine dM ?_;refine au 9 26 ?_;refine au 10 36 ?_;refine au 11 37 ?_;refine iN (i:=12) (N:=none) #[true,true,true,true,true,true,true,true,true,true,true,true,true] rfl rfl (by kernel_rfl) (by decide) (fun K hK=>?_);obtain⟨b0,b1,b2,b3,b4,b5,b6,b7,eb⟩:=qh (pU [a0,a1,a2,a3,a4,a5,a6,a7] (lI r m) s.size true) (by unfold pU;rw[yc];rfl);obtain⟨z0,z1,z2,z3,z4,z5,z6,z7⟩:=BO hHeld.2.2.2.2.2.2.2.2.1;obtain⟨y0,y1,y2,y3,y4,y5,y6,y7⟩:=qK hHeld.2.2.2.2.2.2.2.2.1;rw[eb,Bo];have HEb:=af.mk eb;have qp:=af.mk hHeld.2.2.2.2.2.2.2.2;clear eb;refine jQ (w1:=?_) (by rfl) rfl ?_ ?_;rotate_left
   ·go_simp
    rfl
   refine hK.out _ _ ?_;clear hK K;refine gJ ?_;clear e0 e1 e2 e3
   go_wp2_with (go_at_call 166;(refine(Yy [b0,b1,b2,b3,b4,b5,b6,b7] rfl _).mono ?_);rintro e w4 ⟨rfl,hb4⟩)
   have vU:=af.mk hb4;clear hb4
   go_ret
   refine⟨?_,(zZ qp.out.2 (Nat.le_refl _) _ _ _ _ _ _ _ _).trans (vU.out.mono (zZ qp.out.2 (Nat.le_refl _) _ _ _ _ _ _ _ _).size)⟩;unfold BD;rw[← HK.out,HA.out,← HR.out,← HM.out,HEb.out];rfl
theorem KP(k:Int):(yY k).length=8:=by simp[yY,jg]
def Cm(key s:ByteArray):List UInt8:=BD (yY key.size) (lI key (64-key.size)++s)
def Gn(s:ByteArray):List UInt8:=BD (yY 0) s
theorem Yv(key s:ByteArray)(h1:1≤key.size)(h32:key.size≤32)(hs:s.size≤140737488355328)(w:World)(hG:jR w):
  Calls Tryz.prog 136 #[.string key,.string s] w fun e w'=>e=.returned (.tuple #[.string ⟨(Cm key s).toArray⟩,.int .i64 0])∧Below w.heap.size w w':=by
 have HG:=af.mk hG;obtain⟨a0,a1,a2,a3,a4,a5,a6,a7,ea⟩:=qh (yY key.size) (KP _);have HA:=af.mk ea;obtain⟨m,hm⟩:∃m:Nat,key.size+m=64:=⟨64-key.size,by omega⟩;have HM:=af.mk (show m=64-key.size by omega);have hne:key.toList≠ []:=by intro h;rw[ByteArray.toList_eq]at h;have e:=LD key;rw[h]at e;simp at e;omega
 have n0:(key.toList==([]:List UInt8))=false:=beq_eq_false_iff_ne.2 hne;have n5:key.toList.isEmpty=false:=by simpa using hne
 have i1:(key.size:Int)≤32:=by omega
 have c1:(0:Int)≤key.size:=by omega
 clear hG ea hne
 go_enter Tryz.func136,Tryz.ntmps136
 go_wp2_with (go_at_call 113;(refine(SB key.size c1 i1 _ HG.out).mono ?_);rw[HA.out,Bo];rintro e w1 ⟨rfl,hb1⟩)
 have hB0:=ax hb1 (.cells (aJ [a0,a1,a2,a3,a4,a5,a6,a7]) 160);have bN:=bI w1 (.cells (aJ [a0,a1,a2,a3,a4,a5,a6,a7]) 160);obtain⟨q0,q1,q2,q3,q4,q5,q6,q7⟩:=qK bN;clear bN;revert q0 q1 q2 q3 q4 q5 q6 q7 hB0;obtain⟨g,hg⟩:∃g,w1.heap.size=g:=⟨_,rfl⟩;obtain⟨W,hW⟩:∃W,w1.alloc (.cells #[.int .u32 a0,.int .u32 a1,.int .u32 a2,.int .u32 a3,.int .u32 a4,.int .u32 a5,.int .u32 a6,.int .u32 a7] 160)=W:=⟨_,rfl⟩;rw[hg,Bo,hW];intro hB0 q0 q1 q2 q3 q4 q5 q6 q7;have HB:=af.mk hB0;have e1:(64:Int)-key.size=m:=by omega
 have e2:wrap64 (m:Int)=m:=by unfold wrap64;omega
 have e3:¬(9223372036854775807<key.size+(Lib.repeatL [0] m).length):=by rw[Gj];omega
 have e4:¬(9223372036854775807<key.size+(Lib.repeatL [0] m).length+s.size):=by rw[Gj];omega
 clear hB0 hb1 hg hW;refine gZ (n:=12) (S:=fun w'=>w'.cell? ⟨g,0,none⟩=some (.int .u32 a0)∧w'.cell? ⟨g,1,none⟩=some (.int .u32 a1)∧w'.cell? ⟨g,2,none⟩=some (.int .u32 a2)∧w'.cell? ⟨g,3,none⟩=some (.int .u32 a3)∧w'.cell? ⟨g,4,none⟩=some (.int .u32 a4)∧w'.cell? ⟨g,5,none⟩=some (.int .u32 a5)∧w'.cell? ⟨g,6,none⟩=some (.int .u32 a6)∧w'.cell? ⟨g,7,none⟩=some (.int .u32 a7)∧Below w.heap.size w w') (ds:=[]) #[false,false,false,false,false,false,false,false,false,false,false,false] (by kernel_rfl) rfl rfl ⟨q0,q1,q2,q3,q4,q5,q6,q7,Below.drew HB.out⟩ (fun hHeld=>?_);refine au 1 22 ?_;refine au 2 23 ?_;refine au 3 24 ?_;refine au 4 25 ?_;refine au 7 28 ?_;refine bU 0 21 hHeld (by rintro w' ⟨s0,s1,s2,s3,s4,s5,s6,s7,s8⟩;go_simp;with_reducible rfl) ?_ rfl rfl;refine fu 5 (N:=some 26) rfl rfl fun K hK=>?_
 refine gF Tryz.func165 (by kernel_rfl) rfl #[.string ⟨#[0]⟩,.int .i64 (wrap64 (m:Int))] (by rfl) rfl rfl (by simp only[List.map_toArray,List.map_cons,List.map_nil];rfl) ?_;rw[e2]
 with_reducible refine(Tryz.strings_Repeat ⟨#[0]⟩ m _ (by omega) (by rw[show(⟨#[0]⟩:ByteArray).size=1 from rfl];omega)).mono ?_
 rintro e w2 ⟨rfl,hb2⟩;refine⟨_,rfl,?_⟩;refine hK.out _ _ ⟨aI hb2 (hHeld.1),aI hb2 (hHeld.2.1),aI hb2 (hHeld.2.2.1),aI hb2 (hHeld.2.2.2.1),aI hb2 (hHeld.2.2.2.2.1),aI hb2 (hHeld.2.2.2.2.2.1),aI hb2 (hHeld.2.2.2.2.2.2.1),aI hb2 (hHeld.2.2.2.2.2.2.2.1),hHeld.2.2.2.2.2.2.2.2.trans (hb2.mono hHeld.2.2.2.2.2.2.2.2.size)⟩ (fun hHeld=>?_);clear hK K;refine dM ?_;refine au 6 27 ?_;refine au 8 29 ?_;refine fu 9 (N:=some 30) rfl rfl fun K hK=>?_
 refine gF Tryz.func114 (by kernel_rfl) rfl #[.agg (aJ [a0,a1,a2,a3,a4,a5,a6,a7]),.string (lI key m++s)] (by rfl) rfl rfl (by simp only[List.map_toArray,List.map_cons,List.map_nil];rfl) ?_
 with_reducible refine(Sy [a0,a1,a2,a3,a4,a5,a6,a7] rfl (lI key m++s) (by rw[ByteArray.size_append,KC key m hm];omega) _ (HG.out.below hHeld.2.2.2.2.2.2.2.2)).mono ?_
 rintro e w3 ⟨rfl,hb3⟩;refine⟨_,rfl,?_⟩;refine hK.out _ _ ⟨aI hb3 (hHeld.1),aI hb3 (hHeld.2.1),aI hb3 (hHeld.2.2.1),aI hb3 (hHeld.2.2.2.1),aI hb3 (hHeld.2.2.2.2.1),aI hb3 (hHeld.2.2.2.2.2.1),aI hb3 (hHeld.2.2.2.2.2.2.1),aI hb3 (hHeld.2.2.2.2.2.2.2.1),hHeld.2.2.2.2.2.2.2.2.trans (hb3.mono hHeld.2.2.2.2.2.2.2.2.size)⟩ (fun hHeld=>?_);clear hK K;refine dM ?_;refine au 10 4 ?_;refine au 11 5 ?_;refine gJ ?_;clear e1 e2 e3 e4
 go_wp2_with fail
 go_ret2
 exact⟨by rw[Cm,HA.out,← HM.out];rfl,hHeld.2.2.2.2.2.2.2.2⟩
theorem Yw(key s:ByteArray)(h:key.size=0∨32<key.size)(w:World):
  Calls Tryz.prog 136 #[.string key,.string s] w fun e w'=>e=.returned (.tuple #[.string ⟨#[]⟩,.int .i64 1])∧Below w.heap.size w w':=by
 rcases h with h|h
 ·have e:key=⟨#[]⟩:=by apply ByteArray.ext;apply Array.eq_empty_of_size_eq_zero;exact h
  subst e
  go_enter Tryz.func136,Tryz.ntmps136
  go_wp2_with fail
  go_ret2
  exact⟨rfl,Below.refl _ _⟩
 ·have hne:key.toList≠ []:=by intro h';rw[ByteArray.toList_eq]at h';have e:=LD key;rw[h']at e;simp at e;omega
  have n0:(key.toList==([]:List UInt8))=false:=beq_eq_false_iff_ne.2 hne;have n5:key.toList.isEmpty=false:=by simpa using hne
  have i1:(32:Int)<key.size:=by omega
  clear hne
  go_enter Tryz.func136,Tryz.ntmps136
  go_wp2_with fail
  go_ret2
  exact⟨rfl,Below.refl _ _⟩
theorem Yx(s:ByteArray)(hs:s.size≤281474976710656)(w:World)(hG:jR w):
  Calls Tryz.prog 53 #[.string s] w fun e w'=>e=.returned (.string ⟨(Gn s).toArray⟩)∧Below w.heap.size w w':=by
 have HG:=af.mk hG;obtain⟨a0,a1,a2,a3,a4,a5,a6,a7,ea⟩:=qh (yY 0) (KP _);have HA:=af.mk ea;clear hG ea
 go_enter Tryz.func53,Tryz.ntmps53
 go_wp2_with (go_at_call 113;(refine(SB 0 (by decide) (by decide) _ HG.out).mono ?_);rw[HA.out,Bo];rintro e w1 ⟨rfl,hb1⟩)
 have hB0:=ax hb1 (.cells (aJ [a0,a1,a2,a3,a4,a5,a6,a7]) 160)
 go_wp2_with (go_at_call 114;(refine(Sy [a0,a1,a2,a3,a4,a5,a6,a7] rfl s hs _ (HG.out.below hB0)).mono ?_);rintro e w2 ⟨rfl,hb2⟩)
 go_ret
 exact⟨by rw[Gn,HA.out];rfl,hB0.trans (hb2.mono hB0.size)⟩
theorem aa5(l:List Int):(y8 l).length=4*l.length:=by
 unfold y8
 induction l with
 |nil=>rfl
 |cons a r ih=>simp[List.flatMap_cons,ih];omega
theorem Sk(hh:List Int)(hl:hh.length=8)(s:ByteArray):(BD hh s).length=32:=by
 unfold BD;rw[aa5,SC,Fv,hl]
theorem VI(key s:ByteArray):(Cm key s).length=32:=Sk _ (KP _) _
theorem sumL_len(s:ByteArray):(Gn s).length=32:=Sk _ (KP _) _
theorem WS(w:World):Calls Tryz.prog 132 #[] w fun e w'=>e=.returned (.slice (some ⟨w.heap.size,0,none⟩) 8 8)∧w'=w.alloc (.cells (aJ jg) 159):=by
 go_enter Tryz.func132,Tryz.ntmps132
 go_wp2_with fail
 go_ret
 exact⟨rfl,rfl⟩
def Gb:List ByteArray:=[⟨#[48,49,50,51,52,53,54,55,56,57,97,98,99,100,101,102]⟩,⟨#[101,97,52,56,57,102,100,54,49,99,48,50,98,55,53,51]⟩,⟨#[98,56,99,48,53,50,102,100,97,101,51,54,55,49,57,52]⟩,⟨#[55,57,51,49,100,99,98,101,50,54,53,97,52,48,102,56]⟩,⟨#[57,48,53,55,50,52,97,102,101,49,98,99,54,56,51,100]⟩,⟨#[50,99,54,97,48,98,56,51,52,100,55,53,102,101,49,57]⟩,⟨#[99,53,49,102,101,100,52,97,48,55,54,51,57,50,56,98]⟩,⟨#[100,98,55,101,99,49,51,57,53,48,102,52,56,54,50,97]⟩,⟨#[54,102,101,57,98,51,48,56,99,50,100,55,49,52,97,53]⟩,⟨#[97,50,56,52,55,54,49,53,102,98,57,101,51,99,100,48]⟩]
theorem refOrder(r:Nat)(hr:r<10)(w:World):Calls Tryz.prog 175 #[.int .i64 r] w fun e w'=>e=.returned (.string (Gb.getD r ⟨#[]⟩))∧Below w.heap.size w w':=by
 rcases r with _|_|_|_|_|_|_|_|_|_|r
 all_goals first|(exfalso;omega)|skip
 all_goals
  go_enter Tryz.func175,Tryz.ntmps175
  go_wp2_with fail
  go_ret
  exact⟨rfl,ax (Below.refl _ _) _⟩
def Fq(c:Int):Int:=if c≥97 then c-97+10 else c-48
theorem aay(c:Int)(h0:48≤c)(h1:c<256)(w:World):Calls Tryz.prog 176 #[.int .u8 c] w fun e w'=>e=.returned (.int .i64 (Fq c))∧w'=w:=by
 have hh:=af.mk (rfl:Fq c=Fq c)
 by_cases h:97≤c
 ·go_enter Tryz.func176,Tryz.ntmps176
  go_wp2_with fail
  go_ret
  exact⟨by rw[Fq,if_pos h];rfl,rfl⟩
 ·go_enter Tryz.func176,Tryz.ntmps176
  go_wp2_with fail
  go_ret
  exact⟨by rw[Fq,if_neg (by omega)];rfl,rfl⟩
theorem Wx:∀r,r<10→∀i,i<16→Fq (bt (Gb.getD r ⟨#[]⟩) (i:Nat))=(gY r i:Int)∧48≤bt (Gb.getD r ⟨#[]⟩) (i:Nat)∧bt (Gb.getD r ⟨#[]⟩) (i:Nat)<256∧(Gb.getD r ⟨#[]⟩).size=16:=by decide
theorem Nu(x:Int)(n:Int)(h0:0≤n)(h1:n≤32)(w:World):Calls Tryz.prog 216 #[.int .u32 x,.int .u32 n] w fun e w'=>e=.returned (.int .u32 (bits .or .u32 (x/2 ^ n.toNat) (x*2 ^ (32-n).toNat%4294967296)))∧w'=w:=by
 go_enter Tryz.func216,Tryz.ntmps216
 go_wp2
 go_ret
 exact⟨rfl,rfl⟩
end Go.Proofs.YtdcddenojjdmjaaGreatDoor.T
