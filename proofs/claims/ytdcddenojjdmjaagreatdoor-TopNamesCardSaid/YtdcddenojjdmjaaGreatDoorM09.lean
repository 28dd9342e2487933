import Derived.Laws.CopyOwn
import Derived.Laws.Tables
import Derived.Test.YtdcddenojjdmjaaGreatDoorM08
set_option linter.all false
set_option maxHeartbeats 8000000
set_option maxRecDepth 100000
namespace Go.Proofs.YtdcddenojjdmjaaGreatDoor.T
open Go.RowKit Go.Proofs.YtdcddenojjdmjaaGreatDoorW.PrintWords Go.Proofs.YtdcddenojjdmjaaGreatDoorW.PrintLast Go.Proofs.YtdcddenojjdmjaaGreatDoorW.PrintMore
def iZ(w wr:World)(hh mm vv:List Int):Prop:=
 wr.heap[w.heap.size]? =some (.cells (aJ hh) 160 (0,0))∧wr.heap[w.heap.size+1]? =some (.cells (aJ [0,0,0,0,0,0,0,0]) 160 (0,0))∧wr.heap[w.heap.size+2]? =some (.cells (aJ mm) 258 (0,0))∧wr.heap[w.heap.size+3]? =some (.cells (aJ jg) 159 (0,0))∧wr.heap[w.heap.size+4]? =some (.cells (aJ vv) 258 (0,0))∧Below w.heap.size w wr
theorem iZ.sZ{w wr:World}{hh mm vv:List Int}(h:iZ w wr hh mm vv)(i:Nat)(x:Int):iZ w (wr.setCell ⟨w.heap.size+4,i,none⟩ (.int .u32 x)) hh mm (vv.set i x):=
 ⟨(jo (by omega) _).trans h.1,(jo (by omega) _).trans h.2.1,(jo (by omega) _).trans h.2.2.1,(jo (by omega) _).trans h.2.2.2.1,jl h.2.2.2.2.1 _ _,h.2.2.2.2.2.setCell (p:=⟨w.heap.size+4,i,none⟩) (by show w.heap.size≤w.heap.size+4;omega) _⟩
theorem iZ.setH{w wr:World}{hh mm vv:List Int}(h:iZ w wr hh mm vv)(i:Nat)(x:Int):iZ w (wr.setCell ⟨w.heap.size,i,none⟩ (.int .u32 x)) (hh.set i x) mm vv:=
 ⟨jl h.1 _ _,(jo (by omega) _).trans h.2.1,(jo (by omega) _).trans h.2.2.1,(jo (by omega) _).trans h.2.2.2.1,(jo (by omega) _).trans h.2.2.2.2.1,h.2.2.2.2.2.setCell (p:=⟨w.heap.size,i,none⟩) (Nat.le_refl _) _⟩
theorem iZ.drew{w wr:World}{hh mm vv:List Int}(h:iZ w wr hh mm vv):iZ w wr.drew hh mm vv:=⟨h.1,h.2.1,h.2.2.1,h.2.2.2.1,h.2.2.2.2.1,Below.drew h.2.2.2.2.2⟩
theorem iZ.far{w wr:World}{hh mm vv:List Int}(h:iZ w wr hh mm vv){g:Nat}(hg:w.heap.size+4<g)(i:Nat)(x:Value):iZ w (wr.setCell ⟨g,i,none⟩ x) hh mm vv:=
 ⟨(jo (by omega) _).trans h.1,(jo (by omega) _).trans h.2.1,(jo (by omega) _).trans h.2.2.1,(jo (by omega) _).trans h.2.2.2.1,(jo (by omega) _).trans h.2.2.2.2.1,h.2.2.2.2.2.setCell (p:=⟨g,i,none⟩) (by show w.heap.size≤g;omega) _⟩
theorem iZ.below{w wr w1:World}{hh mm vv:List Int}(h:iZ w wr hh mm vv)(hb:Below wr.heap.size wr w1):iZ w w1 hh mm vv:=
 ⟨aK h.1 hb,aK h.2.1 hb,aK h.2.2.1 hb,aK h.2.2.2.1 hb,aK h.2.2.2.2.1 hb,h.2.2.2.2.2.trans (hb.mono h.2.2.2.2.2.size)⟩
theorem wraps_u32(n:Int)(h₀:0≤n)(h₁:n<2 ^ 32):IntKind.u32.wrap n=n:=by rw[IntKind.wrap_u32];omega
theorem Nk(x b:Int)(h0:0≤x)(h1:x<16777216)(h2:0≤b)(h3:b<256):bits .or .u32 (IntKind.u32.wrap (x*256)) (IntKind.u32.wrap b)=x*256+b:=by
 rw[wraps_u32 _ (by omega) (by omega),wraps_u32 _ (by omega) (by omega)];exact bits_join .u32 32 (by decide) wraps_u32 8 (x*256) b (by omega) (by omega) (by omega) h2 (by omega) (by omega)
theorem mRef_eq(s:ByteArray)(i:Nat):((((bt s (4*i)%4294967296+256*(bt s (4*i+1)%4294967296)%4294967296)%4294967296+65536*(bt s (4*i+2)%4294967296)%4294967296)%4294967296+16777216*(bt s (4*i+3)%4294967296)%4294967296)%4294967296)=rO s i 4:=by
 have r0:=Lx s (4*(i:Int));have r1:=Lx s (4*(i:Int)+1);have r2:=Lx s (4*(i:Int)+2);have r3:=Lx s (4*(i:Int)+3)
 have e1:rO s i 1=bt s (4*i+3):=by
  show bits .or .u32 (IntKind.u32.wrap (0*256)) (IntKind.u32.wrap (bt s (4*i+(3-((0:Nat):Int)))))=_
  rw[show(4*(i:Int)+(3-((0:Nat):Int)))=4*i+3 by omega,Nk _ _ (by omega) (by omega) (by omega) (by omega)];omega
 have e2:rO s i 2=bt s (4*i+3)*256+bt s (4*i+2):=by
  show bits .or .u32 (IntKind.u32.wrap (rO s i 1*256)) (IntKind.u32.wrap (bt s (4*i+(3-((1:Nat):Int)))))=_
  rw[show(4*(i:Int)+(3-((1:Nat):Int)))=4*i+2 by omega,e1,Nk _ _ (by omega) (by omega) (by omega) (by omega)]
 have e3:rO s i 3=(bt s (4*i+3)*256+bt s (4*i+2))*256+bt s (4*i+1):=by
  show bits .or .u32 (IntKind.u32.wrap (rO s i 2*256)) (IntKind.u32.wrap (bt s (4*i+(3-((2:Nat):Int)))))=_
  rw[show(4*(i:Int)+(3-((2:Nat):Int)))=4*i+1 by omega,e2,Nk _ _ (by omega) (by omega) (by omega) (by omega)]
 show _=bits .or .u32 (IntKind.u32.wrap (rO s i 3*256)) (IntKind.u32.wrap (bt s (4*i+(3-((3:Nat):Int)))))
 rw[show(4*(i:Int)+(3-((3:Nat):Int)))=4*i by omega,e3,Nk _ _ (by omega) (by omega) (by omega) (by omega)];omega
theorem refMixP0(V:List Int)(hV:V.length=16)(x y:Int)(w:World):Calls Tryz.prog 177 #[.agg (aJ V),.int .i64 0,.int .i64 4,.int .i64 8,.int .i64 12,.int .u32 x,.int .u32 y] w fun e w'=>e=.returned (.agg (aJ (nQ V 0 4 8 12 x y)))∧Below w.heap.size w w':=by
 have:=Cx V hV 0 4 8 12 (by decide) (by decide) (by decide) (by decide) x y w;rw[Cy V hV _ _ _ _ (by decide) (by decide) (by decide) (by decide) (by decide) (by decide) (by decide) (by decide) (by decide) (by decide)]at this;exact this
theorem refMixP1(V:List Int)(hV:V.length=16)(x y:Int)(w:World):Calls Tryz.prog 177 #[.agg (aJ V),.int .i64 1,.int .i64 5,.int .i64 9,.int .i64 13,.int .u32 x,.int .u32 y] w fun e w'=>e=.returned (.agg (aJ (nQ V 1 5 9 13 x y)))∧Below w.heap.size w w':=by
 have:=Cx V hV 1 5 9 13 (by decide) (by decide) (by decide) (by decide) x y w;rw[Cy V hV _ _ _ _ (by decide) (by decide) (by decide) (by decide) (by decide) (by decide) (by decide) (by decide) (by decide) (by decide)]at this;exact this
theorem refMixP2(V:List Int)(hV:V.length=16)(x y:Int)(w:World):Calls Tryz.prog 177 #[.agg (aJ V),.int .i64 2,.int .i64 6,.int .i64 10,.int .i64 14,.int .u32 x,.int .u32 y] w fun e w'=>e=.returned (.agg (aJ (nQ V 2 6 10 14 x y)))∧Below w.heap.size w w':=by
 have:=Cx V hV 2 6 10 14 (by decide) (by decide) (by decide) (by decide) x y w;rw[Cy V hV _ _ _ _ (by decide) (by decide) (by decide) (by decide) (by decide) (by decide) (by decide) (by decide) (by decide) (by decide)]at this;exact this
theorem refMixP3(V:List Int)(hV:V.length=16)(x y:Int)(w:World):Calls Tryz.prog 177 #[.agg (aJ V),.int .i64 3,.int .i64 7,.int .i64 11,.int .i64 15,.int .u32 x,.int .u32 y] w fun e w'=>e=.returned (.agg (aJ (nQ V 3 7 11 15 x y)))∧Below w.heap.size w w':=by
 have:=Cx V hV 3 7 11 15 (by decide) (by decide) (by decide) (by decide) x y w;rw[Cy V hV _ _ _ _ (by decide) (by decide) (by decide) (by decide) (by decide) (by decide) (by decide) (by decide) (by decide) (by decide)]at this;exact this
theorem refMixP4(V:List Int)(hV:V.length=16)(x y:Int)(w:World):Calls Tryz.prog 177 #[.agg (aJ V),.int .i64 0,.int .i64 5,.int .i64 10,.int .i64 15,.int .u32 x,.int .u32 y] w fun e w'=>e=.returned (.agg (aJ (nQ V 0 5 10 15 x y)))∧Below w.heap.size w w':=by
 have:=Cx V hV 0 5 10 15 (by decide) (by decide) (by decide) (by decide) x y w;rw[Cy V hV _ _ _ _ (by decide) (by decide) (by decide) (by decide) (by decide) (by decide) (by decide) (by decide) (by decide) (by decide)]at this;exact this
theorem refMixP5(V:List Int)(hV:V.length=16)(x y:Int)(w:World):Calls Tryz.prog 177 #[.agg (aJ V),.int .i64 1,.int .i64 6,.int .i64 11,.int .i64 12,.int .u32 x,.int .u32 y] w fun e w'=>e=.returned (.agg (aJ (nQ V 1 6 11 12 x y)))∧Below w.heap.size w w':=by
 have:=Cx V hV 1 6 11 12 (by decide) (by decide) (by decide) (by decide) x y w;rw[Cy V hV _ _ _ _ (by decide) (by decide) (by decide) (by decide) (by decide) (by decide) (by decide) (by decide) (by decide) (by decide)]at this;exact this
theorem refMixP6(V:List Int)(hV:V.length=16)(x y:Int)(w:World):Calls Tryz.prog 177 #[.agg (aJ V),.int .i64 2,.int .i64 7,.int .i64 8,.int .i64 13,.int .u32 x,.int .u32 y] w fun e w'=>e=.returned (.agg (aJ (nQ V 2 7 8 13 x y)))∧Below w.heap.size w w':=by
 have:=Cx V hV 2 7 8 13 (by decide) (by decide) (by decide) (by decide) x y w;rw[Cy V hV _ _ _ _ (by decide) (by decide) (by decide) (by decide) (by decide) (by decide) (by decide) (by decide) (by decide) (by decide)]at this;exact this
theorem refMixP7(V:List Int)(hV:V.length=16)(x y:Int)(w:World):Calls Tryz.prog 177 #[.agg (aJ V),.int .i64 3,.int .i64 4,.int .i64 9,.int .i64 14,.int .u32 x,.int .u32 y] w fun e w'=>e=.returned (.agg (aJ (nQ V 3 4 9 14 x y)))∧Below w.heap.size w w':=by
 have:=Cx V hV 3 4 9 14 (by decide) (by decide) (by decide) (by decide) x y w;rw[Cy V hV _ _ _ _ (by decide) (by decide) (by decide) (by decide) (by decide) (by decide) (by decide) (by decide) (by decide) (by decide)]at this;exact this
theorem CJ{p:Prop}(h:af p):p:=h.out
theorem rP:(Tryz.prog.info? 258).map (·.size)=some 16:=by kernel_rfl
theorem CO(l:List Int):(aJ l).all (·.oneCell')=true:=by
 rw[Array.all_eq_true_iff_forall_mem];intro x hx;simp only[aJ,List.mem_toArray,List.mem_map]at hx;obtain⟨n,_,rfl⟩:=hx;rfl
theorem iZ.setRow{w wr:World}{hh mm vv vP:List Int}(h:iZ w wr hh mm vv)(x:Array Value)(e:x=aJ vP):iZ w (wr.setRow (w.heap.size+4) x) hh mm vP:=by
 subst e;exact⟨(setRow_other _ _ _ _ (by omega)).trans h.1,(setRow_other _ _ _ _ (by omega)).trans h.2.1,(setRow_other _ _ _ _ (by omega)).trans h.2.2.1,(setRow_other _ _ _ _ (by omega)).trans h.2.2.2.1,setRow_heap _ _ _ _ _ _ h.2.2.2.2.1,below_setRow h.2.2.2.2.2 (by omega) _⟩
def CR(M:List Int)(r i:Nat):List Int:=(List.range i).map (fun k=>M.getD (gY r k) 0)++List.replicate (16-i) 0
theorem rA(M:List Int)(r i:Nat)(hi:i≤16):(CR M r i).length=16:=by simp[CR];omega
theorem wRow_set(M:List Int)(r i:Nat)(hi:i<16):(CR M r i).set i (M.getD (gY r i) 0)=CR M r (i+1):=by
 unfold CR;have e:List.replicate (16-i) (0:Int)=0::List.replicate (16-(i+1)) 0:=by rw[show 16-i=(16-(i+1))+1 by omega];rfl
 rw[e,List.set_append_right _ _ (by simp)];simp[List.range_succ]
theorem rT(M:List Int)(r k:Nat)(hk:k<16):(CR M r 16).getD k 0=M.getD (gY r k) 0:=by
 unfold CR;simp[List.getD_eq_getElem?_getD,hk]
theorem WR(hh:List Int)(hl:hh.length=8)(s:ByteArray)(hs:s.size=64)(t:Int)(ht0:0≤t)(ht:t<18446744073709551616)(last:Bool)(w:World):
  Calls Tryz.prog 133 #[.agg (aJ hh),.string s,.int .u64 t,.bool last] w fun e w'=>e=.returned (.tuple #[.agg (aJ (pU hh s t last)),.int .i64 0])∧Below w.heap.size w w':=by
 have hsz:(s.size:Int)=64:=by omega
 obtain⟨h0,h1,h2,h3,h4,h5,h6,h7,e8⟩:=qh hh hl;have HS:=af.mk hs;have HL:=af.mk hl;have HE:=af.mk e8;rw[show aJ hh= #[.int .u32 h0,.int .u32 h1,.int .u32 h2,.int .u32 h3,.int .u32 h4,.int .u32 h5,.int .u32 h6,.int .u32 h7] by rw[e8];rfl];clear hs hl e8
 go_enter Tryz.func133,Tryz.ntmps133
 go_wp2_with fail
 go_loopw [11] (fun v wr=>∃i:Nat,i≤16∧v=.int .i64 i∧wr.heap[w.heap.size]? =some (.cells (aJ hh) 160 (0,0))∧wr.heap[w.heap.size+1]? =some (.cells (aJ [0,0,0,0,0,0,0,0]) 160 (0,0))∧wr.heap[w.heap.size+2]? =some (.cells (aJ (dG s i)) 258 (0,0))∧Below w.heap.size w wr∧wr.heap.size=w.heap.size+3) (fun v _=>16-(intOf v).toNat)
 case atStart=>exact⟨0,by omega,rfl,by rw[HE.out];exact ay (ay (bI _ _) _) _,ay (xP _ _ _) _,by have:=xP (w.alloc (.cells (aJ [h0,h1,h2,h3,h4,h5,h6,h7]) 160)) (.cells (aJ [0,0,0,0,0,0,0,0]) 160) (.cells (aJ [0,0,0,0,0,0,0,0,0,0,0,0,0,0,0,0]) 258);rwa [World.size_alloc]at this,ax (ax (ax (Below.refl _ _) _) _) _,by simp⟩
 case round=>
  obtain⟨i,hi,rfl,bH,bR,bM,hB,hS⟩:=hrel
  by_cases hlt:i<16
  ·have Ju:(i:Int)<16:=by omega
   have fm:=aA bM i;obtain⟨vm,cm⟩:∃v,wr.cell? ⟨w.heap.size+2,i,none⟩=some v:=⟨_,(ah bM i).trans (gQ _ _ (by rw[F6 s i hi];exact hlt))⟩;have HI:=af.mk (And.intro bH (And.intro bR (And.intro bM (And.intro hB hS))));clear bH bR bM hB hS
   go_wp2_with fail
   have b0:(0:Int)≤4*i:=by omega
   have b1:(0:Int)≤4*i+1:=by omega
   have b2:(0:Int)≤4*i+2:=by omega
   have b3:(0:Int)≤4*i+3:=by omega
   have c0:(4*i:Int)<64:=by omega
   have c1:(4*i+1:Int)<64:=by omega
   have c2:(4*i+2:Int)<64:=by omega
   have c3:(4*i+3:Int)<64:=by omega
   have e0:wrap64 (4*(i:Int))=4*i:=by unfold wrap64;omega
   have e1:wrap64 (4*(i:Int)+1)=4*i+1:=by unfold wrap64;omega
   have e2:wrap64 (4*(i:Int)+2)=4*i+2:=by unfold wrap64;omega
   have e3:wrap64 (4*(i:Int)+3)=4*i+3:=by unfold wrap64;omega
   have t0:=jM s (4*(i:Int));have t1:=jM s (4*(i:Int)+1);have t2:=jM s (4*(i:Int)+2);have t3:=jM s (4*(i:Int)+3);refine gZ (n:=32) (S:=fun w'=>True) (ds:=[31]) #[false,false,false,false,false,false,false,false,false,false,false,false,false,false,false,false,false,false,false,false,false,false,false,false,false,false,false,false,false,false,false,false] (by kernel_rfl) rfl rfl trivial (fun hHeld=>?_);refine au 0 29 ?_;refine au 1 30 ?_;refine au 2 31 ?_;refine au 3 32 ?_;refine au 6 35 ?_;refine au 7 36 ?_;refine au 8 37 ?_;refine au 9 38 ?_;refine au 14 43 ?_;refine au 15 44 ?_;refine au 16 45 ?_;refine au 17 46 ?_;refine au 22 51 ?_;refine au 23 52 ?_;refine au 24 53 ?_;refine au 25 54 ?_;refine bU 4 33 hHeld (by intro w' _;go_simp;with_reducible rfl) ?_ rfl rfl;refine au 5 34 ?_;refine bU 10 39 hHeld (by intro w' _;go_simp;with_reducible rfl) ?_ rfl rfl;refine au 11 40 ?_;refine au 12 41 ?_;refine au 13 42 ?_;refine bU 18 47 hHeld (by intro w' _;go_simp;with_reducible rfl) ?_ rfl rfl;refine au 19 48 ?_;refine au 20 49 ?_;refine au 21 50 ?_;refine bU 26 55 hHeld (by intro w' _;go_simp;with_reducible rfl) ?_ rfl rfl;refine au 27 56 ?_;refine au 28 57 ?_;refine au 29 58 ?_;refine au 30 59 ?_;refine iN (i:=31) (N:=none) #[true,true,true,true,true,true,true,true,true,true,true,true,true,true,true,true,true,true,true,true,true,true,true,true,true,true,true,true,true,true,true,true] rfl rfl (by kernel_rfl) (by decide) (fun K hK=>?_);refine jQ (w1:=?_) (by rfl) rfl ?_ ?_;rotate_left
   ·go_simp
    rfl
   refine hK.out _ _ ?_;clear hK K;refine gJ ?_;clear e0 e1 e2 e3 t0 t1 t2 t3 cm
   go_wp2_with fail
   go_roundw
   case rel=>exact⟨i+1,by omega,by go_num,(jo (by omega) _).trans HI.out.1,(jo (by omega) _).trans HI.out.2.1,by have:=jl HI.out.2.2.1 i (rO s i 4);rw[VW s i hlt,← mRef_eq]at this;exact this,Below.drew (HI.out.2.2.2.1.setCell (p:=⟨w.heap.size+2,i,none⟩) (by show w.heap.size≤w.heap.size+2;omega) _),by simpa [World.setCell,World.drew]using HI.out.2.2.2.2⟩
   case measure=>simp[intOf];omega
  ·obtain rfl:i=16:=by omega
   have HI:=af.mk (And.intro bH (And.intro bR (And.intro bM (And.intro hB hS))));have hS1:=hS;clear bH bR bM hB hS
   go_wp2_with (go_at_call 132;(refine(WS _).mono ?_);rintro e w1 ⟨rfl,rfl⟩)
   have HJ:=af.mk (show iZ w ((wr.alloc (.cells (aJ jg) 159)).alloc (.cells (aJ EF) 258)) hh (dG s 16) EF from
    ⟨ay (ay HI.out.1 _) _,ay (ay HI.out.2.1 _) _,ay (ay HI.out.2.2.1 _) _,ay (by have:=bI wr (.cells (aJ jg) 159);rwa [HI.out.2.2.2.2]at this) _,by have:=xP wr (.cells (aJ jg) 159) (.cells (aJ EF) 258);rwa [HI.out.2.2.2.2]at this,ax (ax HI.out.2.2.2.1 _) _⟩)
   go_loopw [14] (fun v wr=>∃i:Nat,i≤8∧v=.int .i64 i∧iZ w wr hh (dG s 16) (CP hh i)) (fun v _=>8-(intOf v).toNat)
   case atStart=>exact⟨0,by omega,rfl,HJ.out⟩
   case round=>
    obtain⟨i,vE,rfl,hI⟩:=hrel
    by_cases hlt:i<8
    ·have Ju:(i:Int)<8:=by omega
     have hi15:(i:Int)<16:=by omega
     have ch:=(ah hI.1 i).trans (gQ hh i (by rw[HL.out];exact hlt));have cg:=(ah hI.2.2.2.1 i).trans (gQ jg i (by simpa [jg]using hlt));obtain⟨va,ca⟩:∃v,wr.cell? ⟨w.heap.size+4,i,none⟩=some v:=⟨_,(ah hI.2.2.2.2.1 i).trans (gQ _ _ (by rw[NP hh HL.out i vE];omega))⟩;obtain⟨vb,cb⟩:∃v,wr.cell? ⟨w.heap.size+4,i+8,none⟩=some v:=⟨_,(ah hI.2.2.2.2.1 (i+8)).trans (gQ _ _ (by rw[NP hh HL.out i vE];omega))⟩;have fv:=aA hI.2.2.2.2.1 i;have fw:=aA hI.2.2.2.2.1 (i+8);have HK:=af.mk hI;have b1:(0:Int)≤(i:Int)+8:=by omega
     have b2:(i:Int)+8<16:=by omega
     have e2:((i:Int)+8).toNat=i+8:=by omega
     clear hI
     go_wp2_with fail
     go_roundw
     case rel=>exact⟨i+1,by omega,by go_num,by have:=(HK.out.sZ i (hh.getD i 0)).sZ (i+8) (jg.getD i 0);rw[XT hh HL.out i hlt]at this;exact this⟩
     case measure=>simp[intOf];omega
    ·obtain rfl:i=8:=by omega
     have jP:wr.cell? ⟨w.heap.size+4,12,none⟩=some (.int .u32 1359893119):=(ah hI.2.2.2.2.1 12).trans (by rw[HE.out];rfl);have q13:wr.cell? ⟨w.heap.size+4,13,none⟩=some (.int .u32 2600822924):=(ah hI.2.2.2.2.1 13).trans (by rw[HE.out];rfl);have q14:wr.cell? ⟨w.heap.size+4,14,none⟩=some (.int .u32 528734635):=(ah hI.2.2.2.2.1 14).trans (by rw[HE.out];rfl);have f12:=aA hI.2.2.2.2.1 12;have f13:=aA hI.2.2.2.2.1 13;have f14:=aA hI.2.2.2.2.1 14;have HK:=af.mk hI;obtain⟨V0,hV0⟩:∃V0,V0=CQ hh t last:=⟨_,rfl⟩;have HV:=af.mk hV0;have HVl:=af.mk (show V0.length=16 by rw[hV0];exact XU hh HL.out t last);clear hV0 hI
     go_upto_if 92 with (fail)
     go_cut [] (fun wx=>iZ w wx hh (dG s 16) V0)
     case first=>
      cases last
      ·go_wp2_with fail
       go_meet
       rw[HV.out];exact(HK.out.sZ 12 _).sZ 13 _
      ·go_wp2_with fail
       go_meet
       rw[HV.out,CQ,if_pos rfl,Yt IntKind.u32.max];exact((HK.out.sZ 12 _).sZ 13 _).sZ 14 _
     case rest=>
      have HQ:=af.mk hcut;clear HK jP q13 q14 f12 f13 f14 HI HJ hcut
      go_wp2_with fail
      go_loopw [15] (fun v wr=>∃r:Nat,r≤10∧v=.int .i64 r∧iZ w wr hh (dG s 16) (uF (dG s 16) V0 r)) (fun v _=>10-(intOf v).toNat)
      case atStart=>exact⟨0,by omega,rfl,HQ.out⟩
      case round=>
       obtain⟨r,hr10,rfl,hR⟩:=hrel;have HR:=af.mk hR;clear hR HQ
       by_cases hlr:r<10
       ·have hr1:(r:Int)<10:=by omega
        obtain⟨U,hU⟩:∃U,U=uF (dG s 16) V0 r:=⟨_,rfl⟩;have HU:=af.mk hU;have HUl:=af.mk (show U.length=16 by rw[hU,KW,HVl.out]);have HR1:=af.mk (show iZ w wr hh (dG s 16) U by rw[hU];exact HR.out);clear HR hU;obtain⟨O,hO⟩:∃O,O=Gb.getD r ⟨#[]⟩:=⟨_,rfl⟩;have HO:=af.mk hO;have hord:∀W:World,Calls Tryz.prog 175 #[.int .i64 r] W fun e w'=>e=.returned (.string O)∧Below W.heap.size W w':=fun W=>by rw[hO];exact refOrder r hlr W
        have hO16:(O.size:Int)=16:=by rw[hO];exact_mod_cast (Wx r hlr 0 (by decide)).2.2.2
        have HORD:=af.mk hord;clear hO hord
        go_wp2_with (go_at_call 175;(refine(HORD.out _).mono ?_);rintro e w1 ⟨rfl,hb1⟩)
        have hR2:=HR1.out.below hb1;have hgt:=iB hR2.2.2.2.2.1;obtain⟨g,hg⟩:∃g,w1.heap.size=g:=⟨_,rfl⟩;have HG0:=af.mk (And.intro (show iZ w (w1.alloc (.cells (aJ EF) 258)) hh (dG s 16) U from hR2.below (ax (Below.refl _ _) _)) (bI w1 (.cells (aJ EF) 258)));rw[hg]at HG0 hgt ⊢;obtain⟨W1,hW1⟩:∃W1,w1.alloc (.cells #[.int .u32 0,.int .u32 0,.int .u32 0,.int .u32 0,.int .u32 0,.int .u32 0,.int .u32 0,.int .u32 0,.int .u32 0,.int .u32 0,.int .u32 0,.int .u32 0,.int .u32 0,.int .u32 0,.int .u32 0,.int .u32 0] 258)=W1:=⟨_,rfl⟩;rw[show w1.alloc (.cells (aJ EF) 258)=W1 from hW1]at HG0;rw[hW1];clear hW1 hg hb1 hR2
        go_loopw [18] (fun v wr=>∃i:Nat,i≤16∧v=.int .i64 i∧iZ w wr hh (dG s 16) U∧wr.heap[g]? =some (.cells (aJ (CR (dG s 16) r i)) 258 (0,0))) (fun v _=>16-(intOf v).toNat)
        case atStart=>exact⟨0,by omega,rfl,HG0.out⟩
        case round=>
         obtain⟨i,Ju,rfl,hI,hW⟩:=hrel
         by_cases hi:i<16
         ·have HJ:=af.mk (And.intro hI hW);have i1:(i:Int)<16:=by omega
          have hf:=Wx r hlr i hi;rw[← HO.out]at hf;have hfig:∀W:World,Calls Tryz.prog 176 #[.int .u8 (bt O i)] W fun e w'=>e=.returned (.int .i64 (gY r i))∧w'=W:=fun W=>by have:=aay (bt O i) hf.2.1 hf.2.2.1 W;rwa [hf.1]at this
          have HF:=af.mk hfig;have hbt:∀h:i<O.size,((O[i]'h).toNat:Int)=bt O (i:Int):=fun h=>jM O (i:Int) (by simpa using h)
          have c0:=(ah hI.2.2.1 (gY r i)).trans (gQ (dG s 16) (gY r i) (by rw[F6 s 16 (by omega)];exact Ga r hlr _ hi));have l0:(gY r i:Int)<16:=by have:=Ga r hlr i hi;omega
          obtain⟨vg,cg⟩:∃v,wr.cell? ⟨g,i,none⟩=some v:=⟨_,(ah hW i).trans (gQ _ _ (by rw[rA _ _ _ Ju];exact hi))⟩;have fg:=aA hW i;clear hI hW hf hfig HG0 HR1
          go_wp2_with (go_at_call 176;(with_reducible refine(HF.out _).mono ?_);rintro e w2 ⟨rfl,rfl⟩)
          go_roundw
          case rel=>exact⟨i+1,by omega,by go_num,HJ.out.1.far hgt i _,by rw[← wRow_set _ _ _ hi];exact jl HJ.out.2 i _⟩
          case measure=>simp[intOf];omega
         ·obtain rfl:i=16:=by omega
          have HJ0:=af.mk hI;have HW0:=af.mk hW;clear hI hW HG0 HR1;obtain⟨U0,hU0⟩:∃U0,U0=U:=⟨_,rfl⟩;have HE0:=af.mk (show U0=tu (dG s 16) r U 0 from hU0);have HL0:=af.mk (show U0.length=16 by rw[hU0,HUl.out]);have HB0:=af.mk (show iZ w wr hh (dG s 16) U0 by rw[hU0];exact HJ0.out);clear HJ0 hU0;have hB:=HB0.out;obtain⟨x0,hx0⟩:∃x0,x0=(dG s 16).getD (gY r 0) 0:=⟨_,rfl⟩;obtain⟨x1,hx1⟩:∃x1,x1=(dG s 16).getD (gY r 1) 0:=⟨_,rfl⟩;have p0:wr.cell? ⟨g,0,none⟩=some (.int .u32 x0):=(ah HW0.out 0).trans ((gQ _ _ (by rw[rA _ _ _ (by decide)];decide)).trans (by rw[rT _ _ _ (by decide),hx0]));have p1:wr.cell? ⟨g,1,none⟩=some (.int .u32 x1):=(ah HW0.out 1).trans ((gQ _ _ (by rw[rA _ _ _ (by decide)];decide)).trans (by rw[rT _ _ _ (by decide),hx1]));obtain⟨U1,hN⟩:∃U1,U1=nQ U0 0 4 8 12 x0 x1:=⟨_,rfl⟩;have xE:=af.mk (show U1=tu (dG s 16) r U 1 by rw[hN,hx0,hx1,HE0.out];rfl);have qo:=af.mk (show U1.length=16 by rw[hN,Bb,HL0.out]);have hcall:∀W:World,Calls Tryz.prog 177 #[.agg (aJ U0),.int .i64 0,.int .i64 4,.int .i64 8,.int .i64 12,.int .u32 x0,.int .u32 x1] W fun e w'=>e=.returned (.agg (aJ U1))∧Below W.heap.size W w':=fun W=>by have:=refMixP0 U0 HL0.out x0 x1 W;rwa [← hN]at this
          have HC:=af.mk hcall;clear hcall hB hx0 hx1 hN
          go_wp2_with (first|((with_reducible refine mP (.load 258 (.tmp 13)) rfl ?_);refine wpList_load_row rfl 258 _ rfl (w.heap.size+4) rfl 258 (aJ U0) (0,0) _ HB0.out.2.2.2.2.1 Tryz.underlying258 rfl (by rw[jI,HL0.out];exact rP) ?_)|(go_at_call 177;(with_reducible refine(HC.out _).mono ?_);rintro e w2 ⟨rfl,hb⟩;have HX0:=af.mk (And.intro (HB0.out.below hb) (aK HW0.out hb));clear hb)|((with_reducible refine mP (.store 258 (.tmp 13) (.tmp 121)) rfl ?_);(refine wpList_store_row rfl 258 _ _ rfl (w.heap.size+4) (aJ U1) rfl rfl 258 (aJ U0) HX0.out.1.2.2.2.2.1 (by rw[jI,qo.out];exact rP) (by rw[jI,jI,HL0.out,qo.out]) (CO U1) ?_;have HB1:=af.mk (iZ.setRow (vP:=U1) HX0.out.1 (aJ U1) rfl);have HW1:=af.mk ((setRow_other _ (w.heap.size+4) g (aJ U1) (by omega)).trans HX0.out.2);obtain⟨X1,hX⟩:∃X,World.setRow w2 (w.heap.size+4) (aJ U1)=X:=⟨_,rfl⟩;rw[hX]at HB1 HW1 ⊢;clear hX;refine CJ ?_)))
          refine⟨?_⟩;clear p0 p1 HC HX0 HB0 HW0;have hB:=HB1.out;obtain⟨x0,hx0⟩:∃x0,x0=(dG s 16).getD (gY r 2) 0:=⟨_,rfl⟩;obtain⟨x1,hx1⟩:∃x1,x1=(dG s 16).getD (gY r 3) 0:=⟨_,rfl⟩;have p0:X1.cell? ⟨g,2,none⟩=some (.int .u32 x0):=(ah HW1.out 2).trans ((gQ _ _ (by rw[rA _ _ _ (by decide)];decide)).trans (by rw[rT _ _ _ (by decide),hx0]));have p1:X1.cell? ⟨g,3,none⟩=some (.int .u32 x1):=(ah HW1.out 3).trans ((gQ _ _ (by rw[rA _ _ _ (by decide)];decide)).trans (by rw[rT _ _ _ (by decide),hx1]));obtain⟨U2,hN⟩:∃U2,U2=nQ U1 1 5 9 13 x0 x1:=⟨_,rfl⟩;have HE2:=af.mk (show U2=tu (dG s 16) r U 2 by rw[hN,hx0,hx1,xE.out];rfl);have HL2:=af.mk (show U2.length=16 by rw[hN,Bb,qo.out]);have hcall:∀W:World,Calls Tryz.prog 177 #[.agg (aJ U1),.int .i64 1,.int .i64 5,.int .i64 9,.int .i64 13,.int .u32 x0,.int .u32 x1] W fun e w'=>e=.returned (.agg (aJ U2))∧Below W.heap.size W w':=fun W=>by have:=refMixP1 U1 qo.out x0 x1 W;rwa [← hN]at this
          have HC:=af.mk hcall;clear hcall hB hx0 hx1 hN
          go_wp2_with (first|((with_reducible refine mP (.load 258 (.tmp 13)) rfl ?_);refine wpList_load_row rfl 258 _ rfl (w.heap.size+4) rfl 258 (aJ U1) (0,0) _ HB1.out.2.2.2.2.1 Tryz.underlying258 rfl (by rw[jI,qo.out];exact rP) ?_)|(go_at_call 177;(with_reducible refine(HC.out _).mono ?_);rintro e w3 ⟨rfl,hb⟩;have HX1:=af.mk (And.intro (HB1.out.below hb) (aK HW1.out hb));clear hb)|((with_reducible refine mP (.store 258 (.tmp 13) (.tmp 127)) rfl ?_);(refine wpList_store_row rfl 258 _ _ rfl (w.heap.size+4) (aJ U2) rfl rfl 258 (aJ U1) HX1.out.1.2.2.2.2.1 (by rw[jI,HL2.out];exact rP) (by rw[jI,jI,qo.out,HL2.out]) (CO U2) ?_;have HB2:=af.mk (iZ.setRow (vP:=U2) HX1.out.1 (aJ U2) rfl);have HW2:=af.mk ((setRow_other _ (w.heap.size+4) g (aJ U2) (by omega)).trans HX1.out.2);obtain⟨X2,hX⟩:∃X,World.setRow w3 (w.heap.size+4) (aJ U2)=X:=⟨_,rfl⟩;rw[hX]at HB2 HW2 ⊢;clear hX;refine CJ ?_)))
          refine⟨?_⟩;clear p0 p1 HC HX1 HB1 HW1;have hB:=HB2.out;obtain⟨x0,hx0⟩:∃x0,x0=(dG s 16).getD (gY r 4) 0:=⟨_,rfl⟩;obtain⟨x1,hx1⟩:∃x1,x1=(dG s 16).getD (gY r 5) 0:=⟨_,rfl⟩;have p0:X2.cell? ⟨g,4,none⟩=some (.int .u32 x0):=(ah HW2.out 4).trans ((gQ _ _ (by rw[rA _ _ _ (by decide)];decide)).trans (by rw[rT _ _ _ (by decide),hx0]));have p1:X2.cell? ⟨g,5,none⟩=some (.int .u32 x1):=(ah HW2.out 5).trans ((gQ _ _ (by rw[rA _ _ _ (by decide)];decide)).trans (by rw[rT _ _ _ (by decide),hx1]));obtain⟨U3,hN⟩:∃U3,U3=nQ U2 2 6 10 14 x0 x1:=⟨_,rfl⟩;have xG:=af.mk (show U3=tu (dG s 16) r U 3 by rw[hN,hx0,hx1,HE2.out];rfl);have qp:=af.mk (show U3.length=16 by rw[hN,Bb,HL2.out]);have hcall:∀W:World,Calls Tryz.prog 177 #[.agg (aJ U2),.int .i64 2,.int .i64 6,.int .i64 10,.int .i64 14,.int .u32 x0,.int .u32 x1] W fun e w'=>e=.returned (.agg (aJ U3))∧Below W.heap.size W w':=fun W=>by have:=refMixP2 U2 HL2.out x0 x1 W;rwa [← hN]at this
          have HC:=af.mk hcall;clear hcall hB hx0 hx1 hN
          go_wp2_with (first|((with_reducible refine mP (.load 258 (.tmp 13)) rfl ?_);refine wpList_load_row rfl 258 _ rfl (w.heap.size+4) rfl 258 (aJ U2) (0,0) _ HB2.out.2.2.2.2.1 Tryz.underlying258 rfl (by rw[jI,HL2.out];exact rP) ?_)|(go_at_call 177;(with_reducible refine(HC.out _).mono ?_);rintro e w4 ⟨rfl,hb⟩;have HX2:=af.mk (And.intro (HB2.out.below hb) (aK HW2.out hb));clear hb)|((with_reducible refine mP (.store 258 (.tmp 13) (.tmp 133)) rfl ?_);(refine wpList_store_row rfl 258 _ _ rfl (w.heap.size+4) (aJ U3) rfl rfl 258 (aJ U2) HX2.out.1.2.2.2.2.1 (by rw[jI,qp.out];exact rP) (by rw[jI,jI,HL2.out,qp.out]) (CO U3) ?_;have HB3:=af.mk (iZ.setRow (vP:=U3) HX2.out.1 (aJ U3) rfl);have HW3:=af.mk ((setRow_other _ (w.heap.size+4) g (aJ U3) (by omega)).trans HX2.out.2);obtain⟨X3,hX⟩:∃X,World.setRow w4 (w.heap.size+4) (aJ U3)=X:=⟨_,rfl⟩;rw[hX]at HB3 HW3 ⊢;clear hX;refine CJ ?_)))
          refine⟨?_⟩;clear p0 p1 HC HX2 HB2 HW2;have hB:=HB3.out;obtain⟨x0,hx0⟩:∃x0,x0=(dG s 16).getD (gY r 6) 0:=⟨_,rfl⟩;obtain⟨x1,hx1⟩:∃x1,x1=(dG s 16).getD (gY r 7) 0:=⟨_,rfl⟩;have p0:X3.cell? ⟨g,6,none⟩=some (.int .u32 x0):=(ah HW3.out 6).trans ((gQ _ _ (by rw[rA _ _ _ (by decide)];decide)).trans (by rw[rT _ _ _ (by decide),hx0]));have p1:X3.cell? ⟨g,7,none⟩=some (.int .u32 x1):=(ah HW3.out 7).trans ((gQ _ _ (by rw[rA _ _ _ (by decide)];decide)).trans (by rw[rT _ _ _ (by decide),hx1]));obtain⟨U4,hN⟩:∃U4,U4=nQ U3 3 7 11 15 x0 x1:=⟨_,rfl⟩;have HE4:=af.mk (show U4=tu (dG s 16) r U 4 by rw[hN,hx0,hx1,xG.out];rfl);have vW:=af.mk (show U4.length=16 by rw[hN,Bb,qp.out]);have hcall:∀W:World,Calls Tryz.prog 177 #[.agg (aJ U3),.int .i64 3,.int .i64 7,.int .i64 11,.int .i64 15,.int .u32 x0,.int .u32 x1] W fun e w'=>e=.returned (.agg (aJ U4))∧Below W.heap.size W w':=fun W=>by have:=refMixP3 U3 qp.out x0 x1 W;rwa [← hN]at this
          have HC:=af.mk hcall;clear hcall hB hx0 hx1 hN
          go_wp2_with (first|((with_reducible refine mP (.load 258 (.tmp 13)) rfl ?_);refine wpList_load_row rfl 258 _ rfl (w.heap.size+4) rfl 258 (aJ U3) (0,0) _ HB3.out.2.2.2.2.1 Tryz.underlying258 rfl (by rw[jI,qp.out];exact rP) ?_)|(go_at_call 177;(with_reducible refine(HC.out _).mono ?_);rintro e w5 ⟨rfl,hb⟩;have oO:=af.mk (And.intro (HB3.out.below hb) (aK HW3.out hb));clear hb)|((with_reducible refine mP (.store 258 (.tmp 13) (.tmp 139)) rfl ?_);(refine wpList_store_row rfl 258 _ _ rfl (w.heap.size+4) (aJ U4) rfl rfl 258 (aJ U3) oO.out.1.2.2.2.2.1 (by rw[jI,vW.out];exact rP) (by rw[jI,jI,qp.out,vW.out]) (CO U4) ?_;have vU:=af.mk (iZ.setRow (vP:=U4) oO.out.1 (aJ U4) rfl);have HW4:=af.mk ((setRow_other _ (w.heap.size+4) g (aJ U4) (by omega)).trans oO.out.2);obtain⟨X4,hX⟩:∃X,World.setRow w5 (w.heap.size+4) (aJ U4)=X:=⟨_,rfl⟩;rw[hX]at vU HW4 ⊢;clear hX;refine CJ ?_)))
          refine⟨?_⟩;clear p0 p1 HC oO HB3 HW3;have hB:=vU.out;obtain⟨x0,hx0⟩:∃x0,x0=(dG s 16).getD (gY r 8) 0:=⟨_,rfl⟩;obtain⟨x1,hx1⟩:∃x1,x1=(dG s 16).getD (gY r 9) 0:=⟨_,rfl⟩;have p0:X4.cell? ⟨g,8,none⟩=some (.int .u32 x0):=(ah HW4.out 8).trans ((gQ _ _ (by rw[rA _ _ _ (by decide)];decide)).trans (by rw[rT _ _ _ (by decide),hx0]));have p1:X4.cell? ⟨g,9,none⟩=some (.int .u32 x1):=(ah HW4.out 9).trans ((gQ _ _ (by rw[rA _ _ _ (by decide)];decide)).trans (by rw[rT _ _ _ (by decide),hx1]));obtain⟨U5,hN⟩:∃U5,U5=nQ U4 0 5 10 15 x0 x1:=⟨_,rfl⟩;have HE5:=af.mk (show U5=tu (dG s 16) r U 5 by rw[hN,hx0,hx1,HE4.out];rfl);have HL5:=af.mk (show U5.length=16 by rw[hN,Bb,vW.out]);have hcall:∀W:World,Calls Tryz.prog 177 #[.agg (aJ U4),.int .i64 0,.int .i64 5,.int .i64 10,.int .i64 15,.int .u32 x0,.int .u32 x1] W fun e w'=>e=.returned (.agg (aJ U5))∧Below W.heap.size W w':=fun W=>by have:=refMixP4 U4 vW.out x0 x1 W;rwa [← hN]at this
          have HC:=af.mk hcall;clear hcall hB hx0 hx1 hN
          go_wp2_with (first|((with_reducible refine mP (.load 258 (.tmp 13)) rfl ?_);refine wpList_load_row rfl 258 _ rfl (w.heap.size+4) rfl 258 (aJ U4) (0,0) _ vU.out.2.2.2.2.1 Tryz.underlying258 rfl (by rw[jI,vW.out];exact rP) ?_)|(go_at_call 177;(with_reducible refine(HC.out _).mono ?_);rintro e w6 ⟨rfl,hb⟩;have HX4:=af.mk (And.intro (vU.out.below hb) (aK HW4.out hb));clear hb)|((with_reducible refine mP (.store 258 (.tmp 13) (.tmp 145)) rfl ?_);(refine wpList_store_row rfl 258 _ _ rfl (w.heap.size+4) (aJ U5) rfl rfl 258 (aJ U4) HX4.out.1.2.2.2.2.1 (by rw[jI,HL5.out];exact rP) (by rw[jI,jI,vW.out,HL5.out]) (CO U5) ?_;have HB5:=af.mk (iZ.setRow (vP:=U5) HX4.out.1 (aJ U5) rfl);have HW5:=af.mk ((setRow_other _ (w.heap.size+4) g (aJ U5) (by omega)).trans HX4.out.2);obtain⟨X5,hX⟩:∃X,World.setRow w6 (w.heap.size+4) (aJ U5)=X:=⟨_,rfl⟩;rw[hX]at HB5 HW5 ⊢;clear hX;refine CJ ?_)))
          refine⟨?_⟩;clear p0 p1 HC HX4 vU HW4;have hB:=HB5.out;obtain⟨x0,hx0⟩:∃x0,x0=(dG s 16).getD (gY r 10) 0:=⟨_,rfl⟩;obtain⟨x1,hx1⟩:∃x1,x1=(dG s 16).getD (gY r 11) 0:=⟨_,rfl⟩;have p0:X5.cell? ⟨g,10,none⟩=some (.int .u32 x0):=(ah HW5.out 10).trans ((gQ _ _ (by rw[rA _ _ _ (by decide)];decide)).trans (by rw[rT _ _ _ (by decide),hx0]));have p1:X5.cell? ⟨g,11,none⟩=some (.int .u32 x1):=(ah HW5.out 11).trans ((gQ _ _ (by rw[rA _ _ _ (by decide)];decide)).trans (by rw[rT _ _ _ (by decide),hx1]));obtain⟨U6,hN⟩:∃U6,U6=nQ U5 1 6 11 12 x0 x1:=⟨_,rfl⟩;have HE6:=af.mk (show U6=tu (dG s 16) r U 6 by rw[hN,hx0,hx1,HE5.out];rfl);have HL6:=af.mk (show U6.length=16 by rw[hN,Bb,HL5.out]);have hcall:∀W:World,Calls Tryz.prog 177 #[.agg (aJ U5),.int .i64 1,.int .i64 6,.int .i64 11,.int .i64 12,.int .u32 x0,.int .u32 x1] W fun e w'=>e=.returned (.agg (aJ U6))∧Below W.heap.size W w':=fun W=>by have:=refMixP5 U5 HL5.out x0 x1 W;rwa [← hN]at this
          have HC:=af.mk hcall;clear hcall hB hx0 hx1 hN
          go_wp2_with (first|((with_reducible refine mP (.load 258 (.tmp 13)) rfl ?_);refine wpList_load_row rfl 258 _ rfl (w.heap.size+4) rfl 258 (aJ U5) (0,0) _ HB5.out.2.2.2.2.1 Tryz.underlying258 rfl (by rw[jI,HL5.out];exact rP) ?_)|(go_at_call 177;(with_reducible refine(HC.out _).mono ?_);rintro e w7 ⟨rfl,hb⟩;have HX5:=af.mk (And.intro (HB5.out.below hb) (aK HW5.out hb));clear hb)|((with_reducible refine mP (.store 258 (.tmp 13) (.tmp 151)) rfl ?_);(refine wpList_store_row rfl 258 _ _ rfl (w.heap.size+4) (aJ U6) rfl rfl 258 (aJ U5) HX5.out.1.2.2.2.2.1 (by rw[jI,HL6.out];exact rP) (by rw[jI,jI,HL5.out,HL6.out]) (CO U6) ?_;have HB6:=af.mk (iZ.setRow (vP:=U6) HX5.out.1 (aJ U6) rfl);have HW6:=af.mk ((setRow_other _ (w.heap.size+4) g (aJ U6) (by omega)).trans HX5.out.2);obtain⟨X6,hX⟩:∃X,World.setRow w7 (w.heap.size+4) (aJ U6)=X:=⟨_,rfl⟩;rw[hX]at HB6 HW6 ⊢;clear hX;refine CJ ?_)))
          refine⟨?_⟩;clear p0 p1 HC HX5 HB5 HW5;have hB:=HB6.out;obtain⟨x0,hx0⟩:∃x0,x0=(dG s 16).getD (gY r 12) 0:=⟨_,rfl⟩;obtain⟨x1,hx1⟩:∃x1,x1=(dG s 16).getD (gY r 13) 0:=⟨_,rfl⟩;have p0:X6.cell? ⟨g,12,none⟩=some (.int .u32 x0):=(ah HW6.out 12).trans ((gQ _ _ (by rw[rA _ _ _ (by decide)];decide)).trans (by rw[rT _ _ _ (by decide),hx0]));have p1:X6.cell? ⟨g,13,none⟩=some (.int .u32 x1):=(ah HW6.out 13).trans ((gQ _ _ (by rw[rA _ _ _ (by decide)];decide)).trans (by rw[rT _ _ _ (by decide),hx1]));obtain⟨U7,hN⟩:∃U7,U7=nQ U6 2 7 8 13 x0 x1:=⟨_,rfl⟩;have HE7:=af.mk (show U7=tu (dG s 16) r U 7 by rw[hN,hx0,hx1,HE6.out];rfl);have HL7:=af.mk (show U7.length=16 by rw[hN,Bb,HL6.out]);have hcall:∀W:World,Calls Tryz.prog 177 #[.agg (aJ U6),.int .i64 2,.int .i64 7,.int .i64 8,.int .i64 13,.int .u32 x0,.int .u32 x1] W fun e w'=>e=.returned (.agg (aJ U7))∧Below W.heap.size W w':=fun W=>by have:=refMixP6 U6 HL6.out x0 x1 W;rwa [← hN]at this
          have HC:=af.mk hcall;clear hcall hB hx0 hx1 hN
          go_wp2_with (first|((with_reducible refine mP (.load 258 (.tmp 13)) rfl ?_);refine wpList_load_row rfl 258 _ rfl (w.heap.size+4) rfl 258 (aJ U6) (0,0) _ HB6.out.2.2.2.2.1 Tryz.underlying258 rfl (by rw[jI,HL6.out];exact rP) ?_)|(go_at_call 177;(with_reducible refine(HC.out _).mono ?_);rintro e w8 ⟨rfl,hb⟩;have HX6:=af.mk (And.intro (HB6.out.below hb) (aK HW6.out hb));clear hb)|((with_reducible refine mP (.store 258 (.tmp 13) (.tmp 157)) rfl ?_);(refine wpList_store_row rfl 258 _ _ rfl (w.heap.size+4) (aJ U7) rfl rfl 258 (aJ U6) HX6.out.1.2.2.2.2.1 (by rw[jI,HL7.out];exact rP) (by rw[jI,jI,HL6.out,HL7.out]) (CO U7) ?_;have xD:=af.mk (iZ.setRow (vP:=U7) HX6.out.1 (aJ U7) rfl);have HW7:=af.mk ((setRow_other _ (w.heap.size+4) g (aJ U7) (by omega)).trans HX6.out.2);obtain⟨X7,hX⟩:∃X,World.setRow w8 (w.heap.size+4) (aJ U7)=X:=⟨_,rfl⟩;rw[hX]at xD HW7 ⊢;clear hX;refine CJ ?_)))
          refine⟨?_⟩;clear p0 p1 HC HX6 HB6 HW6;have hB:=xD.out;obtain⟨x0,hx0⟩:∃x0,x0=(dG s 16).getD (gY r 14) 0:=⟨_,rfl⟩;obtain⟨x1,hx1⟩:∃x1,x1=(dG s 16).getD (gY r 15) 0:=⟨_,rfl⟩;have p0:X7.cell? ⟨g,14,none⟩=some (.int .u32 x0):=(ah HW7.out 14).trans ((gQ _ _ (by rw[rA _ _ _ (by decide)];decide)).trans (by rw[rT _ _ _ (by decide),hx0]));have p1:X7.cell? ⟨g,15,none⟩=some (.int .u32 x1):=(ah HW7.out 15).trans ((gQ _ _ (by rw[rA _ _ _ (by decide)];decide)).trans (by rw[rT _ _ _ (by decide),hx1]));obtain⟨U8,hN⟩:∃U8,U8=nQ U7 3 4 9 14 x0 x1:=⟨_,rfl⟩;have HE8:=af.mk (show U8=tu (dG s 16) r U 8 by rw[hN,hx0,hx1,HE7.out];rfl);have HL8:=af.mk (show U8.length=16 by rw[hN,Bb,HL7.out]);have hcall:∀W:World,Calls Tryz.prog 177 #[.agg (aJ U7),.int .i64 3,.int .i64 4,.int .i64 9,.int .i64 14,.int .u32 x0,.int .u32 x1] W fun e w'=>e=.returned (.agg (aJ U8))∧Below W.heap.size W w':=fun W=>by have:=refMixP7 U7 HL7.out x0 x1 W;rwa [← hN]at this
          have HC:=af.mk hcall;clear hcall hB hx0 hx1 hN
          go_wp2_with (first|((with_reducible refine mP (.load 258 (.tmp 13)) rfl ?_);refine wpList_load_row rfl 258 _ rfl (w.heap.size+4) rfl 258 (aJ U7) (0,0) _ xD.out.2.2.2.2.1 Tryz.underlying258 rfl (by rw[jI,HL7.out];exact rP) ?_)|(go_at_call 177;(with_reducible refine(HC.out _).mono ?_);rintro e w9 ⟨rfl,hb⟩;have HX7:=af.mk (And.intro (xD.out.below hb) (aK HW7.out hb));clear hb)|((with_reducible refine mP (.store 258 (.tmp 13) (.tmp 163)) rfl ?_);(refine wpList_store_row rfl 258 _ _ rfl (w.heap.size+4) (aJ U8) rfl rfl 258 (aJ U7) HX7.out.1.2.2.2.2.1 (by rw[jI,HL8.out];exact rP) (by rw[jI,jI,HL7.out,HL8.out]) (CO U8) ?_;have HB8:=af.mk (iZ.setRow (vP:=U8) HX7.out.1 (aJ U8) rfl);have HW8:=af.mk ((setRow_other _ (w.heap.size+4) g (aJ U8) (by omega)).trans HX7.out.2);obtain⟨X8,hX⟩:∃X,World.setRow w9 (w.heap.size+4) (aJ U8)=X:=⟨_,rfl⟩;rw[hX]at HB8 HW8 ⊢;clear hX;refine CJ ?_)))
          refine⟨?_⟩;clear p0 p1 HC HX7 xD HW7
          go_wp2_with fail
          go_roundw
          case rel=>(repeat apply Exists.intro);refine⟨?_,rfl⟩;exact⟨r+1,by omega,by go_num,by rw[show uF (dG s 16) V0 (r+1)=U8 from by rw[HE8.out,HU.out];rfl];exact HB8.out⟩
          case measure=>simp[intOf];omega
       ·obtain rfl:r=10:=by omega
        obtain⟨V1,hV1⟩:∃V1,V1=uF (dG s 16) V0 10:=⟨_,rfl⟩;have HW:=af.mk hV1;have HWl:=af.mk (show V1.length=16 by rw[hV1,KW,HVl.out]);have HR1:=af.mk (show iZ w wr hh (dG s 16) V1 by rw[hV1];exact HR.out);clear HR hV1
        go_wp2_with fail
        go_loopw [19] (fun v wr=>∃i:Nat,i≤8∧v=.int .i64 i∧iZ w wr (hOut hh V1 i) (dG s 16) V1) (fun v _=>8-(intOf v).toNat)
        case atStart=>exact⟨0,by omega,rfl,HR1.out⟩
        case round=>
         obtain⟨i,vE,rfl,hI⟩:=hrel
         by_cases hi:i<8
         ·have HJ:=af.mk hI;have i1:(i:Int)<8:=by omega
          have i2:(i:Int)<16:=by omega
          have c0:wr.cell? ⟨w.heap.size,i,none⟩=some (.int .u32 (hh.getD i 0)):=(ah hI.1 i).trans ((gQ _ i (by rw[yc,HL.out];exact hi)).trans (by rw[Pt hh V1 i i (Nat.le_refl _)]));have c1:=(ah hI.2.2.2.2.1 i).trans (gQ V1 i (by rw[HWl.out];omega));have c2:=(ah hI.2.2.2.2.1 (i+8)).trans (gQ V1 (i+8) (by rw[HWl.out];omega));have f0:=aA hI.1 i;clear hI HR1
          go_wp2_with fail
          have b1:(0:Int)≤(i:Int)+8:=by omega
          have b2:(i:Int)+8<16:=by omega
          have e1:wrap64 ((i:Int)+8)=(i:Int)+8:=by unfold wrap64;omega
          have e2:((i:Int)+8).toNat=i+8:=by omega
          refine gZ (n:=15) (S:=fun w'=>w'.cell? ⟨w.heap.size,i,none⟩=some (.int .u32 (hh.getD i 0))∧w'.cell? ⟨w.heap.size+4,i,none⟩=some (.int .u32 (V1.getD i 0))∧w'.cell? ⟨w.heap.size+4,i+8,none⟩=some (.int .u32 (V1.getD (i+8) 0))) (ds:=[14]) #[false,false,false,false,false,false,false,false,false,false,false,false,false,false,false] (by kernel_rfl) rfl rfl ⟨c0,c1,c2⟩ (fun hHeld=>?_);refine au 0 168 ?_;refine au 1 169 ?_;refine au 2 170 ?_;refine au 4 172 ?_;refine au 5 173 ?_;refine au 8 176 ?_;refine au 9 177 ?_;refine au 10 178 ?_;refine bU 3 171 hHeld (by rintro w' ⟨s0,s1,s2⟩;go_simp;with_reducible rfl) ?_ rfl rfl;refine bU 6 174 hHeld (by rintro w' ⟨s0,s1,s2⟩;go_simp;with_reducible rfl) ?_ rfl rfl;refine au 7 175 ?_;refine bU 11 179 hHeld (by rintro w' ⟨s0,s1,s2⟩;go_simp;with_reducible rfl) ?_ rfl rfl;refine au 12 180 ?_;refine au 13 181 ?_;refine iN (i:=14) (N:=none) #[true,true,true,true,true,true,true,true,true,true,true,true,true,true,true] rfl rfl (by kernel_rfl) (by decide) (fun K hK=>?_);refine jQ (w1:=?_) (by rfl) rfl ?_ ?_;rotate_left
          ·go_simp
           rfl
          refine hK.out _ _ ?_;clear hK K;refine gJ ?_;clear e1 e2 c0 c1 c2
          go_wp2_with fail
          go_roundw
          case rel=>exact⟨i+1,by omega,by go_num,by have:=(HJ.out.setH i (bits .xor .u32 (hh.getD i 0) (bits .xor .u32 (V1.getD i 0) (V1.getD (i+8) 0)))).drew;rw[← OJ]at this;rw[hOut,← OJ];exact this⟩
          case measure=>simp[intOf];omega
         ·obtain rfl:i=8:=by omega
          obtain⟨k0,k1,k2,k3,k4,k5,k6,k7,ek⟩:=qh (hOut hh V1 8) (by rw[yc,HL.out]);have HX:=af.mk (show pU hh s t _=[k0,k1,k2,k3,k4,k5,k6,k7] by rw[← ek];show hOut hh (uF (dG s 16) (CQ hh t _) 10) 8=_;rw[← HV.out,← HW.out]);rw[ek]at hI;clear ek;obtain⟨q0,q1,q2,q3,q4,q5,q6,q7⟩:=qK hI.1;obtain⟨r0,r1,r2,r3,r4,r5,r6,r7⟩:=qK hI.2.1;obtain⟨z0,z1,z2,z3,z4,z5,z6,z7⟩:=BO hI.2.1;have HJ:=af.mk hI;clear hI HR1
          go_wp2_with fail
          rw[HX.out]
          exact bodyPost_ret (sW (rs:=[.cell 8 160,.tmp 9]) (vs:=[.agg (aJ [k0,k1,k2,k3,k4,k5,k6,k7]),.int .i64 0]) rfl (by simp) (.cell (w.heap.size+1) 160 _ (0,0) _ rfl (Et rfl HJ.out.2.1 _ _ _ _ _ _ _ _) Tryz.underlying160 rfl (by kernel_rfl) (.tmp .nil))) rfl
           ⟨rfl,zZ HJ.out.2.2.2.2.2 (Nat.le_succ _) _ _ _ _ _ _ _ _⟩
end Go.Proofs.YtdcddenojjdmjaaGreatDoor.T
