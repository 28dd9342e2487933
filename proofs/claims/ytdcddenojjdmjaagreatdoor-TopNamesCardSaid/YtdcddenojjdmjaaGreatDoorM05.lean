import Derived.Test.YtdcddenojjdmjaaGreatDoorM04
set_option linter.all false
set_option maxHeartbeats 8000000
set_option maxRecDepth 100000
namespace Go.Proofs.YtdcddenojjdmjaaGreatDoor.T
open Go.RowKit Go.Proofs.YtdcddenojjdmjaaGreatDoorW.PrintWords Go.Proofs.YtdcddenojjdmjaaGreatDoorW.PrintLast Go.Proofs.YtdcddenojjdmjaaGreatDoorW.PrintMore
def nQ(V:List Int)(p0 p1 p2 p3:Nat)(x y:Int):List Int:=
 let r:=yg (V.getD p0 0) (V.getD p1 0) (V.getD p2 0) (V.getD p3 0) x 16 12
 let s:=yg r.1 r.2.1 r.2.2.1 r.2.2.2 y 8 7
 (((V.set p0 s.1).set p1 s.2.1).set p2 s.2.2.1).set p3 s.2.2.2
theorem Bb(V:List Int)(p0 p1 p2 p3:Nat)(x y:Int):(nQ V p0 p1 p2 p3 x y).length=V.length:=by simp[nQ]
theorem jo{w:World}{g k j:Nat}(h:k≠g)(v:Value):(w.setCell ⟨g,j,none⟩ v).heap[k]? =w.heap[k]? :=Below.heap_setCell w ⟨g,j,none⟩ v k (fun e=>h e)
theorem oH{w:World}{g n j:Nat}(i:Nat)(v:Value)(h:n≠g):(w.setCell ⟨g,i,none⟩ v).cell? ⟨n,j,none⟩=w.cell? ⟨n,j,none⟩:=World.cell?_of_block (a:=⟨n,j,none⟩) (jo h v)
theorem Gq{w:World}{g:Nat}(h:∃V':List Int,V'.length=16∧w.heap[g]? =some (.cells (aJ V') 258 (0,0))){p:Nat}(hp:p<16):(∃v,w.cell? ⟨g,p,none⟩=some v)∧w.frozen? ⟨g,p,none⟩=false:=by
 obtain⟨V',hl,hb⟩:=h;exact⟨⟨_,(ah hb p).trans (gQ _ _ (by omega))⟩,aA hb p⟩
theorem Gr{w:World}{g:Nat}(h:∃V':List Int,V'.length=16∧w.heap[g]? =some (.cells (aJ V') 258 (0,0)))(p:Nat)(x:Int):∃V':List Int,V'.length=16∧(w.setCell ⟨g,p,none⟩ (.int .u32 x)).heap[g]? =some (.cells (aJ V') 258 (0,0)):=by
 obtain⟨V',hl,hb⟩:=h;exact⟨V'.set p x,by simpa using hl,(BG hb p _).trans (by rw[RB])⟩
theorem NN{w:World}{g:Nat}{V:List Int}(h:w.heap[g]? =some (.cells (aJ V) 258 (0,0)))(p:Nat)(x:Int):(w.setCell ⟨g,p,none⟩ (.int .u32 x)).heap[g]? =some (.cells (aJ (V.set p x)) 258 (0,0)):=(BG h p _).trans (by rw[RB])
theorem LU{w w1:World}{g:Nat}(h:w.grownBy w1 (some g))(i:Nat)(v:Value):w.grownBy (w1.setCell ⟨g,i,none⟩ v) (some g):=
 ⟨h.os,h.tape,h.output,by simpa [World.setCell]using h.size,fun k hk hne=>(jo (fun e=>hne (by rw[e])) v).trans (h.block k hk hne)⟩
theorem Y3{w w1:World}{row:Option Nat}(h:w.grownBy w1 row)(n:Nat):w.grownBy (w1.drewN n) row:=⟨h.os,h.tape,h.output,h.size,h.block⟩
theorem ZR(V:List Int)(hV:V.length=16)(p0 p1 p2 p3:Nat)(hp0:p0<16)(hp1:p1<16)(hp2:p2<16)(hp3:p3<16)(x y:Int)(g:Nat)(w:World)(hg:w.heap[g]? =some (.cells (aJ V) 258 (0,0))):
  Calls Tryz.prog 209 #[.agg #[.int .u8 p0,.int .u8 p1,.int .u8 p2,.int .u8 p3],.int .u32 x,.int .u32 y,.pointer (some ⟨g,0,none⟩)] w fun e w'=>
   (∃v,e=.returned v)∧w'.heap[g]? =some (.cells (aJ (nQ V p0 p1 p2 p3 x y)) 258 (0,0))∧w.grownBy w' (some g):=by
 have hl:=iB hg;have hgn:w.heap.size≠g:=by omega
 have bB:=bI w (.cells #[.int .u8 p0,.int .u8 p1,.int .u8 p2,.int .u8 p3] 290);have b0:=(ah bB 0).trans (rfl:_=some (Value.int .u8 (p0:Int)));have b1:=(ah bB 1).trans (rfl:_=some (Value.int .u8 (p1:Int)));have b2:=(ah bB 2).trans (rfl:_=some (Value.int .u8 (p2:Int)));have b3:=(ah bB 3).trans (rfl:_=some (Value.int .u8 (p3:Int)));have hgW:=ay hg (.cells #[.int .u8 p0,.int .u8 p1,.int .u8 p2,.int .u8 p3] 290);have c0:=(ah hgW p0).trans (gQ V p0 (by omega));have c1:=(ah hgW p1).trans (gQ V p1 (by omega));have c2:=(ah hgW p2).trans (gQ V p2 (by omega));have c3:=(ah hgW p3).trans (gQ V p3 (by omega));have i0:(p0:Int)<16:=by omega
 have i1:(p1:Int)<16:=by omega
 have i2:(p2:Int)<16:=by omega
 have i3:(p3:Int)<16:=by omega
 have f0:=aA hg p0;have f1:=aA hg p1;have f2:=aA hg p2;have f3:=aA hg p3;have HV:=af.mk hV;have HG:=af.mk hgW;have HB:=af.mk bB;clear hV hgW bB hg
 go_enter Tryz.func209,Tryz.ntmps209
 go_wp2_with fail
 go_quiet (fail)
 go_wp2_with (go_at_call 210;(with_reducible refine(half1 _ _ _ _ _ _).mono ?_);rintro e w' ⟨rfl,rfl⟩)
 refine gZ (n:=27) (S:=fun w'=>w'.cell? ⟨w.heap.size,0,none⟩=some (.int .u8 (p0:Int))∧w'.cell? ⟨w.heap.size,1,none⟩=some (.int .u8 (p1:Int))∧w'.cell? ⟨w.heap.size,2,none⟩=some (.int .u8 (p2:Int))∧w'.cell? ⟨w.heap.size,3,none⟩=some (.int .u8 (p3:Int))∧∃V':List Int,V'.length=16∧w'.heap[g]? =some (.cells (aJ V') 258 (0,0))) (ds:=[]) #[false,false,false,false,false,false,false,false,false,false,false,false,false,false,false,false,false,false,false,false,false,false,false,false,false,false,false] (by kernel_rfl) rfl rfl ⟨b0,b1,b2,b3,⟨V,HV.out,HG.out⟩⟩ (fun hHeld=>?_);refine au 0 39 ?_;refine au 2 41 ?_;refine au 4 43 ?_;refine au 6 45 ?_;refine au 8 47 ?_;refine au 9 48 ?_;refine au 10 49 ?_;refine au 11 50 ?_;refine au 12 51 ?_;refine bU 1 40 hHeld (by rintro w' ⟨s0,s1,s2,s3,s4⟩;go_simp;with_reducible rfl) ?_ rfl rfl;refine bU 3 42 hHeld (by rintro w' ⟨s0,s1,s2,s3,s4⟩;go_simp;with_reducible rfl) ?_ rfl rfl;refine bU 5 44 hHeld (by rintro w' ⟨s0,s1,s2,s3,s4⟩;go_simp;with_reducible rfl) ?_ rfl rfl;refine bU 7 46 hHeld (by rintro w' ⟨s0,s1,s2,s3,s4⟩;go_simp;with_reducible rfl) ?_ rfl rfl;refine fu 13 (N:=some 52) rfl rfl fun K hK=>?_
 refine gF Tryz.func210 (by kernel_rfl) rfl #[.int .u32 _,.int .u32 _,.int .u32 _,.int .u32 _,.int .u32 y,.int .i64 8,.int .i64 7] (by rfl) rfl rfl (by simp only[List.map_toArray,List.map_cons,List.map_nil];rfl) ?_
 with_reducible refine(half2 _ _ _ _ _ _).mono ?_
 rintro e w3 ⟨rfl,rfl⟩;refine⟨_,rfl,?_⟩;refine hK.out _ _ ⟨hHeld.1,hHeld.2.1,hHeld.2.2.1,hHeld.2.2.2.1,hHeld.2.2.2.2⟩ (fun hHeld=>?_);clear hK K;refine dM ?_;refine au 14 38 ?_;refine au 15 53 ?_;refine au 16 54 ?_;refine au 17 55 ?_;refine au 18 56 ?_;refine au 19 57 ?_;refine fu 20 (N:=none) rfl rfl fun K hK=>?_
 obtain⟨mR,yt⟩:=Gq hHeld.2.2.2.2 hp0;obtain⟨vc_,mR⟩:=mR;refine jQ (w1:=?_) (by rfl) rfl ?_ ?_;rotate_left
 ·go_simp
  rfl
 clear mR yt;refine hK.out _ _ ⟨(oH _ _ hgn).trans hHeld.1,(oH _ _ hgn).trans hHeld.2.1,(oH _ _ hgn).trans hHeld.2.2.1,(oH _ _ hgn).trans hHeld.2.2.2.1,Gr hHeld.2.2.2.2 _ _⟩ (fun hHeld=>?_);clear hK K;refine au 21 58 ?_;refine fu 22 (N:=none) rfl rfl fun K hK=>?_
 obtain⟨mR,yt⟩:=Gq hHeld.2.2.2.2 hp1;obtain⟨vc_,mR⟩:=mR;refine jQ (w1:=?_) (by rfl) rfl ?_ ?_;rotate_left
 ·go_simp
  rfl
 clear mR yt;refine hK.out _ _ ⟨(oH _ _ hgn).trans hHeld.1,(oH _ _ hgn).trans hHeld.2.1,(oH _ _ hgn).trans hHeld.2.2.1,(oH _ _ hgn).trans hHeld.2.2.2.1,Gr hHeld.2.2.2.2 _ _⟩ (fun hHeld=>?_);clear hK K;refine au 23 59 ?_;refine fu 24 (N:=none) rfl rfl fun K hK=>?_
 obtain⟨mR,yt⟩:=Gq hHeld.2.2.2.2 hp2;obtain⟨vc_,mR⟩:=mR;refine jQ (w1:=?_) (by rfl) rfl ?_ ?_;rotate_left
 ·go_simp
  rfl
 clear mR yt;refine hK.out _ _ ⟨(oH _ _ hgn).trans hHeld.1,(oH _ _ hgn).trans hHeld.2.1,(oH _ _ hgn).trans hHeld.2.2.1,(oH _ _ hgn).trans hHeld.2.2.2.1,Gr hHeld.2.2.2.2 _ _⟩ (fun hHeld=>?_);clear hK K;refine au 25 60 ?_;refine fu 26 (N:=none) rfl rfl fun K hK=>?_
 obtain⟨mR,yt⟩:=Gq hHeld.2.2.2.2 hp3;obtain⟨vc_,mR⟩:=mR;refine jQ (w1:=?_) (by rfl) rfl ?_ ?_;rotate_left
 ·go_simp
  rfl
 clear mR yt;refine hK.out _ _ ⟨(oH _ _ hgn).trans hHeld.1,(oH _ _ hgn).trans hHeld.2.1,(oH _ _ hgn).trans hHeld.2.2.1,(oH _ _ hgn).trans hHeld.2.2.2.1,Gr hHeld.2.2.2.2 _ _⟩ (fun hHeld=>?_);clear hK K;refine gJ ?_
 go_wp2_with fail
 go_end0
 exact⟨⟨_,rfl⟩,NN (NN (NN (NN HG.out p0 _) p1 _) p2 _) p3 _,LU (LU (LU (LU (Y3 (World.grownBy_alloc w _ _) _) _ _) _ _) _ _) _ _⟩
def xX(l:List Int)(n i:Nat):List Int:=l.take i++List.replicate (n-i) 0
theorem Fs(l:List Int)(n i:Nat)(hi:i≤n)(hn:n≤l.length):(xX l n i).length=n:=by simp[xX];omega
theorem LH(l:List Int)(n i:Nat)(hi:i<n)(hn:n≤l.length):(xX l n i).set i (l.getD i 0)=xX l n (i+1):=by
 unfold xX;have e:List.replicate (n-i) (0:Int)=0::List.replicate (n-(i+1)) 0:=by rw[show n-i=(n-(i+1))+1 by omega];rfl
 rw[e,List.set_append_right _ _ (by simp;omega)];have e2:i-(l.take i).length=0:=by simp;omega
 rw[e2,List.set_cons_zero,← List.take_append_getElem (show i<l.length by omega),List.append_assoc];simp[List.getD_eq_getElem?_getD,List.getElem?_eq_getElem (show i<l.length by omega)]
def yY(k:Int):List Int:=jg.set 0 (bits .xor .u32 1779033703 (bits .xor .u32 16842784 (k*256)))
theorem Tw{w w1:World}(h:jR w)(hb:Below w.heap.size w w1)(i:Nat)(hi:i<8):w1.cell? ⟨0,i,none⟩=some (.int .u32 (jg.getD i 0)):=
 aI hb (h.1 i (.int .u32 (jg.getD i 0)) (by simpa [aJ]using gQ jg i (by simpa [jg]using hi)))
theorem qh(l:List Int)(h:l.length=8):∃a b c d e f g h',l=[a,b,c,d,e,f,g,h']:=by
 match l,h with
 | [a,b,c,d,e,f,g,h'],_=>exact⟨a,b,c,d,e,f,g,h',rfl⟩
theorem jl{w:World}{g:Nat}{t:TypeId}{l:List Int}(h:w.heap[g]? =some (.cells (aJ l) t (0,0)))(p:Nat)(x:Int):(w.setCell ⟨g,p,none⟩ (.int .u32 x)).heap[g]? =some (.cells (aJ (l.set p x)) t (0,0)):=(BG h p _).trans (by rw[RB])
theorem xP(w:World)(o o':Obj):((w.alloc o).alloc o').heap[w.heap.size+1]? =some o':=by
 have:=bI (w.alloc o) o';rwa [World.size_alloc]at this
theorem qK{w:World}{b:Nat}{t:TypeId}{a0 a1 a2 a3 a4 a5 a6 a7:Int}(h:w.heap[b]? =some (.cells (aJ [a0,a1,a2,a3,a4,a5,a6,a7]) t (0,0))):
  w.cell? ⟨b,0,none⟩=some (.int .u32 a0)∧w.cell? ⟨b,1,none⟩=some (.int .u32 a1)∧w.cell? ⟨b,2,none⟩=some (.int .u32 a2)∧w.cell? ⟨b,3,none⟩=some (.int .u32 a3)∧w.cell? ⟨b,4,none⟩=some (.int .u32 a4)∧w.cell? ⟨b,5,none⟩=some (.int .u32 a5)∧w.cell? ⟨b,6,none⟩=some (.int .u32 a6)∧w.cell? ⟨b,7,none⟩=some (.int .u32 a7):=
 ⟨(ah h 0).trans rfl,(ah h 1).trans rfl,(ah h 2).trans rfl,(ah h 3).trans rfl,(ah h 4).trans rfl,(ah h 5).trans rfl,(ah h 6).trans rfl,(ah h 7).trans rfl⟩
theorem BO{w:World}{b:Nat}{t:TypeId}{cs:Array Value}(h:w.heap[b]? =some (.cells cs t (0,0))):
  w.frozen? ⟨b,0,none⟩=false∧w.frozen? ⟨b,1,none⟩=false∧w.frozen? ⟨b,2,none⟩=false∧w.frozen? ⟨b,3,none⟩=false∧w.frozen? ⟨b,4,none⟩=false∧w.frozen? ⟨b,5,none⟩=false∧w.frozen? ⟨b,6,none⟩=false∧w.frozen? ⟨b,7,none⟩=false:=
 ⟨aA h 0,aA h 1,aA h 2,aA h 3,aA h 4,aA h 5,aA h 6,aA h 7⟩
theorem Et{w:World}{b:Nat}{t:TypeId}{l:List Int}(hl:l.length=8)(h:w.heap[b]? =some (.cells (aJ l) t (0,0)))(a0 a1 a2 a3 a4 a5 a6 a7:Int):
  ((((((((w.setCell ⟨b,0,none⟩ (.int .u32 a0)).setCell ⟨b,1,none⟩ (.int .u32 a1)).setCell ⟨b,2,none⟩ (.int .u32 a2)).setCell ⟨b,3,none⟩ (.int .u32 a3)).setCell ⟨b,4,none⟩ (.int .u32 a4)).setCell ⟨b,5,none⟩ (.int .u32 a5)).setCell ⟨b,6,none⟩ (.int .u32 a6)).setCell ⟨b,7,none⟩ (.int .u32 a7)).heap[b]? =some (.cells (aJ [a0,a1,a2,a3,a4,a5,a6,a7]) t (0,0)):=by
 obtain⟨x0,x1,x2,x3,x4,x5,x6,x7,rfl⟩:=qh l hl;exact jl (jl (jl (jl (jl (jl (jl (jl h 0 _) 1 _) 2 _) 3 _) 4 _) 5 _) 6 _) 7 _
theorem zZ{B:Nat}{w w0:World}(h:Below B w0 w){b:Nat}(hb:B≤b)(a0 a1 a2 a3 a4 a5 a6 a7:Value):
  Below B w0 ((((((((w.setCell ⟨b,0,none⟩ a0).setCell ⟨b,1,none⟩ a1).setCell ⟨b,2,none⟩ a2).setCell ⟨b,3,none⟩ a3).setCell ⟨b,4,none⟩ a4).setCell ⟨b,5,none⟩ a5).setCell ⟨b,6,none⟩ a6).setCell ⟨b,7,none⟩ a7):=
 (((((((h.setCell (p:=⟨b,0,none⟩) hb _).setCell (p:=⟨b,1,none⟩) hb _).setCell (p:=⟨b,2,none⟩) hb _).setCell (p:=⟨b,3,none⟩) hb _).setCell (p:=⟨b,4,none⟩) hb _).setCell (p:=⟨b,5,none⟩) hb _).setCell (p:=⟨b,6,none⟩) hb _).setCell (p:=⟨b,7,none⟩) hb _
theorem SB(k:Int)(h0:0≤k)(h1:k≤32)(w:World)(hG:jR w):
  Calls Tryz.prog 113 #[.int .i64 k] w fun e w'=>e=.returned (.tuple #[.agg (aJ (yY k)),.int .i64 0])∧Below w.heap.size w w':=by
 have HG:=af.mk hG;clear hG
 go_enter Tryz.func113,Tryz.ntmps113
 go_wp2_with fail
 go_loopw [13] (fun v wr=>∃i:Nat,i≤8∧v=.int .i64 i∧wr.heap[w.heap.size]? =some (.cells (aJ [0,0,0,0,0,0,0,0]) 160 (0,0))∧wr.heap[w.heap.size+1]? =some (.cells (aJ (xX jg 8 i)) 160 (0,0))∧Below w.heap.size w wr) (fun v _=>8-(intOf v).toNat)
 case atStart=>exact⟨0,by omega,rfl,ay (bI _ _) _,xP _ _ _,ax (ax (Below.refl _ _) _) _⟩
 case round=>
  obtain⟨i,hi,rfl,bR,bH,hB⟩:=hrel
  by_cases hlt:i<8
  ·have hc:=Tw HG.out hB i hlt;have hs:=(ah bH i).trans (gQ (xX jg 8 i) i (by rw[Fs jg 8 i hi (by decide)];exact hlt));have hf:=aA bH i;have vE:(i:Int)<8:=by omega
   have HH:=af.mk (And.intro bR (And.intro bH hB));clear bR bH hB
   go_wp2_with fail
   go_roundw
   case rel=>exact⟨i+1,by omega,by go_num,(jo (by omega) _).trans HH.out.1,(jl HH.out.2.1 i _).trans (by rw[← LH jg 8 i hlt (by decide)];simp),HH.out.2.2.setCell (p:=⟨w.heap.size+1,i,none⟩) (Nat.le_succ _) _⟩
   case measure=>simp[intOf];omega
  ·obtain rfl:i=8:=by omega
   have bH':wr.heap[w.heap.size+1]? =some (.cells (aJ jg) 160 (0,0)):=bH;have vE:¬((8:Nat):Int)<8:=by omega
   obtain⟨q0,q1,q2,q3,q4,q5,q6,q7⟩:=qK bH';have f0:=aA bH' 0;obtain⟨r0,r1,r2,r3,r4,r5,r6,r7⟩:=qK bR;obtain⟨z0,z1,z2,z3,z4,z5,z6,z7⟩:=BO bR;have HH:=af.mk (And.intro bR (And.intro bH' hB));clear bR bH hB bH'
   go_wp2_with fail
   exact bodyPost_ret (sW (rs:=[.cell 2 160,.tmp 3]) (vs:=[.agg (aJ (yY k)),.int .i64 0]) rfl (by simp) (.cell w.heap.size 160 _ (0,0) _ rfl (Et rfl ((jo (by omega) _).trans HH.out.1) _ _ _ _ _ _ _ _) Tryz.underlying160 rfl (by kernel_rfl) (.tmp .nil))) rfl
    ⟨rfl,zZ (HH.out.2.2.setCell (p:=⟨w.heap.size+1,0,none⟩) (Nat.le_succ _) _) (Nat.le_refl _) _ _ _ _ _ _ _ _⟩
end Go.Proofs.YtdcddenojjdmjaaGreatDoor.T
