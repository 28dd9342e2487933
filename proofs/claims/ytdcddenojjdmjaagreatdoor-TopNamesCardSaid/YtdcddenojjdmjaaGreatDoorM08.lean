import Derived.Test.YtdcddenojjdmjaaGreatDoorM07
set_option linter.all false
set_option maxHeartbeats 8000000
set_option maxRecDepth 100000
namespace Go.Proofs.YtdcddenojjdmjaaGreatDoor.T
open Go.RowKit Go.Proofs.YtdcddenojjdmjaaGreatDoorW.PrintWords Go.Proofs.YtdcddenojjdmjaaGreatDoorW.PrintLast Go.Proofs.YtdcddenojjdmjaaGreatDoorW.PrintMore
theorem RD(l:List Int)(h:l.length=16):∃a0 a1 a2 a3 a4 a5 a6 a7 a8 a9 dH j6 a12 mG oF qG,l=[a0,a1,a2,a3,a4,a5,a6,a7,a8,a9,dH,j6,a12,mG,oF,qG]:=by
 match l,h with
 | [a0,a1,a2,a3,a4,a5,a6,a7,a8,a9,dH,j6,a12,mG,oF,qG],_=>exact⟨a0,a1,a2,a3,a4,a5,a6,a7,a8,a9,dH,j6,a12,mG,oF,qG,rfl⟩
theorem u32s16(a0 a1 a2 a3 a4 a5 a6 a7 a8 a9 dH j6 a12 mG oF qG:Int):aJ [a0,a1,a2,a3,a4,a5,a6,a7,a8,a9,dH,j6,a12,mG,oF,qG]= #[.int .u32 a0,.int .u32 a1,.int .u32 a2,.int .u32 a3,.int .u32 a4,.int .u32 a5,.int .u32 a6,.int .u32 a7,.int .u32 a8,.int .u32 a9,.int .u32 dH,.int .u32 j6,.int .u32 a12,.int .u32 mG,.int .u32 oF,.int .u32 qG]:=rfl
theorem SF{w:World}{b:Nat}{t:TypeId}{a0 a1 a2 a3 a4 a5 a6 a7 a8 a9 dH j6 a12 mG oF qG:Int}(h:w.heap[b]? =some (.cells (aJ [a0,a1,a2,a3,a4,a5,a6,a7,a8,a9,dH,j6,a12,mG,oF,qG]) t (0,0))):
  w.cell? ⟨b,0,none⟩=some (.int .u32 a0)∧w.cell? ⟨b,1,none⟩=some (.int .u32 a1)∧w.cell? ⟨b,2,none⟩=some (.int .u32 a2)∧w.cell? ⟨b,3,none⟩=some (.int .u32 a3)∧w.cell? ⟨b,4,none⟩=some (.int .u32 a4)∧w.cell? ⟨b,5,none⟩=some (.int .u32 a5)∧w.cell? ⟨b,6,none⟩=some (.int .u32 a6)∧w.cell? ⟨b,7,none⟩=some (.int .u32 a7)∧w.cell? ⟨b,8,none⟩=some (.int .u32 a8)∧w.cell? ⟨b,9,none⟩=some (.int .u32 a9)∧w.cell? ⟨b,10,none⟩=some (.int .u32 dH)∧w.cell? ⟨b,11,none⟩=some (.int .u32 j6)∧w.cell? ⟨b,12,none⟩=some (.int .u32 a12)∧w.cell? ⟨b,13,none⟩=some (.int .u32 mG)∧w.cell? ⟨b,14,none⟩=some (.int .u32 oF)∧w.cell? ⟨b,15,none⟩=some (.int .u32 qG):=
 ⟨(ah h 0).trans rfl,(ah h 1).trans rfl,(ah h 2).trans rfl,(ah h 3).trans rfl,(ah h 4).trans rfl,(ah h 5).trans rfl,(ah h 6).trans rfl,(ah h 7).trans rfl,(ah h 8).trans rfl,(ah h 9).trans rfl,(ah h 10).trans rfl,(ah h 11).trans rfl,(ah h 12).trans rfl,(ah h 13).trans rfl,(ah h 14).trans rfl,(ah h 15).trans rfl⟩
theorem Y0{w:World}{b:Nat}{t:TypeId}{cs:Array Value}(h:w.heap[b]? =some (.cells cs t (0,0))):
  w.frozen? ⟨b,0,none⟩=false∧w.frozen? ⟨b,1,none⟩=false∧w.frozen? ⟨b,2,none⟩=false∧w.frozen? ⟨b,3,none⟩=false∧w.frozen? ⟨b,4,none⟩=false∧w.frozen? ⟨b,5,none⟩=false∧w.frozen? ⟨b,6,none⟩=false∧w.frozen? ⟨b,7,none⟩=false∧w.frozen? ⟨b,8,none⟩=false∧w.frozen? ⟨b,9,none⟩=false∧w.frozen? ⟨b,10,none⟩=false∧w.frozen? ⟨b,11,none⟩=false∧w.frozen? ⟨b,12,none⟩=false∧w.frozen? ⟨b,13,none⟩=false∧w.frozen? ⟨b,14,none⟩=false∧w.frozen? ⟨b,15,none⟩=false:=
 ⟨aA h 0,aA h 1,aA h 2,aA h 3,aA h 4,aA h 5,aA h 6,aA h 7,aA h 8,aA h 9,aA h 10,aA h 11,aA h 12,aA h 13,aA h 14,aA h 15⟩
theorem set16{w:World}{b:Nat}{t:TypeId}{l:List Int}(hl:l.length=16)(h:w.heap[b]? =some (.cells (aJ l) t (0,0)))(a0 a1 a2 a3 a4 a5 a6 a7 a8 a9 dH j6 a12 mG oF qG:Int):
  ((((((((((((((((w.setCell ⟨b,0,none⟩ (.int .u32 a0)).setCell ⟨b,1,none⟩ (.int .u32 a1)).setCell ⟨b,2,none⟩ (.int .u32 a2)).setCell ⟨b,3,none⟩ (.int .u32 a3)).setCell ⟨b,4,none⟩ (.int .u32 a4)).setCell ⟨b,5,none⟩ (.int .u32 a5)).setCell ⟨b,6,none⟩ (.int .u32 a6)).setCell ⟨b,7,none⟩ (.int .u32 a7)).setCell ⟨b,8,none⟩ (.int .u32 a8)).setCell ⟨b,9,none⟩ (.int .u32 a9)).setCell ⟨b,10,none⟩ (.int .u32 dH)).setCell ⟨b,11,none⟩ (.int .u32 j6)).setCell ⟨b,12,none⟩ (.int .u32 a12)).setCell ⟨b,13,none⟩ (.int .u32 mG)).setCell ⟨b,14,none⟩ (.int .u32 oF)).setCell ⟨b,15,none⟩ (.int .u32 qG)).heap[b]? =some (.cells (aJ [a0,a1,a2,a3,a4,a5,a6,a7,a8,a9,dH,j6,a12,mG,oF,qG]) t (0,0)):=by
 obtain⟨x0,x1,x2,x3,x4,x5,x6,x7,x8,x9,x10,x11,vQ,x13,pF,x15,rfl⟩:=RD l hl;exact(jl (jl (jl (jl (jl (jl (jl (jl (jl (jl (jl (jl (jl (jl (jl (jl h 0 _) 1 _) 2 _) 3 _) 4 _) 5 _) 6 _) 7 _) 8 _) 9 _) 10 _) 11 _) 12 _) 13 _) 14 _) 15 _)
theorem below16{B:Nat}{w w0:World}(h:Below B w0 w){b:Nat}(hb:B≤b)(a0 a1 a2 a3 a4 a5 a6 a7 a8 a9 dH j6 a12 mG oF qG:Value):
  Below B w0 ((((((((((((((((w.setCell ⟨b,0,none⟩ a0).setCell ⟨b,1,none⟩ a1).setCell ⟨b,2,none⟩ a2).setCell ⟨b,3,none⟩ a3).setCell ⟨b,4,none⟩ a4).setCell ⟨b,5,none⟩ a5).setCell ⟨b,6,none⟩ a6).setCell ⟨b,7,none⟩ a7).setCell ⟨b,8,none⟩ a8).setCell ⟨b,9,none⟩ a9).setCell ⟨b,10,none⟩ dH).setCell ⟨b,11,none⟩ j6).setCell ⟨b,12,none⟩ a12).setCell ⟨b,13,none⟩ mG).setCell ⟨b,14,none⟩ oF).setCell ⟨b,15,none⟩ qG):=
 ((((((((((((((((h.setCell (p:=⟨b,0,none⟩) hb _).setCell (p:=⟨b,1,none⟩) hb _).setCell (p:=⟨b,2,none⟩) hb _).setCell (p:=⟨b,3,none⟩) hb _).setCell (p:=⟨b,4,none⟩) hb _).setCell (p:=⟨b,5,none⟩) hb _).setCell (p:=⟨b,6,none⟩) hb _).setCell (p:=⟨b,7,none⟩) hb _).setCell (p:=⟨b,8,none⟩) hb _).setCell (p:=⟨b,9,none⟩) hb _).setCell (p:=⟨b,10,none⟩) hb _).setCell (p:=⟨b,11,none⟩) hb _).setCell (p:=⟨b,12,none⟩) hb _).setCell (p:=⟨b,13,none⟩) hb _).setCell (p:=⟨b,14,none⟩) hb _).setCell (p:=⟨b,15,none⟩) hb _)
def Nt(V:List Int)(a b c d:Nat)(x y:Int):List Int:=
 let g (l:List Int) (i:Nat):=l.getD i 0
 let V1:=V.set a (IntKind.u32.wrap (IntKind.u32.wrap (g V a+g V b)+x))
 let V2:=V1.set d (kQ (bits .xor .u32 (g V1 d) (g V1 a)) 16)
 let V3:=V2.set c (IntKind.u32.wrap (g V2 c+g V2 d))
 let V4:=V3.set b (kQ (bits .xor .u32 (g V3 b) (g V3 c)) 12)
 let V5:=V4.set a (IntKind.u32.wrap (IntKind.u32.wrap (g V4 a+g V4 b)+y))
 let V6:=V5.set d (kQ (bits .xor .u32 (g V5 d) (g V5 a)) 8)
 let V7:=V6.set c (IntKind.u32.wrap (g V6 c+g V6 d))
 V7.set b (kQ (bits .xor .u32 (g V7 b) (g V7 c)) 7)
theorem getD_set_ne{l:List Int}{i j:Nat}{x:Int}(h:i≠j):(l.set i x).getD j 0=l.getD j 0:=by
 rw[List.getD_eq_getElem?_getD,List.getElem?_set_ne h,← List.getD_eq_getElem?_getD]
theorem LQ{l:List Int}{i:Nat}{x:Int}(h:i<l.length):(l.set i x).getD i 0=x:=by
 rw[List.getD_eq_getElem?_getD,List.getElem?_set_self h];rfl
theorem Cy(V:List Int)(hV:V.length=16)(a b c d:Nat)(ha:a<16)(hb:b<16)(hc:c<16)(hd:d<16)(hab:a≠b)(hac:a≠c)(had:a≠d)(hbc:b≠c)(hbd:b≠d)(hcd:c≠d)(x y:Int):Nt V a b c d x y=nQ V a b c d x y:=by
 have hba:=hab.symm;have hca:=hac.symm;have hda:=had.symm;have hcb:=hbc.symm;have hdb:=hbd.symm;have hdc:=hcd.symm;unfold Nt nQ yg;have la:∀l:List Int,l.length=16→∀z:Int,(l.set a z).getD a 0=z:=fun l h z=>LQ (by omega)
 have lb:∀l:List Int,l.length=16→∀z:Int,(l.set b z).getD b 0=z:=fun l h z=>LQ (by omega)
 have lc:∀l:List Int,l.length=16→∀z:Int,(l.set c z).getD c 0=z:=fun l h z=>LQ (by omega)
 have ld:∀l:List Int,l.length=16→∀z:Int,(l.set d z).getD d 0=z:=fun l h z=>LQ (by omega)
 have q:∀(p0 p1 p2 p3 r0 r1 r2 r3:Int),(((((((V.set a p0).set d p1).set c p2).set b p3).set a r0).set d r1).set c r2).set b r3=(((V.set a r0).set b r3).set c r2).set d r1:=by
  intro p0 p1 p2 p3 r0 r1 r2 r3;apply List.ext_getElem?;intro k;simp only[List.getElem?_set,List.length_set,hV]
  by_cases ka:a=k
  ·subst ka;simp[hba,hca,hda,ha]
  ·by_cases kb:b=k
   ·subst kb;simp[hab,hcb,hdb,hb]
   ·by_cases kc:c=k
    ·subst kc;simp[hac,hbc,hdc,hc]
    ·by_cases kd:d=k
     ·subst kd;simp[had,hbd,hcd,hd]
     ·simp[ka,kb,kc,kd]
 simp (disch:=simp only[List.length_set,hV]) only[la,lb,lc,ld,getD_set_ne hab,getD_set_ne hac,getD_set_ne had,getD_set_ne hbc,getD_set_ne hbd,getD_set_ne hcd,getD_set_ne hba,getD_set_ne hca,getD_set_ne hda,getD_set_ne hcb,getD_set_ne hdb,getD_set_ne hdc,q];simp only[IntKind.wrap_u32,Int.emod_add_emod,Int.add_assoc]
theorem aaC(x:Int)(w:World):Calls Tryz.prog 216 #[.int .u32 x,.int .u32 16] w fun e w'=>e=.returned (.int .u32 (kQ x 16))∧w'=w:=Nu x 16 (by decide) (by decide) w
theorem aaB(x:Int)(w:World):Calls Tryz.prog 216 #[.int .u32 x,.int .u32 12] w fun e w'=>e=.returned (.int .u32 (kQ x 12))∧w'=w:=Nu x 12 (by decide) (by decide) w
theorem refTurn8(x:Int)(w:World):Calls Tryz.prog 216 #[.int .u32 x,.int .u32 8] w fun e w'=>e=.returned (.int .u32 (kQ x 8))∧w'=w:=Nu x 8 (by decide) (by decide) w
theorem refTurn7(x:Int)(w:World):Calls Tryz.prog 216 #[.int .u32 x,.int .u32 7] w fun e w'=>e=.returned (.int .u32 (kQ x 7))∧w'=w:=Nu x 7 (by decide) (by decide) w
def EF:List Int:=[0,0,0,0,0,0,0,0,0,0,0,0,0,0,0,0]
def ES(w W:World)(V:List Int):Prop:=W.heap[w.heap.size]? =some (.cells (aJ V) 258 (0,0))∧W.heap[w.heap.size+1]? =some (.cells (aJ EF) 258 (0,0))∧Below w.heap.size w W
theorem ES.step{w W:World}{V:List Int}(h:ES w W V)(p:Nat)(x:Int):ES w (W.setCell ⟨w.heap.size,p,none⟩ (.int .u32 x)).drew (V.set p x):=
 ⟨jl h.1 p x,(jo (by omega) _).trans h.2.1,Below.drew (h.2.2.setCell (p:=⟨w.heap.size,p,none⟩) (Nat.le_refl _) _)⟩
theorem ES.cell{w W:World}{V:List Int}(h:ES w W V){p:Nat}(hp:p<V.length):W.cell? ⟨w.heap.size,p,none⟩=some (.int .u32 (V.getD p 0)):=(ah h.1 p).trans (gQ V p hp)
theorem Cx(V:List Int)(hV:V.length=16)(a b c d:Nat)(ha:a<16)(hb:b<16)(hc:c<16)(hd:d<16)(x y:Int)(w:World):
  Calls Tryz.prog 177 #[.agg (aJ V),.int .i64 a,.int .i64 b,.int .i64 c,.int .i64 d,.int .u32 x,.int .u32 y] w fun e w'=>e=.returned (.agg (aJ (Nt V a b c d x y)))∧Below w.heap.size w w':=by
 obtain⟨v0,v1,v2,v3,v4,v5,v6,v7,v8,v9,v10,v11,v12,v13,v14,v15,hE⟩:=RD V hV;have HE:=af.mk hE;have HV:=af.mk hV;have qB:af (ES w ((w.alloc (.cells #[.int .u32 v0,.int .u32 v1,.int .u32 v2,.int .u32 v3,.int .u32 v4,.int .u32 v5,.int .u32 v6,.int .u32 v7,.int .u32 v8,.int .u32 v9,.int .u32 v10,.int .u32 v11,.int .u32 v12,.int .u32 v13,.int .u32 v14,.int .u32 v15] 258)).alloc (.cells #[.int .u32 0,.int .u32 0,.int .u32 0,.int .u32 0,.int .u32 0,.int .u32 0,.int .u32 0,.int .u32 0,.int .u32 0,.int .u32 0,.int .u32 0,.int .u32 0,.int .u32 0,.int .u32 0,.int .u32 0,.int .u32 0] 258)) V):=⟨by rw[hE];exact ay (bI _ _) _,xP _ _ _,ax (ax (Below.refl _ _) _) _⟩;rw[show aJ V=aJ [v0,v1,v2,v3,v4,v5,v6,v7,v8,v9,v10,v11,v12,v13,v14,v15] by rw[hE],u32s16];have ia:(a:Int)<16:=by omega
 have ib:(b:Int)<16:=by omega
 have ic:(c:Int)<16:=by omega
 have id_:(d:Int)<16:=by omega
 clear hE hV
 go_enter Tryz.func177,Tryz.ntmps177
 go_wp2_with fail
 obtain⟨W0,hW⟩:∃W0,(w.alloc (.cells #[.int .u32 v0,.int .u32 v1,.int .u32 v2,.int .u32 v3,.int .u32 v4,.int .u32 v5,.int .u32 v6,.int .u32 v7,.int .u32 v8,.int .u32 v9,.int .u32 v10,.int .u32 v11,.int .u32 v12,.int .u32 v13,.int .u32 v14,.int .u32 v15] 258)).alloc (.cells #[.int .u32 0,.int .u32 0,.int .u32 0,.int .u32 0,.int .u32 0,.int .u32 0,.int .u32 0,.int .u32 0,.int .u32 0,.int .u32 0,.int .u32 0,.int .u32 0,.int .u32 0,.int .u32 0,.int .u32 0,.int .u32 0] 258)=W0:=⟨_,rfl⟩;rw[hW]at qB ⊢;clear hW;obtain⟨xa0,hx⟩:∃z,z=V.getD a 0:=⟨_,rfl⟩;have HXa0:=af.mk hx;have ca:=qB.out.cell (p:=a) (by rw[HV.out];exact ha);rw[← hx]at ca;clear hx;obtain⟨xb0,hx⟩:∃z,z=V.getD b 0:=⟨_,rfl⟩;have HXb0:=af.mk hx;have cb:=qB.out.cell (p:=b) (by rw[HV.out];exact hb);rw[← hx]at cb;clear hx;have fa:=aA qB.out.1 a;refine gZ (n:=12) (S:=fun w'=>w'.cell? ⟨w.heap.size,a,none⟩=some (.int .u32 xa0)∧w'.cell? ⟨w.heap.size,b,none⟩=some (.int .u32 xb0)) (ds:=[11]) #[false,false,false,false,false,false,false,false,false,false,false,false] (by kernel_rfl) rfl rfl ⟨ca,cb⟩ (fun hHeld=>?_);refine au 0 15 ?_;refine au 1 16 ?_;refine au 2 17 ?_;refine au 4 19 ?_;refine au 5 20 ?_;refine au 8 23 ?_;refine bU 3 18 hHeld (by rintro w' ⟨s0,s1⟩;go_simp;with_reducible rfl) ?_ rfl rfl;refine bU 6 21 hHeld (by rintro w' ⟨s0,s1⟩;go_simp;with_reducible rfl) ?_ rfl rfl;refine au 7 22 ?_;refine au 9 24 ?_;refine au 10 25 ?_;refine iN (i:=11) (N:=none) #[true,true,true,true,true,true,true,true,true,true,true,true] rfl rfl (by kernel_rfl) (by decide) (fun K hK=>?_);refine jQ (w1:=?_) (by rfl) rfl ?_ ?_;rotate_left
 ·go_simp
  rfl
 refine hK.out _ _ ?_;clear hK K;refine gJ ?_;have kE:=af.mk (qB.out.step a (IntKind.u32.wrap (IntKind.u32.wrap (xa0+xb0)+x)));obtain⟨V1,hq⟩:∃z,z=V.set a (IntKind.u32.wrap (IntKind.u32.wrap (xa0+xb0)+x)):=⟨_,rfl⟩;have HQ1:=af.mk hq;have HV1:=af.mk (show V1.length=16 by rw[hq,List.length_set,HV.out]);rw[← hq]at kE;generalize hW:(W0.setCell _ _).drew=W1 at kE ⊢;clear hW hq fa ca cb qB
 go_wp2_with fail
 obtain⟨xd1,hx⟩:∃z,z=V1.getD d 0:=⟨_,rfl⟩;have HXd1:=af.mk hx;have cd:=kE.out.cell (p:=d) (by rw[HV1.out];exact hd);rw[← hx]at cd;clear hx;obtain⟨xa1,hx⟩:∃z,z=V1.getD a 0:=⟨_,rfl⟩;have HXa1:=af.mk hx;have ca:=kE.out.cell (p:=a) (by rw[HV1.out];exact ha);rw[← hx]at ca;clear hx;have fd:=aA kE.out.1 d;refine gZ (n:=11) (S:=fun w'=>w'.cell? ⟨w.heap.size,d,none⟩=some (.int .u32 xd1)∧w'.cell? ⟨w.heap.size,a,none⟩=some (.int .u32 xa1)) (ds:=[10]) #[false,false,false,false,false,false,false,false,false,false,false] (by kernel_rfl) rfl rfl ⟨cd,ca⟩ (fun hHeld=>?_);refine au 0 26 ?_;refine au 1 27 ?_;refine au 2 28 ?_;refine au 4 30 ?_;refine au 5 31 ?_;refine bU 3 29 hHeld (by rintro w' ⟨s0,s1⟩;go_simp;with_reducible rfl) ?_ rfl rfl;refine bU 6 32 hHeld (by rintro w' ⟨s0,s1⟩;go_simp;with_reducible rfl) ?_ rfl rfl;refine au 7 33 ?_;refine fu 8 (N:=some 34) rfl rfl fun K hK=>?_
 refine gF Tryz.func216 (by kernel_rfl) rfl #[.int .u32 (bits .xor .u32 xd1 xa1),.int .u32 16] (by rfl) rfl rfl (by simp only[List.map_toArray,List.map_cons,List.map_nil];rfl) ?_
 with_reducible refine(aaC _ _).mono ?_
 rintro e w3 ⟨rfl,rfl⟩;refine⟨_,rfl,?_⟩;refine hK.out _ _ ⟨hHeld.1,hHeld.2⟩ (fun hHeld=>?_);clear hK K;refine dM ?_;refine au 9 35 ?_;refine iN (i:=10) (N:=none) #[true,true,true,true,true,true,true,true,true,true,true] rfl rfl (by kernel_rfl) (by decide) (fun K hK=>?_);refine jQ (w1:=?_) (by rfl) rfl ?_ ?_;rotate_left
 ·go_simp
  rfl
 refine hK.out _ _ ?_;clear hK K;refine gJ ?_;have HS2:=af.mk (kE.out.step d (kQ (bits .xor .u32 xd1 xa1) 16));obtain⟨V2,hq⟩:∃z,z=V1.set d (kQ (bits .xor .u32 xd1 xa1) 16):=⟨_,rfl⟩;have HQ2:=af.mk hq;have sj:=af.mk (show V2.length=16 by rw[hq,List.length_set,HV1.out]);rw[← hq]at HS2;generalize hW:(W1.setCell _ _).drew=W2 at HS2 ⊢;clear hW hq fd cd ca kE
 go_wp2_with fail
 obtain⟨xc2,hx⟩:∃z,z=V2.getD c 0:=⟨_,rfl⟩;have HXc2:=af.mk hx;have cc:=HS2.out.cell (p:=c) (by rw[sj.out];exact hc);rw[← hx]at cc;clear hx;obtain⟨xd2,hx⟩:∃z,z=V2.getD d 0:=⟨_,rfl⟩;have HXd2:=af.mk hx;have cd:=HS2.out.cell (p:=d) (by rw[sj.out];exact hd);rw[← hx]at cd;clear hx;have fc:=aA HS2.out.1 c;refine gZ (n:=10) (S:=fun w'=>w'.cell? ⟨w.heap.size,c,none⟩=some (.int .u32 xc2)∧w'.cell? ⟨w.heap.size,d,none⟩=some (.int .u32 xd2)) (ds:=[9]) #[false,false,false,false,false,false,false,false,false,false] (by kernel_rfl) rfl rfl ⟨cc,cd⟩ (fun hHeld=>?_);refine au 0 36 ?_;refine au 1 37 ?_;refine au 2 38 ?_;refine au 4 40 ?_;refine au 5 41 ?_;refine bU 3 39 hHeld (by rintro w' ⟨s0,s1⟩;go_simp;with_reducible rfl) ?_ rfl rfl;refine bU 6 42 hHeld (by rintro w' ⟨s0,s1⟩;go_simp;with_reducible rfl) ?_ rfl rfl;refine au 7 43 ?_;refine au 8 44 ?_;refine iN (i:=9) (N:=none) #[true,true,true,true,true,true,true,true,true,true] rfl rfl (by kernel_rfl) (by decide) (fun K hK=>?_);refine jQ (w1:=?_) (by rfl) rfl ?_ ?_;rotate_left
 ·go_simp
  rfl
 refine hK.out _ _ ?_;clear hK K;refine gJ ?_;have lQ:=af.mk (HS2.out.step c (IntKind.u32.wrap (xc2+xd2)));obtain⟨V3,hq⟩:∃z,z=V2.set c (IntKind.u32.wrap (xc2+xd2)):=⟨_,rfl⟩;have HQ3:=af.mk hq;have HV3:=af.mk (show V3.length=16 by rw[hq,List.length_set,sj.out]);rw[← hq]at lQ;generalize hW:(W2.setCell _ _).drew=W3 at lQ ⊢;clear hW hq fc cc cd HS2
 go_wp2_with fail
 obtain⟨xb3,hx⟩:∃z,z=V3.getD b 0:=⟨_,rfl⟩;have HXb3:=af.mk hx;have cb:=lQ.out.cell (p:=b) (by rw[HV3.out];exact hb);rw[← hx]at cb;clear hx;obtain⟨xc3,hx⟩:∃z,z=V3.getD c 0:=⟨_,rfl⟩;have HXc3:=af.mk hx;have cc:=lQ.out.cell (p:=c) (by rw[HV3.out];exact hc);rw[← hx]at cc;clear hx;have fb:=aA lQ.out.1 b;refine gZ (n:=11) (S:=fun w'=>w'.cell? ⟨w.heap.size,b,none⟩=some (.int .u32 xb3)∧w'.cell? ⟨w.heap.size,c,none⟩=some (.int .u32 xc3)) (ds:=[10]) #[false,false,false,false,false,false,false,false,false,false,false] (by kernel_rfl) rfl rfl ⟨cb,cc⟩ (fun hHeld=>?_);refine au 0 45 ?_;refine au 1 46 ?_;refine au 2 47 ?_;refine au 4 49 ?_;refine au 5 50 ?_;refine bU 3 48 hHeld (by rintro w' ⟨s0,s1⟩;go_simp;with_reducible rfl) ?_ rfl rfl;refine bU 6 51 hHeld (by rintro w' ⟨s0,s1⟩;go_simp;with_reducible rfl) ?_ rfl rfl;refine au 7 52 ?_;refine fu 8 (N:=some 53) rfl rfl fun K hK=>?_
 refine gF Tryz.func216 (by kernel_rfl) rfl #[.int .u32 (bits .xor .u32 xb3 xc3),.int .u32 12] (by rfl) rfl rfl (by simp only[List.map_toArray,List.map_cons,List.map_nil];rfl) ?_
 with_reducible refine(aaB _ _).mono ?_
 rintro e w3 ⟨rfl,rfl⟩;refine⟨_,rfl,?_⟩;refine hK.out _ _ ⟨hHeld.1,hHeld.2⟩ (fun hHeld=>?_);clear hK K;refine dM ?_;refine au 9 54 ?_;refine iN (i:=10) (N:=none) #[true,true,true,true,true,true,true,true,true,true,true] rfl rfl (by kernel_rfl) (by decide) (fun K hK=>?_);refine jQ (w1:=?_) (by rfl) rfl ?_ ?_;rotate_left
 ·go_simp
  rfl
 refine hK.out _ _ ?_;clear hK K;refine gJ ?_;have rZ:=af.mk (lQ.out.step b (kQ (bits .xor .u32 xb3 xc3) 12));obtain⟨V4,hq⟩:∃z,z=V3.set b (kQ (bits .xor .u32 xb3 xc3) 12):=⟨_,rfl⟩;have HQ4:=af.mk hq;have HV4:=af.mk (show V4.length=16 by rw[hq,List.length_set,HV3.out]);rw[← hq]at rZ;generalize hW:(W3.setCell _ _).drew=W4 at rZ ⊢;clear hW hq fb cb cc lQ
 go_wp2_with fail
 obtain⟨xa4,hx⟩:∃z,z=V4.getD a 0:=⟨_,rfl⟩;have HXa4:=af.mk hx;have ca:=rZ.out.cell (p:=a) (by rw[HV4.out];exact ha);rw[← hx]at ca;clear hx;obtain⟨xb4,hx⟩:∃z,z=V4.getD b 0:=⟨_,rfl⟩;have HXb4:=af.mk hx;have cb:=rZ.out.cell (p:=b) (by rw[HV4.out];exact hb);rw[← hx]at cb;clear hx;have fa:=aA rZ.out.1 a;refine gZ (n:=12) (S:=fun w'=>w'.cell? ⟨w.heap.size,a,none⟩=some (.int .u32 xa4)∧w'.cell? ⟨w.heap.size,b,none⟩=some (.int .u32 xb4)) (ds:=[11]) #[false,false,false,false,false,false,false,false,false,false,false,false] (by kernel_rfl) rfl rfl ⟨ca,cb⟩ (fun hHeld=>?_);refine au 0 55 ?_;refine au 1 56 ?_;refine au 2 57 ?_;refine au 4 59 ?_;refine au 5 60 ?_;refine au 8 63 ?_;refine bU 3 58 hHeld (by rintro w' ⟨s0,s1⟩;go_simp;with_reducible rfl) ?_ rfl rfl;refine bU 6 61 hHeld (by rintro w' ⟨s0,s1⟩;go_simp;with_reducible rfl) ?_ rfl rfl;refine au 7 62 ?_;refine au 9 64 ?_;refine au 10 65 ?_;refine iN (i:=11) (N:=none) #[true,true,true,true,true,true,true,true,true,true,true,true] rfl rfl (by kernel_rfl) (by decide) (fun K hK=>?_);refine jQ (w1:=?_) (by rfl) rfl ?_ ?_;rotate_left
 ·go_simp
  rfl
 refine hK.out _ _ ?_;clear hK K;refine gJ ?_;have tV:=af.mk (rZ.out.step a (IntKind.u32.wrap (IntKind.u32.wrap (xa4+xb4)+y)));obtain⟨V5,hq⟩:∃z,z=V4.set a (IntKind.u32.wrap (IntKind.u32.wrap (xa4+xb4)+y)):=⟨_,rfl⟩;have HQ5:=af.mk hq;have HV5:=af.mk (show V5.length=16 by rw[hq,List.length_set,HV4.out]);rw[← hq]at tV;generalize hW:(W4.setCell _ _).drew=W5 at tV ⊢;clear hW hq fa ca cb rZ
 go_wp2_with fail
 obtain⟨xd5,hx⟩:∃z,z=V5.getD d 0:=⟨_,rfl⟩;have HXd5:=af.mk hx;have cd:=tV.out.cell (p:=d) (by rw[HV5.out];exact hd);rw[← hx]at cd;clear hx;obtain⟨xa5,hx⟩:∃z,z=V5.getD a 0:=⟨_,rfl⟩;have HXa5:=af.mk hx;have ca:=tV.out.cell (p:=a) (by rw[HV5.out];exact ha);rw[← hx]at ca;clear hx;have fd:=aA tV.out.1 d;refine gZ (n:=11) (S:=fun w'=>w'.cell? ⟨w.heap.size,d,none⟩=some (.int .u32 xd5)∧w'.cell? ⟨w.heap.size,a,none⟩=some (.int .u32 xa5)) (ds:=[10]) #[false,false,false,false,false,false,false,false,false,false,false] (by kernel_rfl) rfl rfl ⟨cd,ca⟩ (fun hHeld=>?_);refine au 0 66 ?_;refine au 1 67 ?_;refine au 2 68 ?_;refine au 4 70 ?_;refine au 5 71 ?_;refine bU 3 69 hHeld (by rintro w' ⟨s0,s1⟩;go_simp;with_reducible rfl) ?_ rfl rfl;refine bU 6 72 hHeld (by rintro w' ⟨s0,s1⟩;go_simp;with_reducible rfl) ?_ rfl rfl;refine au 7 73 ?_;refine fu 8 (N:=some 74) rfl rfl fun K hK=>?_
 refine gF Tryz.func216 (by kernel_rfl) rfl #[.int .u32 (bits .xor .u32 xd5 xa5),.int .u32 8] (by rfl) rfl rfl (by simp only[List.map_toArray,List.map_cons,List.map_nil];rfl) ?_
 with_reducible refine(refTurn8 _ _).mono ?_
 rintro e w3 ⟨rfl,rfl⟩;refine⟨_,rfl,?_⟩;refine hK.out _ _ ⟨hHeld.1,hHeld.2⟩ (fun hHeld=>?_);clear hK K;refine dM ?_;refine au 9 75 ?_;refine iN (i:=10) (N:=none) #[true,true,true,true,true,true,true,true,true,true,true] rfl rfl (by kernel_rfl) (by decide) (fun K hK=>?_);refine jQ (w1:=?_) (by rfl) rfl ?_ ?_;rotate_left
 ·go_simp
  rfl
 refine hK.out _ _ ?_;clear hK K;refine gJ ?_;have HS6:=af.mk (tV.out.step d (kQ (bits .xor .u32 xd5 xa5) 8));obtain⟨V6,hq⟩:∃z,z=V5.set d (kQ (bits .xor .u32 xd5 xa5) 8):=⟨_,rfl⟩;have HQ6:=af.mk hq;have HV6:=af.mk (show V6.length=16 by rw[hq,List.length_set,HV5.out]);rw[← hq]at HS6;generalize hW:(W5.setCell _ _).drew=W6 at HS6 ⊢;clear hW hq fd cd ca tV
 go_wp2_with fail
 obtain⟨xc6,hx⟩:∃z,z=V6.getD c 0:=⟨_,rfl⟩;have HXc6:=af.mk hx;have cc:=HS6.out.cell (p:=c) (by rw[HV6.out];exact hc);rw[← hx]at cc;clear hx;obtain⟨xd6,hx⟩:∃z,z=V6.getD d 0:=⟨_,rfl⟩;have HXd6:=af.mk hx;have cd:=HS6.out.cell (p:=d) (by rw[HV6.out];exact hd);rw[← hx]at cd;clear hx;have fc:=aA HS6.out.1 c;refine gZ (n:=10) (S:=fun w'=>w'.cell? ⟨w.heap.size,c,none⟩=some (.int .u32 xc6)∧w'.cell? ⟨w.heap.size,d,none⟩=some (.int .u32 xd6)) (ds:=[9]) #[false,false,false,false,false,false,false,false,false,false] (by kernel_rfl) rfl rfl ⟨cc,cd⟩ (fun hHeld=>?_);refine au 0 76 ?_;refine au 1 77 ?_;refine au 2 78 ?_;refine au 4 80 ?_;refine au 5 81 ?_;refine bU 3 79 hHeld (by rintro w' ⟨s0,s1⟩;go_simp;with_reducible rfl) ?_ rfl rfl;refine bU 6 82 hHeld (by rintro w' ⟨s0,s1⟩;go_simp;with_reducible rfl) ?_ rfl rfl;refine au 7 83 ?_;refine au 8 84 ?_;refine iN (i:=9) (N:=none) #[true,true,true,true,true,true,true,true,true,true] rfl rfl (by kernel_rfl) (by decide) (fun K hK=>?_);refine jQ (w1:=?_) (by rfl) rfl ?_ ?_;rotate_left
 ·go_simp
  rfl
 refine hK.out _ _ ?_;clear hK K;refine gJ ?_;have HS7:=af.mk (HS6.out.step c (IntKind.u32.wrap (xc6+xd6)));obtain⟨V7,hq⟩:∃z,z=V6.set c (IntKind.u32.wrap (xc6+xd6)):=⟨_,rfl⟩;have HQ7:=af.mk hq;have HV7:=af.mk (show V7.length=16 by rw[hq,List.length_set,HV6.out]);rw[← hq]at HS7;generalize hW:(W6.setCell _ _).drew=W7 at HS7 ⊢;clear hW hq fc cc cd HS6
 go_wp2_with fail
 obtain⟨xb7,hx⟩:∃z,z=V7.getD b 0:=⟨_,rfl⟩;have HXb7:=af.mk hx;have cb:=HS7.out.cell (p:=b) (by rw[HV7.out];exact hb);rw[← hx]at cb;clear hx;obtain⟨xc7,hx⟩:∃z,z=V7.getD c 0:=⟨_,rfl⟩;have HXc7:=af.mk hx;have cc:=HS7.out.cell (p:=c) (by rw[HV7.out];exact hc);rw[← hx]at cc;clear hx;have fb:=aA HS7.out.1 b;refine gZ (n:=11) (S:=fun w'=>w'.cell? ⟨w.heap.size,b,none⟩=some (.int .u32 xb7)∧w'.cell? ⟨w.heap.size,c,none⟩=some (.int .u32 xc7)) (ds:=[10]) #[false,false,false,false,false,false,false,false,false,false,false] (by kernel_rfl) rfl rfl ⟨cb,cc⟩ (fun hHeld=>?_);refine au 0 85 ?_;refine au 1 86 ?_;refine au 2 87 ?_;refine au 4 89 ?_;refine au 5 90 ?_;refine bU 3 88 hHeld (by rintro w' ⟨s0,s1⟩;go_simp;with_reducible rfl) ?_ rfl rfl;refine bU 6 91 hHeld (by rintro w' ⟨s0,s1⟩;go_simp;with_reducible rfl) ?_ rfl rfl;refine au 7 92 ?_;refine fu 8 (N:=some 93) rfl rfl fun K hK=>?_
 refine gF Tryz.func216 (by kernel_rfl) rfl #[.int .u32 (bits .xor .u32 xb7 xc7),.int .u32 7] (by rfl) rfl rfl (by simp only[List.map_toArray,List.map_cons,List.map_nil];rfl) ?_
 with_reducible refine(refTurn7 _ _).mono ?_
 rintro e w3 ⟨rfl,rfl⟩;refine⟨_,rfl,?_⟩;refine hK.out _ _ ⟨hHeld.1,hHeld.2⟩ (fun hHeld=>?_);clear hK K;refine dM ?_;refine au 9 94 ?_;refine iN (i:=10) (N:=none) #[true,true,true,true,true,true,true,true,true,true,true] rfl rfl (by kernel_rfl) (by decide) (fun K hK=>?_);refine jQ (w1:=?_) (by rfl) rfl ?_ ?_;rotate_left
 ·go_simp
  rfl
 refine hK.out _ _ ?_;clear hK K;refine gJ ?_;have HS8:=af.mk (HS7.out.step b (kQ (bits .xor .u32 xb7 xc7) 7));obtain⟨V8,hq⟩:∃z,z=V7.set b (kQ (bits .xor .u32 xb7 xc7) 7):=⟨_,rfl⟩;have HQ8:=af.mk hq;have HV8:=af.mk (show V8.length=16 by rw[hq,List.length_set,HV7.out]);rw[← hq]at HS8;generalize hW:(W7.setCell _ _).drew=W8 at HS8 ⊢;clear hW hq fb cb cc HS7;obtain⟨k0,k1,k2,k3,k4,k5,k6,k7,k8,k9,k10,k11,k12,k13,k14,k15,hK⟩:=RD V8 HV8.out;have HK:=af.mk hK;have hS:=HS8.out;rw[hK]at hS;obtain⟨q0,q1,q2,q3,q4,q5,q6,q7,q8,q9,qZ,yN,jP,q13,q14,q15⟩:=SF hS.1;obtain⟨r0,r1,r2,r3,r4,r5,r6,r7,r8,r9,r10,r11,r12,r13,r14,r15⟩:=SF hS.2.1;obtain⟨z0,z1,z2,z3,z4,z5,z6,z7,z8,z9,xq,vR,z12,z13,z14,z15⟩:=Y0 hS.2.1;have HR:=af.mk hS;clear hK hS
 go_wp2_with fail
 have HX:Nt V a b c d x y=[k0,k1,k2,k3,k4,k5,k6,k7,k8,k9,k10,k11,k12,k13,k14,k15]:=by
  rw[← HK.out,HQ8.out,HXc7.out,HXb7.out,HQ7.out,HXd6.out,HXc6.out,HQ6.out,HXa5.out,HXd5.out,HQ5.out,HXb4.out,HXa4.out,HQ4.out,HXc3.out,HXb3.out,HQ3.out,HXd2.out,HXc2.out,HQ2.out,HXa1.out,HXd1.out,HQ1.out,HXb0.out,HXa0.out];rfl
 rw[HX]
 exact bodyPost_ret (aaG rfl (.cell (w.heap.size+1) 258 _ (0,0) _ rfl (set16 rfl HR.out.2.1 _ _ _ _ _ _ _ _ _ _ _ _ _ _ _ _) Tryz.underlying258 rfl (by kernel_rfl) .nil)) rfl
  ⟨rfl,below16 HR.out.2.2 (Nat.le_succ _) _ _ _ _ _ _ _ _ _ _ _ _ _ _ _ _⟩
theorem refStart(k:Int)(h0:0≤k)(h1:k≤32)(w:World):
  Calls Tryz.prog 74 #[.int .i64 k] w fun e w'=>e=.returned (.tuple #[.agg (aJ (yY k)),.int .i64 0])∧Below w.heap.size w w':=by
 go_enter Tryz.func74,Tryz.ntmps74
 go_wp2_with (go_at_call 132;(refine(WS _).mono ?_);rintro e w1 ⟨rfl,rfl⟩)
 go_loopw [6] (fun v wr=>∃i:Nat,i≤8∧v=.int .i64 i∧wr.heap[w.heap.size]? =some (.cells (aJ [0,0,0,0,0,0,0,0]) 160 (0,0))∧wr.heap[w.heap.size+1]? =some (.cells (aJ (xX jg 8 i)) 160 (0,0))∧wr.heap[w.heap.size+2]? =some (.cells (aJ jg) 159 (0,0))∧Below w.heap.size w wr) (fun v _=>8-(intOf v).toNat)
 case atStart=>exact⟨0,by omega,rfl,ay (ay (bI _ _) _) _,ay (xP _ _ _) _,by have:=xP (w.alloc (.cells (aJ [0,0,0,0,0,0,0,0]) 160)) (.cells (aJ [0,0,0,0,0,0,0,0]) 160) (.cells (aJ jg) 159);rwa [World.size_alloc]at this,ax (ax (ax (Below.refl _ _) _) _) _⟩
 case round=>
  obtain⟨i,hi,rfl,bR,bH,bL,hB⟩:=hrel
  by_cases hlt:i<8
  ·have hc:=(ah bL i).trans (gQ jg i (by simpa [jg]using hlt));have hs:=(ah bH i).trans (gQ (xX jg 8 i) i (by rw[Fs jg 8 i hi (by decide)];exact hlt));have hf:=aA bH i;have vE:(i:Int)<8:=by omega
   have HH:=af.mk (And.intro bR (And.intro bH (And.intro bL hB)));clear bR bH bL hB
   go_wp2_with fail
   go_roundw
   case rel=>exact⟨i+1,by omega,by go_num,(jo (by omega) _).trans HH.out.1,(jl HH.out.2.1 i _).trans (by rw[← LH jg 8 i hlt (by decide)];simp),(jo (by omega) _).trans HH.out.2.2.1,HH.out.2.2.2.setCell (p:=⟨w.heap.size+1,i,none⟩) (Nat.le_succ _) _⟩
   case measure=>simp[intOf];omega
  ·obtain rfl:i=8:=by omega
   have bH':wr.heap[w.heap.size+1]? =some (.cells (aJ [1779033703,3144134277,1013904242,2773480762,1359893119,2600822924,528734635,1541459225]) 160 (0,0)):=bH;have vE:¬((8:Nat):Int)<8:=by omega
   obtain⟨q0,q1,q2,q3,q4,q5,q6,q7⟩:=qK bH';have f0:=aA bH' 0;obtain⟨r0,r1,r2,r3,r4,r5,r6,r7⟩:=qK bR;obtain⟨z0,z1,z2,z3,z4,z5,z6,z7⟩:=BO bR;have HH:=af.mk (And.intro bR (And.intro bH' hB));have e9:wrap64 (256*k)=256*k:=by unfold wrap64;omega
   clear bR bH hB bH' bL
   go_wp2_with fail
   have HX:yY k=[bits .xor .u32 (bits .xor .u32 1779033703 16842784) (256*k),3144134277,1013904242,2773480762,1359893119,2600822924,528734635,1541459225]:=by
    rw[OJ,Int.mul_comm];rfl
   rw[HX]
   exact bodyPost_ret (sW (rs:=[.cell 2 160,.tmp 3]) (vs:=[.agg (aJ _),.int .i64 0]) rfl (by simp) (.cell w.heap.size 160 _ (0,0) _ rfl (Et rfl ((jo (by omega) _).trans HH.out.1) _ _ _ _ _ _ _ _) Tryz.underlying160 rfl (by kernel_rfl) (.tmp .nil))) rfl
    ⟨rfl,zZ (HH.out.2.2.setCell (p:=⟨w.heap.size+1,0,none⟩) (Nat.le_succ _) _) (Nat.le_refl _) _ _ _ _ _ _ _ _⟩
end Go.Proofs.YtdcddenojjdmjaaGreatDoor.T
