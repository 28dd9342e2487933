import Derived.Test.YtdcddenojjdmjaaGreatDoorM12
set_option linter.all false
set_option maxHeartbeats 8000000
set_option maxRecDepth 100000
namespace Go.Proofs.YtdcddenojjdmjaaGreatDoor.T
open Go.RowKit Go.Proofs.YtdcddenojjdmjaaGreatDoorW.PrintWords Go.Proofs.YtdcddenojjdmjaaGreatDoorW.PrintLast Go.Proofs.YtdcddenojjdmjaaGreatDoorW.PrintMore
attribute [local go_sem] kH kL kK kP kJ kN kI kM
def mK.l0:Nat→List Int→Int→ByteArray→Int→ByteArray→ByteArray→Int→Int→Bool→List Int→Int→Int→Int→List (aN)→List (fo)→Option (List Int)
 |0,_,_,_,_,_,_,_,_,_,_,_,_,_,_,_=>none
 |k+1,x3,x4,x263000,x263001,x263002,x263003,x263004,x263005,x263006,x263007,x263008,x263009,x263010,x263011,R5=>if x4<(R5.length:Int)then(if 0≤x4 then(if x3.length<17592186044416 then(mK.l0 k (x3++[(iO R5 x4).f0]) (wrap64 (x4+1)) x263000 x263001 x263002 x263003 x263004 x263005 x263006 x263007 x263008 x263009 x263010 x263011 R5)else(none))else(none))else(some x3)
def mK.f(k:Nat)(aH:ByteArray)(aV:Int)(bg:ByteArray)(bn:ByteArray)(iT:Int)(iU:Int)(kZ:Bool)(iw:List Int)(jb:Int)(jc:Int)(ja:Int)(jy:List (aN))(eZ:List (fo)):Option (List Int):=(some (([]:List Int):List Int)).bind fun zh=>(if zh.length+iw.length<17592186044416 then((some (zh++iw:List Int)).bind fun rU=>((some (([jb,jc,ja]:List Int):List Int)).bind fun qj=>(if rU.length+qj.length<17592186044416 then(mK.l0 k (rU++qj) 0 aH aV bg bn iT iU kZ iw jb jc ja jy eZ)else(none))))else(none))
theorem mK.calls(k:Nat)(aH:ByteArray)(aV:Int)(bg:ByteArray)(bn:ByteArray)(iT:Int)(iU:Int)(kZ:Bool)(uM:Option Addr)(vw:Nat)(iw:List Int)(jb:Int)(jc:Int)(ja:Int)(uL:Option Addr)(vk:Nat)(jy:List (aN))(xu:Option Addr)(vo:Nat)(eZ:List (fo))(r:List Int)(w:World)(JA:Kd.C (Kd.int .i64) w uM iw.length iw)(Jc:iw.length≤vw)(Jy:Kd.C fZ w uL jy.length jy)(Ja:jy.length≤vk)(Jz:Kd.C vJ w xu eZ.length eZ)(Jb:eZ.length≤vo)(h:mK.f k aH aV bg bn iT iU kZ iw jb jc ja jy eZ=some r):
  Calls Tryz.prog 12 #[.agg #[.string aH,.int .i64 aV,.string bg,.string bn,.int .i64 iT,.int .i64 iU,.bool kZ,.slice uM iw.length vw,.int .i64 jb,.int .i64 jc,.int .i64 ja,.slice uL jy.length vk,.slice xu eZ.length vo]] w fun e w'=>∃fE:Value,e=.returned (fE)∧Kd.R (Kd.int .i64) 3 w' w.heap.size (fun _=>True) fE r∧Below w.heap.size w w':=by
 have hu35:=Tryz.underlying35;have HR0_7:=af.mk JA;have HC0_7:=af.mk Jc;clear JA Jc;have HR0_11:=af.mk Jy;have HC0_11:=af.mk Ja;clear Jy Ja;have Oq:=af.mk Jz;have HC0_12:=af.mk Jb;clear Jz Jb;have HB:=af.mk (Below.refl w.heap.size w);have H:((some (([]:List Int):List Int)).bind fun zh=>(if zh.length+iw.length<17592186044416 then((some (zh++iw:List Int)).bind fun rU=>((some (([jb,jc,ja]:List Int):List Int)).bind fun qj=>(if rU.length+qj.length<17592186044416 then(mK.l0 k (rU++qj) 0 aH aV bg bn iT iU kZ iw jb jc ja jy eZ)else(none))))else(none)))=some r:=h;clear h;obtain⟨zh,Kg⟩:∃y_:List Int,y_=(([]:List Int)):=⟨_,rfl⟩;replace H:(if zh.length+iw.length<17592186044416 then((some (zh++iw:List Int)).bind fun rU=>((some (([jb,jc,ja]:List Int):List Int)).bind fun qj=>(if rU.length+qj.length<17592186044416 then(mK.l0 k (rU++qj) 0 aH aV bg bn iT iU kZ iw jb jc ja jy eZ)else(none))))else(none))=some r:=by first|(rw[Kg];with_reducible exact H)|(have bP:=(Option.bind_some _ _).symm.trans H;rw[Kg];with_reducible exact bP)|(have bP:=(Option.bind_some _ _).symm.trans H;with_reducible exact bP)|with_reducible exact H|(rw[Kg];exact H)|exact H
 have Ny263:=af.mk Kg;clear Kg
 by_cases c2:zh.length+iw.length<17592186044416
 ·rw[if_pos c2]at H;have LMc2:=af.mk c2;clear c2;obtain⟨rU,Kh⟩:∃y_:List Int,y_=(zh++iw):=⟨_,rfl⟩;replace H:((some (([jb,jc,ja]:List Int):List Int)).bind fun qj=>(if rU.length+qj.length<17592186044416 then(mK.l0 k (rU++qj) 0 aH aV bg bn iT iU kZ iw jb jc ja jy eZ)else(none)))=some r:=by first|(rw[Kh];with_reducible exact H)|(have bP:=(Option.bind_some _ _).symm.trans H;rw[Kh];with_reducible exact bP)|(have bP:=(Option.bind_some _ _).symm.trans H;with_reducible exact bP)|with_reducible exact H|(rw[Kh];exact H)|exact H
  have Ny266:=af.mk Kh;clear Kh;obtain⟨qj,Ki⟩:∃y_:List Int,y_=(([jb,jc,ja]:List Int)):=⟨_,rfl⟩;replace H:(if rU.length+qj.length<17592186044416 then(mK.l0 k (rU++qj) 0 aH aV bg bn iT iU kZ iw jb jc ja jy eZ)else(none))=some r:=by first|(rw[Ki];with_reducible exact H)|(have bP:=(Option.bind_some _ _).symm.trans H;rw[Ki];with_reducible exact bP)|(have bP:=(Option.bind_some _ _).symm.trans H;with_reducible exact bP)|with_reducible exact H|(rw[Ki];exact H)|exact H
  have Ny269:=af.mk Ki;clear Ki
  by_cases c3:rU.length+qj.length<17592186044416
  ·rw[if_pos c3]at H;have LMc3:=af.mk c3;clear c3;obtain⟨y272,Kj⟩:∃y_:List Int,y_=(rU++qj):=⟨_,rfl⟩;replace H:(mK.l0 k y272 0 aH aV bg bn iT iU kZ iw jb jc ja jy eZ)=some r:=by first|(rw[Kj];with_reducible exact H)|(have bP:=(Option.bind_some _ _).symm.trans H;rw[Kj];with_reducible exact bP)|(have bP:=(Option.bind_some _ _).symm.trans H;with_reducible exact bP)|with_reducible exact H|(rw[Kj];exact H)|exact H
   have Ny272:=af.mk Kj;clear Kj;have H':=af.mk H;clear H
   go_enter Tryz.func12,Tryz.ntmps12
   go_wp2_with (first|((with_reducible refine bZ (N:=1) rfl ?_);refine dn 1 (cs:=#[.string aH,.int .i64 aV,.string bg,.string bn,.int .i64 iT,.int .i64 iU,.bool kZ,.slice uM iw.length vw,.int .i64 jb,.int .i64 jc,.int .i64 ja,.slice uL jy.length vk,.slice xu eZ.length vo]) (t:=35) ?_;intro Fu hg w4 aC hb;have mD:=af.mk (aC);have GW262:af (w.heap.size≤Fu):=aT hg;have GE262:af (w.heap.size≤Fu):=aT hg;replace HB:=af.mk (av ai hb);clear hb aC hg)|((with_reducible refine bZ (N:=5) rfl ?_);refine Kd.zl (Kd.int .i64) _ 3 ?hg (N:=5) ?hd (xs:=([]:List Int)) (inner:=[]) (ok:=fun _=>True) (iD:=fun _=>True) ?hr ?hp (fun _ hk=>hk) trivial (Below.refl _ _) (Nat.le_refl _) (by simp) ?_;(case hd=>rfl);(case hg=>rfl);(case hr=>first|(go_simp;done)|(go_simp;rfl));(case hp=>exact(fC.none _ _));intro v264 w5 mU hb oZ o8;clear oZ o8;(first|rw[← Ny263.out]at mU|(simp only[Int.reduceToNat]at mU;rw[← Ny263.out]at mU));have Oo:=af.mk (Kd.gU mU (fI ai));replace mD:=bQ mD hb;replace HB:=af.mk (av ai hb);clear hb mU;obtain⟨yh,yj,yo,Ay,PZ,P5,P6,hcz7_7,hcz7_8,hcz7_9,hcz7_10,hcz7_11,hcz7_12,yu,yw,yx,AV,Qo,Qp,Qq,hfz7_7,hfz7_8,hfz7_9,hfz7_10,hfz7_11,hfz7_12⟩:=rV mD)|((with_reducible refine jN (b:=.append) (xs:=#[.tmp 5,.tmp 8]) rfl ?_);at_builtin;refine Kd.Lj (Kd.int .i64) (w0:=w) w.heap.size rfl (.tmp 5) (.tmp 8) 27 3 (.int .i64 0) 8 rfl Tryz.underlying27 info3 rfl (by decide) (by omega) v264 zh iw _ _ _ (fun _=>True) (fun _=>False) rfl rfl ?aO ?aR (fun _ _ h=>h) (fun _ h=>h.elim) ?aF ?aB ?aS ?aL ?_;(case aR=>exact jr HR0_7);(case aB=>exact ai);(case aF=>exact(fun _ _=>trivial));(case aO=>exact(dZ Oo));(case aS=>exact(fI ai));(case aL=>have:=LMc2.out;omega);intro v267 w8 ho hb hg hat;rw[← Ny266.out]at ho;have dL:=af.mk (fP (g:=Fu) (o:=.cells #[.string aH,.int .i64 aV,.string bg,.string bn,.int .i64 iT,.int .i64 iU,.bool kZ,.slice uM iw.length vw,.int .i64 jb,.int .i64 jc,.int .i64 ja,.slice uL jy.length vk,.slice xu eZ.length vo] 35 (0,0)) (fU mD) hg (Kd.jK Oo.out mD.out (by decide)));have dW:=af.mk (hb);have dX:=af.mk (ho);clear mD HB Oo;have mD:=dL;have HB:=dW;have EM:=dX;clear dL dW dX ho hb hg hat;obtain⟨Jh,Ji,Jj,Jk,Ua,Ub,Uc,Ud,hcz9_8,hcz9_9,hcz9_10,hcz9_11,hcz9_12,Jq,Jr,Js,Jt,UA,UB,UC,UD,hfz9_8,hfz9_9,hfz9_10,hfz9_11,hfz9_12⟩:=rV mD)|((with_reducible refine bZ (N:=23) rfl ?_);refine Kd.zl (Kd.int .i64) _ 3 ?hg (N:=23) ?hd (xs:=([jb,jc,ja]:List Int)) (inner:=[.int .i64 jb,.int .i64 jc,.int .i64 ja]) (ok:=fun _=>True) (iD:=fun _=>True) ?hr ?hp (fun _ hk=>hk) trivial (Below.refl _ _) (Nat.le_refl _) (by simp) ?_;(case hd=>rfl);(case hg=>rfl);(case hr=>first|(go_simp;done)|(go_simp;rfl));(case hp=>exact(fC.one (show Kd.M (Kd.int .i64) _ _ _ jb [.int .i64 jb]from rfl) (fC.one (show Kd.M (Kd.int .i64) _ _ _ jc [.int .i64 jc]from rfl) (fC.one (show Kd.M (Kd.int .i64) _ _ _ ja [.int .i64 ja]from rfl) (fC.none _ _)))));intro v270 w10 FK hb oZ o8;clear oZ o8;(first|rw[← Ny269.out]at FK|(simp only[Int.reduceToNat]at FK;rw[← Ny269.out]at FK));have EN:=af.mk (Kd.gU (Kd.zU FK (Kd.mF (dZ EM))) (fI ai));replace EM:=af.mk (Kd.zT (dZ EM) (Kd.uY FK) hb);replace mD:=bQ mD hb;replace HB:=af.mk (av ai hb);clear hb FK;obtain⟨Ao13,co13,eo13⟩:=Kd.fH EN.out;subst eo13)|((with_reducible refine jN (b:=.append) (xs:=#[.tmp 10,.tmp 23]) rfl ?_);at_builtin;refine Kd.Lj (Kd.int .i64) (w0:=w) w.heap.size rfl (.tmp 10) (.tmp 23) 27 3 (.int .i64 0) 8 rfl Tryz.underlying27 info3 rfl (by decide) (by omega) v267 rU qj _ _ _ (fun k_=>some k_≠(.slice Ao13 qj.length co13:Value).ownBlock) (fun _=>False) rfl rfl ?aO ?aR (fun _ _ h=>h) (fun _ h=>h.elim) ?aF ?aB ?aS ?aL ?_;(case aR=>repeat(first|exact(Kd.dB EN.out).2.2|(with_reducible refine Kd.gu ?_ _)|(with_reducible refine Kd.gB ?_ _)|(with_reducible refine Kd.gy ?_)));(case aB=>exact ai);(case aF=>exact(fun k_ hk=>Kd.fresh' (Kd.mF (dZ EN)) k_ hk));(case aO=>exact(by(with_reducible repeat(first|apply Kd.bX|apply Kd.dK|apply Kd.di));exact Kd.bY EM.out (fun _ hk=>hk.2)));(case aS=>exact(fI ai));(case aL=>have:=LMc3.out;omega);intro v273 w12 ho hb hg hat;rw[← Ny272.out]at ho;have dL:=af.mk (fP (g:=Fu) (o:=.cells #[.string aH,.int .i64 aV,.string bg,.string bn,.int .i64 iT,.int .i64 iU,.bool kZ,.slice uM iw.length vw,.int .i64 jb,.int .i64 jc,.int .i64 ja,.slice uL jy.length vk,.slice xu eZ.length vo] 35 (0,0)) (fU mD) hg (Kd.jK EM.out mD.out (by decide)));have dW:=af.mk (Kd.Bz (ok:=(fun _=>True)) (dZ EN) hg hat);have dX:=af.mk (hb);have jH:=af.mk (ho);clear mD EN HB EM;have mD:=dL;have EN:=dW;have HB:=dX;have HO274:=jH;clear dL dW dX jH ho hb hg hat))
   go_loopg [3,4] k (fun kq v3 v4 w'=>∃(dh:List Int) (dY:Int),v4=.int .i64 dY∧af (mK.l0 kq dh dY aH aV bg bn iT iU kZ iw jb jc ja jy eZ=some r)∧af (kq≤k)∧af (Kd.R (Kd.int .i64) 3 w' w.heap.size (fun _=>True) v3 dh)∧af (w'.heap[Fu]? =some (.cells #[.string aH,.int .i64 aV,.string bg,.string bn,.int .i64 iT,.int .i64 iU,.bool kZ,(.slice uM iw.length vw),.int .i64 jb,.int .i64 jc,.int .i64 ja,(.slice uL jy.length vk),(.slice xu eZ.length vo)] 35 (0,0)))∧af (Below w.heap.size w w'))
   case atStart=>exact⟨(y272),(0),dx,H',⟨Nat.le_refl _⟩,⟨by(with_reducible repeat(first|apply Kd.bX|apply Kd.dK|apply Kd.di));exact Kd.bY HO274.out (fun _ hk=>trivial)⟩,⟨fU mD⟩,⟨ai⟩⟩
   case round=>
    clear H'
    try clear c1
    try clear c2
    try clear p2
    try clear c3
    try clear c12
    try clear yh
    try clear yj
    try clear hcz7_10
    try clear hcz7_11
    try clear hcz7_12
    try clear yo
    try clear Ay
    try clear PZ
    try clear P5
    try clear P6
    try clear hcz7_7
    try clear hcz7_8
    try clear hcz7_9
    try clear Jh
    try clear Ji
    try clear hcz9_10
    try clear hcz9_11
    try clear hcz9_12
    try clear Jj
    try clear Jk
    try clear Ua
    try clear Ub
    try clear Uc
    try clear Ud
    try clear hcz9_8
    try clear hcz9_9
    try clear yu
    try clear yw
    try clear hfz7_10
    try clear hfz7_11
    try clear hfz7_12
    try clear yx
    try clear AV
    try clear Qo
    try clear Qp
    try clear Qq
    try clear hfz7_7
    try clear hfz7_8
    try clear hfz7_9
    try clear Jq
    try clear Jr
    try clear hfz9_10
    try clear hfz9_11
    try clear hfz9_12
    try clear Js
    try clear Jt
    try clear UA
    try clear UB
    try clear UC
    try clear UD
    try clear hfz9_8
    try clear hfz9_9
    obtain⟨dh,dY,rfl,HA,dD,dO,mD,HB⟩:=hrel
    cases gk with
    |zero=>exact absurd HA.out (by simp[mK.l0])
    |succ k1=>
     have H:=HA.out;clear HA;simp only[mK.l0]at H
     by_cases c14:dY<(eZ.length:Int)
     ·rw[if_pos c14]at H;have Fe:decide (dY<(eZ.length:Int))=true:=decide_eq_true c14;clear c14
      by_cases c15:0≤dY
      ·rw[if_pos c15]at H;have BH:decide (0≤dY)=true:=decide_eq_true c15;clear c15
       by_cases c16:dh.length<17592186044416
       ·rw[if_pos c16]at H;have Ot:=af.mk c16;clear c16;obtain⟨y276,Kk⟩:∃y_:List Int,y_=(dh++[(iO eZ dY).f0]):=⟨_,rfl⟩;replace H:(mK.l0 k1 y276 (wrap64 (dY+1)) aH aV bg bn iT iU kZ iw jb jc ja jy eZ)=some r:=by first|(rw[Kk];with_reducible exact H)|(have bP:=(Option.bind_some _ _).symm.trans H;rw[Kk];with_reducible exact bP)|(have bP:=(Option.bind_some _ _).symm.trans H;with_reducible exact bP)|with_reducible exact H|(rw[Kk];exact H)|exact H
        have Ny276:=af.mk Kk;clear Kk;have H':=af.mk H;clear H;obtain⟨LV,LW,LX,LY,hcz17_4,hcz17_5,hcz17_6,hcz17_7,hcz17_8,hcz17_9,hcz17_10,hcz17_11,hcz17_12,Mr,Ms,Mt,Mv,hfz17_4,hfz17_5,hfz17_6,hfz17_7,hfz17_8,hfz17_9,hfz17_10,hfz17_11,hfz17_12⟩:=rV mD;have p275:0≤(dY:Int):=aG;have q275:dY<(eZ.length:Int):=aG;obtain⟨ad275,A275_5,c275_5,e275,Vf,Vg,Vh,Vi,Vj,Vk,UJ,UG⟩:=OI Oq.out dY p275 q275
        cases e275
        replace Vf:=aM Vf;replace Vg:=aM Vg;replace Vh:=aM Vh;replace Vi:=aM Vi;replace Vj:=aM Vj;replace Vk:=aM Vk;have HR275_5:=af.mk UG;have HC275_5:=af.mk UJ;clear UG UJ;replace p275:=eq_true p275;replace q275:=eq_true q275
        go_wp2_with (first|((with_reducible refine jN (b:=.append) (xs:=#[.tmp 32,.tmp 39]) rfl ?_);at_builtin;refine Kd.kY (Kd.int .i64) (w0:=w) w.heap.size rfl (.tmp 32) (.tmp 39) 27 3 (.int .i64 0) 8 rfl Tryz.underlying27 info3 rfl (by decide) (by omega) u3 dh ((iO eZ dY).f0) [.int .i64 ((iO eZ dY).f0)] (fun _=>True) (fun _=>False) rfl rfl ?aP (fun _ hk=>hk.elim) ?aF ?aO ?aB ?aS ?aL ?_;(case aP=>exact rfl);(case aB=>exact ai);(case aF=>exact(fun _ _=>trivial));(case aO=>exact(dZ dO));(case aS=>exact(fI ai));(case aL=>have:=Ot.out;omega);intro v277 w18 ho hb hg hat;rw[← Ny276.out]at ho;have dL:=af.mk (fP (g:=Fu) (o:=.cells #[.string aH,.int .i64 aV,.string bg,.string bn,.int .i64 iT,.int .i64 iU,.bool kZ,.slice uM iw.length vw,.int .i64 jb,.int .i64 jc,.int .i64 ja,.slice uL jy.length vk,.slice (some ad275) eZ.length vo] 35 (0,0)) (fU mD) hg (Kd.jK dO.out mD.out (by decide)));have dW:=af.mk (hb);have dX:=af.mk (ho);clear mD HB dO;have mD:=dL;have HB:=dW;have HO278:=dX;clear dL dW dX ho hb hg hat))
        go_roundg k1
        case measure=>have:=dD.out;omega
        case rel=>exact⟨(y276),(wrap64 (dY+1)),dx,H',⟨by have:=dD.out;omega⟩,⟨dZ HO278⟩,⟨fU mD⟩,⟨ai⟩⟩
       ·rw[if_neg c16]at H;exact absurd H (by simp)
      ·rw[if_neg c15]at H;exact absurd H (by simp)
     ·rw[if_neg c14]at H;have Fe:decide (dY<(eZ.length:Int))=false:=decide_eq_false c14;clear c14;obtain rfl:=Option.some.inj H;obtain⟨L9,Ma,Mc,Md,hcz19_4,hcz19_5,hcz19_6,hcz19_7,hcz19_8,hcz19_9,hcz19_10,hcz19_11,hcz19_12,MC,ME,MF,MG,hfz19_4,hfz19_5,hfz19_6,hfz19_7,hfz19_8,hfz19_9,hfz19_10,hfz19_11,hfz19_12⟩:=rV mD
      go_wp2
      go_ret
      exact⟨_,bS,by(with_reducible repeat(first|apply Kd.bX|apply Kd.dK|apply Kd.di));exact dO.out,ai⟩
  ·rw[if_neg c3]at H;exact absurd H (by simp)
 ·rw[if_neg c2]at H;exact absurd H (by simp)
mutual
def lq.j0:Nat→Bool→Int→Int→ByteArray→ByteArray→Option (Bool)
 |0,_,_,_,_,_=>none
 |k+1,x20,Gz,R7,GA,GD=>if x20=true then(some false)else(if Gz=2 then(lq.j1 k false Gz R7 GA GD)else(lq.j1 k (Gz != 3) Gz R7 GA GD))
def lq.j1:Nat→Bool→Int→Int→ByteArray→ByteArray→Option (Bool)
 |0,_,_,_,_,_=>none
 |k+1,x28,Gz,R7,GA,GD=>if x28=true then(if GA.toList=([]:List UInt8)then(some (GD.toList==([]:List UInt8)))else(some false))else(if(GA.size:Int)<1 then(some false)else(if(GA.size:Int)>32 then(some false)else(if(GD.size:Int)>32 then(some false)else(if Gz=2 then(some true)else(some (decide ((GD.size:Int)>0)))))))
end
def lq.f(k:Nat)(aH:Int)(aV:Int)(bg:ByteArray)(bn:ByteArray):Option (Bool):=if aH<1 then(lq.j0 k true aH aV bg bn)else(if aH>5 then(lq.j0 k true aH aV bg bn)else(if aV<1 then(lq.j0 k true aH aV bg bn)else(lq.j0 k (decide (aV>32)) aH aV bg bn)))
theorem lq.calls(k:Nat)(aH:Int)(aV:Int)(bg:ByteArray)(bn:ByteArray)(r:Bool)(w:World)(h:lq.f k aH aV bg bn=some r):
  Calls Tryz.prog 129 #[.agg #[.int .i64 aH,.int .i64 aV,.string bg,.string bn]] w fun e w'=>e=.returned (.bool r)∧Below w.heap.size w w':=by
 have wN:=Tryz.underlying67;have HB:=af.mk (Below.refl w.heap.size w);have H:(if aH<1 then(lq.j0 k true aH aV bg bn)else(if aH>5 then(lq.j0 k true aH aV bg bn)else(if aV<1 then(lq.j0 k true aH aV bg bn)else(lq.j0 k (decide (aV>32)) aH aV bg bn))))=some r:=h;clear h;have qm:=af.mk H;clear H
 go_enter Tryz.func129,Tryz.ntmps129
 go_upto_region 1 with (first|((with_reducible refine bZ (N:=1) rfl ?_);(try(refine xY (by rfl) ?_;dsimp only));refine dn 1 (cs:=#[.int .i64 aH,.int .i64 aV,.string bg,.string bn]) (t:=67) ?_;intro LM hg w3 aC hb;have nW:=af.mk (aC);have GW279:af (w.heap.size≤LM):=aT hg;have GE279:af (w.heap.size≤LM):=aT hg;replace HB:=af.mk (av ai hb);clear hb aC hg))
 (try simp only[Act.put,List.setIfInBounds_toArray,List.set_cons_zero,List.set_cons_succ])
 go_cut [20] (fun v20 wc=>∃(kq:Nat) (NZ:Bool),v20=.bool NZ∧af (lq.j0 kq NZ aH aV bg bn=some r)∧af (kq≤k)∧af (wc.heap[LM]? =some (.cells #[.int .i64 aH,.int .i64 aV,.string bg,.string bn] 67 (0,0)))∧af (Below w.heap.size w wc))
 case first=>
  have H:=qm.out;clear qm
  by_cases c4:aH<1
  ·rw[if_pos c4]at H;have iH:decide (aH<1)=true:=decide_eq_true c4;clear c4;(first|rw[iH]|(simp only[lH,lX];rw[iH])|skip);have H':=af.mk H;clear H;obtain⟨TU,TV,TW,TY,Uv,Uw,Ux,Uy⟩:=fB nW
   go_wp2
   go_meet
   case rel=>exact⟨_,(true),dx,H',⟨by first|omega|exact Nat.le_refl _⟩,⟨fU nW⟩,⟨ai⟩⟩
  ·rw[if_neg c4]at H;have iH:decide (aH<1)=false:=decide_eq_false c4;clear c4;(first|rw[iH]|(simp only[lH,lX];rw[iH])|skip)
   by_cases c6:aH>5
   ·rw[if_pos c6]at H;have jv:decide (5<aH)=true:=decide_eq_true c6;clear c6;have H':=af.mk H;clear H;obtain⟨yh,yj,yo,Ay,yu,yw,yx,AV⟩:=fB nW
    go_wp2
    go_meet
    case rel=>exact⟨_,(true),dx,H',⟨by first|omega|exact Nat.le_refl _⟩,⟨fU nW⟩,⟨ai⟩⟩
   ·rw[if_neg c6]at H;have jv:decide (5<aH)=false:=decide_eq_false c6;clear c6
    by_cases c8:aV<1
    ·rw[if_pos c8]at H;have jw:decide (aV<1)=true:=decide_eq_true c8;clear c8;have H':=af.mk H;clear H;obtain⟨Jh,Ji,Jj,Jk,Jq,Jr,Js,Jt⟩:=fB nW
     go_wp2
     go_meet
     case rel=>exact⟨_,(true),dx,H',⟨by first|omega|exact Nat.le_refl _⟩,⟨fU nW⟩,⟨ai⟩⟩
    ·rw[if_neg c8]at H;have jw:decide (aV<1)=false:=decide_eq_false c8;clear c8;have H':=af.mk H;clear H;obtain⟨wG,wH,wI,Aj,wJ,wK,wL,Az⟩:=fB nW
     go_wp2
     go_meet
     case rel=>exact⟨_,(decide (aV>32)),dx,H',⟨by first|omega|exact Nat.le_refl _⟩,⟨fU nW⟩,⟨ai⟩⟩
 case rest=>
  clear qm
  try clear c1
  try clear p2
  try clear c4
  try clear iH
  try clear c6
  try clear jv
  try clear c8
  try clear jw
  try clear wG
  try clear wH
  try clear wI
  try clear Aj
  try clear TU
  try clear TV
  try clear TW
  try clear TY
  try clear yh
  try clear yj
  try clear yo
  try clear Ay
  try clear Jh
  try clear Ji
  try clear Jj
  try clear Jk
  try clear wJ
  try clear wK
  try clear wL
  try clear Az
  try clear Uv
  try clear Uw
  try clear Ux
  try clear Uy
  try clear yu
  try clear yw
  try clear yx
  try clear AV
  try clear Jq
  try clear Jr
  try clear Js
  try clear Jt
  obtain⟨kq,NZ,rfl,HA,HJ1,nW,HB⟩:=hcut
  cases kq with
  |zero=>exact absurd HA.out (by simp[lq.j0])
  |succ kj1=>
   have H:=HA.out;clear HA;simp only[lq.j0]at H
   by_cases c11:NZ=true
   ·subst c11;rw[if_pos rfl]at H;obtain rfl:=Option.some.inj H
    go_wp2
    go_ret
    exact⟨bS,ai⟩
   ·replace c11:=Bool.eq_false_iff.mpr c11;subst c11;rw[if_neg (show ¬(false=true) by decide)]at H;have HC12:=af.mk H;clear H
    go_upto_region 3 with (fail)
    go_cut [28] (fun v28 wc=>∃(kq:Nat) (Ob:Bool),v28=.bool Ob∧af (lq.j1 kq Ob aH aV bg bn=some r)∧af (kq≤kj1)∧af (wc.heap[LM]? =some (.cells #[.int .i64 aH,.int .i64 aV,.string bg,.string bn] 67 (0,0)))∧af (Below w.heap.size w wc))
    case first=>
     have H:=HC12.out;clear HC12
     by_cases c13:aH=2
     ·rw[if_pos c13]at H;have uf:(aH==2)=true:=beq_iff_eq.mpr c13;have Fb:(aH != 2)=false:=bne_eq_false_iff_eq.mpr c13;clear c13;(first|rw[uf]|(simp only[lH,lX];rw[uf])|skip);have H':=af.mk H;clear H;obtain⟨Al,Am,Ao,Ap,AA,AB,AJ,AL⟩:=fB nW
      go_wp2
      go_meet
      case rel=>exact⟨_,(false),dx,H',⟨by have:=HJ1.out;first|omega|exact Nat.le_refl _⟩,⟨fU nW⟩,⟨ai⟩⟩
     ·rw[if_neg c13]at H;have uf:(aH==2)=false:=beq_eq_false_iff_ne.mpr c13;have Fb:(aH != 2)=true:=bne_iff_ne.mpr c13;(first|rw[uf]|(simp only[lH,lX];rw[uf])|skip);have H':=af.mk H;clear H;obtain⟨Pz,PD,PE,PG,P9,Qa,Qb,Qc⟩:=fB nW
      go_wp2
      go_meet
      case rel=>exact⟨_,((aH != 3)),dx,H',⟨by have:=HJ1.out;first|omega|exact Nat.le_refl _⟩,⟨fU nW⟩,⟨ai⟩⟩
    case rest=>
     clear HC12
     try clear c1
     try clear p2
     try clear c4
     try clear iH
     try clear c6
     try clear jv
     try clear c8
     try clear jw
     try clear c11
     try clear c12
     try clear c13
     try clear uf
     try clear Fb
     try clear wG
     try clear wH
     try clear wI
     try clear Aj
     try clear Al
     try clear Am
     try clear Ao
     try clear Ap
     try clear Pz
     try clear PD
     try clear PE
     try clear PG
     try clear TU
     try clear TV
     try clear TW
     try clear TY
     try clear yh
     try clear yj
     try clear yo
     try clear Ay
     try clear Jh
     try clear Ji
     try clear Jj
     try clear Jk
     try clear wJ
     try clear wK
     try clear wL
     try clear Az
     try clear AA
     try clear AB
     try clear AJ
     try clear AL
     try clear P9
     try clear Qa
     try clear Qb
     try clear Qc
     try clear Uv
     try clear Uw
     try clear Ux
     try clear Uy
     try clear yu
     try clear yw
     try clear yx
     try clear AV
     try clear Jq
     try clear Jr
     try clear Js
     try clear Jt
     try clear p2
     obtain⟨kq,Ob,rfl,HA,HJ11,nW,HB⟩:=hcut
     cases kq with
     |zero=>exact absurd HA.out (by simp[lq.j1])
     |succ kj11=>
      have H:=HA.out;clear HA;simp only[lq.j1]at H
      by_cases c16:Ob=true
      ·subst c16;rw[if_pos rfl]at H
       by_cases c17:bg.toList=([]:List UInt8)
       ·rw[if_pos c17]at H;have c17b0:(bg.toList==([]:List UInt8))=true:=beq_iff_eq.mpr c17;have c17b1:(bg.toList != ([]:List UInt8))=false:=bne_eq_false_iff_eq.mpr c17;clear c17;obtain rfl:=Option.some.inj H;obtain⟨Aq,Ar,Au,Aw,AO,AP,AQ,AU⟩:=fB nW
        go_wp2
        go_ret
        exact⟨bS,ai⟩
       ·rw[if_neg c17]at H;have c17b0:(bg.toList==([]:List UInt8))=false:=beq_eq_false_iff_ne.mpr c17;have c17b1:(bg.toList != ([]:List UInt8))=true:=bne_iff_ne.mpr c17;obtain rfl:=Option.some.inj H;obtain⟨L9,Ma,Mc,Md,MC,ME,MF,MG⟩:=fB nW
        go_wp2
        go_ret
        exact⟨bS,ai⟩
      ·replace c16:=Bool.eq_false_iff.mpr c16;subst c16;rw[if_neg (show ¬(false=true) by decide)]at H
       by_cases c20:(bg.size:Int)<1
       ·rw[if_pos c20]at H;have c20b0:decide ((bg.size:Int)<1)=true:=decide_eq_true c20;have c20b1:decide (bg.size<1)=true:=decide_eq_true (by omega);clear c20;obtain rfl:=Option.some.inj H;obtain⟨hcz21_0,hcz21_1,hcz21_2,hcz21_3,hfz21_0,hfz21_1,hfz21_2,hfz21_3⟩:=fB nW
        go_wp2
        go_ret
        exact⟨bS,ai⟩
       ·rw[if_neg c20]at H;have c20b0:decide ((bg.size:Int)<1)=false:=decide_eq_false c20;have c20b1:decide (bg.size<1)=false:=decide_eq_false (by omega);clear c20
        by_cases nI:(bg.size:Int)>32
        ·rw[if_pos nI]at H;have c22b0:decide (32<(bg.size:Int))=true:=decide_eq_true nI;have c22b1:decide (32<bg.size)=true:=decide_eq_true (by omega);clear nI;obtain rfl:=Option.some.inj H;obtain⟨hcz23_0,hcz23_1,hcz23_2,hcz23_3,hfz23_0,hfz23_1,hfz23_2,hfz23_3⟩:=fB nW
         go_wp2
         go_ret
         exact⟨bS,ai⟩
        ·rw[if_neg nI]at H;have c22b0:decide (32<(bg.size:Int))=false:=decide_eq_false nI;have c22b1:decide (32<bg.size)=false:=decide_eq_false (by omega);clear nI
         by_cases c24:(bn.size:Int)>32
         ·rw[if_pos c24]at H;have OY:decide (32<(bn.size:Int))=true:=decide_eq_true c24;have OZ:decide (32<bn.size)=true:=decide_eq_true (by omega);clear c24;obtain rfl:=Option.some.inj H;obtain⟨hcz25_0,hcz25_1,hcz25_2,hcz25_3,hfz25_0,hfz25_1,hfz25_2,hfz25_3⟩:=fB nW
          go_wp2
          go_ret
          exact⟨bS,ai⟩
         ·rw[if_neg c24]at H;have OY:decide (32<(bn.size:Int))=false:=decide_eq_false c24;have OZ:decide (32<bn.size)=false:=decide_eq_false (by omega);clear c24
          by_cases oG:aH=2
          ·rw[if_pos oG]at H;have O0:(aH==2)=true:=beq_iff_eq.mpr oG;have O1:(aH != 2)=false:=bne_eq_false_iff_eq.mpr oG;clear oG;obtain rfl:=Option.some.inj H;obtain⟨TJ,TK,TL,TM,Uk,Ul,Um,Un⟩:=fB nW
           go_wp2
           go_ret
           exact⟨bS,ai⟩
          ·rw[if_neg oG]at H;have O0:(aH==2)=false:=beq_eq_false_iff_ne.mpr oG;have O1:(aH != 2)=true:=bne_iff_ne.mpr oG;obtain rfl:=Option.some.inj H;obtain⟨Jd,Je,Jf,Mi,Jl,Jm,Jo,ML⟩:=fB nW
           go_wp2
           go_ret
           exact⟨bS,ai⟩
def Fh.f(a0:ByteArray)(a1:ByteArray):Option (ByteArray×Int):=if 1+a1.size≤9223372036854775807 then((gI.f a0 ((⟨#[5]⟩:ByteArray)++a1)).bind fun Iy=>(some (Iy.1,Iy.2)))else(none)
theorem Fh.calls(a0:ByteArray)(a1:ByteArray)(r1:ByteArray)(r2:Int)(w:World)(h:Fh.f a0 a1=some (r1,r2)):
  Calls Tryz.prog 130 #[.string a0,.string a1] w fun e w'=>e=.returned (.tuple #[.string r1,.int .i64 r2])∧Below w.heap.size w w':=by
 have HB:=af.mk (Below.refl w.heap.size w);have H:(if 1+a1.size≤9223372036854775807 then((gI.f a0 ((⟨#[5]⟩:ByteArray)++a1)).bind fun Iy=>(some (Iy.1,Iy.2)))else(none))=some (r1,r2):=h;clear h
 by_cases c3:1+a1.size≤9223372036854775807
 ·rw[if_pos c3]at H;have fJ:=eq_true c3;have jV:decide (1+a1.size≤9223372036854775807)=true:=decide_eq_true c3
  try have vz:(9223372036854775807<1+a1.size)=False:=eq_false (Nat.not_lt.2 c3)
  replace H:=Option.bind_eq_some_iff.mp H;obtain⟨⟨t280,t281⟩,oC,H⟩:=H;(try dsimp only at H);have A4:=af.mk oC;clear oC;simp only[Option.some.injEq,Prod.mk.injEq]at H;obtain⟨rfl,rfl⟩:=H
  go_enter Tryz.func130,Tryz.ntmps130
  go_wp2_with (first|((with_reducible refine bq (f:=27) rfl ?_);refine bC 9 Tryz.func27 #[.string a0,.string ((⟨#[5]⟩:ByteArray)++a1)] rfl ?_;(with_reducible refine(gI.calls a0 ((⟨#[5]⟩:ByteArray)++a1) t280 t281 _ A4.out).mono ?_);rintro e w5 ⟨rfl,hb⟩;refine⟨_,rfl,?_⟩;replace HB:=af.mk (av ai hb);(try clear hb);(try clear hb2);(try clear hk);(try clear hi)))
  go_ret2
  exact⟨bS,ai⟩
 ·rw[if_neg c3]at H;exact absurd H (by simp)
end Go.Proofs.YtdcddenojjdmjaaGreatDoor.T
