import Derived.Test.YtdcddenojjdmjaaGreatDoorM23
set_option linter.all false
set_option maxHeartbeats 8000000
set_option maxRecDepth 100000
namespace Go.Proofs.YtdcddenojjdmjaaGreatDoor.T
open Go.RowKit Go.Proofs.YtdcddenojjdmjaaGreatDoorW.PrintWords Go.Proofs.YtdcddenojjdmjaaGreatDoorW.PrintLast Go.Proofs.YtdcddenojjdmjaaGreatDoorW.PrintMore
attribute [local go_sem] kH kL kK kP kJ kN kI kM
theorem info198:(Tryz.prog.info? 198).map (fun i=>(i.zero,i.size,i.bytes))=some (some (.agg #[(.int .i64 0),(.int .i64 0),(.int .i64 0),(.bool false)]),4,32):=by kernel_rfl
def iL.l0:Nat→List (aj)→List (eB)→List (aj)→Int→Int→Option ((List (eB)))
 |0,_,_,_,_,_=>none
 |k+1,x0,x3,x8,x9,x10=>if x10<x9 then(if 0≤x10 then(if x10<(x8.length:Int)then(if x10≤(x0.length:Int)then((jF.f (x0.take (x10:Int).toNat) ((ak x8 x10).f1)).bind fun OP=>(if OP.1=true then(iL.l0 k x0 x3 x8 x9 (wrap64 (x10+1)))else((eF.f x0 x10).bind fun gV=>(if x3.length<4398046511104 then(iL.l0 k x0 (x3++[(⟨gV.1,gV.2.1,gV.2.2.1,gV.2.2.2⟩:eB)]) x8 x9 (wrap64 (x10+1)))else(none)))))else(none))else(none))else(none))else(some x3)
def iL.f(k:Nat)(l0:List (aj)):Option ((List (eB))):=iL.l0 k l0 ([]:List (eB)) l0 (l0.length:Int) 0
def iL.T5:Bool×List (List Nat×List Nat):=(true,[([],[]),([],[]),([0,1],[0,1]),([],[]),([3],[3]),([2,4],[2,4]),([5],[5]),([6],[6]),([6],[6]),([7,5,0,1,2,3,4,5,6,7],[7]),([8,9,0,1,2,3,4,5,6,7,8,9],[8])])
def iL.B5:List Nat:=[0,0,3,0,8,31,63,127,127,255,1023]
theorem iL.tab5:nD .any (opsOf Tryz.f104 5)=iL.T5:=by kernel_rfl
theorem iL.bits5:EB iL.T5.2 iL.B5=true:=by kernel_rfl
theorem iL.calls(k:Nat)(A0:Option Addr)(c0:Nat)(l0:List (aj))(r:List (eB))(w:World)(hr0:Kd.C dw w A0 l0.length l0)(hc0:l0.length≤c0)(h:iL.f k l0=some r):
  Calls Tryz.prog 104 #[.slice A0 l0.length c0] w fun e w'=>∃fE:Value,e=.returned (fE)∧Kd.R jY 198 w' w.heap.size (fun _=>True) fE r∧Below w.heap.size w w':=by
 have wN:=Tryz.underlying67;have cZ:=af.mk hr0;have gT:=af.mk hc0;clear hr0 hc0;have HB:=af.mk (Below.refl w.heap.size w);have H:(iL.l0 k l0 ([]:List (eB)) l0 (l0.length:Int) 0)=some r:=h;clear h;have H':=af.mk H;clear H
 go_enter Tryz.func104,Tryz.ntmps104
 go_wp2
 go_loopg [3,10] k (fun kq v3 v10 w'=>∃(dh:List (eB)) (bT:Int),v10=.int .i64 bT∧af (iL.l0 kq l0 dh l0 (l0.length:Int) bT=some r)∧af (kq≤k)∧af (Kd.R jY 198 w' w.heap.size (fun _=>True) v3 dh)∧af (Below w.heap.size w w'))
 case atStart=>exact⟨(([]:List (eB))),(0),dx,H',⟨Nat.le_refl _⟩,⟨by first|exact Kd.dV _ _ _ _ _|exact Kd.iP _ _ _ _ _|exact Kd.iR _ _ _ _ _|exact Kd.iQ _ _ _ _ _|exact Kd.j5 _ _ _ _ _⟩,⟨ai⟩⟩
 case round=>
  clear H'
  try clear c1
  obtain⟨dh,bT,rfl,HA,dD,dO,HB⟩:=hrel
  cases gk with
  |zero=>exact absurd HA.out (by simp[iL.l0])
  |succ k1=>
   have H:=HA.out;clear HA;simp only[iL.l0]at H
   by_cases c2:bT<(l0.length:Int)
   ·rw[if_pos c2]at H;have ig:decide (bT<(l0.length:Int))=true:=decide_eq_true c2;clear c2
    by_cases c3:0≤bT
    ·rw[if_pos c3]at H;have fJ:decide (0≤bT)=true:=decide_eq_true c3;clear c3
     by_cases c4:bT<(l0.length:Int)
     ·rw[if_pos c4]at H;have iH:decide (bT<(l0.length:Int))=true:=decide_eq_true c4;clear c4;have jW:=eq_true (aG:0≤bT)
      by_cases c6:bT≤(l0.length:Int)
      ·rw[if_pos c6]at H;have jv:=eq_true c6;have xU:decide (bT≤(l0.length:Int))=true:=decide_eq_true c6;clear c6;obtain⟨xh,yF⟩:∃y_:List (aj),y_=(l0.take (bT:Int).toNat):=⟨_,rfl⟩;replace H:((jF.f xh ((ak l0 bT).f1)).bind fun OP=>(if OP.1=true then(iL.l0 k1 l0 dh l0 (l0.length:Int) (wrap64 (bT+1)))else((eF.f l0 bT).bind fun gV=>(if dh.length<4398046511104 then(iL.l0 k1 l0 (dh++[(⟨gV.1,gV.2.1,gV.2.2.1,gV.2.2.2⟩:eB)]) l0 (l0.length:Int) (wrap64 (bT+1)))else(none)))))=some r:=by first|(rw[yF];with_reducible exact H)|(have bP:=(Option.bind_some _ _).symm.trans H;rw[yF];with_reducible exact bP)|(have bP:=(Option.bind_some _ _).symm.trans H;with_reducible exact bP)|with_reducible exact H|(rw[yF];exact H)|exact H
       have EU:=af.mk yF;clear yF;replace H:=Option.bind_eq_some_iff.mp H;obtain⟨⟨t204,t205⟩,xw,H⟩:=H;(try dsimp only at H);have A7:=af.mk xw;clear xw
       by_cases c8:t204=true
       ·subst c8;rw[if_pos rfl]at H;have H':=af.mk H;clear H;have yJ:0≤(bT:Int):=aG;have yP:bT<(l0.length:Int):=aG;obtain⟨zY,IL,Cc,Ce,Cg,JG⟩:=gL cZ.out bT yJ yP
        cases IL
        replace Cc:=aM Cc;replace Ce:=aM Ce;replace Cg:=aM Cg;replace JG:=aM JG;replace yJ:=eq_true yJ;replace yP:=eq_true yP
        try go_wp2_with (first|((with_reducible refine bZ (N:=5) rfl ?_);refine dn 5 (cs:=#[.int .i64 0,.int .i64 0,.string (⟨#[]⟩:ByteArray),.string (⟨#[]⟩:ByteArray)]) (t:=67) ?_;intro eD hg w9 aC hb;replace dO:=dA dO hb;have fV:=af.mk (aC);have GW199:af (w.heap.size≤eD):=aT hg;have GE199:af (w.heap.size≤eD):=aT hg;replace HB:=af.mk (av ai hb);clear hb aC hg;obtain⟨wG,wH,wI,Aj,wJ,wK,wL,Az⟩:=fB fV))
        have dL:af (Kd.R jY 198 ((((w9.setCell ⟨eD,0,none⟩ (.int .i64 ((ak l0 bT).f0))).setCell ⟨eD,1,none⟩ (.int .i64 ((ak l0 bT).f1))).setCell ⟨eD,2,none⟩ (.string ((ak l0 bT).f2))).setCell ⟨eD,3,none⟩ (.string ((ak l0 bT).f3))) w.heap.size (fun _=>True) u3 dh):=⟨by(with_reducible repeat(first|apply Kd.bX|apply Kd.dK|apply Kd.di));exact Kd.bY (Kd.aD (p:=⟨eD,3,none⟩) (Kd.aD (p:=⟨eD,2,none⟩) (Kd.aD (p:=⟨eD,1,none⟩) (Kd.aD (p:=⟨eD,0,none⟩) (Kd.je dO.out fV.out (by decide)) (fun _ hk=>hk.2) (.int .i64 ((ak l0 bT).f0))) (fun _ hk=>hk.2) (.int .i64 ((ak l0 bT).f1))) (fun _ hk=>hk.2) (.string ((ak l0 bT).f2))) (fun _ hk=>hk.2) (.string ((ak l0 bT).f3))) (fun _ hk=>trivial)⟩;have dW:af (((((w9.setCell ⟨eD,0,none⟩ (.int .i64 ((ak l0 bT).f0))).setCell ⟨eD,1,none⟩ (.int .i64 ((ak l0 bT).f1))).setCell ⟨eD,2,none⟩ (.string ((ak l0 bT).f2))).setCell ⟨eD,3,none⟩ (.string ((ak l0 bT).f3))).heap[eD]? =some (.cells #[.int .i64 ((ak l0 bT).f0),.int .i64 ((ak l0 bT).f1),.string ((ak l0 bT).f2),.string ((ak l0 bT).f3)] 67 (0,0))):=⟨by exact rW fV.out⟩;have dX:af (Below w.heap.size w ((((w9.setCell ⟨eD,0,none⟩ (.int .i64 ((ak l0 bT).f0))).setCell ⟨eD,1,none⟩ (.int .i64 ((ak l0 bT).f1))).setCell ⟨eD,2,none⟩ (.string ((ak l0 bT).f2))).setCell ⟨eD,3,none⟩ (.string ((ak l0 bT).f3)))):=⟨ai⟩;(try clear dO);(try clear fV);(try clear HB);generalize ((((w9.setCell ⟨eD,0,none⟩ (.int .i64 ((ak l0 bT).f0))).setCell ⟨eD,1,none⟩ (.int .i64 ((ak l0 bT).f1))).setCell ⟨eD,2,none⟩ (.string ((ak l0 bT).f2))).setCell ⟨eD,3,none⟩ (.string ((ak l0 bT).f3)))=y9 at dL dW dX ⊢;have dO:=dL;have fV:=dW;have HB:=dX;clear dL dW dX;replace dO:=af.mk (Kd.di dO.out);replace fV:=af.mk (bf fV.out);replace HB:=af.mk (mH HB.out);have q13:(bT:Int)≤((l0.length:Int):Int):=aG;obtain⟨i013,hi013,_,hsz13,_⟩:=info_parts wO;have UL:l0.length≤c0:=gT.out;have hC13:Kd.C dw _ (some zY) l0.length l0:=cZ.out;have hcut13:=SQ (P:=Tryz.prog) 22 67 .i64 Tryz.underlying22 hi013 (some zY) l0.length c0 bT (aG) q13 UL;have hr13:=Kd.GU (m:=(bT:Int).toNat) hC13 (by omega);have hy13:xh.length=(bT:Int).toNat:=(by rw[EU.out,List.length_take];omega);rw[← EU.out]at hr13;rw[← hy13]at hcut13;have Hr:=af.mk hr13;have Ol:=af.mk (show xh.length≤c0 from by omega);clear hr13 hC13 UL hi013 hsz13;have KY13:=af.mk hy13;clear hy13;replace q13:=eq_true q13;refine gZ (n:=11) (S:=fun w'=>w'.cell? ⟨eD,0,none⟩=some (.int .i64 ((ak l0 bT).f0))∧w'.cell? ⟨eD,1,none⟩=some (.int .i64 ((ak l0 bT).f1))∧w'.cell? ⟨eD,2,none⟩=some (.string ((ak l0 bT).f2))∧w'.cell? ⟨eD,3,none⟩=some (.string ((ak l0 bT).f3))) (ds:=[]) #[false,false,false,false,false,false,false,false,false,false,false] (by kernel_rfl) rfl rfl ⟨(ah fV.out 0).trans rfl,(ah fV.out 1).trans rfl,(ah fV.out 2).trans rfl,(ah fV.out 3).trans rfl⟩ (fun hHeld=>?_);refine KY iL.tab5 iL.bits5 (fun HT_ HW_=>?_);generalize y9.drew=w12 at dO fV HB Hr hHeld ⊢;refine au 0 16 ?_;refine au 1 17 ?_;refine au 2 18 ?_;refine au 3 19 ?_;refine bU 4 20 hHeld (by rintro w' ⟨s0,s1,s2,s3⟩;go_simp;with_reducible rfl) ?_ rfl rfl;refine fu 5 (N:=some 21) rfl rfl fun K hK=>?_
        refine gF Tryz.func96 (by kernel_rfl) rfl #[.slice (some zY) xh.length c0,.int .i64 ((ak l0 bT).f1)] (by rfl) rfl rfl uI ?_
        with_reducible refine(jF.calls _ _ xh ((ak l0 bT).f1) true t205 _ ?aQ ?aW A7.out).mono ?_
        (case aQ=>exact jr Hr);(case aW=>exact Ol.out);rintro e w14 ⟨rfl,hb⟩;refine⟨_,rfl,?_⟩;replace dO:=dA dO hb;replace fV:=bQ fV hb;replace HB:=af.mk (av ai hb);(try clear hb);(try clear hb2);(try clear hk);(try clear hi);refine hK.out _ _ ⟨(ah fV.out 0).trans rfl,(ah fV.out 1).trans rfl,(ah fV.out 2).trans rfl,(ah fV.out 3).trans rfl⟩ (fun hHeld=>?_);clear hK K;refine dM ?_;refine au 6 15 ?_;refine au 7 22 ?_;refine au 8 23 ?_;refine au 9 6 ?_;refine au 10 7 ?_;refine gJ ?_
        try go_wp2
        go_roundg k1
        case measure=>have:=dD.out;omega
        case rel=>exact⟨(dh),(wrap64 (bT+1)),dx,H',⟨by have:=dD.out;omega⟩,⟨dZ dO⟩,⟨ai⟩⟩
       ·replace c8:=Bool.eq_false_iff.mpr c8;subst c8;rw[if_neg (show ¬(false=true) by decide)]at H;replace H:=Option.bind_eq_some_iff.mp H;obtain⟨⟨t206,t207,t208,t209⟩,Bv,H⟩:=H;(try dsimp only at H);have uN:=af.mk Bv;clear Bv
        by_cases c16:dh.length<4398046511104
        ·rw[if_pos c16]at H;have Ot:=af.mk c16;clear c16;obtain⟨y210,J5⟩:∃y_:List (eB),y_=(dh++[(⟨t206,t207,t208,t209⟩:eB)]):=⟨_,rfl⟩;replace H:(iL.l0 k1 l0 y210 l0 (l0.length:Int) (wrap64 (bT+1)))=some r:=by first|(rw[J5];with_reducible exact H)|(have bP:=(Option.bind_some _ _).symm.trans H;rw[J5];with_reducible exact bP)|(have bP:=(Option.bind_some _ _).symm.trans H;with_reducible exact bP)|with_reducible exact H|(rw[J5];exact H)|exact H
         have Ny210:=af.mk J5;clear J5;have H':=af.mk H;clear H;have yJ:0≤(bT:Int):=aG;have yP:bT<(l0.length:Int):=aG;obtain⟨zY,IL,Cc,Ce,Cg,JG⟩:=gL cZ.out bT yJ yP
         cases IL
         replace Cc:=aM Cc;replace Ce:=aM Ce;replace Cg:=aM Cg;replace JG:=aM JG;replace yJ:=eq_true yJ;replace yP:=eq_true yP
         try go_wp2_with (first|((with_reducible refine bZ (N:=5) rfl ?_);refine dn 5 (cs:=#[.int .i64 0,.int .i64 0,.string (⟨#[]⟩:ByteArray),.string (⟨#[]⟩:ByteArray)]) (t:=67) ?_;intro eD hg w17 aC hb;replace dO:=dA dO hb;have fV:=af.mk (aC);have GW199:af (w.heap.size≤eD):=aT hg;have GE199:af (w.heap.size≤eD):=aT hg;replace HB:=af.mk (av ai hb);clear hb aC hg;obtain⟨Aq,Ar,Au,Aw,AO,AP,AQ,AU⟩:=fB fV))
         have dL:af (Kd.R jY 198 ((((w17.setCell ⟨eD,0,none⟩ (.int .i64 ((ak l0 bT).f0))).setCell ⟨eD,1,none⟩ (.int .i64 ((ak l0 bT).f1))).setCell ⟨eD,2,none⟩ (.string ((ak l0 bT).f2))).setCell ⟨eD,3,none⟩ (.string ((ak l0 bT).f3))) w.heap.size (fun _=>True) u3 dh):=⟨by(with_reducible repeat(first|apply Kd.bX|apply Kd.dK|apply Kd.di));exact Kd.bY (Kd.aD (p:=⟨eD,3,none⟩) (Kd.aD (p:=⟨eD,2,none⟩) (Kd.aD (p:=⟨eD,1,none⟩) (Kd.aD (p:=⟨eD,0,none⟩) (Kd.je dO.out fV.out (by decide)) (fun _ hk=>hk.2) (.int .i64 ((ak l0 bT).f0))) (fun _ hk=>hk.2) (.int .i64 ((ak l0 bT).f1))) (fun _ hk=>hk.2) (.string ((ak l0 bT).f2))) (fun _ hk=>hk.2) (.string ((ak l0 bT).f3))) (fun _ hk=>trivial)⟩;have dW:af (((((w17.setCell ⟨eD,0,none⟩ (.int .i64 ((ak l0 bT).f0))).setCell ⟨eD,1,none⟩ (.int .i64 ((ak l0 bT).f1))).setCell ⟨eD,2,none⟩ (.string ((ak l0 bT).f2))).setCell ⟨eD,3,none⟩ (.string ((ak l0 bT).f3))).heap[eD]? =some (.cells #[.int .i64 ((ak l0 bT).f0),.int .i64 ((ak l0 bT).f1),.string ((ak l0 bT).f2),.string ((ak l0 bT).f3)] 67 (0,0))):=⟨by exact rW fV.out⟩;have dX:af (Below w.heap.size w ((((w17.setCell ⟨eD,0,none⟩ (.int .i64 ((ak l0 bT).f0))).setCell ⟨eD,1,none⟩ (.int .i64 ((ak l0 bT).f1))).setCell ⟨eD,2,none⟩ (.string ((ak l0 bT).f2))).setCell ⟨eD,3,none⟩ (.string ((ak l0 bT).f3)))):=⟨ai⟩;(try clear dO);(try clear fV);(try clear HB);generalize ((((w17.setCell ⟨eD,0,none⟩ (.int .i64 ((ak l0 bT).f0))).setCell ⟨eD,1,none⟩ (.int .i64 ((ak l0 bT).f1))).setCell ⟨eD,2,none⟩ (.string ((ak l0 bT).f2))).setCell ⟨eD,3,none⟩ (.string ((ak l0 bT).f3)))=w19 at dL dW dX ⊢;have dO:=dL;have fV:=dW;have HB:=dX;clear dL dW dX;replace dO:=af.mk (Kd.di dO.out);replace fV:=af.mk (bf fV.out);replace HB:=af.mk (mH HB.out);have q21:(bT:Int)≤((l0.length:Int):Int):=aG;obtain⟨i021,hi021,_,hsz21,_⟩:=info_parts wO;have UM:l0.length≤c0:=gT.out;have hC21:Kd.C dw _ (some zY) l0.length l0:=cZ.out;have hcut21:=SQ (P:=Tryz.prog) 22 67 .i64 Tryz.underlying22 hi021 (some zY) l0.length c0 bT (aG) q21 UM;have hr21:=Kd.GU (m:=(bT:Int).toNat) hC21 (by omega);have hy21:xh.length=(bT:Int).toNat:=(by rw[EU.out,List.length_take];omega);rw[← EU.out]at hr21;rw[← hy21]at hcut21;have Hr:=af.mk hr21;have Ol:=af.mk (show xh.length≤c0 from by omega);clear hr21 hC21 UM hi021 hsz21;have KY21:=af.mk hy21;clear hy21;replace q21:=eq_true q21;refine gZ (n:=11) (S:=fun w'=>w'.cell? ⟨eD,0,none⟩=some (.int .i64 ((ak l0 bT).f0))∧w'.cell? ⟨eD,1,none⟩=some (.int .i64 ((ak l0 bT).f1))∧w'.cell? ⟨eD,2,none⟩=some (.string ((ak l0 bT).f2))∧w'.cell? ⟨eD,3,none⟩=some (.string ((ak l0 bT).f3))) (ds:=[]) #[false,false,false,false,false,false,false,false,false,false,false] (by kernel_rfl) rfl rfl ⟨(ah fV.out 0).trans rfl,(ah fV.out 1).trans rfl,(ah fV.out 2).trans rfl,(ah fV.out 3).trans rfl⟩ (fun hHeld=>?_);refine KY iL.tab5 iL.bits5 (fun HT_ HW_=>?_);generalize w19.drew=w20 at dO fV HB Hr hHeld ⊢;refine au 0 16 ?_;refine au 1 17 ?_;refine au 2 18 ?_;refine au 3 19 ?_;refine bU 4 20 hHeld (by rintro w' ⟨s0,s1,s2,s3⟩;go_simp;with_reducible rfl) ?_ rfl rfl;refine fu 5 (N:=some 21) rfl rfl fun K hK=>?_
         refine gF Tryz.func96 (by kernel_rfl) rfl #[.slice (some zY) xh.length c0,.int .i64 ((ak l0 bT).f1)] (by rfl) rfl rfl uI ?_
         with_reducible refine(jF.calls _ _ xh ((ak l0 bT).f1) false t205 _ ?aQ ?aW A7.out).mono ?_
         (case aQ=>exact jr Hr);(case aW=>exact Ol.out);rintro e w22 ⟨rfl,hb⟩;refine⟨_,rfl,?_⟩;replace dO:=dA dO hb;replace fV:=bQ fV hb;replace HB:=af.mk (av ai hb);(try clear hb);(try clear hb2);(try clear hk);(try clear hi);refine hK.out _ _ ⟨(ah fV.out 0).trans rfl,(ah fV.out 1).trans rfl,(ah fV.out 2).trans rfl,(ah fV.out 3).trans rfl⟩ (fun hHeld=>?_);clear hK K;refine dM ?_;refine au 6 15 ?_;refine au 7 22 ?_;refine au 8 23 ?_;refine au 9 6 ?_;refine au 10 7 ?_;refine gJ ?_
         try go_wp2_with (first|((with_reducible refine bq (f:=158) rfl ?_);refine bC 29 Tryz.func158 #[.slice (some zY) l0.length c0,.int .i64 bT] rfl ?_;(with_reducible refine(eF.calls _ _ l0 bT t206 t207 t208 t209 _ ?aQ ?aW uN.out).mono ?_);(case aQ=>exact jr cZ);(case aW=>exact gT.out);rintro e w23 ⟨rfl,hb⟩;refine⟨_,rfl,?_⟩;replace dO:=dA dO hb;replace fV:=bQ fV hb;replace HB:=af.mk (av ai hb);(try clear hb);(try clear hb2);(try clear hk);(try clear hi))|((with_reducible refine jN (b:=.append) (xs:=#[.tmp 26,.tmp 30]) rfl ?_);at_builtin;refine Kd.kY jY (w0:=w) w.heap.size rfl (.tmp 26) (.tmp 30) 195 198 (.agg #[(.int .i64 0),(.int .i64 0),(.int .i64 0),(.bool false)]) 32 rfl Tryz.underlying195 info198 rfl (by decide) (by omega) u3 dh (⟨t206,t207,t208,t209⟩:eB) [.int .i64 t206,.int .i64 t207,.int .i64 t208,.bool t209] (fun _=>True) (fun _=>False) rfl rfl ?aP (fun _ hk=>hk.elim) ?aF ?aO ?aB ?aS ?aL ?_;(case aP=>exact M8 _ _ _ (⟨t206,t207,t208,t209⟩:eB));(case aB=>exact ai);(case aF=>exact(fun _ _=>trivial));(case aO=>exact(dZ dO));(case aS=>exact(fI ai));(case aL=>have:=Ot.out;omega);intro v211 wY ho hb hg hat;rw[← Ny210.out]at ho;have dL:=af.mk (fP (g:=eD) (o:=.cells #[.int .i64 ((ak l0 bT).f0),.int .i64 ((ak l0 bT).f1),.string ((ak l0 bT).f2),.string ((ak l0 bT).f3)] 67 (0,0)) (fU fV) hg (Kd.jK dO.out fV.out (by decide)));have dW:=af.mk (hb);have dX:=af.mk (ho);clear fV HB dO;have fV:=dL;have HB:=dW;have HO212:=dX;clear dL dW dX ho hb hg hat))
         go_roundg k1
         case measure=>have:=dD.out;omega
         case rel=>exact⟨(y210),(wrap64 (bT+1)),dx,H',⟨by have:=dD.out;omega⟩,⟨dZ HO212⟩,⟨ai⟩⟩
        ·rw[if_neg c16]at H;exact absurd H (by simp)
      ·rw[if_neg c6]at H;exact absurd H (by simp)
     ·rw[if_neg c4]at H;exact absurd H (by simp)
    ·rw[if_neg c3]at H;exact absurd H (by simp)
   ·rw[if_neg c2]at H;have ig:decide (bT<(l0.length:Int))=false:=decide_eq_false c2;clear c2;obtain rfl:=Option.some.inj H
    go_wp2
    go_ret
    exact⟨_,bS,by(with_reducible repeat(first|apply Kd.bX|apply Kd.dK|apply Kd.di));exact dO.out,ai⟩
def iE.f(l0:List (aj))(a1:Int):Option (Bool):=(uE.f l0 a1).bind fun t216=>(if t216=true then(if 0≤a1 then(if a1<(l0.length:Int)then((dP.f l0 ((ak l0 a1).f1) ((ak l0 a1).f2) a1).bind fun t219=>(some (decide (t219<0))))else(none))else(none))else(some false))
def iE.T1:Bool×List (List Nat×List Nat):=(true,[([],[]),([],[]),([0,1],[0,1]),([2,2],[2]),([3],[3]),([3],[3]),([3],[3]),([5,6,3],[3,5,6]),([7,3],[3,7]),([8,3],[3,8]),([3],[3]),([3],[3]),([10,11,3],[3,10,11]),([12,3],[3,12]),([13,3],[3,13]),([3],[3]),([4,9,14,15,3,3],[3,4,9,14,15]),([16,3],[3,16]),([3,17],[3,17]),([18,16,0,1,2,3,4,5,6,7,8,9,10,11,12,13,14,15,16,17,18],[18])])
def iE.B1:List Nat:=[0,0,3,7,15,15,15,111,239,495,15,15,3087,7183,15375,15,65535,131071,262143,524287]
theorem iE.tab1:nD .any (opsOf Tryz.f154 1)=iE.T1:=by kernel_rfl
theorem iE.bits1:EB iE.T1.2 iE.B1=true:=by kernel_rfl
theorem iE.calls(A0:Option Addr)(c0:Nat)(l0:List (aj))(a1:Int)(r:Bool)(w:World)(hr0:Kd.C dw w A0 l0.length l0)(hc0:l0.length≤c0)(h:iE.f l0 a1=some r):
  Calls Tryz.prog 154 #[.slice A0 l0.length c0,.int .i64 a1] w fun e w'=>e=.returned (.bool r)∧Below w.heap.size w w':=by
 have cZ:=af.mk hr0;have gT:=af.mk hc0;clear hr0 hc0;have HB:=af.mk (Below.refl w.heap.size w);have H:((uE.f l0 a1).bind fun t216=>(if t216=true then(if 0≤a1 then(if a1<(l0.length:Int)then((dP.f l0 ((ak l0 a1).f1) ((ak l0 a1).f2) a1).bind fun t219=>(some (decide (t219<0))))else(none))else(none))else(some false)))=some r:=h;clear h;replace H:=Option.bind_eq_some_iff.mp H;obtain⟨t216,jD,H⟩:=H;(try dsimp only at H);have A3:=af.mk jD;clear jD
 by_cases c4:t216=true
 ·subst c4;rw[if_pos rfl]at H
  by_cases c5:0≤a1
  ·rw[if_pos c5]at H;have jW:decide (0≤a1)=true:=decide_eq_true c5;clear c5
   by_cases c6:a1<(l0.length:Int)
   ·rw[if_pos c6]at H;have jv:decide (a1<(l0.length:Int))=true:=decide_eq_true c6;clear c6;replace H:=Option.bind_eq_some_iff.mp H;obtain⟨t219,xw,H⟩:=H;(try dsimp only at H);have A7:=af.mk xw;clear xw;obtain rfl:=Option.some.inj H
    go_enter Tryz.func154,Tryz.ntmps154
    try go_wp2
    replace HB:=af.mk (mH HB.out);have p217:0≤(a1:Int):=aG;have q217:a1<(l0.length:Int):=aG;obtain⟨qH,e217,MS,MU,MV,MW⟩:=gL cZ.out a1 p217 q217;have FP:=MW;have FO:=MV;have FN:=MU;have FM:=MS
    cases e217
    replace MS:=aM MS;replace MU:=aM MU;replace MV:=aM MV;replace MW:=aM MW;replace p217:=eq_true p217;replace q217:=eq_true q217;have p218:0≤(a1:Int):=aG;have q218:a1<(l0.length:Int):=aG;obtain⟨ad218,e218,MX,MZ,M0,M4⟩:=gL cZ.out a1 p218 q218;have FU:=M4;have FT:=M0;have FR:=MZ;have FQ:=MX;obtain rfl:qH=ad218:=(by injection e218);replace MX:=aM MX;replace MZ:=aM MZ;replace M0:=aM M0;replace M4:=aM M4;replace p218:=eq_true p218;replace q218:=eq_true q218;refine gZ (n:=20) (S:=fun w'=>w'.cell? (qH.add ((a1).toNat*4))=some (.int .i64 ((ak l0 a1).f0))∧w'.cell? ⟨(qH.add ((a1).toNat*4)).block,(qH.add ((a1).toNat*4)).off+1,none⟩=some (.int .i64 ((ak l0 a1).f1))∧w'.cell? ⟨(qH.add ((a1).toNat*4)).block,(qH.add ((a1).toNat*4)).off+2,none⟩=some (.string ((ak l0 a1).f2))∧w'.cell? ⟨(qH.add ((a1).toNat*4)).block,(qH.add ((a1).toNat*4)).off+3,none⟩=some (.string ((ak l0 a1).f3))∧w'.cell? (qH.add ((a1).toNat*4))=some (.int .i64 ((ak l0 a1).f0))∧w'.cell? ⟨(qH.add ((a1).toNat*4)).block,(qH.add ((a1).toNat*4)).off+1,none⟩=some (.int .i64 ((ak l0 a1).f1))∧w'.cell? ⟨(qH.add ((a1).toNat*4)).block,(qH.add ((a1).toNat*4)).off+2,none⟩=some (.string ((ak l0 a1).f2))∧w'.cell? ⟨(qH.add ((a1).toNat*4)).block,(qH.add ((a1).toNat*4)).off+3,none⟩=some (.string ((ak l0 a1).f3))) (ds:=[]) #[false,false,false,false,false,false,false,false,false,false,false,false,false,false,false,false,false,false,false,false] (by kernel_rfl) rfl rfl ⟨((HB.out.cell (World.block_lt_of_cell? w _ FM)).trans FM),((HB.out.cell (World.block_lt_of_cell? w _ FN)).trans FN),((HB.out.cell (World.block_lt_of_cell? w _ FO)).trans FO),((HB.out.cell (World.block_lt_of_cell? w _ FP)).trans FP),((HB.out.cell (World.block_lt_of_cell? w _ FQ)).trans FQ),((HB.out.cell (World.block_lt_of_cell? w _ FR)).trans FR),((HB.out.cell (World.block_lt_of_cell? w _ FT)).trans FT),((HB.out.cell (World.block_lt_of_cell? w _ FU)).trans FU)⟩ (fun hHeld=>?_);refine KY iE.tab1 iE.bits1 (fun HT_ HW_=>?_);generalize w.drew=w8 at HB MS MU MV MW MX MZ M0 M4 hHeld ⊢;refine au 0 5 ?_;refine au 1 6 ?_;refine fu 2 (N:=some 7) rfl rfl fun K hK=>?_
    refine gF Tryz.func188 (by kernel_rfl) rfl #[.slice (some qH) l0.length c0,.int .i64 a1] (by rfl) rfl rfl uI ?_
    with_reducible refine(uE.calls _ _ l0 a1 true _ ?aQ ?aW A3.out).mono ?_
    (case aQ=>exact jr cZ);(case aW=>exact gT.out);rintro e w9 ⟨rfl,hb⟩;refine⟨_,rfl,?_⟩;replace HB:=af.mk (av ai hb);(try clear hb);(try clear hb2);(try clear hk);(try clear hi);refine hK.out _ _ ⟨((HB.out.cell (World.block_lt_of_cell? w _ FM)).trans FM),((HB.out.cell (World.block_lt_of_cell? w _ FN)).trans FN),((HB.out.cell (World.block_lt_of_cell? w _ FO)).trans FO),((HB.out.cell (World.block_lt_of_cell? w _ FP)).trans FP),((HB.out.cell (World.block_lt_of_cell? w _ FQ)).trans FQ),((HB.out.cell (World.block_lt_of_cell? w _ FR)).trans FR),((HB.out.cell (World.block_lt_of_cell? w _ FT)).trans FT),((HB.out.cell (World.block_lt_of_cell? w _ FU)).trans FU)⟩ (fun hHeld=>?_);clear hK K;refine dM ?_;refine au 3 8 ?_;refine au 4 9 ?_;refine au 5 10 ?_;refine au 6 11 ?_;refine au 7 12 ?_;refine au 8 13 ?_;refine au 10 15 ?_;refine au 11 16 ?_;refine au 12 17 ?_;refine au 13 18 ?_;refine au 15 20 ?_;refine bU 9 14 hHeld (by rintro w' ⟨s0,s1,s2,s3,s4,s5,s6,s7⟩;go_simp;with_reducible rfl) ?_ rfl rfl;refine bU 14 19 hHeld (by rintro w' ⟨s0,s1,s2,s3,s4,s5,s6,s7⟩;go_simp;with_reducible rfl) ?_ rfl rfl;refine fu 16 (N:=some 21) rfl rfl fun K hK=>?_
    refine gF Tryz.func189 (by kernel_rfl) rfl #[.slice (some qH) l0.length c0,.int .i64 ((ak l0 a1).f1),.string ((ak l0 a1).f2),.int .i64 a1] (by rfl) rfl rfl uI ?_
    with_reducible refine(dP.calls _ _ l0 ((ak l0 a1).f1) ((ak l0 a1).f2) a1 t219 _ ?aQ ?aW A7.out).mono ?_
    (case aQ=>exact jr cZ);(case aW=>exact gT.out);rintro e w10 ⟨rfl,hb⟩;refine⟨_,rfl,?_⟩;replace HB:=af.mk (av ai hb);(try clear hb);(try clear hb2);(try clear hk);(try clear hi);refine hK.out _ _ ⟨((HB.out.cell (World.block_lt_of_cell? w _ FM)).trans FM),((HB.out.cell (World.block_lt_of_cell? w _ FN)).trans FN),((HB.out.cell (World.block_lt_of_cell? w _ FO)).trans FO),((HB.out.cell (World.block_lt_of_cell? w _ FP)).trans FP),((HB.out.cell (World.block_lt_of_cell? w _ FQ)).trans FQ),((HB.out.cell (World.block_lt_of_cell? w _ FR)).trans FR),((HB.out.cell (World.block_lt_of_cell? w _ FT)).trans FT),((HB.out.cell (World.block_lt_of_cell? w _ FU)).trans FU)⟩ (fun hHeld=>?_);clear hK K;refine dM ?_;refine au 17 22 ?_;refine au 18 23 ?_;refine au 19 4 ?_;refine gJ ?_
    try go_wp2
    go_ret
    exact⟨bS,ai⟩
   ·rw[if_neg c6]at H;exact absurd H (by simp)
  ·rw[if_neg c5]at H;exact absurd H (by simp)
 ·replace c4:=Bool.eq_false_iff.mpr c4;subst c4;rw[if_neg (show ¬(false=true) by decide)]at H;obtain rfl:=Option.some.inj H
  go_enter Tryz.func154,Tryz.ntmps154
  try go_wp2
  replace HB:=af.mk (mH HB.out);refine gZ (n:=20) (S:=fun w'=>True) (ds:=[]) #[false,false,false,false,false,false,false,false,false,false,false,false,false,false,false,false,false,false,false,false] (by kernel_rfl) rfl rfl trivial (fun hHeld=>?_);refine KY iE.tab1 iE.bits1 (fun HT_ HW_=>?_);generalize w.drew=y9 at HB hHeld ⊢;refine au 0 5 ?_;refine au 1 6 ?_;refine fu 2 (N:=some 7) rfl rfl fun K hK=>?_
  refine gF Tryz.func188 (by kernel_rfl) rfl #[.slice A0 l0.length c0,.int .i64 a1] (by rfl) rfl rfl uI ?_
  with_reducible refine(uE.calls _ _ l0 a1 false _ ?aQ ?aW A3.out).mono ?_
  (case aQ=>exact jr cZ);(case aW=>exact gT.out);rintro e w12 ⟨rfl,hb⟩;refine⟨_,rfl,?_⟩;replace HB:=af.mk (av ai hb);(try clear hb);(try clear hb2);(try clear hk);(try clear hi);refine hK.out _ _ trivial (fun hHeld=>?_);clear hK K;refine dM ?_;refine au 3 8 ?_;refine uJ 4 9 ?_;refine uJ 5 10 ?_;refine uJ 6 11 ?_;refine uJ 7 12 ?_;refine uJ 8 13 ?_;refine uJ 9 14 ?_;refine uJ 10 15 ?_;refine uJ 11 16 ?_;refine uJ 12 17 ?_;refine uJ 13 18 ?_;refine uJ 14 19 ?_;refine uJ 15 20 ?_;refine uJ 16 21 ?_;refine uJ 17 22 ?_;refine au 18 23 ?_;refine au 19 4 ?_;refine gJ ?_
  try go_wp2
  go_ret
  exact⟨bS,ai⟩
end Go.Proofs.YtdcddenojjdmjaaGreatDoor.T
namespace Go.Proofs.YtdcddenojjdmjaaGreatDoor.T
open Go.RowKit Go.Proofs.YtdcddenojjdmjaaGreatDoorW.PrintWords Go.Proofs.YtdcddenojjdmjaaGreatDoorW.PrintLast Go.Proofs.YtdcddenojjdmjaaGreatDoorW.PrintMore
open Go.Sort (Holds putRow putCells grow mapBlock onCells)
theorem aam{α:Type}[Inhabited α](enc:α→Value)(d:Array α)(cur:Array Value)(h:d.size≤cur.size):(putCells enc 0 d cur).toList.take d.size=d.toList.map enc:=by
 apply List.ext_getElem
 ·simp[putCells];omega
 ·intro i h1 h2;simp at h2;simp[putCells,h2]
theorem QZ{α:Type}[Inhabited α](enc:α→Value){w:World}{g c n e sz base m:Nat}{xs:List Value}(h:w.ownsRow base e sz (.slice (some ⟨g,0,none⟩) n c) n xs)(d:Array α)(hd:d.size=n*sz)(os:Array Obj):
  (grow (putRow enc (Go.Sort.ahead w m) g 0 d) os).ownsRow base e sz (.slice (some ⟨g,0,none⟩) n c) n (d.toList.map enc)∧w.grownBy (grow (putRow enc (Go.Sort.ahead w m) g 0 d) os) (some g):=by
 obtain⟨hl,h2⟩:=h
 rcases h2 with ⟨h2,_⟩|⟨g',c',cur,hv,hb,hh,hnc,hcm,hcs,ht⟩
 ·cases h2
 cases hv
 have hlt:=iB hh;have hle:n*sz≤c*sz:=Nat.mul_le_mul_right _ hnc;refine⟨⟨by simp[hd],.inr ⟨g,c,putCells enc 0 d cur,rfl,hb,?_,hnc,hcm,by simp[putCells,hcs],by rw[← hd];exact aam enc d cur (by omega)⟩⟩,⟨rfl,rfl,rfl,by simp[grow,putRow,mapBlock,Go.Sort.ahead],fun k hk hne=>?_⟩⟩
 ·show(((Go.Sort.ahead w m).heap.modify g (onCells (putCells enc 0 d)))++os)[g]? =_
  rw[Array.getElem?_append_left (by simpa [Go.Sort.ahead]using hlt),Array.getElem?_modify,if_pos rfl]
  show Option.map _ (w.heap[g]?)=_
  rw[hh];rfl
 ·show(((Go.Sort.ahead w m).heap.modify g (onCells (putCells enc 0 d)))++os)[k]? =_
  rw[Array.getElem?_append_left (by simpa [Go.Sort.ahead]using hk),Array.getElem?_modify,if_neg (fun e=>hne (by rw[e]))];rfl
theorem UK{α:Type}[Inhabited α](enc:α→Value){w:World}{g c n e base:Nat}{xs:List α}(hn:xs.length=n)(h:w.ownsRow base e 1 (.slice (some ⟨g,0,none⟩) n c) n (xs.map enc)):Holds enc w g 0 xs.toArray:=by
 obtain⟨hl,h2⟩:=h
 rcases h2 with ⟨h2,_⟩|⟨g',c',cur,hv,hb,hh,hnc,hcm,hcs,ht⟩
 ·cases h2
 cases hv
 intro j hj;simp at hj;refine⟨?_,aA hh _⟩;rw[Nat.zero_add,ah hh j];have:(cur.toList.take (n*1))[j]? =(xs.map enc)[j]? :=by rw[ht]
 rw[List.getElem?_take_of_lt (by omega)]at this;simp[List.getElem?_eq_getElem hj,hj]at this ⊢;exact this
def rf(l:List Int):List Int:=l.mergeSort (fun x y=>decide (x≤y))
theorem Xr(l:List Int):(rf l).length=l.length:=List.length_mergeSort _
theorem sortInts(base:Nat)(v:Value)(xs:List Int)(W:World)(hR:Kd.R (Kd.int .i64) 3 W base (fun _=>True) v xs)(hl:xs.length≤1000000):
  Calls Tryz.prog 105 #[v] W fun e w'=>e=.returned (.tuple #[])∧Kd.R (Kd.int .i64) 3 w' base (fun _=>True) v (rf xs)∧W.grownBy w' v.ownBlock:=by
 rcases Nat.eq_zero_or_pos xs.length with h0|h0
 ·obtain rfl:xs=[]:=List.eq_nil_of_length_eq_zero h0;obtain⟨A,c,rfl⟩:=Kd.fH hR;refine(AnyM.slices_Sort_int_none Tryz.rf A c W).mono ?_;rintro e w' ⟨rfl,rfl⟩;exact⟨rfl,by simpa [rf]using hR,World.grownBy.refl _ _⟩
 ·obtain⟨g,c,rfl,hbg,hgl,_⟩:=Kd.xL hR h0;have hown:=Kd.wQ hR;refine(AnyM.slices_Sort_int Tryz.rf g 0 c xs W (UK (Value.int .i64) rfl hown) hgl (by omega)).mono ?_;rintro e w' ⟨rfl,n,os,rfl⟩;have hq:=QZ (Value.int .i64) (m:=n) hown (rf xs).toArray (by simp[Xr]) os;refine⟨rfl,?_,hq.2⟩;have h1:=hq.1;have:=Kd.EX (enc:=Value.int .i64) (h1:=fun _=>rfl) (ok:=fun _=>True) (xs:=rf xs) (v:=.slice (some ⟨g,0,none⟩) xs.length c) (base:=base) (e:=3) (w:=grow (putRow (Value.int .i64) (Go.Sort.ahead W n) g 0 (rf xs).toArray) os) (by rw[Xr];exact h1) (fun _ _=>trivial);exact this
end Go.Proofs.YtdcddenojjdmjaaGreatDoor.T
