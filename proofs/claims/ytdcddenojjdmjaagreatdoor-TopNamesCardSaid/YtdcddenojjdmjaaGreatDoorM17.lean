import Derived.Test.YtdcddenojjdmjaaGreatDoorM16
set_option linter.all false
set_option maxHeartbeats 8000000
set_option maxRecDepth 100000
namespace Go.Proofs.YtdcddenojjdmjaaGreatDoor.T
open Go.RowKit Go.Proofs.YtdcddenojjdmjaaGreatDoorW.PrintWords Go.Proofs.YtdcddenojjdmjaaGreatDoorW.PrintLast Go.Proofs.YtdcddenojjdmjaaGreatDoorW.PrintMore
attribute [local go_sem] kH kL kK kP kJ kN kI kM
attribute [local go_sem high] eqA29
def nE.l0:Nat→List (aj)→List (lW)→Int→Int→Option ((List (lW)))
 |0,_,_,_,_=>none
 |k+1,x0,x3,x7,x8=>if x8<x7 then((kR.f x0 x8).bind fun E9=>(if(!(E9.1==0)||(!(E9.2.1==0)||(!(E9.2.2==0))))=true then(if x3.length<5864062014805 then(nE.l0 k x0 (x3++[(⟨E9.1,E9.2.1,E9.2.2⟩:lW)]) x7 (wrap64 (x8+1)))else(none))else(nE.l0 k x0 x3 x7 (wrap64 (x8+1)))))else(some x3)
def nE.f(k:Nat)(l0:List (aj)):Option ((List (lW))):=nE.l0 k l0 ([]:List (lW)) (l0.length:Int) 0
theorem nE.calls(k:Nat)(A0:Option Addr)(c0:Nat)(l0:List (aj))(r:List (lW))(w:World)(hr0:Kd.C dw w A0 l0.length l0)(hc0:l0.length≤c0)(h:nE.f k l0=some r):
  Calls Tryz.prog 97 #[.slice A0 l0.length c0] w fun e w'=>∃fE:Value,e=.returned (fE)∧Kd.R k29 29 w' w.heap.size (fun _=>True) fE r∧Below w.heap.size w w':=by
 have hu29:=Tryz.underlying29;have cZ:=af.mk hr0;have gT:=af.mk hc0;clear hr0 hc0;have HB:=af.mk (Below.refl w.heap.size w);have H:(nE.l0 k l0 ([]:List (lW)) (l0.length:Int) 0)=some r:=h;clear h;have H':=af.mk H;clear H
 go_enter Tryz.func97,Tryz.ntmps97
 go_wp2
 go_loopg [3,8] k (fun kq v3 v8 w'=>∃(dh:List (lW)) (eP:Int),v8=.int .i64 eP∧af (nE.l0 kq l0 dh (l0.length:Int) eP=some r)∧af (kq≤k)∧af (Kd.R k29 29 w' w.heap.size (fun _=>True) v3 dh)∧af (Below w.heap.size w w'))
 case atStart=>exact⟨(([]:List (lW))),(0),dx,H',⟨Nat.le_refl _⟩,⟨by first|exact Kd.dV _ _ _ _ _|exact Kd.iP _ _ _ _ _|exact Kd.iR _ _ _ _ _|exact Kd.iQ _ _ _ _ _|exact Kd.j5 _ _ _ _ _⟩,⟨ai⟩⟩
 case round=>
  clear H';obtain⟨dh,eP,rfl,HA,dD,dO,HB⟩:=hrel
  cases gk with
  |zero=>exact absurd HA.out (by simp[nE.l0])
  |succ k1=>
   have H:=HA.out;clear HA;simp only[nE.l0]at H
   by_cases c2:eP<(l0.length:Int)
   ·rw[if_pos c2]at H;have ig:decide (eP<(l0.length:Int))=true:=decide_eq_true c2;clear c2;replace H:=Option.bind_eq_some_iff.mp H;obtain⟨⟨t167,t168,t169⟩,jD,H⟩:=H;(try dsimp only at H);have A3:=af.mk jD;clear jD
    by_cases c4:(!(t167==0)||(!(t168==0)||(!(t169==0))))=true
    ·rw[if_pos c4]at H;have iH:(!(t167==0)||(!(t168==0)||(!(t169==0))))=true:=c4;clear c4
     by_cases c5:dh.length<5864062014805
     ·rw[if_pos c5]at H;have Hu:=af.mk c5;clear c5;obtain⟨y171,J4⟩:∃y_:List (lW),y_=(dh++[(⟨t167,t168,t169⟩:lW)]):=⟨_,rfl⟩;replace H:(nE.l0 k1 l0 y171 (l0.length:Int) (wrap64 (eP+1)))=some r:=by first|(rw[J4];with_reducible exact H)|(have bP:=(Option.bind_some _ _).symm.trans H;rw[J4];with_reducible exact bP)|(have bP:=(Option.bind_some _ _).symm.trans H;with_reducible exact bP)|with_reducible exact H|(rw[J4];exact H)|exact H
      have Ny171:=af.mk J4;clear J4;have H':=af.mk H;clear H
      go_wp2_with (first|((with_reducible refine bq (f:=148) rfl ?_);refine bC 13 Tryz.func148 #[.slice A0 l0.length c0,.int .i64 eP] rfl ?_;(with_reducible refine(kR.calls _ _ l0 eP t167 t168 t169 _ ?aQ ?aW A3.out).mono ?_);(case aQ=>exact jr cZ);(case aW=>exact gT.out);rintro e w6 ⟨rfl,hb⟩;refine⟨_,rfl,?_⟩;replace dO:=dA dO hb;replace HB:=af.mk (av ai hb);(try clear hb);(try clear hb2);(try clear hk);(try clear hi))|((with_reducible refine bZ (N:=5) rfl ?_);refine dn 5 (cs:=#[.int .i64 0,.int .i64 0,.int .i64 0]) (t:=29) ?_;intro pX hg w7 aC hb;replace dO:=af.mk (Kd.gD (Kd.Dh (dZ dO) pX (Nat.le_of_eq hg.symm)) hb);have CY:=af.mk (aC);have GW170:af (w.heap.size≤pX):=aT hg;have GE170:af (w.heap.size≤pX):=aT hg;replace HB:=af.mk (av ai hb);clear hb aC hg;obtain⟨Fy,Fz,FB,FC,FD,FE⟩:=uK CY)|((with_reducible refine jN (b:=.append) (xs:=#[.tmp 17,.tmp 19]) rfl ?_);at_builtin;refine Kd.kY k29 (w0:=w) w.heap.size rfl (.tmp 17) (.tmp 19) 186 29 (.agg #[(.int .i64 0),(.int .i64 0),(.int .i64 0)]) 24 rfl Tryz.underlying186 info29 rfl (by decide) (by omega) u3 dh (⟨t167,t168,t169⟩:lW) [.int .i64 t167,.int .i64 t168,.int .i64 t169] (fun k_=>k_≠pX) (fun _=>False) rfl (by first|(go_simp;done)|(go_simp;rfl)) ?aP (fun _ hk=>hk.elim) ?aF ?aO ?aB ?aS ?aL ?_;(case aP=>exact k29_mkM _ _ _ (⟨t167,t168,t169⟩:lW));(case aB=>exact ai);(case aF=>exact(fun k_ hk=>Kd.Pp (g:=pX) (o:=.cells #[.int .i64 t167,.int .i64 t168,.int .i64 t169] 29 (0,0)) (by exact Br CY.out) k_ hk));(case aO=>exact(by(with_reducible repeat(first|apply Kd.bX|apply Kd.dK|apply Kd.di));exact Kd.bY (Kd.aD (p:=⟨pX,2,none⟩) (Kd.aD (p:=⟨pX,1,none⟩) (Kd.aD (p:=⟨pX,0,none⟩) (Kd.bY dO.out (fun k_ hk=>(⟨hk,hk.2⟩:_∧k_≠pX))) (fun _ hk=>hk.2) (.int .i64 t167)) (fun _ hk=>hk.2) (.int .i64 t168)) (fun _ hk=>hk.2) (.int .i64 t169)) (fun _ hk=>hk.1.2)));(case aS=>exact(fI ai));(case aL=>have:=Hu.out;omega);intro v172 w9 ho hb hg hat;rw[← Ny171.out]at ho;have dL:=af.mk (fP (g:=pX) (o:=.cells #[.int .i64 t167,.int .i64 t168,.int .i64 t169] 29 (0,0)) (by exact Br CY.out) hg (Kd.Ox dO.out (fun _ hk=>hk.2)));have dW:=af.mk (hb);have dX:=af.mk (ho);clear CY HB dO;have CY:=dL;have HB:=dW;have Da:=dX;clear dL dW dX ho hb hg hat))
      go_roundg k1
      case measure=>have:=dD.out;omega
      case rel=>exact⟨(y171),(wrap64 (eP+1)),dx,H',⟨by have:=dD.out;omega⟩,⟨by(with_reducible repeat(first|apply Kd.bX|apply Kd.dK|apply Kd.di));exact Kd.bY Da.out (fun _ hk=>trivial)⟩,⟨ai⟩⟩
     ·rw[if_neg c5]at H;exact absurd H (by simp)
    ·rw[if_neg c4]at H;have iH:(!(t167==0)||(!(t168==0)||(!(t169==0))))=false:=by simpa using c4
     clear c4;have H':=af.mk H;clear H
     go_wp2_with (first|((with_reducible refine bq (f:=148) rfl ?_);refine bC 13 Tryz.func148 #[.slice A0 l0.length c0,.int .i64 eP] rfl ?_;(with_reducible refine(kR.calls _ _ l0 eP t167 t168 t169 _ ?aQ ?aW A3.out).mono ?_);(case aQ=>exact jr cZ);(case aW=>exact gT.out);rintro e w10 ⟨rfl,hb⟩;refine⟨_,rfl,?_⟩;replace dO:=dA dO hb;replace HB:=af.mk (av ai hb);(try clear hb);(try clear hb2);(try clear hk);(try clear hi))|((with_reducible refine bZ (N:=5) rfl ?_);refine dn 5 (cs:=#[.int .i64 0,.int .i64 0,.int .i64 0]) (t:=29) ?_;intro pX hg y9 aC hb;replace dO:=af.mk (Kd.gD (Kd.Dh (dZ dO) pX (Nat.le_of_eq hg.symm)) hb);have CY:=af.mk (aC);have GW170:af (w.heap.size≤pX):=aT hg;have GE170:af (w.heap.size≤pX):=aT hg;replace HB:=af.mk (av ai hb);clear hb aC hg;obtain⟨BS,BU,BV,BX,BZ,Cb⟩:=uK CY))
     go_roundg k1
     case measure=>have:=dD.out;omega
     case rel=>exact⟨(dh),(wrap64 (eP+1)),dx,H',⟨by have:=dD.out;omega⟩,⟨by(with_reducible repeat(first|apply Kd.bX|apply Kd.dK|apply Kd.di));exact Kd.bY (Kd.aD (p:=⟨pX,2,none⟩) (Kd.aD (p:=⟨pX,1,none⟩) (Kd.aD (p:=⟨pX,0,none⟩) (Kd.bY dO.out (fun k_ hk=>(⟨hk,hk.2⟩:_∧k_≠pX))) (fun _ hk=>hk.2) (.int .i64 t167)) (fun _ hk=>hk.2) (.int .i64 t168)) (fun _ hk=>hk.2) (.int .i64 t169)) (fun _ hk=>trivial)⟩,⟨ai⟩⟩
   ·rw[if_neg c2]at H;have ig:decide (eP<(l0.length:Int))=false:=decide_eq_false c2;clear c2;obtain rfl:=Option.some.inj H
    go_wp2
    go_ret
    exact⟨_,bS,by(with_reducible repeat(first|apply Kd.bX|apply Kd.dK|apply Kd.di));exact dO.out,ai⟩
def yZ.f(k:Nat)(l0:List (aj)):Option (Int×Int×Int×Bool):=(nE.f k l0).bind fun t175=>(if(t175.length:Int)=0 then(some (0,0,0,false))else(if 0<(t175.length:Int)then(some ((ow t175 0).f0,(ow t175 0).f1,(ow t175 0).f2,true))else(none)))
theorem yZ.calls(k:Nat)(A0:Option Addr)(c0:Nat)(l0:List (aj))(r1:Int)(r2:Int)(r3:Int)(r4:Bool)(w:World)(hr0:Kd.C dw w A0 l0.length l0)(hc0:l0.length≤c0)(h:yZ.f k l0=some (r1,r2,r3,r4)):
  Calls Tryz.prog 44 #[.slice A0 l0.length c0] w fun e w'=>e=.returned (.tuple #[.agg #[.int .i64 r1,.int .i64 r2,.int .i64 r3],.bool r4])∧Below w.heap.size w w':=by
 have hu29:=Tryz.underlying29;have cZ:=af.mk hr0;have gT:=af.mk hc0;clear hr0 hc0;have HB:=af.mk (Below.refl w.heap.size w);have H:((nE.f k l0).bind fun t175=>(if(t175.length:Int)=0 then(some (0,0,0,false))else(if 0<(t175.length:Int)then(some ((ow t175 0).f0,(ow t175 0).f1,(ow t175 0).f2,true))else(none))))=some (r1,r2,r3,r4):=h;clear h;replace H:=Option.bind_eq_some_iff.mp H;obtain⟨t175,tF,H⟩:=H;(try dsimp only at H);have A2:=af.mk tF;clear tF
 by_cases c3:(t175.length:Int)=0
 ·rw[if_pos c3]at H;have fJ:((t175.length:Int)==0)=true:=beq_iff_eq.mpr c3;have jV:((t175.length:Int) != 0)=false:=bne_eq_false_iff_eq.mpr c3;clear c3;simp only[Option.some.injEq,Prod.mk.injEq]at H;obtain⟨rfl,rfl,rfl,rfl⟩:=H
  go_enter Tryz.func44,Tryz.ntmps44
  go_wp2_with (first|((with_reducible refine bZ (N:=2) rfl ?_);refine dn 2 (cs:=#[.int .i64 0,.int .i64 0,.int .i64 0]) (t:=29) ?_;intro Ai hg w4 aC hb;have xA:=af.mk (aC);have GW174:af (w.heap.size≤Ai):=aT hg;have GE174:af (w.heap.size≤Ai):=aT hg;replace HB:=af.mk (av ai hb);clear hb aC hg)|((with_reducible refine bq (f:=97) rfl ?_);refine bC 6 Tryz.func97 #[.slice A0 l0.length c0] rfl ?_;(with_reducible refine(nE.calls k _ _ l0 t175 _ ?aQ ?aW A2.out).mono ?_);(case aQ=>exact jr cZ);(case aW=>exact gT.out);rintro e w5 ⟨v176,rfl,ho0,hb⟩;refine⟨_,rfl,?_⟩;have Ld:=af.mk (Kd.gU (Kd.Sg ho0 (g:=Ai) (o:=.cells #[.int .i64 0,.int .i64 0,.int .i64 0] 29 (0,0)) (fU xA)) (fI ai));replace xA:=bQ xA hb;replace HB:=af.mk (av ai hb);(try clear hb);(try clear hb2);(try clear hk);(try clear hi);(try clear ho0);obtain⟨Ao6,co6,eo6⟩:=Kd.fH Ld.out;subst eo6;obtain⟨yh,yj,yo,yu,yw,yx⟩:=uK xA))
  refine bodyPost_ret (pz rfl _ _ Ai 29 #[.int .i64 0,.int .i64 0,.int .i64 0] (0,0) _ rfl (by exact Br xA.out) Tryz.underlying29 rfl (by kernel_rfl)) rfl ?_;exact⟨bS,ai⟩
 ·rw[if_neg c3]at H;have fJ:((t175.length:Int)==0)=false:=beq_eq_false_iff_ne.mpr c3;have jV:((t175.length:Int) != 0)=true:=bne_iff_ne.mpr c3;have vz:¬(t175=[]):=fun h_=>c3 (by rw[h_];rfl)
  by_cases c8:0<(t175.length:Int)
  ·rw[if_pos c8]at H;have jw:decide (0<(t175.length:Int))=true:=decide_eq_true c8;have sH:decide (0<t175.length)=true:=decide_eq_true (by omega);clear c8;simp only[Option.some.injEq,Prod.mk.injEq]at H;obtain⟨rfl,rfl,rfl,rfl⟩:=H
   go_enter Tryz.func44,Tryz.ntmps44
   go_wp2_with (first|((with_reducible refine bZ (N:=2) rfl ?_);refine dn 2 (cs:=#[.int .i64 0,.int .i64 0,.int .i64 0]) (t:=29) ?_;intro Ai hg w9 aC hb;have xA:=af.mk (aC);have GW174:af (w.heap.size≤Ai):=aT hg;have GE174:af (w.heap.size≤Ai):=aT hg;replace HB:=af.mk (av ai hb);clear hb aC hg)|((with_reducible refine bq (f:=97) rfl ?_);refine bC 6 Tryz.func97 #[.slice A0 l0.length c0] rfl ?_;(with_reducible refine(nE.calls k _ _ l0 t175 _ ?aQ ?aW A2.out).mono ?_);(case aQ=>exact jr cZ);(case aW=>exact gT.out);rintro e w10 ⟨v176,rfl,ho0,hb⟩;refine⟨_,rfl,?_⟩;have Ld:=af.mk (Kd.gU (Kd.Sg ho0 (g:=Ai) (o:=.cells #[.int .i64 0,.int .i64 0,.int .i64 0] 29 (0,0)) (fU xA)) (fI ai));replace xA:=bQ xA hb;replace HB:=af.mk (av ai hb);(try clear hb);(try clear hb2);(try clear hk);(try clear hi);(try clear ho0);obtain⟨Ao11,co11,eo11⟩:=Kd.fH Ld.out;subst eo11;have p178:0≤(0:Int):=(by omega);have q178:0<(t175.length:Int):=aG;obtain⟨ad178,e178,Qy,Qz,QA⟩:=at_T29 (Kd.dB Ld.out).2.2 0 p178 q178;cases e178;have qi178:(0<t175.length)=True:=eq_true (by omega);(try rw[show((0:Int)).toNat=0 from rfl]at Qy);(try rw[show 0*3=0 from rfl]at Qy);(try rw[Addr.add_zero']at Qy);(try rw[show((0:Int)).toNat=0 from rfl]at Qz);(try rw[show 0*3=0 from rfl]at Qz);(try rw[Addr.add_zero']at Qz);(try rw[show((0:Int)).toNat=0 from rfl]at QA);(try rw[show 0*3=0 from rfl]at QA);(try rw[Addr.add_zero']at QA);replace p178:=eq_true p178;replace q178:=eq_true q178;obtain⟨BS,BU,BV,BX,BZ,Cb⟩:=uK xA))
   refine bodyPost_ret (pz rfl _ _ Ai 29 #[.int .i64 ((ow t175 0).f0),.int .i64 ((ow t175 0).f1),.int .i64 ((ow t175 0).f2)] (0,0) _ rfl (by exact Br xA.out) Tryz.underlying29 rfl (by kernel_rfl)) rfl ?_;exact⟨bS,ai⟩
  ·rw[if_neg c8]at H;exact absurd H (by simp)
def qa.l0:Nat→List (aN)→List (bW)→Int→Int→Option ((List (aN)))
 |0,_,_,_,_=>none
 |k+1,x3,x6,x7,x8=>if x8<x7 then(if 0≤x8 then(if x8<(x6.length:Int)then(if x3.length+((ou x6 x8).f2).length<3518437208883 then(qa.l0 k (x3++((ou x6 x8).f2)) x6 x7 (wrap64 (x8+1)))else(none))else(none))else(none))else(some x3)
def qa.f(k:Nat)(l0:List (bW)):Option ((List (aN))):=qa.l0 k ([]:List (aN)) l0 (l0.length:Int) 0
theorem qa.calls(k:Nat)(A0:Option Addr)(c0:Nat)(l0:List (bW))(r:List (aN))(w:World)(hr0:Kd.C nP w A0 l0.length l0)(hc0:l0.length≤c0)(h:qa.f k l0=some r):
  Calls Tryz.prog 50 #[.slice A0 l0.length c0] w fun e w'=>∃fE:Value,e=.returned (fE)∧Kd.R fZ 136 w' w.heap.size (fun _=>True) fE r∧Below w.heap.size w w':=by
 have hu189:=Tryz.underlying189;have cZ:=af.mk hr0;have gT:=af.mk hc0;clear hr0 hc0;have HB:=af.mk (Below.refl w.heap.size w);have H:(qa.l0 k ([]:List (aN)) l0 (l0.length:Int) 0)=some r:=h;clear h;have H':=af.mk H;clear H
 go_enter Tryz.func50,Tryz.ntmps50
 go_wp2
 go_loopg [3,8] k (fun kq v3 v8 w'=>∃(dh:List (aN)) (eP:Int),v8=.int .i64 eP∧af (qa.l0 kq dh l0 (l0.length:Int) eP=some r)∧af (kq≤k)∧af (Kd.R fZ 136 w' w.heap.size (fun _=>True) v3 dh)∧af (Below w.heap.size w w'))
 case atStart=>exact⟨(([]:List (aN))),(0),dx,H',⟨Nat.le_refl _⟩,⟨by first|exact Kd.dV _ _ _ _ _|exact Kd.iP _ _ _ _ _|exact Kd.iR _ _ _ _ _|exact Kd.iQ _ _ _ _ _|exact Kd.j5 _ _ _ _ _⟩,⟨ai⟩⟩
 case round=>
  clear H';obtain⟨dh,eP,rfl,HA,dD,dO,HB⟩:=hrel
  cases gk with
  |zero=>exact absurd HA.out (by simp[qa.l0])
  |succ k1=>
   have H:=HA.out;clear HA;simp only[qa.l0]at H
   by_cases c2:eP<(l0.length:Int)
   ·rw[if_pos c2]at H;have ig:decide (eP<(l0.length:Int))=true:=decide_eq_true c2;clear c2
    by_cases c3:0≤eP
    ·rw[if_pos c3]at H;have fJ:decide (0≤eP)=true:=decide_eq_true c3;clear c3
     by_cases c4:eP<(l0.length:Int)
     ·rw[if_pos c4]at H;have iH:decide (eP<(l0.length:Int))=true:=decide_eq_true c4;clear c4
      by_cases c5:dh.length+((ou l0 eP).f2).length<3518437208883
      ·rw[if_pos c5]at H;have Hu:=af.mk c5;clear c5;obtain⟨xh,yF⟩:∃y_:List (aN),y_=(dh++((ou l0 eP).f2)):=⟨_,rfl⟩;replace H:(qa.l0 k1 xh l0 (l0.length:Int) (wrap64 (eP+1)))=some r:=by first|(rw[yF];with_reducible exact H)|(have bP:=(Option.bind_some _ _).symm.trans H;rw[yF];with_reducible exact bP)|(have bP:=(Option.bind_some _ _).symm.trans H;with_reducible exact bP)|with_reducible exact H|(rw[yF];exact H)|exact H
       have EU:=af.mk yF;clear yF;have H':=af.mk H;clear H;have yJ:0≤(eP:Int):=aG;have yP:eP<(l0.length:Int):=aG;obtain⟨zY,R8,SE,IL,Cc,Ce,Cg,UH,UE⟩:=Sr cZ.out eP yJ yP
       cases IL
       replace Cc:=aM Cc;replace Ce:=aM Ce;replace Cg:=aM Cg;have HR198_2:=af.mk UE;have HC198_2:=af.mk UH;clear UE UH;replace yJ:=eq_true yJ;replace yP:=eq_true yP
       go_wp2_with (first|((with_reducible refine bZ (N:=5) rfl ?_);refine dn 5 (cs:=#[.int .i64 0,.int .i64 0,.slice none 0 0]) (t:=189) ?_;intro eD hg w6 aC hb;replace dO:=dA dO hb;have fV:=af.mk (aC);have GW199:af (w.heap.size≤eD):=aT hg;have GE199:af (w.heap.size≤eD):=aT hg;replace HB:=af.mk (av ai hb);clear hb aC hg;obtain⟨yh,yj,yo,yu,yw,yx⟩:=uK fV)|((with_reducible refine jN (b:=.append) (xs:=#[.tmp 12,.tmp 14]) rfl ?_);at_builtin;refine Kd.Lj fZ (w0:=w) w.heap.size rfl (.tmp 12) (.tmp 14) 30 136 (.agg #[(.int .i64 0),(.int .i64 0),(.int .i64 0),(.int .i64 0),(.int .i64 0)]) 40 rfl Tryz.underlying30 Vs rfl (by decide) (by omega) u3 dh ((ou l0 eP).f2) _ _ _ (fun _=>True) (fun _=>False) rfl rfl ?aO ?aR (fun _ _ h=>h) (fun _ h=>h.elim) ?aF ?aB ?aS ?aL ?_;(case aR=>exact nT HR198_2);(case aB=>exact ai);(case aF=>exact(fun _ _=>trivial));(case aO=>exact(by(with_reducible repeat(first|apply Kd.bX|apply Kd.dK|apply Kd.di));exact Kd.bY (Kd.aD (p:=⟨eD,2,none⟩) (Kd.aD (p:=⟨eD,1,none⟩) (Kd.aD (p:=⟨eD,0,none⟩) (Kd.je dO.out fV.out (by decide)) (fun _ hk=>hk.2) (.int .i64 ((ou l0 eP).f0))) (fun _ hk=>hk.2) (.int .i64 ((ou l0 eP).f1))) (fun _ hk=>hk.2) (.slice R8 ((ou l0 eP).f2).length SE)) (fun _ hk=>trivial)));(case aS=>exact(fI ai));(case aL=>have:=Hu.out;omega);intro v201 w8 ho hb hg hat;rw[← EU.out]at ho;have dL:=af.mk (fP (g:=eD) (o:=.cells #[.int .i64 ((ou l0 eP).f0),.int .i64 ((ou l0 eP).f1),.slice R8 ((ou l0 eP).f2).length SE] 189 (0,0)) (by exact Br fV.out) hg (Kd.jK dO.out fV.out (by decide)));have dW:=af.mk (hb);have dX:=af.mk (ho);clear fV HB dO;have fV:=dL;have HB:=dW;have HO202:=dX;clear dL dW dX ho hb hg hat))
       go_roundg k1
       case measure=>have:=dD.out;omega
       case rel=>exact⟨(xh),(wrap64 (eP+1)),dx,H',⟨by have:=dD.out;omega⟩,⟨dZ HO202⟩,⟨ai⟩⟩
      ·rw[if_neg c5]at H;exact absurd H (by simp)
     ·rw[if_neg c4]at H;exact absurd H (by simp)
    ·rw[if_neg c3]at H;exact absurd H (by simp)
   ·rw[if_neg c2]at H;have ig:decide (eP<(l0.length:Int))=false:=decide_eq_false c2;clear c2;obtain rfl:=Option.some.inj H
    go_wp2
    go_ret
    exact⟨_,bS,by(with_reducible repeat(first|apply Kd.bX|apply Kd.dK|apply Kd.di));exact dO.out,ai⟩
def Nr.f(aH:Int)(aV:Int)(bg:ByteArray)(bn:ByteArray):Option (ByteArray):=if 1+bg.size≤9223372036854775807 then(some ((⟨#[5]⟩:ByteArray)++bg))else(none)
theorem Nr.calls(aH:Int)(aV:Int)(bg:ByteArray)(bn:ByteArray)(r:ByteArray)(w:World)(h:Nr.f aH aV bg bn=some r):
  Calls Tryz.prog 162 #[.agg #[.int .i64 aH,.int .i64 aV,.string bg,.string bn]] w fun e w'=>e=.returned (.string r)∧Below w.heap.size w w':=by
 have hu249:=Tryz.underlying249;have HB:=af.mk (Below.refl w.heap.size w);have H:(if 1+bg.size≤9223372036854775807 then(some ((⟨#[5]⟩:ByteArray)++bg))else(none))=some r:=h;clear h
 by_cases c2:1+bg.size≤9223372036854775807
 ·rw[if_pos c2]at H;have ig:=eq_true c2;have nJ:decide (1+bg.size≤9223372036854775807)=true:=decide_eq_true c2
  try have c2b2:(9223372036854775807<1+bg.size)=False:=eq_false (Nat.not_lt.2 c2)
  obtain rfl:=Option.some.inj H
  go_enter Tryz.func162,Tryz.ntmps162
  go_wp2_with (first|((with_reducible refine bZ (N:=1) rfl ?_);refine dn 1 (cs:=#[.int .i64 aH,.int .i64 aV,.string bg,.string bn]) (t:=249) ?_;intro gb212 hg w3 aC hb;have BK212:=af.mk (aC);have GW212:af (w.heap.size≤gb212):=aT hg;have GE212:af (w.heap.size≤gb212):=aT hg;replace HB:=af.mk (av ai hb);clear hb aC hg;obtain⟨DI,DJ,DK,DL,DN,DR,DT,DU⟩:=fB BK212))
  go_ret
  exact⟨bS,ai⟩
 ·rw[if_neg c2]at H;exact absurd H (by simp)
theorem aav(key s:ByteArray)(hs:s.size≤140737488355327)(w:World)(hG:jR w):
  Calls Tryz.prog 108 #[.string key,.string s] w fun e w'=>e=.returned (.tuple #[.string (iJ key (⟨#[5]⟩++s)),.int .i64 (jm key)])∧Below w.heap.size w w':=by
 have hz:(⟨#[5]⟩++s:ByteArray).size=1+s.size:=by rw[ByteArray.size_append];rfl
 have hn:=fun W=>Nr.calls 0 0 s ⟨#[]⟩ (⟨#[5]⟩++s) W (by unfold Nr.f;exact if_pos (by omega))
 have hc:=fun W (h:jR W)=>SA key (⟨#[5]⟩++s) (by rw[hz];omega) W h
 clear hz;have HG:=af.mk hG;clear hG;revert hc hn;generalize iJ key (⟨#[5]⟩++s)=x;generalize (⟨#[5]⟩++s:ByteArray)=z;generalize jm key=y;intro hn hc
 go_enter Tryz.func108,Tryz.ntmps108
 go_wp2_with (go_at_call 162;(refine(hn _).mono ?_);rintro e w1 ⟨rfl,hb1⟩)
 have HB:=af.mk hb1;clear hb1
 go_wp2_with (go_at_call 136;(refine(hc _ (HG.out.below HB.out)).mono ?_);rintro e w2 ⟨rfl,hb2⟩)
 go_ret2
 exact⟨rfl,HB.out.trans (hb2.mono HB.out.size)⟩
def Ns.f(aH:Int)(aV:Int)(bg:ByteArray)(bn:ByteArray):Option (ByteArray):=if 1+bn.size≤9223372036854775807 then(some ((⟨#[6]⟩:ByteArray)++bn))else(none)
theorem Ns.calls(aH:Int)(aV:Int)(bg:ByteArray)(bn:ByteArray)(r:ByteArray)(w:World)(h:Ns.f aH aV bg bn=some r):
  Calls Tryz.prog 163 #[.agg #[.int .i64 aH,.int .i64 aV,.string bg,.string bn]] w fun e w'=>e=.returned (.string r)∧Below w.heap.size w w':=by
 have hu249:=Tryz.underlying249;have HB:=af.mk (Below.refl w.heap.size w);have H:(if 1+bn.size≤9223372036854775807 then(some ((⟨#[6]⟩:ByteArray)++bn))else(none))=some r:=h;clear h
 by_cases c2:1+bn.size≤9223372036854775807
 ·rw[if_pos c2]at H;have ig:=eq_true c2;have nJ:decide (1+bn.size≤9223372036854775807)=true:=decide_eq_true c2
  try have c2b2:(9223372036854775807<1+bn.size)=False:=eq_false (Nat.not_lt.2 c2)
  obtain rfl:=Option.some.inj H
  go_enter Tryz.func163,Tryz.ntmps163
  go_wp2_with (first|((with_reducible refine bZ (N:=1) rfl ?_);refine dn 1 (cs:=#[.int .i64 aH,.int .i64 aV,.string bg,.string bn]) (t:=249) ?_;intro gb213 hg w3 aC hb;have BK213:=af.mk (aC);have GW213:af (w.heap.size≤gb213):=aT hg;have GE213:af (w.heap.size≤gb213):=aT hg;replace HB:=af.mk (av ai hb);clear hb aC hg;obtain⟨DI,DJ,DK,DL,DN,DR,DT,DU⟩:=fB BK213))
  go_ret
  exact⟨bS,ai⟩
 ·rw[if_neg c2]at H;exact absurd H (by simp)
end Go.Proofs.YtdcddenojjdmjaaGreatDoor.T
