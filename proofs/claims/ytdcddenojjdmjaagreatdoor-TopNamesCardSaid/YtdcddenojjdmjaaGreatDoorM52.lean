/-
Proved here: 'topNamesCard_holds : Rows.TopNamesCardSaid', the first form of the statement TopNames: for every input, cartouchetop.TopNames answers true and leaves its argument as it was (of two histories that differ by the names of keys and values alone the certificates show the same, but for tags, sums and proofs' sums; or two unlike keys, or values, of one of them have one tag).
Conditions: none ahead of it; the card's own (three package-level tables of blake lie as the program's text lays them: the given tie).
How: the texts <Name>M01 to <Name>M52 hold the walk of each function that the law reaches and the plain law; they were made smaller by a program (own names shortened, blanks dropped, texts joined) to keep a claim's bounds.
-/
import Derived.Test.YtdcddenojjdmjaaGreatDoorCards
import Derived.Test.YtdcddenojjdmjaaGreatDoorTie
import Derived.ShutString
import Derived.SevenTiedAt
import Derived.Test.YtdcddenojjdmjaaGreatDoorM51
set_option linter.all false
set_option maxHeartbeats 8000000
set_option maxRecDepth 100000
namespace Go.Proofs.YtdcddenojjdmjaaGreatDoor.T
open Go.RowKit Go.Proofs.YtdcddenojjdmjaaGreatDoorW.PrintWords Go.Proofs.YtdcddenojjdmjaaGreatDoorW.PrintLast Go.Proofs.YtdcddenojjdmjaaGreatDoorW.PrintMore
theorem aa8(a0 a1 a2:ByteArray)(a3 a4:Int)(A5:Option Addr)(c5:Nat)(l:List aj)(a6:ByteArray)(k':List aj)(w:World)(hr5:Kd.C dw w A5 l.length l)(hc5:l.length≤c5)(hG:jR w)(hk0:Dn.f l a6=some k')
  (hm:l.length≤60→∃(k:Nat) (x y:Cf) (e1 e2:Int),jh.f k a0 a3 a1 a2 l a4=some (x.t,x.q,x.p,x.r,x.n,x.v0,x.v1,x.l7,x.v3,x.v4,x.v5,x.dF,x.eG,e1)∧jh.f k a0 a3 a1 a2 k' a4=some (y.t,y.q,y.p,y.r,y.n,y.v0,y.v1,y.l7,y.v3,y.v4,y.v5,y.dF,y.eG,e2)∧(e1=0→e2=0→Rest k x y l k' a2)):
  Calls Tryz.prog 3 #[.agg #[.string a0,.string a1,.string a2,.int .i64 a3,.int .i64 a4,.slice A5 l.length c5,.string a6]] w fun e w'=>e=.returned (.bool true)∧Below w.heap.size w w':=by
 have hu24:=Tryz.underlying24;have hu35:=Tryz.underlying35;have hu32:=Tryz.underlying32;have HR5:=af.mk hr5;have HC5:=af.mk hc5;have HGL:=af.mk hG;have hk:=af.mk hk0;have HM:=af.mk hm;clear hr5 hc5 hG hk0 hm;have HB:=af.mk (Below.refl w.heap.size w)
 go_enter Tryz.func3,Tryz.ntmps3
 go_upto_region 4 with (first|((with_reducible refine bZ (N:=1) rfl ?_);(try(refine xY (by rfl) ?_;dsimp only));refine dn 1 (cs:=#[.string a0,.string a1,.string a2,.int .i64 a3,.int .i64 a4,.slice A5 l.length c5,.string a6]) (t:=24) ?_;intro jL hg w5 aC hb;replace HB:=af.mk (av ai hb);have oD:=af.mk aC;clear hb aC hg)|((with_reducible refine bq (f:=4) rfl ?_);refine bC 12 Tryz.func4 #[] rfl ?_;(with_reducible refine(O3.calls true _ rfl).mono ?_);rintro e w6 ⟨rfl,hb⟩;refine⟨_,rfl,?_⟩;replace oD:=bQ oD hb;replace HB:=af.mk (av ai hb);clear hb;obtain⟨yh,yj,yo,Ay,PZ,P5,P6,yu,yw,yx,AV,Qo,Qp,Qq⟩:=iY oD)|((with_reducible refine bq (f:=5) rfl ?_);refine bC 18 Tryz.func5 #[.slice A5 l.length c5,.string a6] rfl ?_;(with_reducible refine(Dn.calls _ _ l a6 k' _ ?aQ ?aW hk.out).mono ?_);(case aQ=>exact jr HR5);(case aW=>exact HC5.out);rintro e w8 ⟨v345,rfl,ho0,hb⟩;refine⟨_,rfl,?_⟩;replace oD:=bQ oD hb;replace HB:=af.mk (av ai hb);clear hb;obtain⟨Ak,ck,ek⟩:=Kd.fH ho0;subst ek;have HK:af (rowAt dw w8 Ak k' ck):=⟨⟨(Kd.dB ho0).2.2,(Kd.dB ho0).2.1⟩⟩;clear ho0))
 (try simp only[Act.put,List.setIfInBounds_toArray,List.set_cons_zero,List.set_cons_succ])
 go_cut [25] (fun v25 wc=>∃b:Bool,v25=.bool b∧af (b=decide ((l.length:Int)>60))∧af (rowAt dw wc Ak k' ck)∧af (wc.heap[jL]? =some (.cells #[.string a0,.string a1,.string a2,.int .i64 a3,.int .i64 a4,.slice A5 l.length c5,.string a6] 24 (0,0)))∧af (Below w.heap.size w wc))
 case first=>
  go_wp2
  go_meet
  case rel=>exact⟨_,by first|rfl|(simp;done)|(simp[*];done),⟨rfl⟩,⟨⟨by repeat(first|exact HK.out.1|(with_reducible refine Kd.gu ?_ _)|(with_reducible refine Kd.gB ?_ _)|(with_reducible refine Kd.gy ?_)),HK.out.2⟩⟩,⟨fU oD⟩,⟨ai⟩⟩
 case rest=>
  clear HK oD HB;obtain⟨b,rfl,hb60,HK,oD,HB⟩:=hcut
  cases b with
  |true=>
   go_wp2
   go_ret
   exact⟨by first|rfl|(simp[*];done),ai⟩
  |false=>
   have hl60:l.length≤60:=by have:=of_decide_eq_false hb60.out.symm;omega
   obtain⟨k,x,y,e1,e2,hm1,hm2,hrest⟩:=HM.out hl60;have HM1:=af.mk hm1;have HM2:=af.mk hm2;have HRS:=af.mk hrest;clear hm1 hm2 hrest hb60 hl60 HM;obtain⟨Al,Am,Ao,Ap,Py,TH,TI,AA,AB,AJ,AL,P8,Ui,Uj⟩:=iY oD
   go_upto_region 8 with (first|((with_reducible refine bq (f:=6) rfl ?_);refine bC 39 Tryz.func6 #[.string a0,.int .i64 a3,.string a1,.string a2,.slice A5 l.length c5,.int .i64 a4] rfl ?_;(with_reducible refine(VX k a0 a3 a1 a2 _ _ l a4 x e1 _ ?aQ HM1.out ?aW).mono ?_);(case aQ=>exact⟨by exact jr HR5,HC5.out⟩);(case aW=>exact HGL.out.below ai);rintro e wX ⟨z,rfl,hx,hb⟩;refine⟨_,rfl,?_⟩;have dL:=bQ oD hb;have dW:=af.mk (av ai hb);have dX:af (rowAt dw wX Ak k' ck):=⟨⟨Kd.dN (by repeat(first|exact HK.out.1|(with_reducible refine Kd.gu ?_ _)|(with_reducible refine Kd.gB ?_ _)|(with_reducible refine Kd.gy ?_))) hb,HK.out.2⟩⟩;have HX:=af.mk hx;clear oD HB HK;have oD:=dL;have HB:=dW;have HK:=dX;clear dL dW dX hb hx;have tJ:=af.mk (Below.refl wX.heap.size wX))|((with_reducible refine bZ (N:=6) rfl ?_);(try(refine xY (by rfl) ?_;dsimp only));refine dn 6 (cs:=#[.string (⟨#[]⟩:ByteArray),.int .i64 0,.string (⟨#[]⟩:ByteArray),.string (⟨#[]⟩:ByteArray),.int .i64 0,.int .i64 0,.bool false,.slice none 0 0,.int .i64 0,.int .i64 0,.int .i64 0,.slice none 0 0,.slice none 0 0]) (t:=35) ?_;intro b6 hg w16 aC hb;have dL:=af.mk (av (by repeat(first|(with_reducible first|exact tJ.out|apply ax|apply dm|apply mH)|exact tJ.out)) hb);have GE6:af (wX.heap.size≤b6):=⟨by rw[hg];exact fI (by repeat(first|(with_reducible first|exact tJ.out|apply ax|apply dm|apply mH)|exact tJ.out))⟩;clear tJ;have tJ:=dL;clear dL;have BK6:=af.mk aC;clear hb aC hg;have Qr:jL≠b6:=Nat.ne_of_lt (Nat.lt_of_lt_of_le (iB oD.out) GE6.out);have hnb17:b6≠jL:=fun e=>Qr e.symm;have BY24:af (w16.heap[jL]? =some (.cells #[.string a0,.string a1,.string a2,.int .i64 a3,.int .i64 a4,.slice A5 l.length c5,.string a6] 24 (0,0))):=⟨aK oD.out tJ.out⟩;obtain⟨Me,Mf,Mg,Mh,PI,PK,PL,MH,MI,MJ,MK,Qd,Qe,Qf⟩:=iY BY24;obtain⟨Aq,Ar,Au,Aw,LZ,L6,L8,hcz18_7,hcz18_8,hcz18_9,Y6,Y7,Y8,AO,AP,AQ,AU,Mw,Mx,MB,hfz18_7,hfz18_8,hfz18_9,Zm,Zn,Zo⟩:=rV BK6)|((with_reducible refine bq (f:=6) rfl ?_);refine bC 54 Tryz.func6 #[.string a0,.int .i64 a3,.string a1,.string a2,.slice Ak k'.length ck,.int .i64 a4] rfl ?_;(with_reducible refine(VX k a0 a3 a1 a2 _ _ k' a4 y e2 _ ?aQ HM2.out ?aW).mono ?_);(case aQ=>exact⟨Kd.dN HK.out.1 (by repeat(first|(with_reducible first|exact tJ.out|apply ax|apply dm|apply mH|refine mI ?_ GE6.out)|exact tJ.out)),HK.out.2⟩);(case aW=>exact HGL.out.below (av HB.out (by repeat(first|(with_reducible first|exact tJ.out|apply ax|apply dm|apply mH|refine mI ?_ GE6.out)|exact tJ.out))));rintro e wY ⟨u,rfl,hy,hb⟩;refine⟨_,rfl,?_⟩;have dL:=af.mk (aK (g:=b6) (o:=.cells #[.string x.t,.int .i64 x.q,.string x.p,.string x.r,.int .i64 x.n,.int .i64 x.v0,.bool x.v1,.slice z.A7 x.l7.length z.c7,.int .i64 x.v3,.int .i64 x.v4,.int .i64 x.v5,.slice z.iF x.dF.length z.c11,.slice z.jC x.eG.length z.c12] 35 (0,0)) (by exact EG BK6.out) hb);have m_:Below wX.heap.size wX wY:=av (by repeat(first|(with_reducible first|exact tJ.out|apply ax|apply dm|apply mH|refine mI ?_ GE6.out)|exact tJ.out)) hb;have dW:af (wY.heap[b6]? =some (.cells (x.cells z) 35 (0,0))):=dL;have dX:=af.mk (aK oD.out m_);have jH:=af.mk (HK.out.below m_);have n4_:=af.mk (HX.out.below m_);have n5_:=af.mk (av HB.out m_);clear oD BY24 BK6 HK HX HB tJ;have BK6:=dW;have oD:=dX;have HK:=jH;have HX:=n4_;have HB:=n5_;have HY:=af.mk hy;clear dL dW dX jH n4_ n5_ m_ hb hy;have xC:=af.mk (Below.refl wY.heap.size wY))|((with_reducible refine bZ (N:=8) rfl ?_);(try(refine xY (by rfl) ?_;dsimp only));refine dn 8 (cs:=#[.string (⟨#[]⟩:ByteArray),.int .i64 0,.string (⟨#[]⟩:ByteArray),.string (⟨#[]⟩:ByteArray),.int .i64 0,.int .i64 0,.bool false,.slice none 0 0,.int .i64 0,.int .i64 0,.int .i64 0,.slice none 0 0,.slice none 0 0]) (t:=35) ?_;intro b8 hg w25 aC hb;have dL:=af.mk (av (by repeat(first|(with_reducible first|exact xC.out|apply ax|apply dm|apply mH)|exact xC.out)) hb);have GE8:af (wY.heap.size≤b8):=⟨by rw[hg];exact fI (by repeat(first|(with_reducible first|exact xC.out|apply ax|apply dm|apply mH)|exact xC.out))⟩;clear xC;have xC:=dL;clear dL;have BK8:=af.mk aC;clear hb aC hg;have Qs:jL≠b8:=Nat.ne_of_lt (Nat.lt_of_lt_of_le (iB oD.out) GE8.out);have hnb26:b8≠jL:=fun e=>Qs e.symm;have Qt:b6≠b8:=Nat.ne_of_lt (Nat.lt_of_lt_of_le (iB BK6.out) GE8.out);have hnb27:b8≠b6:=fun e=>Qt e.symm;obtain⟨Jd,Je,Jf,Mi,TN,TP,TQ,hcz28_7,hcz28_8,hcz28_9,Y9,Za,Zb,Jl,Jm,Jo,ML,Uo,Uq,Ur,hfz28_7,hfz28_8,hfz28_9,Zp,Zq,Zr⟩:=rV BK8))
   (try simp only[Act.put,List.setIfInBounds_toArray,List.set_cons_zero,List.set_cons_succ])
   go_cut [62] (fun v62 wc=>∃b:Bool,v62=.bool b∧af (b=false→e1=0∧e2=0)∧af (Tn.S w #[.string a0,.string a1,.string a2,.int .i64 a3,.int .i64 a4,.slice A5 l.length c5,.string a6] jL b6 b8 x y z u Ak ck k' wc))
   case first=>
    have hS:∀W',Below wY.heap.size wY W'→W'.heap[b8]? =some (.cells (y.cells u) 35 (0,0))→Tn.S w #[.string a0,.string a1,.string a2,.int .i64 a3,.int .i64 a4,.slice A5 l.length c5,.string a6] jL b6 b8 x y z u Ak ck k' W':=fun W' h1 h2=>⟨aK oD.out h1,aK BK6.out h1,h2,HX.out.below h1,HY.out.below h1,HK.out.below h1,av HB.out h1⟩
    by_cases c32:e1=0
    ·have IB:(e1==0)=true:=beq_iff_eq.mpr c32;have c32b1:(e1 != 0)=false:=bne_eq_false_iff_eq.mpr c32;(first|rw[IB]|(simp only[lH,lX];rw[IB])|skip);have c32':=af.mk c32;clear c32
     go_wp2
     go_meet
     case rel=>exact⟨_,dx,⟨fun h=>⟨c32'.out,by simpa using h⟩⟩,⟨hS _ (by repeat(first|(with_reducible first|exact xC.out|apply ax|apply dm|apply mH|refine mI ?_ GE8.out)|exact xC.out)) (by exact EG BK8.out)⟩⟩
    ·have IB:(e1==0)=false:=beq_eq_false_iff_ne.mpr c32;have c32b1:(e1 != 0)=true:=bne_iff_ne.mpr c32;(first|rw[IB]|(simp only[lH,lX];rw[IB])|skip)
     go_wp2
     go_meet
     case rel=>exact⟨true,dx,⟨fun h=>by cases h⟩,⟨hS _ (by repeat(first|(with_reducible first|exact xC.out|apply ax|apply dm|apply mH|refine mI ?_ GE8.out)|exact xC.out)) (by exact EG BK8.out)⟩⟩
   case rest=>
    clear Al Am Ao Ap Py TH TI Aq Ar Au Aw LZ L6 L8 hcz18_7 hcz18_8 hcz18_9 Y6 Y7 Y8 Me Mf Mg Mh PI PK PL Jd Je Jf Mi TN TP TQ hcz28_7 hcz28_8 hcz28_9 Y9 Za Zb AA AB AJ AL P8 Ui Uj AO AP AQ AU Mw Mx MB hfz18_7 hfz18_8 hfz18_9 Zm Zn Zo MH MI MJ MK Qd Qe Qf Jl Jm Jo ML Uo Uq Ur hfz28_7 hfz28_8 hfz28_9 Zp Zq Zr HK oD HB BK6 BK8 HX HY xC GE6 GE8 HM1 HM2;obtain⟨b,rfl,hb62,HS⟩:=hcut
    cases b with
    |true=>
     go_wp2
     go_ret
     exact⟨by first|rfl|(simp[*];done),(by repeat(first|(with_reducible first|exact HS.out.2.2.2.2.2.2|apply ax|apply dm|apply mH)|exact HS.out.2.2.2.2.2.2))⟩
    |false=>
     obtain⟨hE1,hE2⟩:=hb62.out rfl;obtain⟨S1,S2,H1,H2,sm,E1,E2,hS1,hS2,hH1,hH2,hsm,hvs,hED1,hED2,hI,hn,ht⟩:=(HRS.out hE1 hE2).out;clear hb62 hE1 hE2 HRS;have QS1:=af.mk hS1;have QS2:=af.mk hS2;have QH1:=af.mk hH1;have QH2:=af.mk hH2;have QSM:=af.mk hsm;have QVS:=af.mk hvs;have QE1:=af.mk hED1;have QE2:=af.mk hED2;have QI:=af.mk hI;have QN:=af.mk hn;have QT:=af.mk ht;clear hS1 hS2 hH1 hH2 hsm hvs hED1 hED2 hI hn ht
     try go_wp2
     go_cut [10] (fun v10 wc=>v10=.bool sm∧af (Tn.S w #[.string a0,.string a1,.string a2,.int .i64 a3,.int .i64 a4,.slice A5 l.length c5,.string a6] jL b6 b8 x y z u Ak ck k' wc))
     case first=>
      have n_:af (Tn.S w #[.string a0,.string a1,.string a2,.int .i64 a3,.int .i64 a4,.slice A5 l.length c5,.string a6] jL b6 b8 x y z u Ak ck k' wc.drew):=⟨HS.out.below (mH (Below.refl _ _))⟩;clear HS;have HS:=n_;clear n_;refine gZ (n:=8) (S:=fun w'=>Tn.S w #[.string a0,.string a1,.string a2,.int .i64 a3,.int .i64 a4,.slice A5 l.length c5,.string a6] jL b6 b8 x y z u Ak ck k' w') (ds:=[]) #[false,false,false,false,false,false,false,false] (by kernel_rfl) rfl rfl (HS.out) (fun hHeld=>?_);refine bU 0 63 hHeld (by intro w' s0;obtain⟨q0,q1,q2,q3,q4,q5,q6,q7,q8,q9,qZ,yN,jP⟩:=Cf.load s0.2.1;go_simp;with_reducible rfl) ?_ rfl rfl;refine bU 3 66 hHeld (by intro w' s0;obtain⟨q0,q1,q2,q3,q4,q5,q6,q7,q8,q9,qZ,yN,jP⟩:=Cf.load s0.2.2.1;go_simp;with_reducible rfl) ?_ rfl rfl;refine fu 1 (N:=some 64) rfl rfl fun K hK=>?_
      refine gF Tryz.func9 (by kernel_rfl) rfl #[.agg #[.string x.t,.int .i64 x.q,.string x.p,.string x.r,.int .i64 x.n,.int .i64 x.v0,.bool x.v1,.slice z.A7 x.l7.length z.c7,.int .i64 x.v3,.int .i64 x.v4,.int .i64 x.v5,.slice z.iF x.dF.length z.c11,.slice z.jC x.eG.length z.c12]] (by rfl) rfl rfl uI ?_
      with_reducible refine(Xl k x z _ _ ?aQ QS1.out).mono ?_
      (case aQ=>exact HS.out.2.2.2.1);rintro e w41 ⟨D1,d1,rfl,hr,hb⟩;refine⟨_,rfl,?_⟩;have n_:af (Tn.S w #[.string a0,.string a1,.string a2,.int .i64 a3,.int .i64 a4,.slice A5 l.length c5,.string a6] jL b6 b8 x y z u Ak ck k' _):=⟨HS.out.below hb⟩;clear HS;have HS:=n_;clear n_;have HV1:=af.mk hr;clear hr hb;refine hK.out _ _ (HS.out) (fun hHeld=>?_);clear hK K;refine dM ?_;refine fu 2 (N:=some 65) rfl rfl fun K hK=>?_
      refine gF Tryz.func8 (by kernel_rfl) rfl #[.slice D1 S1.length d1] (by rfl) rfl rfl uI ?_
      with_reducible refine(Xq D1 d1 _ _ _ ?aQ QH1.out).mono ?_
      (case aQ=>exact HV1.out);rintro e w42 ⟨D2,d2,rfl,hr,hb⟩;refine⟨_,rfl,?_⟩;have n_:af (Tn.S w #[.string a0,.string a1,.string a2,.int .i64 a3,.int .i64 a4,.slice A5 l.length c5,.string a6] jL b6 b8 x y z u Ak ck k' _):=⟨HS.out.below hb⟩;clear HS;have HS:=n_;clear n_;have n_:=af.mk (HV1.out.below hb);clear HV1;have HV1:=n_;clear n_;have sj:=af.mk hr;clear hr hb;refine hK.out _ _ (HS.out) (fun hHeld=>?_);clear hK K;refine dM ?_;refine fu 4 (N:=some 67) rfl rfl fun K hK=>?_
      refine gF Tryz.func9 (by kernel_rfl) rfl #[.agg #[.string y.t,.int .i64 y.q,.string y.p,.string y.r,.int .i64 y.n,.int .i64 y.v0,.bool y.v1,.slice u.A7 y.l7.length u.c7,.int .i64 y.v3,.int .i64 y.v4,.int .i64 y.v5,.slice u.iF y.dF.length u.c11,.slice u.jC y.eG.length u.c12]] (by rfl) rfl rfl uI ?_
      with_reducible refine(Xl k y u _ _ ?aQ QS2.out).mono ?_
      (case aQ=>exact HS.out.2.2.2.2.1);rintro e w43 ⟨D3,d3,rfl,hr,hb⟩;refine⟨_,rfl,?_⟩;have n_:af (Tn.S w #[.string a0,.string a1,.string a2,.int .i64 a3,.int .i64 a4,.slice A5 l.length c5,.string a6] jL b6 b8 x y z u Ak ck k' _):=⟨HS.out.below hb⟩;clear HS;have HS:=n_;clear n_;have n_:=af.mk (sj.out.below hb);clear sj;have sj:=n_;clear n_;have HV3:=af.mk hr;clear hr hb;refine hK.out _ _ (HS.out) (fun hHeld=>?_);clear hK K;refine dM ?_;refine fu 5 (N:=some 68) rfl rfl fun K hK=>?_
      refine gF Tryz.func8 (by kernel_rfl) rfl #[.slice D3 S2.length d3] (by rfl) rfl rfl uI ?_
      with_reducible refine(Xq D3 d3 _ _ _ ?aQ QH2.out).mono ?_
      (case aQ=>exact HV3.out);rintro e w44 ⟨D4,d4,rfl,hr,hb⟩;refine⟨_,rfl,?_⟩;have n_:af (Tn.S w #[.string a0,.string a1,.string a2,.int .i64 a3,.int .i64 a4,.slice A5 l.length c5,.string a6] jL b6 b8 x y z u Ak ck k' _):=⟨HS.out.below hb⟩;clear HS;have HS:=n_;clear n_;have n_:=af.mk (sj.out.below hb);clear sj;have sj:=n_;clear n_;have n_:=af.mk (HV3.out.below hb);clear HV3;have HV3:=n_;clear n_;have HV4:=af.mk hr;clear hr hb;refine hK.out _ _ (HS.out) (fun hHeld=>?_);clear hK K;refine dM ?_;refine fu 6 (N:=some 69) rfl rfl fun K hK=>?_
      refine gF Tryz.func7 (by kernel_rfl) rfl #[.slice D2 H1.length d2,.slice D4 H2.length d4] (by rfl) rfl rfl uI ?_
      with_reducible refine(qJ.calls k _ _ H1 _ _ H2 sm _ ?aQ ?aW ?jA ?jB QSM.out).mono ?_
      (case aQ=>exact sj.out.1);(case aW=>exact sj.out.2);(case jA=>exact HV4.out.1);(case jB=>exact HV4.out.2);rintro e w45 ⟨rfl,hd⟩;refine⟨_,rfl,?_⟩;have hb:Below _ _ w45:=hd.below;have n_:af (Tn.S w #[.string a0,.string a1,.string a2,.int .i64 a3,.int .i64 a4,.slice A5 l.length c5,.string a6] jL b6 b8 x y z u Ak ck k' _):=⟨HS.out.below hb⟩;clear HS;have HS:=n_;clear n_ hb hd;refine hK.out _ _ (HS.out) (fun hHeld=>?_);clear hK K;refine dM ?_;refine au 7 10 ?_;refine gJ ?_
      try go_wp2
      go_meet
      case rel=>exact⟨rfl,HS⟩
     case rest=>
      clear HS;obtain⟨rfl,HS⟩:=hcut
      try go_wp2
      go_cut [11] (fun v11 wc=>v11=.bool true∧af (Tn.S w #[.string a0,.string a1,.string a2,.int .i64 a3,.int .i64 a4,.slice A5 l.length c5,.string a6] jL b6 b8 x y z u Ak ck k' wc))
      case first=>
       have n_:af (Tn.S w #[.string a0,.string a1,.string a2,.int .i64 a3,.int .i64 a4,.slice A5 l.length c5,.string a6] jL b6 b8 x y z u Ak ck k' wc.drew):=⟨HS.out.below (mH (Below.refl _ _))⟩;clear HS;have HS:=n_;clear n_;refine gZ (n:=13) (S:=fun w'=>Tn.S w #[.string a0,.string a1,.string a2,.int .i64 a3,.int .i64 a4,.slice A5 l.length c5,.string a6] jL b6 b8 x y z u Ak ck k' w') (ds:=[]) #[false,false,false,false,false,false,false,false,false,false,false,false,false] (by kernel_rfl) rfl rfl (HS.out) (fun hHeld=>?_);refine au 0 70 ?_;refine au 2 72 ?_;refine bU 1 71 hHeld (by intro w' s0;obtain⟨q0,q1,q2,q3,q4,q5,q6,q7,q8,q9,qZ,yN,jP⟩:=Cf.load s0.2.1;go_simp;with_reducible rfl) ?_ rfl rfl;refine bU 3 73 hHeld (by intro w' s0;obtain⟨q0,q1,q2,q3,q4,q5,q6,q7,q8,q9,qZ,yN,jP⟩:=Cf.load s0.2.2.1;go_simp;with_reducible rfl) ?_ rfl rfl;refine fu 4 (N:=some 74) rfl rfl fun K hK=>?_
       refine gF Tryz.func10 (by kernel_rfl) rfl #[.agg #[.int .i64 x.v0,.bool x.v1,.slice z.A7 x.l7.length z.c7,.int .i64 x.v3,.int .i64 x.v4,.int .i64 x.v5,.slice z.iF x.dF.length z.c11],.agg #[.int .i64 y.v0,.bool y.v1,.slice u.A7 y.l7.length u.c7,.int .i64 y.v3,.int .i64 y.v4,.int .i64 y.v5,.slice u.iF y.dF.length u.c11]] (by rfl) rfl rfl uI ?_
       with_reducible refine(abe k x y z u true _ ?aQ ?aW QVS.out).mono ?_
       (case aQ=>exact HS.out.2.2.2.1);(case aW=>exact HS.out.2.2.2.2.1);rintro e w51 ⟨rfl,hb⟩;refine⟨_,rfl,?_⟩;have n_:af (Tn.S w #[.string a0,.string a1,.string a2,.int .i64 a3,.int .i64 a4,.slice A5 l.length c5,.string a6] jL b6 b8 x y z u Ak ck k' _):=⟨HS.out.below hb⟩;clear HS;have HS:=n_;clear n_ hb;refine hK.out _ _ (HS.out) (fun hHeld=>?_);clear hK K;refine dM ?_;refine au 5 75 ?_;refine bU 6 76 hHeld (by intro w' s0;obtain⟨q0,q1,q2,q3,q4,q5,q6,q7,q8,q9,qZ,yN,jP⟩:=Cf.load s0.2.1;go_simp;with_reducible rfl) ?_ rfl rfl;refine bU 8 78 hHeld (by intro w' s0;obtain⟨q0,q1,q2,q3,q4,q5,q6,q7,q8,q9,qZ,yN,jP⟩:=Cf.load s0.2.2.1;go_simp;with_reducible rfl) ?_ rfl rfl;refine fu 7 (N:=some 77) rfl rfl fun K hK=>?_
       refine gF Tryz.func12 (by kernel_rfl) rfl #[.agg #[.string x.t,.int .i64 x.q,.string x.p,.string x.r,.int .i64 x.n,.int .i64 x.v0,.bool x.v1,.slice z.A7 x.l7.length z.c7,.int .i64 x.v3,.int .i64 x.v4,.int .i64 x.v5,.slice z.iF x.dF.length z.c11,.slice z.jC x.eG.length z.c12]] (by rfl) rfl rfl uI ?_
       with_reducible refine(SS k x z _ _ ?aQ QE1.out).mono ?_
       (case aQ=>exact HS.out.2.2.2.1);rintro e w52 ⟨D5,d5,rfl,hr,hb⟩;refine⟨_,rfl,?_⟩;have n_:af (Tn.S w #[.string a0,.string a1,.string a2,.int .i64 a3,.int .i64 a4,.slice A5 l.length c5,.string a6] jL b6 b8 x y z u Ak ck k' _):=⟨HS.out.below hb⟩;clear HS;have HS:=n_;clear n_;have HV5:=af.mk hr;clear hr hb;refine hK.out _ _ (HS.out) (fun hHeld=>?_);clear hK K;refine dM ?_;refine fu 9 (N:=some 79) rfl rfl fun K hK=>?_
       refine gF Tryz.func12 (by kernel_rfl) rfl #[.agg #[.string y.t,.int .i64 y.q,.string y.p,.string y.r,.int .i64 y.n,.int .i64 y.v0,.bool y.v1,.slice u.A7 y.l7.length u.c7,.int .i64 y.v3,.int .i64 y.v4,.int .i64 y.v5,.slice u.iF y.dF.length u.c11,.slice u.jC y.eG.length u.c12]] (by rfl) rfl rfl uI ?_
       with_reducible refine(SS k y u _ _ ?aQ QE2.out).mono ?_
       (case aQ=>exact HS.out.2.2.2.2.1);rintro e w53 ⟨D6,d6,rfl,hr,hb⟩;refine⟨_,rfl,?_⟩;have n_:af (Tn.S w #[.string a0,.string a1,.string a2,.int .i64 a3,.int .i64 a4,.slice A5 l.length c5,.string a6] jL b6 b8 x y z u Ak ck k' _):=⟨HS.out.below hb⟩;clear HS;have HS:=n_;clear n_;have n_:=af.mk (HV5.out.below hb);clear HV5;have HV5:=n_;clear n_;have HV6:=af.mk hr;clear hr hb;refine hK.out _ _ (HS.out) (fun hHeld=>?_);clear hK K;refine dM ?_;refine fu 10 (N:=some 80) rfl rfl fun K hK=>?_
       refine gF Tryz.func11 (by kernel_rfl) rfl #[.slice D5 E1.length d5,.slice D6 E2.length d6] (by rfl) rfl rfl uI ?_
       with_reducible refine(mJ.calls k _ _ E1 _ _ E2 true _ ?aQ ?aW ?jA ?jB QI.out).mono ?_
       (case aQ=>exact HV5.out.1);(case aW=>exact HV5.out.2);(case jA=>exact HV6.out.1);(case jB=>exact HV6.out.2);rintro e w54 ⟨rfl,hd⟩;refine⟨_,rfl,?_⟩;have hb:Below _ _ w54:=hd.below;have n_:af (Tn.S w #[.string a0,.string a1,.string a2,.int .i64 a3,.int .i64 a4,.slice A5 l.length c5,.string a6] jL b6 b8 x y z u Ak ck k' _):=⟨HS.out.below hb⟩;clear HS;have HS:=n_;clear n_ hb hd;refine hK.out _ _ (HS.out) (fun hHeld=>?_);clear hK K;refine dM ?_;refine au 11 81 ?_;refine au 12 11 ?_;refine gJ ?_
       try go_wp2
       go_meet
       case rel=>exact⟨rfl,HS⟩
      case rest=>
       clear HS;obtain⟨rfl,HS⟩:=hcut;have H24:=af.mk HS.out.1;obtain⟨hcz61_0,hcz61_1,hcz61_2,hcz61_3,hcz61_4,hcz61_5,hcz61_6,hfz61_0,hfz61_1,hfz61_2,hfz61_3,hfz61_4,hfz61_5,hfz61_6⟩:=iY H24
       cases sm with
       |true=>
        have hn:=QN.out;obtain⟨q0,q1,q2,q3,q4,q5,q6,q7,q8,q9,qZ,yN,jP⟩:=Cf.load HS.out.2.1;obtain⟨p0,p1,p2,p3,p4,p5,p6,p7,p8,p9,p10,p11,wR⟩:=Cf.load HS.out.2.2.1
        go_wp2
        go_ret
        exact⟨by first|rfl|(simp[hn];done)|(rw[hn];simp;done),(by repeat(first|(with_reducible first|exact HS.out.2.2.2.2.2.2|apply ax|apply dm|apply mH)|exact HS.out.2.2.2.2.2.2))⟩
       |false=>
        obtain⟨t,ht1,ht2⟩:=QT.out rfl;have HT1:=af.mk ht1;clear ht1
        cases t with
        |true=>
         go_wp2_with (first|((with_reducible refine bq (f:=13) rfl ?_);refine bC 94 Tryz.func13 #[.string a2,.slice A5 l.length c5] rfl ?_;(with_reducible refine(vC.calls k a2 _ _ l true _ ?aQ ?aW HT1.out).mono ?_);(case aQ=>repeat(first|exact(Kd.dN HR5.out HS.out.2.2.2.2.2.2)|(with_reducible refine Kd.gu ?_ _)|(with_reducible refine Kd.gB ?_ _)|(with_reducible refine Kd.gy ?_)));(case aW=>exact HC5.out);rintro e w61 ⟨rfl,hb⟩;refine⟨_,rfl,?_⟩;have n_:af (Tn.S w #[.string a0,.string a1,.string a2,.int .i64 a3,.int .i64 a4,.slice A5 l.length c5,.string a6] jL b6 b8 x y z u Ak ck k' _):=⟨HS.out.below hb⟩;clear HS;have HS:=n_;clear n_ hb;have H24:=af.mk HS.out.1;obtain⟨Zf,Zg,Zh,Zi,Zj,Zk,Zl,Zw,Zx,Zy,Zz,ZA,ZB,ZC⟩:=iY H24))
         go_ret
         exact⟨by first|rfl|(simp;done),(by repeat(first|(with_reducible first|exact HS.out.2.2.2.2.2.2|apply ax|apply dm|apply mH)|exact HS.out.2.2.2.2.2.2))⟩
        |false=>
         have HT2:=af.mk (ht2 rfl);clear ht2
         go_wp2_with (first|((with_reducible refine bq (f:=13) rfl ?_);refine bC 94 Tryz.func13 #[.string a2,.slice A5 l.length c5] rfl ?_;(with_reducible refine(vC.calls k a2 _ _ l false _ ?aQ ?aW HT1.out).mono ?_);(case aQ=>repeat(first|exact(Kd.dN HR5.out HS.out.2.2.2.2.2.2)|(with_reducible refine Kd.gu ?_ _)|(with_reducible refine Kd.gB ?_ _)|(with_reducible refine Kd.gy ?_)));(case aW=>exact HC5.out);rintro e w61 ⟨rfl,hb⟩;refine⟨_,rfl,?_⟩;have n_:af (Tn.S w #[.string a0,.string a1,.string a2,.int .i64 a3,.int .i64 a4,.slice A5 l.length c5,.string a6] jL b6 b8 x y z u Ak ck k' _):=⟨HS.out.below hb⟩;clear HS;have HS:=n_;clear n_ hb;have H24:=af.mk HS.out.1;obtain⟨Zf,Zg,Zh,Zi,Zj,Zk,Zl,Zw,Zx,Zy,Zz,ZA,ZB,ZC⟩:=iY H24)|(go_at_call 13;(with_reducible refine(vC.calls k a2 _ _ k' true _ ?aQ ?aW HT2.out).mono ?_);(case aQ=>repeat(first|exact HS.out.2.2.2.2.2.1.1|(with_reducible refine Kd.gu ?_ _)|(with_reducible refine Kd.gB ?_ _)|(with_reducible refine Kd.gy ?_)));(case aW=>exact HS.out.2.2.2.2.2.1.2);rintro e w62 ⟨rfl,hb⟩;have n_:af (Tn.S w #[.string a0,.string a1,.string a2,.int .i64 a3,.int .i64 a4,.slice A5 l.length c5,.string a6] jL b6 b8 x y z u Ak ck k' _):=⟨HS.out.below hb⟩;clear HS;have HS:=n_;clear n_ hb H24;have H24:=af.mk HS.out.1;obtain⟨hcz7w62_0,hcz7w62_1,hcz7w62_2,hcz7w62_3,hcz7w62_4,hcz7w62_5,hcz7w62_6,hfz7w62_0,hfz7w62_1,hfz7w62_2,hfz7w62_3,hfz7w62_4,hfz7w62_5,hfz7w62_6⟩:=iY H24))
         go_ret
         exact⟨by first|rfl|(simp;done),(by repeat(first|(with_reducible first|exact HS.out.2.2.2.2.2.2|apply ax|apply dm|apply mH)|exact HS.out.2.2.2.2.2.2))⟩
end Go.Proofs.YtdcddenojjdmjaaGreatDoor.T
namespace Go.Proofs.YtdcddenojjdmjaaGreatDoor.topNames
open Go.ChangeShapes Go.WideShapes Go.ChangeAt Go.RowKit Go.Proofs.YtdcddenojjdmjaaGreatDoor Go.Proofs.YtdcddenojjdmjaaGreatDoorW.PrintWords
theorem own:ownKnob Tryz.prog.godebug=none:=by kernel_rfl
theorem laidOut:laidOutB Tryz.prog=true:=by kernel_rfl
theorem lifted(os:Os)(started:os.Started)(H:Type)(enc:TypeId×Value→H):
  ReturnsInHanded {} Tryz.checked os 3 .any (fun w args=>(Rows.topNamesSpec.pre enc Tryz.prog Tryz.f3 [] false w args∧laidMetH Tryz.prog T.Kw w)∧sizedMet enc Tryz.prog Tryz.f3 (OpenSpec.ofChange Rows.topNamesSpec) false w args) (Rows.topNamesSpec.post enc Tryz.prog Tryz.f3 false true false false):=by
 refine returnsInHanded_of_change_and (C:=Tryz.checked) (X:=fun w _=>laidMetH Tryz.prog T.Kw w) (fun _ _ _ hh h=>h.of_heap hh) own started (by kernel_rfl) Tryz.func3
  (ChangeSpec.witness_shaped (enc:=enc) (C:=Tryz.checked) (os:=os) (X:=fun w _=>laidMetH Tryz.prog T.Kw w) false (World.doorLaid Tryz.prog 400 os) #[.agg #[.string ByteArray.empty,.string ByteArray.empty,.string ByteArray.empty,.int .i64 0,.int .i64 0,.slice none 0 0,.string ByteArray.empty]] 8 rfl (World.shaped_of_RefB (by kernel_rfl) (by kernel_rfl)) (by kernel_rfl) (by kernel_rfl) (by kernel_rfl) (T.YO os _)) ?_
 intro W base args ds gs before hval0 hW hcnd hsz0 hL _;have hsz:(DataW.weightsEach Tryz.prog (Tryz.f3.params.toList++Rows.topNamesSpec.plain.varTypes Tryz.prog) (ds++gs)).all (· ≤reachBytes)=true:=hsz0;have hval:∀(j:Nat) t v,Tryz.f3.params[j]? =some t→args[j]? =some v→Value.okWide Tryz.prog W .any base t v:=hval0;have hW':=hW;obtain⟨p,q,hA0,hV,rfl,hfz,hnd⟩:=hW;have hA:DataW.TrodAll enc Tryz.prog W 0 (fun _=>true) true Tryz.f3.params.toList args.toList ds p:=hA0;rw[Tryz.params3]at hA hval hsz;obtain⟨v0,vs0,d0,ds0,p0,q0,hargs,rfl,rfl,h0,r0⟩:=trodAll_cons hA;obtain⟨rfl,rfl,rfl⟩:=trodAll_nil r0;obtain rfl:args= #[v0]:=by cases args;simp_all
 obtain⟨rfl,rfl⟩:=trodVars_none hV;have k0:=h0;have lt0:∀x ∈ p0,x.block<W.heap.size:=by obtain⟨m,hm⟩:=k0;exact DataW.trod_lt m _ _ _ hm
 obtain⟨x0,hk0,hq0⟩:=Op.rd_arg (Op.aaq Tryz.underlying24 (by kernel_rfl) ⟨rfl,rfl,rfl,rfl,rfl,rfl,rfl⟩ ⟨by kernel_rfl,by kernel_rfl,by kernel_rfl,by kernel_rfl,by kernel_rfl,by kernel_rfl,by kernel_rfl⟩ (Op.Gg Tryz.underlying9) (Op.Gg Tryz.underlying9) (Op.Gg Tryz.underlying9) (Op.Np Tryz.underlying3) (Op.Np Tryz.underlying3)
  (Op.rd_slice Tryz.underlying22 (by kernel_rfl) (B:=48) (by kernel_rfl) (d:=T.dw) (Op.rd_iso (fun x:T.aj=>(x.f0,x.f1,x.f2,x.f3)) (fun p=>⟨p.1,p.2.1,p.2.2.1,p.2.2.2⟩) (fun _=>rfl) (Op.aap Tryz.underlying67 (by kernel_rfl) ⟨rfl,rfl,rfl,rfl⟩ ⟨by kernel_rfl,by kernel_rfl,by kernel_rfl,by kernel_rfl⟩ (Op.Np Tryz.underlying3) (Op.Np Tryz.underlying3) (Op.Gg Tryz.underlying9) (Op.Gg Tryz.underlying9))))
  (Op.Gg Tryz.underlying9)) hsz 0 rfl rfl h0
 obtain⟨cs0_,rfl,_⟩:=okWide_struct Tryz.underlying24 (hval 0 24 v0 rfl rfl);obtain⟨_,_,e0,rfl,⟨_,_,rfl,rfl,⟨_,_,rfl,rfl,⟨_,_,rfl,rfl,⟨_,_,rfl,rfl,⟨_,_,rfl,⟨A0_5,c0_5,rfl,hc0_5,hr0_5⟩,rfl⟩⟩⟩⟩⟩⟩:=hk0;have hv0:Value.agg cs0_=.agg #[.string x0.1,.string x0.2.1,.string x0.2.2.1,.int .i64 x0.2.2.2.1,.int .i64 x0.2.2.2.2.1,.slice A0_5 x0.2.2.2.2.2.1.length c0_5,.string x0.2.2.2.2.2.2]:=Op.arg_agg ⟨_,rfl⟩ e0;injection hv0 with hv0_
 subst hv0_;obtain⟨y0,y1,y2,y3,y4,y5,y6⟩:=x0;simp only at hr0_5 hc0_5 hq0 ⊢;obtain⟨_,_,_,_,_,⟨hb,hx⟩,hf⟩:=hq0;have hlen:y5.length<2932031007402:=by omega
 have hstr:∀x ∈ y5,y6.size+x.f2.size≤9223372036854775807∧y6.size+x.f3.size≤9223372036854775807:=fun x h=>by
  obtain⟨_,_,h2,h3⟩:=hx x h;exact⟨by omega,by omega⟩
 clear hA0 hval0 hsz0 hsz hx hb;obtain⟨k',hk',hm'⟩:=T.aa9 y0 y1 y2 y3 y4 y5 y6 hlen hstr;refine(T.aa8 y0 y1 y2 y3 y4 A0_5 c0_5 y5 y6 k' W hr0_5 hc0_5 (T.Y2 hL) hk' hm').mono fun e W' ⟨he,bel0⟩=>?_
 have bel:Below W.heap.size W W':=bel0;subst he;exact⟨_,rfl,_,_,_,[],_,[],hW',trodAll_mk1 (shut_bool Tryz.underlying4 _),(trodAll_cons_mk (Below.trod laidOut (by kernel_rfl) (of_decide_eq_true (by kernel_rfl)) k0 bel lt0) trodAll_mk0),rfl,bel.frame _,fun h=>by cases h⟩
theorem over:Rows.topNamesRow.holds Tryz.pinned (OpenSpec.ofChange Rows.topNamesSpec):=
 OpenClaim.holds_of_wide 3 Tryz.f3 rfl rfl rfl rfl rfl rfl rfl ⟨rfl,rfl,rfl,rfl,rfl⟩ rfl rfl rfl rfl rfl (by kernel_rfl) Tryz.func3 (by kernel_rfl)
  (of_decide_eq_true (by kernel_rfl)) (by unfold Func.isWrapper;first|(rw[if_pos (by decide+kernel)];kernel_rfl)|(rw[if_neg (by decide+kernel)];exact⟨rfl,rfl⟩))
  (fun os started H enc _=>lifted os started H enc)
theorem proved:Rows.TopNamesCardSaid:=
 Claim7.holds_tied_plain_at .later [] [.data,.data,.data] true (true,"e3f81f2aa6e6f42b6fcb381840e8a3b9aabfef51bfd6a31da4dd057edc02229f") false
  over (fun _ h=>by cases h) (by kernel_rfl) (fun _ h=>by cases h) topNames_row_tie rfl ⟨rfl,rfl⟩ (by kernel_rfl) rfl
  (fun f fn hf hfn=>by
   obtain rfl:f=3:=Option.some.inj ((show Tryz.prog.funcNamed "cartouche/cartouchetop.TopNames" =some 3 by kernel_rfl).symm.trans hf) |>.symm;obtain rfl:fn=Tryz.f3:=(Option.some.inj (Tryz.func3.symm.trans hfn)).symm
   exact⟨by kernel_rfl,fun j t ht=>by
    rw[Tryz.params3]at ht
    have h3:t=24:=by
     rcases j with _|j
     ·simpa using ht.symm
     ·simp at ht
    subst h3;exact(show Tryz.prog.wantsStandIn 24=false by kernel_rfl)⟩)
  (by kernel_rfl)
#print axioms proved
end Go.Proofs.YtdcddenojjdmjaaGreatDoor.topNames
namespace Go.Proofs.YtdcddenojjdmjaaGreatDoor
theorem topNamesCard_holds:Rows.TopNamesCardSaid:=topNames.proved
end Go.Proofs.YtdcddenojjdmjaaGreatDoor
