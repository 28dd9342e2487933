import Derived.Test.YtdcddenojjdmjaaGreatDoorM18
set_option linter.all false
set_option maxHeartbeats 8000000
set_option maxRecDepth 100000
namespace Go.Proofs.YtdcddenojjdmjaaGreatDoor.T
open Go.RowKit Go.Proofs.YtdcddenojjdmjaaGreatDoorW.PrintWords Go.Proofs.YtdcddenojjdmjaaGreatDoorW.PrintLast Go.Proofs.YtdcddenojjdmjaaGreatDoorW.PrintMore
attribute [local go_sem] kH kL kK kP kJ kN kI kM
def qL.f(aH:Int)(aV:Int)(bg:ByteArray)(bn:ByteArray):Option (ByteArray×Int):=
 (gW.f 9 aH aV bg bn).bind fun m=>if m=true then
  (oV.f aH).bind fun q=>if q=true then
   (qY.f bg).bind fun x=>(qY.f bn).bind fun y=>
    if 2+x.1.size≤9223372036854775807∧2+x.1.size+y.1.size≤9223372036854775807 then some (strOfNums [aH%256,aV%256]++x.1++y.1,0)else none
  else some (strOfNums [aH%256,aV%256],0)
 else some ((⟨#[]⟩:ByteArray),1)
theorem qL.put(s x:ByteArray)(r:ByteArray)(z:Int)(g:Nat)(w:World)(hg:w.heap[g]? =some (.cells #[.string s] 9 (0,0)))(h:qY.f x=some (r,z))(hs:s.size+r.size≤9223372036854775807):
  Calls Tryz.prog 111 #[.string x,.pointer (some ⟨g,0,none⟩)] w fun e w'=>e=.returned (.tuple #[])∧w'.heap[g]? =some (.cells #[.string (s++r)] 9 (0,0))∧∀B,B≤g→B≤w.heap.size→Below B w w':=by
 have HG:=af.mk hg;have HH:=af.mk h;clear hg h
 go_enter Tryz.func111,Tryz.ntmps111
 go_wp2_with fail
 refine(qY.calls x r z _ HH.out).mono ?_;rintro e w1 ⟨rfl,hb⟩;have HB:=af.mk hb;have H1:=af.mk (aK HG.out hb);clear hb;have hc:w1.cell? ⟨g,0,none⟩=some (.string s):=(ah H1.out 0).trans rfl;have hf:=aA H1.out 0;have hs0:=eq_true hs;have hs1:(9223372036854775807<s.size+r.size)=False:=eq_false (Nat.not_lt.2 hs)
 go_wp2_with fail
 go_end0
 refine⟨rfl,by simpa using BG H1.out 0 (.string (s++r)),fun B h1 h2=>?_⟩;exact(HB.out.mono h2).setCell h1 _
theorem qL.parts{aH aV:Int}{bg bn:ByteArray}{r1:ByteArray}{r2:Int}(h:qL.f aH aV bg bn=some (r1,r2)):
  (gW.f 9 aH aV bg bn=some false∧r1=(⟨#[]⟩:ByteArray)∧r2=1)∨
  (gW.f 9 aH aV bg bn=some true∧oV.f aH=some false∧r1=strOfNums [aH%256,aV%256]∧r2=0)∨
  (∃x zx y zy,gW.f 9 aH aV bg bn=some true∧oV.f aH=some true∧qY.f bg=some (x,zx)∧qY.f bn=some (y,zy)∧2+x.size≤9223372036854775807∧2+x.size+y.size≤9223372036854775807∧
   r1=strOfNums [aH%256,aV%256]++x++y∧r2=0):=by
 unfold qL.f at h
 rcases hm:gW.f 9 aH aV bg bn with _|_|_
 ·rw[hm]at h;simp at h
 ·rw[hm]at h;simp at h;exact .inl ⟨rfl,h.1.symm,h.2.symm⟩
 ·rw[hm]at h;simp only[Option.bind_some,if_true]at h
  rcases hk:oV.f aH with _|_|_
  ·rw[hk]at h;simp at h
  ·rw[hk]at h;simp at h;exact .inr (.inl ⟨rfl,rfl,h.1.symm,h.2.symm⟩)
  ·rw[hk]at h;simp only[Option.bind_some,if_true]at h
   rcases hx:qY.f bg with _|⟨x,zx⟩
   ·rw[hx]at h;simp at h
   ·rcases hy:qY.f bn with _|⟨y,zy⟩
    ·rw[hx,hy]at h;simp at h
    ·rw[hx,hy]at h;simp only[Option.bind_some]at h
     split at h
     ·rename_i hc
      simp only[Option.some.injEq,Prod.mk.injEq]at h;exact .inr (.inr ⟨x,zx,y,zy,rfl,rfl,rfl,rfl,hc.1,hc.2,h.1.symm,h.2.symm⟩)
     ·cases h
theorem qL.two(w:World)(x y:Int):Lm (w.alloc (.cells #[.int .u8 x,.int .u8 y] 5)) .u8 (some ⟨w.heap.size,0,none⟩) 2 [x,y]:=by
 refine⟨rfl,by omega,fun _=>⟨_,rfl,fun j hj=>?_⟩⟩;have e0:(⟨w.heap.size,0,none⟩:Addr).add j=⟨w.heap.size,0+j,none⟩:=by unfold Addr.add;split<;>simp_all
 rw[e0,ah (bI w _)];have:j=0∨j=1:=by omega
 rcases this with rfl|rfl<;>rfl
theorem qL.calls(aH:Int)(aV:Int)(bg:ByteArray)(bn:ByteArray)(r1:ByteArray)(r2:Int)(w:World)(h:qL.f aH aV bg bn=some (r1,r2)):
  Calls Tryz.prog 52 #[.agg #[.int .i64 aH,.int .i64 aV,.string bg,.string bn]] w fun e w'=>e=.returned (.tuple #[.string r1,.int .i64 r2])∧Below w.heap.size w w':=by
 have HB0:=af.mk (Below.refl w.heap.size w)
 rcases qL.parts h with ⟨hm,rfl,rfl⟩|⟨hm,hk,rfl,rfl⟩|⟨x,zx,y,zy,hm,hk,hx,hy,hs1,hs2,rfl,rfl⟩
 ·have HM:=af.mk hm;clear h hm
  go_enter Tryz.func52,Tryz.ntmps52
  go_wp2_with fail
  refine(gW.calls 9 aH aV bg bn false _ HM.out).mono ?_;rintro e w1 ⟨rfl,hb⟩;have HB:=af.mk (av (ax (Below.refl _ _) _) hb);clear hb
  go_wp2_with fail
  go_ret2
  exact⟨rfl,HB.out⟩
 ·have HM:=af.mk hm;have HK:=af.mk hk;clear h hm hk
  go_enter Tryz.func52,Tryz.ntmps52
  go_wp2_with fail
  refine(gW.calls 9 aH aV bg bn true _ HM.out).mono ?_;rintro e w1 ⟨rfl,hb⟩;have HB:=af.mk (av (ax (Below.refl _ _) _) hb);have BK:=af.mk (aK (bI w _) hb);clear hb;have hlt:=iB BK.out;have hc0:w1.cell? ⟨w.heap.size,0,none⟩=some (.int .i64 aH):=(ah BK.out 0).trans rfl;have hc1:w1.cell? ⟨w.heap.size,1,none⟩=some (.int .i64 aV):=(ah BK.out 1).trans rfl;have hcv:=NK (P:=Tryz.prog) (src:=155) (dst:=9) (e:=5) (c:=2) Tryz.underlying155 Tryz.underlying5 Tryz.underlying9 (qL.two w1 (aH%256) (aV%256))
  go_wp2_with fail
  clear hcv;refine(oV.calls aH false _ HK.out).mono ?_;rintro e w2 ⟨rfl,⟨nq,rfl⟩⟩;clear hc0 hc1
  go_wp2_with fail
  go_ret2
  exact⟨rfl,by repeat(first|exact HB.out|apply ax|apply dm)⟩
 ·have HM:=af.mk hm;have HK:=af.mk hk;have HX:=af.mk hx;have HY:=af.mk hy;have S1:=af.mk hs1;have S2:=af.mk hs2;clear h hm hk hx hy hs1 hs2
  go_enter Tryz.func52,Tryz.ntmps52
  go_wp2_with fail
  refine(gW.calls 9 aH aV bg bn true _ HM.out).mono ?_;rintro e w1 ⟨rfl,hb⟩;have HB:=af.mk (av (ax (Below.refl _ _) _) hb);have BK:=af.mk (aK (bI w _) hb);clear hb;have hlt:=iB BK.out;have hc0:w1.cell? ⟨w.heap.size,0,none⟩=some (.int .i64 aH):=(ah BK.out 0).trans rfl;have hc1:w1.cell? ⟨w.heap.size,1,none⟩=some (.int .i64 aV):=(ah BK.out 1).trans rfl;have hc2:w1.cell? ⟨w.heap.size,2,none⟩=some (.string bg):=(ah BK.out 2).trans rfl;have hcv:=NK (P:=Tryz.prog) (src:=155) (dst:=9) (e:=5) (c:=2) Tryz.underlying155 Tryz.underlying5 Tryz.underlying9 (qL.two w1 (aH%256) (aV%256))
  go_wp2_with fail
  clear hcv;refine(oV.calls aH true _ HK.out).mono ?_;rintro e w2 ⟨rfl,⟨nq,rfl⟩⟩;clear hc0 hc1
  go_wp2_with fail
  have hz:(strOfNums [aH%256,aV%256]).size=2:=rfl;obtain⟨W,hW⟩:∃W,W=(((w1.alloc (.cells #[.int .u8 (aH%256),.int .u8 (aV%256)] 5)).alloc (.cells #[.string (strOfNums [aH%256,aV%256])] 9)).drewN nq):=⟨_,rfl⟩;have HBW:Below w.heap.size w W:=by rw[hW];repeat(first|exact HB.out|apply ax|apply dm)
  have BKW:=aU (ay (ay BK.out (.cells #[.int .u8 (aH%256),.int .u8 (aV%256)] 5)) (.cells #[.string (strOfNums [aH%256,aV%256])] 9)) nq;have BGW:=aU (bI (w1.alloc (.cells #[.int .u8 (aH%256),.int .u8 (aV%256)] 5)) (.cells #[.string (strOfNums [aH%256,aV%256])] 9)) nq;have hs1:(w1.alloc (.cells #[.int .u8 (aH%256),.int .u8 (aV%256)] 5)).heap.size=w1.heap.size+1:=by simp
  rw[← hW]at BKW BGW;rw[hs1]at BGW;rw[← hW];clear hc2 hW;have hWs:=iB BGW;have BKW:=af.mk BKW;have HBW:=af.mk HBW;have hlt2:w.heap.size≠w1.heap.size+1:=by omega
  refine(qL.put _ bg x zx (w1.heap.size+1) W BGW HX.out (by rw[hz];exact S1.out)).mono ?_;rintro e w2 ⟨rfl,hg2,hB2⟩;have HG2:=af.mk hg2;have HB2:=af.mk (HBW.out.trans (hB2 w.heap.size (by omega) (by omega)));have BK2:=af.mk (((hB2 (w1.heap.size+1) (Nat.le_refl _) (by omega)).block w.heap.size (by omega)).trans BKW.out);clear hg2 hB2 BGW BKW;have hc3:w2.cell? ⟨w.heap.size,3,none⟩=some (.string bn):=(ah BK2.out 3).trans rfl
  go_wp2_with fail
  refine(qL.put _ bn y zy (w1.heap.size+1) w2 HG2.out HY.out (by rw[ByteArray.size_append,hz];exact S2.out)).mono ?_;rintro e w3 ⟨rfl,hg3,hB3⟩;have HB3:=af.mk (HB2.out.trans (hB3 w.heap.size (by omega) HB2.out.size));have hc4:=(ah hg3 0).trans rfl;clear hg3 hB3 hc3
  go_wp2_with fail
  go_ret2
  exact⟨rfl,HB3.out⟩
def oU.l0:Nat→List ByteArray→List (aj)→Int→Int→Option (List ByteArray×Int)
 |0,_,_,_,_=>none
 |k+1,x4,vQ,x13,pF=>if pF<x13 then(if 0≤pF then(if pF<(vQ.length:Int)then((qL.f ((ak vQ pF).f0) ((ak vQ pF).f1) ((ak vQ pF).f2) ((ak vQ pF).f3)).bind fun OT=>(if OT.2=0 then(if x4.length<8796093022208 then(oU.l0 k (x4++[OT.1]) vQ x13 (wrap64 (pF+1)))else(none))else(some (([]:List ByteArray),OT.2))))else(none))else(none))else(some (x4,0))
def oU.f(k:Nat)(l0:List (aj)):Option (List ByteArray×Int):=if(l0.length:Int)>256 then(some (([]:List ByteArray),4))else(oU.l0 k ([]:List ByteArray) l0 (l0.length:Int) 0)
theorem oU.calls(k:Nat)(A0:Option Addr)(c0:Nat)(l0:List (aj))(r1:List ByteArray)(r2:Int)(w:World)(hr0:Kd.C dw w A0 l0.length l0)(hc0:l0.length≤c0)(h:oU.f k l0=some (r1,r2)):
  Calls Tryz.prog 19 #[.slice A0 l0.length c0] w fun e w'=>∃fE:Value,e=.returned (.tuple #[fE,.int .i64 r2])∧Kd.R Kd.string 9 w' w.heap.size (fun _=>True) fE r1∧Below w.heap.size w w':=by
 have wN:=Tryz.underlying67;have cZ:=af.mk hr0;have gT:=af.mk hc0;clear hr0 hc0;have HB:=af.mk (Below.refl w.heap.size w);have H:(if(l0.length:Int)>256 then(some (([]:List ByteArray),4))else(oU.l0 k ([]:List ByteArray) l0 (l0.length:Int) 0))=some (r1,r2):=h;clear h
 by_cases c2:(l0.length:Int)>256
 ·rw[if_pos c2]at H;have ig:decide (256<(l0.length:Int))=true:=decide_eq_true c2;have nJ:decide (256<l0.length)=true:=decide_eq_true (by omega);clear c2;simp only[Option.some.injEq,Prod.mk.injEq]at H;obtain⟨rfl,rfl⟩:=H
  go_enter Tryz.func19,Tryz.ntmps19
  go_wp2
  go_ret2
  exact⟨_,bS,by first|exact Kd.dV _ _ _ _ _|exact Kd.iP _ _ _ _ _|exact Kd.iR _ _ _ _ _|exact Kd.iQ _ _ _ _ _|exact Kd.j5 _ _ _ _ _,ai⟩
 ·rw[if_neg c2]at H;have ig:decide (256<(l0.length:Int))=false:=decide_eq_false c2;have nJ:decide (256<l0.length)=false:=decide_eq_false (by omega);clear c2;have H':=af.mk H;clear H
  go_enter Tryz.func19,Tryz.ntmps19
  go_wp2
  go_loopg [4,14] k (fun kq v4 v14 w'=>∃(dY:List ByteArray) (fM:Int),v14=.int .i64 fM∧af (oU.l0 kq dY l0 (l0.length:Int) fM=some (r1,r2))∧af (kq≤k)∧af (Kd.R Kd.string 9 w' w.heap.size (fun _=>True) v4 dY)∧af (Below w.heap.size w w'))
  case atStart=>exact⟨(([]:List ByteArray)),(0),dx,H',⟨Nat.le_refl _⟩,⟨by first|exact Kd.dV _ _ _ _ _|exact Kd.iP _ _ _ _ _|exact Kd.iR _ _ _ _ _|exact Kd.iQ _ _ _ _ _|exact Kd.j5 _ _ _ _ _⟩,⟨ai⟩⟩
  case round=>
   clear H'
   try clear c1
   try clear c2
   try clear ig
   try clear nJ
   try clear p2
   obtain⟨dY,fM,rfl,HA,dD,vX,HB⟩:=hrel
   cases gk with
   |zero=>exact absurd HA.out (by simp[oU.l0])
   |succ k1=>
    have H:=HA.out;clear HA;simp only[oU.l0]at H
    by_cases c3:fM<(l0.length:Int)
    ·rw[if_pos c3]at H;have fJ:decide (fM<(l0.length:Int))=true:=decide_eq_true c3;clear c3
     by_cases c4:0≤fM
     ·rw[if_pos c4]at H;have iH:decide (0≤fM)=true:=decide_eq_true c4;clear c4
      by_cases c5:fM<(l0.length:Int)
      ·rw[if_pos c5]at H;have jW:decide (fM<(l0.length:Int))=true:=decide_eq_true c5;clear c5;replace H:=Option.bind_eq_some_iff.mp H;obtain⟨⟨t235,t236⟩,A60,H⟩:=H;(try dsimp only at H);have A6:=af.mk A60;clear A60
       by_cases c7:t236=0
       ·rw[if_pos c7]at H;have kF:(t236==0)=true:=beq_iff_eq.mpr c7;have rJ:(t236 != 0)=false:=bne_eq_false_iff_eq.mpr c7;clear c7
        by_cases c8:dY.length<8796093022208
        ·rw[if_pos c8]at H;have LMc8:=af.mk c8;clear c8;obtain⟨y237,J9⟩:∃y_:List ByteArray,y_=(dY++[t235]):=⟨_,rfl⟩;replace H:(oU.l0 k1 y237 l0 (l0.length:Int) (wrap64 (fM+1)))=some (r1,r2):=by first|(rw[J9];with_reducible exact H)|(have bP:=(Option.bind_some _ _).symm.trans H;rw[J9];with_reducible exact bP)|(have bP:=(Option.bind_some _ _).symm.trans H;with_reducible exact bP)|with_reducible exact H|(rw[J9];exact H)|exact H
         have Ny237:=af.mk J9;clear J9;have H':=af.mk H;clear H;have yK:0≤(fM:Int):=aG;have yQ:fM<(l0.length:Int):=aG;obtain⟨ad233,e233,FV,JL,JM,JN⟩:=gL cZ.out fM yK yQ
         cases e233
         replace FV:=aM FV;replace JL:=aM JL;replace JM:=aM JM;replace JN:=aM JN;replace yK:=eq_true yK;replace yQ:=eq_true yQ
         go_wp2_with (first|((with_reducible refine bZ (N:=6) rfl ?_);refine dn 6 (cs:=#[.int .i64 0,.int .i64 0,.string (⟨#[]⟩:ByteArray),.string (⟨#[]⟩:ByteArray)]) (t:=67) ?_;intro rM hg w9 aC hb;replace vX:=dA vX hb;have uP:=af.mk (aC);have GW234:af (w.heap.size≤rM):=aT hg;have GE234:af (w.heap.size≤rM):=aT hg;replace HB:=af.mk (av ai hb);clear hb aC hg;obtain⟨wG,wH,wI,Aj,wJ,wK,wL,Az⟩:=fB uP)|((with_reducible refine bq (f:=52) rfl ?_);refine bC 20 Tryz.func52 #[.agg #[.int .i64 ((ak l0 fM).f0),.int .i64 ((ak l0 fM).f1),.string ((ak l0 fM).f2),.string ((ak l0 fM).f3)]] rfl ?_;(with_reducible refine(qL.calls ((ak l0 fM).f0) ((ak l0 fM).f1) ((ak l0 fM).f2) ((ak l0 fM).f3) t235 t236 _ A6.out).mono ?_);rintro e y9 ⟨rfl,hb⟩;refine⟨_,rfl,?_⟩;replace vX:=af.mk (Kd.gD (by(with_reducible repeat(first|apply Kd.bX|apply Kd.dK|apply Kd.di));exact(Kd.bY (Kd.aD (p:=⟨rM,3,none⟩) (Kd.aD (p:=⟨rM,2,none⟩) (Kd.aD (p:=⟨rM,1,none⟩) (Kd.aD (p:=⟨rM,0,none⟩) (Kd.je vX.out uP.out (by decide)) (fun _ hk=>hk.2) (.int .i64 ((ak l0 fM).f0))) (fun _ hk=>hk.2) (.int .i64 ((ak l0 fM).f1))) (fun _ hk=>hk.2) (.string ((ak l0 fM).f2))) (fun _ hk=>hk.2) (.string ((ak l0 fM).f3))) (fun _ h_=>h_.1))) hb);replace uP:=af.mk (aK (g:=rM) (o:=.cells #[.int .i64 ((ak l0 fM).f0),.int .i64 ((ak l0 fM).f1),.string ((ak l0 fM).f2),.string ((ak l0 fM).f3)] 67 (0,0)) (by exact rW uP.out) hb);replace HB:=af.mk (av ai hb);(try clear hb);(try clear hb2);(try clear hk);(try clear hi))|((with_reducible refine jN (b:=.append) (xs:=#[.tmp 26,.tmp 28]) rfl ?_);at_builtin;refine Kd.kY Kd.string (w0:=w) w.heap.size rfl (.tmp 26) (.tmp 28) 56 9 (.string ⟨#[]⟩) 16 rfl Tryz.underlying56 DW rfl (by decide) (by omega) u4 dY t235 [.string t235] (fun _=>True) (fun _=>False) rfl rfl ?aP (fun _ hk=>hk.elim) ?aF ?aO ?aB ?aS ?aL ?_;(case aP=>exact rfl);(case aB=>exact ai);(case aF=>exact(fun _ _=>trivial));(case aO=>exact(dZ vX));(case aS=>exact(fI ai));(case aL=>have:=LMc8.out;omega);intro v238 w12 ho hb hg hat;rw[← Ny237.out]at ho;have dL:=af.mk (fP (g:=rM) (o:=.cells #[.int .i64 ((ak l0 fM).f0),.int .i64 ((ak l0 fM).f1),.string ((ak l0 fM).f2),.string ((ak l0 fM).f3)] 67 (0,0)) (fU uP) hg (Kd.jK vX.out uP.out (by decide)));have dW:=af.mk (hb);have dX:=af.mk (ho);clear uP HB vX;have uP:=dL;have HB:=dW;have HO239:=dX;clear dL dW dX ho hb hg hat))
         go_roundg k1
         case measure=>have:=dD.out;omega
         case rel=>exact⟨(y237),(wrap64 (fM+1)),dx,H',⟨by have:=dD.out;omega⟩,⟨dZ HO239⟩,⟨ai⟩⟩
        ·rw[if_neg c8]at H;exact absurd H (by simp)
       ·rw[if_neg c7]at H;have kF:(t236==0)=false:=beq_eq_false_iff_ne.mpr c7;have rJ:(t236 != 0)=true:=bne_iff_ne.mpr c7;simp only[Option.some.injEq,Prod.mk.injEq]at H;obtain⟨rfl,rfl⟩:=H;have yK:0≤(fM:Int):=aG;have yQ:fM<(l0.length:Int):=aG;obtain⟨ad233,e233,FV,JL,JM,JN⟩:=gL cZ.out fM yK yQ
        cases e233
        replace FV:=aM FV;replace JL:=aM JL;replace JM:=aM JM;replace JN:=aM JN;replace yK:=eq_true yK;replace yQ:=eq_true yQ
        go_wp2_with (first|((with_reducible refine bZ (N:=6) rfl ?_);refine dn 6 (cs:=#[.int .i64 0,.int .i64 0,.string (⟨#[]⟩:ByteArray),.string (⟨#[]⟩:ByteArray)]) (t:=67) ?_;intro rM hg w13 aC hb;replace vX:=dA vX hb;have uP:=af.mk (aC);have GW234:af (w.heap.size≤rM):=aT hg;have GE234:af (w.heap.size≤rM):=aT hg;replace HB:=af.mk (av ai hb);clear hb aC hg;obtain⟨Al,Am,Ao,Ap,AA,AB,AJ,AL⟩:=fB uP)|((with_reducible refine bq (f:=52) rfl ?_);refine bC 20 Tryz.func52 #[.agg #[.int .i64 ((ak l0 fM).f0),.int .i64 ((ak l0 fM).f1),.string ((ak l0 fM).f2),.string ((ak l0 fM).f3)]] rfl ?_;(with_reducible refine(qL.calls ((ak l0 fM).f0) ((ak l0 fM).f1) ((ak l0 fM).f2) ((ak l0 fM).f3) t235 t236 _ A6.out).mono ?_);rintro e wX ⟨rfl,hb⟩;refine⟨_,rfl,?_⟩;replace vX:=af.mk (Kd.gD (by(with_reducible repeat(first|apply Kd.bX|apply Kd.dK|apply Kd.di));exact(Kd.bY (Kd.aD (p:=⟨rM,3,none⟩) (Kd.aD (p:=⟨rM,2,none⟩) (Kd.aD (p:=⟨rM,1,none⟩) (Kd.aD (p:=⟨rM,0,none⟩) (Kd.je vX.out uP.out (by decide)) (fun _ hk=>hk.2) (.int .i64 ((ak l0 fM).f0))) (fun _ hk=>hk.2) (.int .i64 ((ak l0 fM).f1))) (fun _ hk=>hk.2) (.string ((ak l0 fM).f2))) (fun _ hk=>hk.2) (.string ((ak l0 fM).f3))) (fun _ h_=>h_.1))) hb);replace uP:=af.mk (aK (g:=rM) (o:=.cells #[.int .i64 ((ak l0 fM).f0),.int .i64 ((ak l0 fM).f1),.string ((ak l0 fM).f2),.string ((ak l0 fM).f3)] 67 (0,0)) (by exact rW uP.out) hb);replace HB:=af.mk (av ai hb);(try clear hb);(try clear hb2);(try clear hk);(try clear hi)))
        go_ret2
        exact⟨_,bS,by first|exact Kd.dV _ _ _ _ _|exact Kd.iP _ _ _ _ _|exact Kd.iR _ _ _ _ _|exact Kd.iQ _ _ _ _ _|exact Kd.j5 _ _ _ _ _,ai⟩
      ·rw[if_neg c5]at H;exact absurd H (by simp)
     ·rw[if_neg c4]at H;exact absurd H (by simp)
    ·rw[if_neg c3]at H;have fJ:decide (fM<(l0.length:Int))=false:=decide_eq_false c3;clear c3;simp only[Option.some.injEq,Prod.mk.injEq]at H;obtain⟨rfl,rfl⟩:=H
     go_wp2
     go_ret2
     exact⟨_,bS,by(with_reducible repeat(first|apply Kd.bX|apply Kd.dK|apply Kd.di));exact vX.out,ai⟩
def wu.f(a0:ByteArray):Option (ByteArray):=if a0.size≤281474976710656 then some ⟨(Gn a0).toArray⟩else none
theorem wu.calls(a0:ByteArray)(r:ByteArray)(w:World)(h:wu.f a0=some r)(hG:jR w):
  Calls Tryz.prog 53 #[.string a0] w fun e w'=>e=.returned (.string r)∧Below w.heap.size w w':=by
 unfold wu.f at h
 split at h
 case isTrue hs=>
  have h1:=Option.some.inj h;rw[← h1];exact Yx a0 hs w hG
 case isFalse=>cases h
def dJ.go:Nat→Int→List Int→List Int
 |0,_,acc=>acc
 |k+1,v,acc=>if v=0 then acc else dJ.go k (v/256) (v%256::acc)
def dJ.digits(v:Int):List Int:=dJ.go 8 v []
def dJ.f(a0:Int):Option (ByteArray):=if 0≤a0∧a0≤18446744073709551615 then some (strOfNums (((dJ.digits a0).length:Int)::dJ.digits a0))else none
def dJ.At(a0:Int)(k:Nat)(x:Int)(C:Array Value):Prop:=
 k≤8∧0≤x∧x<256 ^ (8-k)∧C.size=9∧∃ds:List Int,C.toList.drop (9-k)=ds.map (Value.int .u8)∧dJ.go (8-k) x ds=dJ.digits a0
theorem dJ.Yq(a0:Int)(h0:0≤a0)(h1:a0≤18446744073709551615):dJ.At a0 0 a0 #[.int .u8 0,.int .u8 0,.int .u8 0,.int .u8 0,.int .u8 0,.int .u8 0,.int .u8 0,.int .u8 0,.int .u8 0]:=
 ⟨by omega,h0,by have:(256:Int) ^ (8-0)=18446744073709551616:=(by decide);omega,rfl,[],rfl,rfl⟩
theorem dJ.at_lt{a0:Int}{k:Nat}{x:Int}{C:Array Value}(h:dJ.At a0 k x C)(hx:0<x):k<8:=by
 obtain⟨h1,h2,h3,_⟩:=h
 rcases Nat.lt_or_ge k 8 with h|h
 ·exact h
 ·obtain rfl:k=8:=by omega
  simp at h3;omega
theorem dJ.at_step{a0:Int}{k:Nat}{x:Int}{C:Array Value}(h:dJ.At a0 k x C)(hx:0<x):dJ.At a0 (k+1) (x/256) (C.setIfInBounds (8-k) (.int .u8 (x%256))):=by
 have hk:=dJ.at_lt h hx;obtain⟨h1,h2,h3,h4,ds,h5,h6⟩:=h;refine⟨hk,by omega,?_,by simpa using h4,x%256::ds,?_,?_⟩
 ·have e:(256:Int) ^ (8-k)=256 ^ (8-(k+1))*256:=by rw[← Int.pow_succ];congr 1;omega
  rw[e]at h3;exact Int.ediv_lt_of_lt_mul (by omega) h3
 ·have e:9-(k+1)=8-k:=by omega
  have hl:8-k<C.toList.length:=by simp;omega
  have hg:(C.toList.set (8-k) (Value.int .u8 (x%256))).length=9:=by simp[h4]
  rw[e,Array.toList_setIfInBounds,List.drop_eq_getElem_cons (by omega)];have e2:8-k+1=9-k:=by omega
  rw[e2,List.drop_set_of_lt (by omega),h5];simp
 ·have e:8-k=(8-(k+1))+1:=by omega
  rw[e,dJ.go,if_neg (by omega)]at h6;exact h6
theorem dJ.Yr{a0:Int}{k:Nat}{x:Int}{C:Array Value}(h:dJ.At a0 k x C)(hx:0<x):dJ.At a0 (k+1) (x/256) (C.setIfInBounds (9-k-1) (.int .u8 (x%256))):=by
 have e:9-k-1=8-k:=by omega
 rw[e];exact dJ.at_step h hx
theorem dJ.at_end{a0:Int}{k:Nat}{x:Int}{C:Array Value}(h:dJ.At a0 k x C)(hx:¬0<x):∃ds:List Int,ds.length=k∧C.toList.drop (9-k)=ds.map (Value.int .u8)∧ds=dJ.digits a0:=by
 obtain⟨h1,h2,h3,h4,ds,h5,h6⟩:=h;obtain rfl:x=0:=by omega
 have hl:ds.length=k:=by
  have:=congrArg List.length h5;simp[h4]at this;omega
 refine⟨ds,hl,h5,?_⟩;rw[← h6]
 cases 8-k<;>simp[dJ.go]
theorem dJ.Sq:Tryz.prog.arrayLen 223=9:=by kernel_rfl
theorem dJ.arr:Tryz.prog.underlying 223=some (.array (Tryz.prog.arrayLen 223) (Tryz.prog.elem 223)):=by kernel_rfl
theorem dJ.YP(w:World):(sizeOf (Tryz.prog.elem 223)).run Tryz.prog w=.ok 1 w:=by kernel_rfl
theorem dJ.cut(W:World)(g k:Nat)(hk:k≤8):
  (Instr.sliceAt 223 (Value.pointer (some {block:=g,off:=0})) (some (Value.int IntKind.i64 (9- ↑k-1))) none none).run Tryz.prog W=.ok (.slice (some ⟨g,9-k-1,none⟩) (k+1) (k+1)) W:=by
 rw[run_sliceAt_array_l W 223 _ dJ.arr .i64 (9- ↑k-1) (by omega) (by rw[dJ.Sq];omega)];rw[dJ.YP,dJ.Sq];have e1:(9-(k:Int)-1).toNat=9-k-1:=by omega
 simp only[Result.andThen,slicedAt,e1];rw[if_neg (by omega)];simp[Addr.add];omega
theorem dJ.reads(w:World)(k:Nat)(ds:List Int)(C:Array Value)(hk:k≤8)(hC:C.size=9)(hl:ds.length=k)(hd:C.toList.drop (9-k)=ds.map (Value.int .u8)):
  Lm (w.alloc (.cells (C.setIfInBounds (9-k-1) (Value.int .u8 (8-(9- ↑k-1)))) 223)) .u8 (some ⟨w.heap.size,9-k-1,none⟩) (k+1) ((k:Int)::ds):=by
 refine⟨by simp[hl],by omega,fun _=>⟨_,rfl,fun j hj=>?_⟩⟩;have e0:(⟨w.heap.size,9-k-1,none⟩:Addr).add j=⟨w.heap.size,9-k-1+j,none⟩:=by unfold Addr.add;split<;>simp_all
 rw[e0];have hb:(w.alloc (.cells (C.setIfInBounds (9-k-1) (Value.int .u8 (8-(9- ↑k-1)))) 223)).heap[w.heap.size]? =some (.cells (C.setIfInBounds (9-k-1) (Value.int .u8 (8-(9- ↑k-1)))) 223 (0,0)):=heap_alloc_new w _;rw[ah hb]
 rcases j with _|j
 ·rw[Nat.add_zero,Array.getElem?_setIfInBounds_self_of_lt (by omega)];simp;omega
 ·have e:(C.toList.drop (9-k))[j]? =(ds.map (Value.int .u8))[j]? :=by rw[hd]
  rw[List.getElem?_drop]at e;have e2:9-k-1+(j+1)=9-k+j:=by omega
  rw[e2,Array.getElem?_setIfInBounds_ne (by omega)];rw[Array.getElem?_toList]at e;rw[e];simp[List.getElem?_eq_getElem (show j<ds.length by omega),List.getD_eq_getElem?_getD]
theorem dJ.calls(a0:Int)(r:ByteArray)(w:World)(h:dJ.f a0=some r):
  Calls Tryz.prog 82 #[.int .u64 a0] w fun e w'=>e=.returned (.string r)∧Below w.heap.size w w':=by
 have H:0≤a0∧a0≤18446744073709551615∧strOfNums (((dJ.digits a0).length:Int)::dJ.digits a0)=r:=by
  unfold dJ.f at h
  split at h
  ·rename_i h';exact⟨h'.1,h'.2,Option.some.inj h⟩
  ·cases h
 clear h;obtain⟨h0,h1,hr⟩:=H;have HS:=af.mk (dJ.Yq a0 h0 h1);have HR:=af.mk hr;clear h0 h1 hr
 go_enter Tryz.func82,Tryz.ntmps82
 go_wp2
 go_loopw [0,4] (fun v i wr=>∃(k:Nat) (x:Int) (C:Array Value),af (dJ.At a0 k x C)∧k≤8∧0≤x∧v=.int .u64 x∧i=.int .i64 (9-k)∧wr=w.alloc (.cells C 223)) (fun _ i _=>(intOf i).toNat)
 case atStart=>exact⟨0,a0,_,HS,by omega,HS.out.2.1,rfl,rfl,rfl⟩
 case round=>
  obtain⟨k,x,C,HA,hk,hx0,rfl,rfl,rfl⟩:=hrel;have hC:C.size=9:=HA.out.2.2.2.1;obtain⟨v8,hv8⟩:∃v,C[9-k-1]? =some v:=⟨_,Array.getElem?_eq_getElem (by omega)⟩
  by_cases hx:0<x
  ·have hk8:k<8:=dJ.at_lt HA.out hx
   go_wp2
   go_roundw
   case rel=>exact⟨k+1,x/256,_,⟨dJ.Yr HA.out hx⟩,by omega,by omega,rfl,by go_num,rfl⟩
   case measure=>simp[intOf];omega
  ·obtain⟨ds,hd1,hd2,hd3⟩:=dJ.at_end HA.out hx;have hsl:=fun W=>dJ.cut W w.heap.size k hk
   have hrd:=dJ.reads w k ds C hk hC hd1 hd2;have hcv:=NK (P:=Tryz.prog) (src:=155) (dst:=9) (e:=5) (c:=k+1) Tryz.underlying155 Tryz.underlying5 Tryz.underlying9 hrd;have Hd:=af.mk hd1;have Hd3:=af.mk hd3;clear hd1 hd2 hd3 hrd
   go_wp2
   go_ret
   exact⟨by rw[← HR.out,← Hd3.out,Hd.out];rfl,(Below.refl _ _).alloc (Nat.le_refl _) _⟩
def KT.f(a0:Int)(a1:ByteArray):Option (ByteArray):=(dJ.f (IntKind.u64.wrap (a0))).bind fun t240=>(if 1+t240.size≤9223372036854775807 then(if((⟨#[2]⟩:ByteArray)++t240).size+a1.size≤9223372036854775807 then(some (((⟨#[2]⟩:ByteArray)++t240)++a1))else(none))else(none))
theorem KT.calls(a0:Int)(a1:ByteArray)(r:ByteArray)(w:World)(h:KT.f a0 a1=some r):
  Calls Tryz.prog 54 #[.int .i64 a0,.string a1] w fun e w'=>e=.returned (.string r)∧Below w.heap.size w w':=by
 have HB:=af.mk (Below.refl w.heap.size w);have H:((dJ.f (IntKind.u64.wrap (a0))).bind fun t240=>(if 1+t240.size≤9223372036854775807 then(if((⟨#[2]⟩:ByteArray)++t240).size+a1.size≤9223372036854775807 then(some (((⟨#[2]⟩:ByteArray)++t240)++a1))else(none))else(none)))=some r:=h;clear h;replace H:=Option.bind_eq_some_iff.mp H;obtain⟨t240,jD,H⟩:=H;(try dsimp only at H);have A3:=af.mk jD;clear jD
 by_cases c4:1+t240.size≤9223372036854775807
 ·rw[if_pos c4]at H;have iH:=eq_true c4;have zm:decide (1+t240.size≤9223372036854775807)=true:=decide_eq_true c4
  try have c4b2:(9223372036854775807<1+t240.size)=False:=eq_false (Nat.not_lt.2 c4)
  by_cases c5:((⟨#[2]⟩:ByteArray)++t240).size+a1.size≤9223372036854775807
  ·rw[if_pos c5]at H;have jW:=eq_true c5;have xS:decide (((⟨#[2]⟩:ByteArray)++t240).size+a1.size≤9223372036854775807)=true:=decide_eq_true c5
   try have c5b2:(9223372036854775807<((⟨#[2]⟩:ByteArray)++t240).size+a1.size)=False:=eq_false (Nat.not_lt.2 c5)
   obtain rfl:=Option.some.inj H
   go_enter Tryz.func54,Tryz.ntmps54
   go_wp2_with (first|((with_reducible refine bq (f:=82) rfl ?_);refine bC 7 Tryz.func82 #[.int .u64 (IntKind.u64.wrap (a0))] rfl ?_;(with_reducible refine(dJ.calls (IntKind.u64.wrap (a0)) t240 _ A3.out).mono ?_);rintro e w6 ⟨rfl,hb⟩;refine⟨_,rfl,?_⟩;replace HB:=af.mk (av ai hb);(try clear hb);(try clear hb2);(try clear hk);(try clear hi)))
   go_ret
   exact⟨bS,ai⟩
  ·rw[if_neg c5]at H;exact absurd H (by simp)
 ·rw[if_neg c4]at H;exact absurd H (by simp)
def ru.l0:Nat→Int→Int→Option (Int)
 |0,_,_=>none
 |k+1,x0,x3=>if(wrap64 (2*x3))<x0 then(ru.l0 k x0 (wrap64 (x3*2)))else(some x3)
def ru.f(k:Nat)(a0:Int):Option (Int):=ru.l0 k a0 1
theorem ru.calls(k:Nat)(a0:Int)(r:Int)(w:World)(h:ru.f k a0=some r):
  Calls Tryz.prog 121 #[.int .i64 a0] w fun e w'=>e=.returned (.int .i64 r)∧aX w w':=by
 have H:(ru.l0 k a0 1)=some r:=h;clear h;have H':=af.mk H;clear H
 go_enter Tryz.func121,Tryz.ntmps121
 go_wp2
 go_loopg [3] k (fun kq v3 w'=>∃(dh:Int),v3=.int .i64 dh∧af (ru.l0 kq a0 dh=some r)∧af (kq≤k)∧aX w w')
 case atStart=>exact⟨(1),dx,H',⟨Nat.le_refl _⟩,by repeat(first|exact aX.refl _|apply aX.step)⟩
 case round=>
  clear H'
  try clear c1
  obtain⟨dh,rfl,HA,dD,⟨m1,rfl⟩⟩:=hrel
  cases gk with
  |zero=>exact absurd HA.out (by simp[ru.l0])
  |succ k1=>
   have H:=HA.out;clear HA;simp only[ru.l0]at H
   by_cases c2:(wrap64 (2*dh))<a0
   ·rw[if_pos c2]at H;have ig:decide ((wrap64 (2*dh))<a0)=true:=decide_eq_true c2;clear c2;have H':=af.mk H;clear H
    go_wp2
    go_roundg k1
    case measure=>have:=dD.out;omega
    case rel=>exact⟨(wrap64 (dh*2)),dx,H',⟨by have:=dD.out;omega⟩,by repeat(first|exact aX.refl _|apply aX.step)⟩
   ·rw[if_neg c2]at H;have ig:decide ((wrap64 (2*dh))<a0)=false:=decide_eq_false c2;clear c2;obtain rfl:=Option.some.inj H
    go_wp2
    go_ret
    exact⟨by first|rfl|(simp;done)|(simp[*];done),by repeat(first|exact aX.refl _|apply aX.step)⟩
def KR.f(a0:ByteArray):Option (ByteArray):=if 1+a0.size≤9223372036854775807 then(some ((⟨#[0]⟩:ByteArray)++a0))else(none)
theorem KR.calls(a0:ByteArray)(r:ByteArray)(w:World)(h:KR.f a0=some r):
  Calls Tryz.prog 168 #[.string a0] w fun e w'=>e=.returned (.string r)∧aX w w':=by
 have H:(if 1+a0.size≤9223372036854775807 then(some ((⟨#[0]⟩:ByteArray)++a0))else(none))=some r:=h;clear h
 by_cases c2:1+a0.size≤9223372036854775807
 ·rw[if_pos c2]at H;have ig:=eq_true c2;have nJ:decide (1+a0.size≤9223372036854775807)=true:=decide_eq_true c2
  try have c2b2:(9223372036854775807<1+a0.size)=False:=eq_false (Nat.not_lt.2 c2)
  obtain rfl:=Option.some.inj H
  go_enter Tryz.func168,Tryz.ntmps168
  go_wp2
  go_ret
  exact⟨by first|rfl|(simp;done)|(simp[*];done),by repeat(first|exact aX.refl _|apply aX.step)⟩
 ·rw[if_neg c2]at H;exact absurd H (by simp)
def KS.f(a0:ByteArray)(a1:ByteArray):Option (ByteArray):=if 1+a0.size≤9223372036854775807 then(if((⟨#[1]⟩:ByteArray)++a0).size+a1.size≤9223372036854775807 then(some (((⟨#[1]⟩:ByteArray)++a0)++a1))else(none))else(none)
theorem KS.calls(a0:ByteArray)(a1:ByteArray)(r:ByteArray)(w:World)(h:KS.f a0 a1=some r):
  Calls Tryz.prog 169 #[.string a0,.string a1] w fun e w'=>e=.returned (.string r)∧aX w w':=by
 have H:(if 1+a0.size≤9223372036854775807 then(if((⟨#[1]⟩:ByteArray)++a0).size+a1.size≤9223372036854775807 then(some (((⟨#[1]⟩:ByteArray)++a0)++a1))else(none))else(none))=some r:=h;clear h
 by_cases c3:1+a0.size≤9223372036854775807
 ·rw[if_pos c3]at H;have fJ:=eq_true c3;have jV:decide (1+a0.size≤9223372036854775807)=true:=decide_eq_true c3
  try have vz:(9223372036854775807<1+a0.size)=False:=eq_false (Nat.not_lt.2 c3)
  by_cases c4:((⟨#[1]⟩:ByteArray)++a0).size+a1.size≤9223372036854775807
  ·rw[if_pos c4]at H;have iH:=eq_true c4;have zm:decide (((⟨#[1]⟩:ByteArray)++a0).size+a1.size≤9223372036854775807)=true:=decide_eq_true c4
   try have c4b2:(9223372036854775807<((⟨#[1]⟩:ByteArray)++a0).size+a1.size)=False:=eq_false (Nat.not_lt.2 c4)
   obtain rfl:=Option.some.inj H
   go_enter Tryz.func169,Tryz.ntmps169
   go_wp2
   go_ret
   exact⟨by first|rfl|(simp;done)|(simp[*];done),by repeat(first|exact aX.refl _|apply aX.step)⟩
  ·rw[if_neg c4]at H;exact absurd H (by simp)
 ·rw[if_neg c3]at H;exact absurd H (by simp)
def mg.f(a0:ByteArray):Option (Bool):=some ((a0.size:Int)==32)
theorem mg.calls(a0:ByteArray)(r:Bool)(w:World)(h:mg.f a0=some r):
  Calls Tryz.prog 69 #[.string a0] w fun e w'=>e=.returned (.bool r)∧aX w w':=by
 have H:(some ((a0.size:Int)==32))=some r:=h;clear h;obtain rfl:=Option.some.inj H
 go_enter Tryz.func69,Tryz.ntmps69
 go_wp2
 go_ret
 exact⟨by first|rfl|(simp;done)|(simp[*];done),by repeat(first|exact aX.refl _|apply aX.step)⟩
def mM.f(a0:Int):Option (Bool):=if a0≥0 then(some (decide (a0<256)))else(some false)
theorem mM.calls(a0:Int)(r:Bool)(w:World)(h:mM.f a0=some r):
  Calls Tryz.prog 65 #[.int .i64 a0] w fun e w'=>e=.returned (.bool r)∧aX w w':=by
 have H:(if a0≥0 then(some (decide (a0<256)))else(some false))=some r:=h;clear h
 by_cases c2:a0≥0
 ·rw[if_pos c2]at H;have ig:decide (0≤a0)=true:=decide_eq_true c2;clear c2;obtain rfl:=Option.some.inj H
  go_enter Tryz.func65,Tryz.ntmps65
  go_wp2
  go_ret
  exact⟨by first|rfl|(simp;done)|(simp[*];done),by repeat(first|exact aX.refl _|apply aX.step)⟩
 ·rw[if_neg c2]at H;have ig:decide (0≤a0)=false:=decide_eq_false c2;clear c2;obtain rfl:=Option.some.inj H
  go_enter Tryz.func65,Tryz.ntmps65
  go_wp2
  go_ret
  exact⟨by first|rfl|(simp;done)|(simp[*];done),by repeat(first|exact aX.refl _|apply aX.step)⟩
def sI.f(a0:Int):Option (Bool):=if a0≥1 then(some (decide (a0≤32)))else(some false)
theorem sI.calls(a0:Int)(r:Bool)(w:World)(h:sI.f a0=some r):
  Calls Tryz.prog 124 #[.int .i64 a0] w fun e w'=>e=.returned (.bool r)∧aX w w':=by
 have H:(if a0≥1 then(some (decide (a0≤32)))else(some false))=some r:=h;clear h
 by_cases c2:a0≥1
 ·rw[if_pos c2]at H;have ig:decide (1≤a0)=true:=decide_eq_true c2;clear c2;obtain rfl:=Option.some.inj H
  go_enter Tryz.func124,Tryz.ntmps124
  go_wp2
  go_ret
  exact⟨by first|rfl|(simp;done)|(simp[*];done),by repeat(first|exact aX.refl _|apply aX.step)⟩
 ·rw[if_neg c2]at H;have ig:decide (1≤a0)=false:=decide_eq_false c2;clear c2;obtain rfl:=Option.some.inj H
  go_enter Tryz.func124,Tryz.ntmps124
  go_wp2
  go_ret
  exact⟨by first|rfl|(simp;done)|(simp[*];done),by repeat(first|exact aX.refl _|apply aX.step)⟩
end Go.Proofs.YtdcddenojjdmjaaGreatDoor.T
