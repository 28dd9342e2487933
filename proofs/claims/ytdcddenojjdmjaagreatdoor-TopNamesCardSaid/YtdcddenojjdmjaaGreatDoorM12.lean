import Derived.Test.YtdcddenojjdmjaaGreatDoorM11
set_option linter.all false
set_option maxHeartbeats 8000000
set_option maxRecDepth 100000
namespace Go.Proofs.YtdcddenojjdmjaaGreatDoor.T
open Go.RowKit Go.Proofs.YtdcddenojjdmjaaGreatDoorW.PrintWords Go.Proofs.YtdcddenojjdmjaaGreatDoorW.PrintLast Go.Proofs.YtdcddenojjdmjaaGreatDoorW.PrintMore
attribute [local go_sem] kH kL kK kP kJ kN kI kM
def yV.f(a0:ByteArray)(a1:Int):Option (Bool):=if a0.toList=([]:List UInt8)then(some false)else(some (decide ((a0.size:Int)≤a1)))
theorem yV.calls(a0:ByteArray)(a1:Int)(r:Bool)(w:World)(h:yV.f a0 a1=some r):
  Calls Tryz.prog 28 #[.string a0,.int .i64 a1] w fun e w'=>e=.returned (.bool r)∧aX w w':=by
 have H:(if a0.toList=([]:List UInt8)then(some false)else(some (decide ((a0.size:Int)≤a1))))=some r:=h;clear h
 by_cases c3:a0.toList=([]:List UInt8)
 ·rw[if_pos c3]at H;have fJ:(a0.toList==([]:List UInt8))=true:=beq_iff_eq.mpr c3;have jV:(a0.toList != ([]:List UInt8))=false:=bne_eq_false_iff_eq.mpr c3;clear c3;obtain rfl:=Option.some.inj H
  go_enter Tryz.func28,Tryz.ntmps28
  go_wp2
  go_ret
  exact⟨by first|rfl|(simp;done)|(simp[*];done),by repeat(first|exact aX.refl _|apply aX.step)⟩
 ·rw[if_neg c3]at H;have fJ:(a0.toList==([]:List UInt8))=false:=beq_eq_false_iff_ne.mpr c3;have jV:(a0.toList != ([]:List UInt8))=true:=bne_iff_ne.mpr c3;obtain rfl:=Option.some.inj H
  go_enter Tryz.func28,Tryz.ntmps28
  go_wp2
  go_ret
  exact⟨by first|rfl|(simp;done)|(simp[*];done),by repeat(first|exact aX.refl _|apply aX.step)⟩
def QS.f(a0:Int):Option (Int×Int):=some (a0,150)
theorem QS.calls(a0:Int)(r1:Int)(r2:Int)(w:World)(h:QS.f a0=some (r1,r2)):
  Calls Tryz.prog 30 #[.int .u64 a0] w fun e w'=>e=.returned (.agg #[.int .u64 r1,.int .i64 r2])∧Below w.heap.size w w':=by
 have hu60:=Tryz.underlying60;have HB:=af.mk (Below.refl w.heap.size w);have H:(some (a0,150))=some (r1,r2):=h;clear h;simp only[Option.some.injEq,Prod.mk.injEq]at H;obtain⟨rfl,rfl⟩:=H
 go_enter Tryz.func30,Tryz.ntmps30
 go_wp2_with (first|((with_reducible refine bZ (N:=2) rfl ?_);refine dn 2 (cs:=#[.int .u64 0,.int .i64 0]) (t:=60) ?_;intro Ps hg w2 aC hb;have BK102:=af.mk (aC);have GW102:af (w.heap.size≤Ps):=aT hg;have GE102:af (w.heap.size≤Ps):=aT hg;replace HB:=af.mk (av ai hb);clear hb aC hg;obtain⟨hcz3_0,hcz3_1,hfz3_0,hfz3_1⟩:=zc2_ BK102))
 refine bodyPost_ret (results_cell_row rfl _ _ Ps 60 #[.int .u64 a0,.int .i64 150] (0,0) _ rfl (by exact zp2_ BK102.out) Tryz.underlying60 rfl (by kernel_rfl)) rfl ?_;exact⟨bS,ai⟩
def Gp.f(a0:Int):Option (ByteArray×ByteArray×Int×Int×Bool×Int):=if a0<0 then(some ((⟨#[]⟩:ByteArray),(⟨#[]⟩:ByteArray),0,0,false,1))else(some ((⟨#[]⟩:ByteArray),(⟨#[]⟩:ByteArray),a0,(-1),false,0))
theorem Gp.calls(a0:Int)(r1:ByteArray)(r2:ByteArray)(r3:Int)(r4:Int)(r5:Bool)(r6:Int)(w:World)(h:Gp.f a0=some (r1,r2,r3,r4,r5,r6)):
  Calls Tryz.prog 79 #[.int .i64 a0] w fun e w'=>e=.returned (.tuple #[.agg #[.string r1,.string r2,.int .i64 r3,.int .i64 r4,.bool r5],.int .i64 r6])∧Below w.heap.size w w':=by
 have hu54:=Tryz.underlying54;have HB:=af.mk (Below.refl w.heap.size w);have H:(if a0<0 then(some ((⟨#[]⟩:ByteArray),(⟨#[]⟩:ByteArray),0,0,false,1))else(some ((⟨#[]⟩:ByteArray),(⟨#[]⟩:ByteArray),a0,(-1),false,0)))=some (r1,r2,r3,r4,r5,r6):=h;clear h
 by_cases c2:a0<0
 ·rw[if_pos c2]at H;have ig:decide (a0<0)=true:=decide_eq_true c2;clear c2;simp only[Option.some.injEq,Prod.mk.injEq]at H;obtain⟨rfl,rfl,rfl,rfl,rfl,rfl⟩:=H
  go_enter Tryz.func79,Tryz.ntmps79
  go_wp2_with (first|((with_reducible refine bZ (N:=2) rfl ?_);refine dn 2 (cs:=#[.string (⟨#[]⟩:ByteArray),.string (⟨#[]⟩:ByteArray),.int .i64 0,.int .i64 0,.bool false]) (t:=54) ?_;intro Du hg w3 aC hb;have GQ:=af.mk (aC);have GW103:af (w.heap.size≤Du):=aT hg;have GE103:af (w.heap.size≤Du):=aT hg;replace HB:=af.mk (av ai hb);clear hb aC hg;obtain⟨DI,DJ,DK,DL,hcz4_4,DN,DR,DT,DU,hfz4_4⟩:=zc5_ GQ))
  refine bodyPost_ret (pz rfl _ _ Du 54 #[.string (⟨#[]⟩:ByteArray),.string (⟨#[]⟩:ByteArray),.int .i64 0,.int .i64 0,.bool false] (0,0) _ rfl (by exact zp5_ GQ.out) Tryz.underlying54 rfl (by kernel_rfl)) rfl ?_;exact⟨bS,ai⟩
 ·rw[if_neg c2]at H;have ig:decide (a0<0)=false:=decide_eq_false c2;clear c2;simp only[Option.some.injEq,Prod.mk.injEq]at H;obtain⟨rfl,rfl,rfl,rfl,rfl,rfl⟩:=H
  go_enter Tryz.func79,Tryz.ntmps79
  go_wp2_with (first|((with_reducible refine bZ (N:=2) rfl ?_);refine dn 2 (cs:=#[.string (⟨#[]⟩:ByteArray),.string (⟨#[]⟩:ByteArray),.int .i64 0,.int .i64 0,.bool false]) (t:=54) ?_;intro Du hg w5 aC hb;have GQ:=af.mk (aC);have GW103:af (w.heap.size≤Du):=aT hg;have GE103:af (w.heap.size≤Du):=aT hg;replace HB:=af.mk (av ai hb);clear hb aC hg;obtain⟨PV,PW,PX,PY,hcz6_4,Qk,Ql,Qm,Qn,hfz6_4⟩:=zc5_ GQ))
  refine bodyPost_ret (pz rfl _ _ Du 54 #[.string (⟨#[]⟩:ByteArray),.string (⟨#[]⟩:ByteArray),.int .i64 a0,.int .i64 (-1),.bool false] (0,0) _ rfl (by exact zp5_ GQ.out) Tryz.underlying54 rfl (by kernel_rfl)) rfl ?_;exact⟨bS,ai⟩
def Rt.f(a0:Int):Option (ByteArray×ByteArray×Int×Int×Bool×(List (aj))×(List (List (aj)))×List ByteArray×Int):=(Gp.f a0).bind fun sD=>(if sD.2.2.2.2.2=0 then(some (sD.1,sD.2.1,sD.2.2.1,sD.2.2.2.1,sD.2.2.2.2.1,([]:List (aj)),([]:List (List (aj))),([]:List ByteArray),0))else(some ((⟨#[]⟩:ByteArray),(⟨#[]⟩:ByteArray),0,0,false,([]:List (aj)),([]:List (List (aj))),([]:List ByteArray),sD.2.2.2.2.2)))
theorem Rt.calls(a0:Int)(r1:ByteArray)(r2:ByteArray)(r3:Int)(r4:Int)(r5:Bool)(r6:List (aj))(r7:List (List (aj)))(r8:List ByteArray)(r9:Int)(w:World)(h:Rt.f a0=some (r1,r2,r3,r4,r5,r6,r7,r8,r9)):
  Calls Tryz.prog 31 #[.int .i64 a0] w fun e w'=>∃v5_ v6_ v7_:Value,e=.returned (.tuple #[.agg #[.string r1,.string r2,.int .i64 r3,.int .i64 r4,.bool r5,v5_,v6_,v7_],.int .i64 r9])∧Kd.R dw 67 w' w.heap.size (fun _=>True) v5_ r6∧Kd.S (Kd.slice 67 dw) 22 w' w.heap.size (fun k_=>some k_≠(v5_:Value).ownBlock) v6_ r7∧Kd.R Kd.string 9 w' w.heap.size (fun _=>True) v7_ r8∧Below w.heap.size w w':=by
 have hu58:=Tryz.underlying58;have hu54:=Tryz.underlying54;have HB:=af.mk (Below.refl w.heap.size w);have H:((Gp.f a0).bind fun sD=>(if sD.2.2.2.2.2=0 then(some (sD.1,sD.2.1,sD.2.2.1,sD.2.2.2.1,sD.2.2.2.2.1,([]:List (aj)),([]:List (List (aj))),([]:List ByteArray),0))else(some ((⟨#[]⟩:ByteArray),(⟨#[]⟩:ByteArray),0,0,false,([]:List (aj)),([]:List (List (aj))),([]:List ByteArray),sD.2.2.2.2.2))))=some (r1,r2,r3,r4,r5,r6,r7,r8,r9):=h;clear h;replace H:=Option.bind_eq_some_iff.mp H;obtain⟨⟨t105,t106,t107,t108,t109,t110⟩,tF,H⟩:=H;(try dsimp only at H);have A2:=af.mk tF;clear tF
 by_cases c3:t110=0
 ·rw[if_pos c3]at H;have fJ:(t110==0)=true:=beq_iff_eq.mpr c3;have jV:(t110 != 0)=false:=bne_eq_false_iff_eq.mpr c3;clear c3;simp only[Option.some.injEq,Prod.mk.injEq]at H;obtain⟨rfl,rfl,rfl,rfl,rfl,rfl,rfl,rfl,rfl⟩:=H
  go_enter Tryz.func31,Tryz.ntmps31
  go_wp2_with (first|((with_reducible refine bZ (N:=2) rfl ?_);refine dn 2 (cs:=#[.string (⟨#[]⟩:ByteArray),.string (⟨#[]⟩:ByteArray),.int .i64 0,.int .i64 0,.bool false,.slice none 0 0,.slice none 0 0,.slice none 0 0]) (t:=58) ?_;intro Dv hg w4 aC hb;have ql:=af.mk (aC);have GW104:af (w.heap.size≤Dv):=aT hg;have GE104:af (w.heap.size≤Dv):=aT hg;replace HB:=af.mk (av ai hb);clear hb aC hg)|((with_reducible refine bq (f:=79) rfl ?_);refine bC 8 Tryz.func79 #[.int .i64 a0] rfl ?_;(with_reducible refine(Gp.calls a0 t105 t106 t107 t108 t109 t110 _ A2.out).mono ?_);rintro e w5 ⟨rfl,hb⟩;refine⟨_,rfl,?_⟩;replace ql:=bQ ql hb;replace HB:=af.mk (av ai hb);(try clear hb);(try clear hb2);(try clear hk);(try clear hi))|((with_reducible refine bZ (N:=4) rfl ?_);refine dn 4 (cs:=#[.string (⟨#[]⟩:ByteArray),.string (⟨#[]⟩:ByteArray),.int .i64 0,.int .i64 0,.bool false]) (t:=54) ?_;intro I5 hg w6 aC hb;have Oh:=af.mk (aC);have GW111:af (w.heap.size≤I5):=aT hg;have GE111:af (w.heap.size≤I5):=aT hg;have uW:=kS hg ql;have Ou:=kT hg ql;replace ql:=bQ ql hb;replace HB:=af.mk (av ai hb);clear hb aC hg;have hnb7:=Ou.out;have hnc7:=uW.out;obtain⟨Fy,Fz,FB,Jg,T9,FC,FD,FE,Jp,Uz⟩:=zc5_ Oh;obtain⟨Jh,Ji,Jj,Jk,Ua,Ub,Uc,Ud,Jq,Jr,Js,Jt,UA,UB,UC,UD⟩:=zc8_ ql))
  refine bodyPost_ret (pz rfl _ _ Dv 58 #[.string t105,.string t106,.int .i64 t107,.int .i64 t108,.bool t109,.slice none 0 0,.slice none 0 0,.slice none 0 0] (0,0) _ rfl (by(with_reducible repeat(first|refine aU ?_ _|refine bf ?_|refine ay ?_ _));refine bJ (cs:=#[.string t105,.string t106,.int .i64 t107,.int .i64 t108,.bool t109,.slice none 0 0,.slice none 0 0,.slice none 0 0]) ?_ 7 _ rfl;(with_reducible repeat(first|refine aU ?_ _|refine bf ?_|refine ay ?_ _));refine bJ (cs:=#[.string t105,.string t106,.int .i64 t107,.int .i64 t108,.bool t109,.slice none 0 0,.slice none 0 0,.slice none 0 0]) ?_ 6 _ rfl;(with_reducible repeat(first|refine aU ?_ _|refine bf ?_|refine ay ?_ _));refine bJ (cs:=#[.string t105,.string t106,.int .i64 t107,.int .i64 t108,.bool t109,.slice none 0 0,.slice none 0 0,.slice none 0 0]) ?_ 5 _ rfl;(with_reducible repeat(first|refine aU ?_ _|refine bf ?_|refine ay ?_ _));refine bJ (cs:=#[.string t105,.string t106,.int .i64 t107,.int .i64 t108,.bool false,.slice none 0 0,.slice none 0 0,.slice none 0 0]) ?_ 4 _ rfl;(with_reducible repeat(first|refine aU ?_ _|refine bf ?_|refine ay ?_ _));refine bJ (cs:=#[.string t105,.string t106,.int .i64 t107,.int .i64 0,.bool false,.slice none 0 0,.slice none 0 0,.slice none 0 0]) ?_ 3 _ rfl;(with_reducible repeat(first|refine aU ?_ _|refine bf ?_|refine ay ?_ _));refine bJ (cs:=#[.string t105,.string t106,.int .i64 0,.int .i64 0,.bool false,.slice none 0 0,.slice none 0 0,.slice none 0 0]) ?_ 2 _ rfl;(with_reducible repeat(first|refine aU ?_ _|refine bf ?_|refine ay ?_ _));refine bJ (cs:=#[.string t105,.string (⟨#[]⟩:ByteArray),.int .i64 0,.int .i64 0,.bool false,.slice none 0 0,.slice none 0 0,.slice none 0 0]) ?_ 1 _ rfl;(with_reducible repeat(first|refine aU ?_ _|refine bf ?_|refine ay ?_ _));refine bJ (cs:=#[.string (⟨#[]⟩:ByteArray),.string (⟨#[]⟩:ByteArray),.int .i64 0,.int .i64 0,.bool false,.slice none 0 0,.slice none 0 0,.slice none 0 0]) ?_ 0 _ rfl;(with_reducible repeat(first|refine aU ?_ _|refine bf ?_|refine ay ?_ _));refine gM ?_ uW.out _;(with_reducible repeat(first|refine aU ?_ _|refine bf ?_|refine ay ?_ _));refine gM ?_ uW.out _;(with_reducible repeat(first|refine aU ?_ _|refine bf ?_|refine ay ?_ _));refine gM ?_ uW.out _;(with_reducible repeat(first|refine aU ?_ _|refine bf ?_|refine ay ?_ _));refine gM ?_ uW.out _;(with_reducible repeat(first|refine aU ?_ _|refine bf ?_|refine ay ?_ _));refine gM ?_ uW.out _;(with_reducible repeat(first|refine aU ?_ _|refine bf ?_|refine ay ?_ _));exact ql.out) Tryz.underlying58 rfl (by kernel_rfl)) rfl ?_;exact⟨_,_,_,bS,by first|exact Kd.dV _ _ _ _ _|exact Kd.iP _ _ _ _ _|exact Kd.iR _ _ _ _ _|exact Kd.iQ _ _ _ _ _|exact Kd.j5 _ _ _ _ _,by first|exact Kd.j5 _ _ _ _ _|exact Kd.iP _ _ _ _ _|exact Kd.iR _ _ _ _ _|exact Kd.iQ _ _ _ _ _|exact Kd.dV _ _ _ _ _,by first|exact Kd.dV _ _ _ _ _|exact Kd.iP _ _ _ _ _|exact Kd.iR _ _ _ _ _|exact Kd.iQ _ _ _ _ _|exact Kd.j5 _ _ _ _ _,ai⟩
 ·rw[if_neg c3]at H;have fJ:(t110==0)=false:=beq_eq_false_iff_ne.mpr c3;have jV:(t110 != 0)=true:=bne_iff_ne.mpr c3;simp only[Option.some.injEq,Prod.mk.injEq]at H;obtain⟨rfl,rfl,rfl,rfl,rfl,rfl,rfl,rfl,rfl⟩:=H
  go_enter Tryz.func31,Tryz.ntmps31
  go_wp2_with (first|((with_reducible refine bZ (N:=2) rfl ?_);refine dn 2 (cs:=#[.string (⟨#[]⟩:ByteArray),.string (⟨#[]⟩:ByteArray),.int .i64 0,.int .i64 0,.bool false,.slice none 0 0,.slice none 0 0,.slice none 0 0]) (t:=58) ?_;intro Dv hg w10 aC hb;have ql:=af.mk (aC);have GW104:af (w.heap.size≤Dv):=aT hg;have GE104:af (w.heap.size≤Dv):=aT hg;replace HB:=af.mk (av ai hb);clear hb aC hg)|((with_reducible refine bq (f:=79) rfl ?_);refine bC 8 Tryz.func79 #[.int .i64 a0] rfl ?_;(with_reducible refine(Gp.calls a0 t105 t106 t107 t108 t109 t110 _ A2.out).mono ?_);rintro e y9 ⟨rfl,hb⟩;refine⟨_,rfl,?_⟩;replace ql:=bQ ql hb;replace HB:=af.mk (av ai hb);(try clear hb);(try clear hb2);(try clear hk);(try clear hi))|((with_reducible refine bZ (N:=4) rfl ?_);refine dn 4 (cs:=#[.string (⟨#[]⟩:ByteArray),.string (⟨#[]⟩:ByteArray),.int .i64 0,.int .i64 0,.bool false]) (t:=54) ?_;intro I5 hg w12 aC hb;have Oh:=af.mk (aC);have GW111:af (w.heap.size≤I5):=aT hg;have GE111:af (w.heap.size≤I5):=aT hg;have uW:=kS hg ql;have Ou:=kT hg ql;replace ql:=bQ ql hb;replace HB:=af.mk (av ai hb);clear hb aC hg;have hnb13:=Ou.out;have hnc13:=uW.out;obtain⟨Al,Am,Ao,Ap,Py,AA,AB,AJ,AL,P8⟩:=zc5_ Oh;obtain⟨Pz,PD,PE,PG,hcz15_4,hcz15_5,hcz15_6,hcz15_7,P9,Qa,Qb,Qc,hfz15_4,hfz15_5,hfz15_6,hfz15_7⟩:=zc8_ ql))
  refine bodyPost_ret (pz rfl _ _ Dv 58 #[.string (⟨#[]⟩:ByteArray),.string (⟨#[]⟩:ByteArray),.int .i64 0,.int .i64 0,.bool false,.slice none 0 0,.slice none 0 0,.slice none 0 0] (0,0) _ rfl (by(with_reducible repeat(first|refine aU ?_ _|refine bf ?_|refine ay ?_ _));refine bJ (cs:=#[.string (⟨#[]⟩:ByteArray),.string (⟨#[]⟩:ByteArray),.int .i64 0,.int .i64 0,.bool false,.slice none 0 0,.slice none 0 0,.slice none 0 0]) ?_ 7 _ rfl;(with_reducible repeat(first|refine aU ?_ _|refine bf ?_|refine ay ?_ _));refine bJ (cs:=#[.string (⟨#[]⟩:ByteArray),.string (⟨#[]⟩:ByteArray),.int .i64 0,.int .i64 0,.bool false,.slice none 0 0,.slice none 0 0,.slice none 0 0]) ?_ 6 _ rfl;(with_reducible repeat(first|refine aU ?_ _|refine bf ?_|refine ay ?_ _));refine bJ (cs:=#[.string (⟨#[]⟩:ByteArray),.string (⟨#[]⟩:ByteArray),.int .i64 0,.int .i64 0,.bool false,.slice none 0 0,.slice none 0 0,.slice none 0 0]) ?_ 5 _ rfl;(with_reducible repeat(first|refine aU ?_ _|refine bf ?_|refine ay ?_ _));refine bJ (cs:=#[.string (⟨#[]⟩:ByteArray),.string (⟨#[]⟩:ByteArray),.int .i64 0,.int .i64 0,.bool false,.slice none 0 0,.slice none 0 0,.slice none 0 0]) ?_ 4 _ rfl;(with_reducible repeat(first|refine aU ?_ _|refine bf ?_|refine ay ?_ _));refine bJ (cs:=#[.string (⟨#[]⟩:ByteArray),.string (⟨#[]⟩:ByteArray),.int .i64 0,.int .i64 0,.bool false,.slice none 0 0,.slice none 0 0,.slice none 0 0]) ?_ 3 _ rfl;(with_reducible repeat(first|refine aU ?_ _|refine bf ?_|refine ay ?_ _));refine bJ (cs:=#[.string (⟨#[]⟩:ByteArray),.string (⟨#[]⟩:ByteArray),.int .i64 0,.int .i64 0,.bool false,.slice none 0 0,.slice none 0 0,.slice none 0 0]) ?_ 2 _ rfl;(with_reducible repeat(first|refine aU ?_ _|refine bf ?_|refine ay ?_ _));refine bJ (cs:=#[.string (⟨#[]⟩:ByteArray),.string (⟨#[]⟩:ByteArray),.int .i64 0,.int .i64 0,.bool false,.slice none 0 0,.slice none 0 0,.slice none 0 0]) ?_ 1 _ rfl;(with_reducible repeat(first|refine aU ?_ _|refine bf ?_|refine ay ?_ _));refine bJ (cs:=#[.string (⟨#[]⟩:ByteArray),.string (⟨#[]⟩:ByteArray),.int .i64 0,.int .i64 0,.bool false,.slice none 0 0,.slice none 0 0,.slice none 0 0]) ?_ 0 _ rfl;(with_reducible repeat(first|refine aU ?_ _|refine bf ?_|refine ay ?_ _));refine gM ?_ uW.out _;(with_reducible repeat(first|refine aU ?_ _|refine bf ?_|refine ay ?_ _));refine gM ?_ uW.out _;(with_reducible repeat(first|refine aU ?_ _|refine bf ?_|refine ay ?_ _));refine gM ?_ uW.out _;(with_reducible repeat(first|refine aU ?_ _|refine bf ?_|refine ay ?_ _));refine gM ?_ uW.out _;(with_reducible repeat(first|refine aU ?_ _|refine bf ?_|refine ay ?_ _));refine gM ?_ uW.out _;(with_reducible repeat(first|refine aU ?_ _|refine bf ?_|refine ay ?_ _));exact ql.out) Tryz.underlying58 rfl (by kernel_rfl)) rfl ?_;exact⟨_,_,_,bS,by first|exact Kd.dV _ _ _ _ _|exact Kd.iP _ _ _ _ _|exact Kd.iR _ _ _ _ _|exact Kd.iQ _ _ _ _ _|exact Kd.j5 _ _ _ _ _,by first|exact Kd.j5 _ _ _ _ _|exact Kd.iP _ _ _ _ _|exact Kd.iR _ _ _ _ _|exact Kd.iQ _ _ _ _ _|exact Kd.dV _ _ _ _ _,by first|exact Kd.dV _ _ _ _ _|exact Kd.iP _ _ _ _ _|exact Kd.iR _ _ _ _ _|exact Kd.iQ _ _ _ _ _|exact Kd.j5 _ _ _ _ _,ai⟩
def gI.f(a0:ByteArray)(a1:ByteArray):Option (ByteArray×Int):=if a1.size≤140737488355328 then some (iJ a0 a1,jm a0)else none
theorem gI.calls(a0:ByteArray)(a1:ByteArray)(r1:ByteArray)(r2:Int)(w:World)(h:gI.f a0 a1=some (r1,r2)):
  Calls Tryz.prog 27 #[.string a0,.string a1] w fun e w'=>e=.returned (.tuple #[.string r1,.int .i64 r2])∧Below w.heap.size w w':=by
 unfold gI.f at h
 split at h
 case isTrue hs=>
  have h1:=congrArg Prod.fst (Option.some.inj h);have h2:=congrArg Prod.snd (Option.some.inj h);dsimp only at h1 h2;rw[← h1,← h2];exact aaz a0 a1 hs w
 case isFalse=>cases h
def IC.f(a0:Int):Option (ByteArray):=if a0≤250 then(some (strOfNums (([(a0)%256]:List Int))))else(some (strOfNums (([251,(wrap64 (Int.tdiv a0 256))%256,(Int.tmod a0 256)%256]:List Int))))
theorem IC.calls(a0:Int)(r:ByteArray)(w:World)(h:IC.f a0=some r):
  Calls Tryz.prog 94 #[.int .i64 a0] w fun e w'=>e=.returned (.string r)∧Below w.heap.size w w':=by
 have HB:=af.mk (Below.refl w.heap.size w);have H:(if a0≤250 then(some (strOfNums (([(a0)%256]:List Int))))else(some (strOfNums (([251,(wrap64 (Int.tdiv a0 256))%256,(Int.tmod a0 256)%256]:List Int)))))=some r:=h;clear h
 by_cases c2:a0≤250
 ·rw[if_pos c2]at H;have ig:decide (a0≤250)=true:=decide_eq_true c2;clear c2;obtain⟨y121,JY⟩:∃y_:List Int,y_=(([(a0)%256]:List Int)):=⟨_,rfl⟩;replace H:(some (strOfNums y121))=some r:=by first|(rw[JY];with_reducible exact H)|(have bP:=(Option.bind_some _ _).symm.trans H;rw[JY];with_reducible exact bP)|(have bP:=(Option.bind_some _ _).symm.trans H;with_reducible exact bP)|with_reducible exact H|(rw[JY];exact H)|exact H
  have Ny121:=af.mk JY;clear JY;obtain rfl:=Option.some.inj H
  go_enter Tryz.func94,Tryz.ntmps94
  go_wp2_with (first|((with_reducible refine bZ (N:=7) rfl ?_);refine Kd.zl (Kd.int .u8) _ 5 ?hg (N:=7) ?hd (xs:=([(a0)%256]:List Int)) (inner:=[.int .u8 ((a0)%256)]) (ok:=fun _=>True) (iD:=fun _=>True) ?hr ?hp (fun _ hk=>hk) trivial (Below.refl _ _) (Nat.le_refl _) (by simp) ?_;(case hd=>rfl);(case hg=>rfl);(case hr=>first|(go_simp;done)|(go_simp;rfl));(case hp=>exact(fC.one (show Kd.M (Kd.int .u8) _ _ _ ((a0)%256) [.int .u8 ((a0)%256)]from rfl) (fC.none _ _)));intro v122 w3 sM hb oZ o8;clear oZ o8;(first|rw[← Ny121.out]at sM|(simp only[Int.reduceToNat]at sM;rw[← Ny121.out]at sM));have HO123:=af.mk (Kd.gU sM (fI ai));replace HB:=af.mk (av ai hb);clear hb sM;have hcv5:=Co (P:=Tryz.prog) Tryz.underlying155 Tryz.underlying5 Tryz.underlying9 (Kd.wQ HO123.out)))
  go_ret
  exact⟨bS,ai⟩
 ·rw[if_neg c2]at H;have ig:decide (a0≤250)=false:=decide_eq_false c2;clear c2;obtain⟨y124,JZ⟩:∃y_:List Int,y_=(([251,(wrap64 (Int.tdiv a0 256))%256,(Int.tmod a0 256)%256]:List Int)):=⟨_,rfl⟩;replace H:(some (strOfNums y124))=some r:=by first|(rw[JZ];with_reducible exact H)|(have bP:=(Option.bind_some _ _).symm.trans H;rw[JZ];with_reducible exact bP)|(have bP:=(Option.bind_some _ _).symm.trans H;with_reducible exact bP)|with_reducible exact H|(rw[JZ];exact H)|exact H
  have Ny124:=af.mk JZ;clear JZ;obtain rfl:=Option.some.inj H
  go_enter Tryz.func94,Tryz.ntmps94
  go_wp2_with (first|((with_reducible refine bZ (N:=15) rfl ?_);refine Kd.zl (Kd.int .u8) _ 5 ?hg (N:=15) ?hd (xs:=([251,(wrap64 (Int.tdiv a0 256))%256,(Int.tmod a0 256)%256]:List Int)) (inner:=[.int .u8 251,.int .u8 ((wrap64 (Int.tdiv a0 256))%256),.int .u8 ((Int.tmod a0 256)%256)]) (ok:=fun _=>True) (iD:=fun _=>True) ?hr ?hp (fun _ hk=>hk) trivial (Below.refl _ _) (Nat.le_refl _) (by simp) ?_;(case hd=>rfl);(case hg=>rfl);(case hr=>first|(go_simp;done)|(go_simp;rfl));(case hp=>exact(fC.one (show Kd.M (Kd.int .u8) _ _ _ 251 [.int .u8 251]from rfl) (fC.one (show Kd.M (Kd.int .u8) _ _ _ ((wrap64 (Int.tdiv a0 256))%256) [.int .u8 ((wrap64 (Int.tdiv a0 256))%256)]from rfl) (fC.one (show Kd.M (Kd.int .u8) _ _ _ ((Int.tmod a0 256)%256) [.int .u8 ((Int.tmod a0 256)%256)]from rfl) (fC.none _ _)))));intro v125 w6 yB hb oZ o8;clear oZ o8;(first|rw[← Ny124.out]at yB|(simp only[Int.reduceToNat]at yB;rw[← Ny124.out]at yB));have HO126:=af.mk (Kd.gU yB (fI ai));replace HB:=af.mk (av ai hb);clear hb yB;have hcv8:=Co (P:=Tryz.prog) Tryz.underlying155 Tryz.underlying5 Tryz.underlying9 (Kd.wQ HO126.out)))
  go_ret
  exact⟨bS,ai⟩
def BI.f(a0:ByteArray):Option (ByteArray×Int):=if(a0.size:Int)>65535 then(some ((⟨#[]⟩:ByteArray),4))else((IC.f (a0.size:Int)).bind fun t127=>(if t127.size+a0.size≤9223372036854775807 then(some (t127++a0,0))else(none)))
theorem BI.calls(a0:ByteArray)(r1:ByteArray)(r2:Int)(w:World)(h:BI.f a0=some (r1,r2)):
  Calls Tryz.prog 42 #[.string a0] w fun e w'=>e=.returned (.tuple #[.string r1,.int .i64 r2])∧Below w.heap.size w w':=by
 have HB:=af.mk (Below.refl w.heap.size w);have H:(if(a0.size:Int)>65535 then(some ((⟨#[]⟩:ByteArray),4))else((IC.f (a0.size:Int)).bind fun t127=>(if t127.size+a0.size≤9223372036854775807 then(some (t127++a0,0))else(none))))=some (r1,r2):=h;clear h
 by_cases c2:(a0.size:Int)>65535
 ·rw[if_pos c2]at H;have ig:decide (65535<(a0.size:Int))=true:=decide_eq_true c2;have nJ:decide (65535<a0.size)=true:=decide_eq_true (by omega);clear c2;simp only[Option.some.injEq,Prod.mk.injEq]at H;obtain⟨rfl,rfl⟩:=H
  go_enter Tryz.func42,Tryz.ntmps42
  go_wp2
  go_ret2
  exact⟨bS,ai⟩
 ·rw[if_neg c2]at H;have ig:decide (65535<(a0.size:Int))=false:=decide_eq_false c2;have nJ:decide (65535<a0.size)=false:=decide_eq_false (by omega);clear c2;replace H:=Option.bind_eq_some_iff.mp H;obtain⟨t127,jD,H⟩:=H;(try dsimp only at H);have A3:=af.mk jD;clear jD
  by_cases c4:t127.size+a0.size≤9223372036854775807
  ·rw[if_pos c4]at H;have iH:=eq_true c4;have zm:decide (t127.size+a0.size≤9223372036854775807)=true:=decide_eq_true c4
   try have c4b2:(9223372036854775807<t127.size+a0.size)=False:=eq_false (Nat.not_lt.2 c4)
   simp only[Option.some.injEq,Prod.mk.injEq]at H;obtain⟨rfl,rfl⟩:=H
   go_enter Tryz.func42,Tryz.ntmps42
   go_wp2_with (first|((with_reducible refine bq (f:=94) rfl ?_);refine bC 9 Tryz.func94 #[.int .i64 (a0.size:Int)] rfl ?_;(with_reducible refine(IC.calls (a0.size:Int) t127 _ A3.out).mono ?_);rintro e w5 ⟨rfl,hb⟩;refine⟨_,rfl,?_⟩;replace HB:=af.mk (av ai hb);(try clear hb);(try clear hb2);(try clear hk);(try clear hi)))
   go_ret2
   exact⟨bS,ai⟩
  ·rw[if_neg c4]at H;exact absurd H (by simp)
def vB.l0:Nat→Int→ByteArray→Int→Option (ByteArray)
 |0,_,_,_=>none
 |k+1,x0,x3,x4=>if x0>0 then((some (([(Int.tmod x0 256)%256]:List Int):List Int)).bind fun Bq=>(if(strOfNums Bq).size+x3.size≤9223372036854775807 then(vB.l0 k (IntKind.u64.wrap (Int.tdiv x0 256)) ((strOfNums Bq)++x3) (wrap64 (x4+1)))else(none)))else((some (([(x4)%256]:List Int):List Int)).bind fun CU=>(if(strOfNums CU).size+x3.size≤9223372036854775807 then(some ((strOfNums CU)++x3))else(none)))
def vB.f(k:Nat)(a0:Int):Option (ByteArray):=vB.l0 k a0 (⟨#[]⟩:ByteArray) 0
theorem vB.calls(k:Nat)(a0:Int)(r:ByteArray)(w:World)(h:vB.f k a0=some r):
  Calls Tryz.prog 143 #[.int .u64 a0] w fun e w'=>e=.returned (.string r)∧Below w.heap.size w w':=by
 have HB:=af.mk (Below.refl w.heap.size w);have H:(vB.l0 k a0 (⟨#[]⟩:ByteArray) 0)=some r:=h;clear h;have H':=af.mk H;clear H
 go_enter Tryz.func143,Tryz.ntmps143
 go_wp2
 go_loopg [0,3,4] k (fun kq v0 v3 v4 w'=>∃(jq:Int) (dh:ByteArray) (dY:Int),v0=.int .u64 jq∧v3=.string dh∧v4=.int .i64 dY∧af (vB.l0 kq jq dh dY=some r)∧af (kq≤k)∧af (Below w.heap.size w w'))
 case atStart=>exact⟨(a0),((⟨#[]⟩:ByteArray)),(0),dx,dx,dx,H',⟨Nat.le_refl _⟩,⟨ai⟩⟩
 case round=>
  clear H'
  try clear c1
  obtain⟨jq,dh,dY,rfl,rfl,rfl,HA,dD,HB⟩:=hrel
  cases gk with
  |zero=>exact absurd HA.out (by simp[vB.l0])
  |succ k1=>
   have H:=HA.out;clear HA;simp only[vB.l0]at H
   by_cases c2:jq>0
   ·rw[if_pos c2]at H;have ig:decide (0<jq)=true:=decide_eq_true c2;clear c2;obtain⟨Bq,hy128⟩:∃y_:List Int,y_=(([(Int.tmod jq 256)%256]:List Int)):=⟨_,rfl⟩;replace H:(if(strOfNums Bq).size+dh.size≤9223372036854775807 then(vB.l0 k1 (IntKind.u64.wrap (Int.tdiv jq 256)) ((strOfNums Bq)++dh) (wrap64 (dY+1)))else(none))=some r:=by first|(rw[hy128];with_reducible exact H)|(have bP:=(Option.bind_some _ _).symm.trans H;rw[hy128];with_reducible exact bP)|(have bP:=(Option.bind_some _ _).symm.trans H;with_reducible exact bP)|with_reducible exact H|(rw[hy128];exact H)|exact H
    have Ny128:=af.mk hy128;clear hy128
    by_cases c3:(strOfNums Bq).size+dh.size≤9223372036854775807
    ·rw[if_pos c3]at H;have fJ:=eq_true c3;have jV:decide ((strOfNums Bq).size+dh.size≤9223372036854775807)=true:=decide_eq_true c3
     try have vz:(9223372036854775807<(strOfNums Bq).size+dh.size)=False:=eq_false (Nat.not_lt.2 c3)
     have H':=af.mk H;clear H
     go_wp2_with (first|((with_reducible refine bZ (N:=10) rfl ?_);refine Kd.zl (Kd.int .u8) _ 5 ?hg (N:=10) ?hd (xs:=([(Int.tmod jq 256)%256]:List Int)) (inner:=[.int .u8 ((Int.tmod jq 256)%256)]) (ok:=fun _=>True) (iD:=fun _=>True) ?hr ?hp (fun _ hk=>hk) trivial (Below.refl _ _) (Nat.le_refl _) (by simp) ?_;(case hd=>rfl);(case hg=>rfl);(case hr=>first|(go_simp;done)|(go_simp;rfl));(case hp=>exact(fC.one (show Kd.M (Kd.int .u8) _ _ _ ((Int.tmod jq 256)%256) [.int .u8 ((Int.tmod jq 256)%256)]from rfl) (fC.none _ _)));intro v129 w4 yA hb oZ o8;clear oZ o8;(first|rw[← Ny128.out]at yA|(simp only[Int.reduceToNat]at yA;rw[← Ny128.out]at yA));have HO130:=af.mk (Kd.gU yA (fI ai));replace HB:=af.mk (av ai hb);clear hb yA;have hcv6:=Co (P:=Tryz.prog) Tryz.underlying155 Tryz.underlying5 Tryz.underlying9 (Kd.wQ HO130.out)))
     go_roundg k1
     case measure=>have:=dD.out;omega
     case rel=>exact⟨(IntKind.u64.wrap (Int.tdiv jq 256)),((strOfNums Bq)++dh),(wrap64 (dY+1)),dx,dx,dx,H',⟨by have:=dD.out;omega⟩,⟨ai⟩⟩
    ·rw[if_neg c3]at H;exact absurd H (by simp)
   ·rw[if_neg c2]at H;have ig:decide (0<jq)=false:=decide_eq_false c2;clear c2;obtain⟨CU,J2⟩:∃y_:List Int,y_=(([(dY)%256]:List Int)):=⟨_,rfl⟩;replace H:(if(strOfNums CU).size+dh.size≤9223372036854775807 then(some ((strOfNums CU)++dh))else(none))=some r:=by first|(rw[J2];with_reducible exact H)|(have bP:=(Option.bind_some _ _).symm.trans H;rw[J2];with_reducible exact bP)|(have bP:=(Option.bind_some _ _).symm.trans H;with_reducible exact bP)|with_reducible exact H|(rw[J2];exact H)|exact H
    have Ny131:=af.mk J2;clear J2
    by_cases c7:(strOfNums CU).size+dh.size≤9223372036854775807
    ·rw[if_pos c7]at H;have kF:=eq_true c7;have rJ:decide ((strOfNums CU).size+dh.size≤9223372036854775807)=true:=decide_eq_true c7
     try have c7b2:(9223372036854775807<(strOfNums CU).size+dh.size)=False:=eq_false (Nat.not_lt.2 c7)
     obtain rfl:=Option.some.inj H
     go_wp2_with (first|((with_reducible refine bZ (N:=20) rfl ?_);refine Kd.zl (Kd.int .u8) _ 5 ?hg (N:=20) ?hd (xs:=([(dY)%256]:List Int)) (inner:=[.int .u8 ((dY)%256)]) (ok:=fun _=>True) (iD:=fun _=>True) ?hr ?hp (fun _ hk=>hk) trivial (Below.refl _ _) (Nat.le_refl _) (by simp) ?_;(case hd=>rfl);(case hg=>rfl);(case hr=>first|(go_simp;done)|(go_simp;rfl));(case hp=>exact(fC.one (show Kd.M (Kd.int .u8) _ _ _ ((dY)%256) [.int .u8 ((dY)%256)]from rfl) (fC.none _ _)));intro v132 w8 qM hb oZ o8;clear oZ o8;(first|rw[← Ny131.out]at qM|(simp only[Int.reduceToNat]at qM;rw[← Ny131.out]at qM));have HO133:=af.mk (Kd.gU qM (fI ai));replace HB:=af.mk (av ai hb);clear hb qM;have hcv10:=Co (P:=Tryz.prog) Tryz.underlying155 Tryz.underlying5 Tryz.underlying9 (Kd.wQ HO133.out)))
     go_ret
     exact⟨bS,ai⟩
    ·rw[if_neg c7]at H;exact absurd H (by simp)
def LA.f(k:Nat)(a0:ByteArray)(a1:Int):Option (ByteArray):=(BI.f a0).bind fun Ip=>((vB.f k a1).bind fun t136=>(if Ip.1.size+t136.size≤9223372036854775807 then(some (Ip.1++t136))else(none)))
theorem LA.calls(k:Nat)(a0:ByteArray)(a1:Int)(r:ByteArray)(w:World)(h:LA.f k a0 a1=some r):
  Calls Tryz.prog 93 #[.string a0,.int .u64 a1] w fun e w'=>e=.returned (.string r)∧Below w.heap.size w w':=by
 have HB:=af.mk (Below.refl w.heap.size w);have H:((BI.f a0).bind fun Ip=>((vB.f k a1).bind fun t136=>(if Ip.1.size+t136.size≤9223372036854775807 then(some (Ip.1++t136))else(none))))=some r:=h;clear h;replace H:=Option.bind_eq_some_iff.mp H;obtain⟨⟨t134,t135⟩,jD,H⟩:=H;(try dsimp only at H);have A3:=af.mk jD;clear jD;replace H:=Option.bind_eq_some_iff.mp H;obtain⟨t136,oC,H⟩:=H;(try dsimp only at H);have A4:=af.mk oC;clear oC
 by_cases c5:t134.size+t136.size≤9223372036854775807
 ·rw[if_pos c5]at H;have jW:=eq_true c5;have xS:decide (t134.size+t136.size≤9223372036854775807)=true:=decide_eq_true c5
  try have c5b2:(9223372036854775807<t134.size+t136.size)=False:=eq_false (Nat.not_lt.2 c5)
  obtain rfl:=Option.some.inj H
  go_enter Tryz.func93,Tryz.ntmps93
  go_wp2_with (first|((with_reducible refine bq (f:=42) rfl ?_);refine bC 9 Tryz.func42 #[.string a0] rfl ?_;(with_reducible refine(BI.calls a0 t134 t135 _ A3.out).mono ?_);rintro e w6 ⟨rfl,hb⟩;refine⟨_,rfl,?_⟩;replace HB:=af.mk (av ai hb);(try clear hb);(try clear hb2);(try clear hk);(try clear hi))|((with_reducible refine bq (f:=143) rfl ?_);refine bC 14 Tryz.func143 #[.int .u64 a1] rfl ?_;(with_reducible refine(vB.calls k a1 t136 _ A4.out).mono ?_);rintro e w7 ⟨rfl,hb⟩;refine⟨_,rfl,?_⟩;replace HB:=af.mk (av ai hb);(try clear hb);(try clear hb2);(try clear hk);(try clear hi)))
  go_ret
  exact⟨bS,ai⟩
 ·rw[if_neg c5]at H;exact absurd H (by simp)
end Go.Proofs.YtdcddenojjdmjaaGreatDoor.T
