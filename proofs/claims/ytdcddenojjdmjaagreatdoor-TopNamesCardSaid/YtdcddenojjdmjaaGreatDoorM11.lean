import Derived.Test.YtdcddenojjdmjaaGreatDoorM10
set_option linter.all false
set_option maxHeartbeats 8000000
set_option maxRecDepth 100000
namespace Go.Proofs.YtdcddenojjdmjaaGreatDoor.T
open Go.RowKit Go.Proofs.YtdcddenojjdmjaaGreatDoorW.PrintWords Go.Proofs.YtdcddenojjdmjaaGreatDoorW.PrintLast Go.Proofs.YtdcddenojjdmjaaGreatDoorW.PrintMore
theorem aaA(key s:ByteArray)(h:key.size=0∨32<key.size)(w:World):
  Calls Tryz.prog 27 #[.string key,.string s] w fun e w'=>e=.returned (.tuple #[.string ⟨#[]⟩,.int .i64 1])∧Below w.heap.size w w':=by
 rcases h with h|h
 ·have i1:(key.size:Int)<1:=by omega
  go_enter Tryz.func27,Tryz.ntmps27
  go_wp2_with fail
  go_ret2
  exact⟨rfl,Below.refl _ _⟩
 ·have i0:¬(key.size:Int)<1:=by omega
  have i1:(32:Int)<key.size:=by omega
  go_enter Tryz.func27,Tryz.ntmps27
  go_wp2_with fail
  go_ret2
  exact⟨rfl,Below.refl _ _⟩
theorem refKeyed(key s:ByteArray)(h1:1≤key.size)(h32:key.size≤32)(hs:s.size≤140737488355328)(w:World):
  Calls Tryz.prog 27 #[.string key,.string s] w fun e w'=>e=.returned (.tuple #[.string ⟨(Cm key s).toArray⟩,.int .i64 0])∧Below w.heap.size w w':=by
 obtain⟨a0,a1,a2,a3,a4,a5,a6,a7,ea⟩:=qh (yY key.size) (KP _);have HA:=af.mk ea;obtain⟨m,hm⟩:∃m:Nat,key.size+m=64:=⟨64-key.size,by omega⟩;have HM:=af.mk (show m=64-key.size by omega);have HMM:=af.mk hm;have HS:=af.mk hs;have i0:¬(key.size:Int)<1:=by omega
 have i1:¬(32:Int)<key.size:=by omega
 have c1:(0:Int)≤key.size:=by omega
 have c2:(key.size:Int)≤32:=by omega
 have HC:=af.mk (And.intro c1 c2);clear ea hm c1 c2
 go_enter Tryz.func27,Tryz.ntmps27
 go_wp2_with (go_at_call 74;(refine(refStart key.size HC.out.1 HC.out.2 _).mono ?_);rw[HA.out,Bo];rintro e w1 ⟨rfl,hb1⟩)
 have hB0:=ax hb1 (.cells (aJ [a0,a1,a2,a3,a4,a5,a6,a7]) 160);have bN:=bI w1 (.cells (aJ [a0,a1,a2,a3,a4,a5,a6,a7]) 160);obtain⟨q0,q1,q2,q3,q4,q5,q6,q7⟩:=qK bN;clear bN;revert q0 q1 q2 q3 q4 q5 q6 q7 hB0;obtain⟨g,hg⟩:∃g,w1.heap.size=g:=⟨_,rfl⟩;obtain⟨W,hW⟩:∃W,w1.alloc (.cells #[.int .u32 a0,.int .u32 a1,.int .u32 a2,.int .u32 a3,.int .u32 a4,.int .u32 a5,.int .u32 a6,.int .u32 a7] 160)=W:=⟨_,rfl⟩;rw[hg,Bo,hW];intro hB0 q0 q1 q2 q3 q4 q5 q6 q7;have HB:=af.mk hB0;have e3:¬(9223372036854775807<(lI key m).size+s.size):=by rw[KC key m HMM.out];omega
 clear hB0 hb1 hg hW;refine gZ (n:=8) (S:=fun w'=>w'.cell? ⟨g,0,none⟩=some (.int .u32 a0)∧w'.cell? ⟨g,1,none⟩=some (.int .u32 a1)∧w'.cell? ⟨g,2,none⟩=some (.int .u32 a2)∧w'.cell? ⟨g,3,none⟩=some (.int .u32 a3)∧w'.cell? ⟨g,4,none⟩=some (.int .u32 a4)∧w'.cell? ⟨g,5,none⟩=some (.int .u32 a5)∧w'.cell? ⟨g,6,none⟩=some (.int .u32 a6)∧w'.cell? ⟨g,7,none⟩=some (.int .u32 a7)∧Below w.heap.size w w') (ds:=[]) #[false,false,false,false,false,false,false,false] (by kernel_rfl) rfl rfl ⟨q0,q1,q2,q3,q4,q5,q6,q7,Below.drew HB.out⟩ (fun hHeld=>?_);refine au 1 23 ?_;refine au 3 25 ?_;refine bU 0 22 hHeld (by rintro w' ⟨s0,s1,s2,s3,s4,s5,s6,s7,s8⟩;go_simp;with_reducible rfl) ?_ rfl rfl;refine fu 2 (N:=some 24) rfl rfl fun K hK=>?_
 refine gF Tryz.func76 (by kernel_rfl) rfl #[.string key] (by rfl) rfl rfl (by simp only[List.map_toArray,List.map_cons,List.map_nil];rfl) ?_
 with_reducible refine(WT key m HMM.out _).mono ?_
 rintro e w2 ⟨rfl,hb2⟩;refine⟨_,rfl,?_⟩;refine hK.out _ _ ⟨aI hb2 (hHeld.1),aI hb2 (hHeld.2.1),aI hb2 (hHeld.2.2.1),aI hb2 (hHeld.2.2.2.1),aI hb2 (hHeld.2.2.2.2.1),aI hb2 (hHeld.2.2.2.2.2.1),aI hb2 (hHeld.2.2.2.2.2.2.1),aI hb2 (hHeld.2.2.2.2.2.2.2.1),hHeld.2.2.2.2.2.2.2.2.trans (hb2.mono hHeld.2.2.2.2.2.2.2.2.size)⟩ (fun hHeld=>?_);clear hK K;refine dM ?_;refine au 4 26 ?_;refine fu 5 (N:=some 27) rfl rfl fun K hK=>?_
 refine gF Tryz.func75 (by kernel_rfl) rfl #[.agg (aJ [a0,a1,a2,a3,a4,a5,a6,a7]),.string (lI key m++s)] (by rfl) rfl rfl (by simp only[List.map_toArray,List.map_cons,List.map_nil];rfl) ?_
 with_reducible refine(refAll [a0,a1,a2,a3,a4,a5,a6,a7] rfl (lI key m++s) (by rw[ByteArray.size_append,KC key m HMM.out];have:=HS.out;omega) _).mono ?_
 rintro e w3 ⟨rfl,hb3⟩;refine⟨_,rfl,?_⟩;refine hK.out _ _ ⟨aI hb3 (hHeld.1),aI hb3 (hHeld.2.1),aI hb3 (hHeld.2.2.1),aI hb3 (hHeld.2.2.2.1),aI hb3 (hHeld.2.2.2.2.1),aI hb3 (hHeld.2.2.2.2.2.1),aI hb3 (hHeld.2.2.2.2.2.2.1),aI hb3 (hHeld.2.2.2.2.2.2.2.1),hHeld.2.2.2.2.2.2.2.2.trans (hb3.mono hHeld.2.2.2.2.2.2.2.2.size)⟩ (fun hHeld=>?_);clear hK K;refine dM ?_;refine au 6 4 ?_;refine au 7 5 ?_;refine gJ ?_;clear e3
 go_wp2_with fail
 go_ret2
 exact⟨by rw[Cm,HA.out,← HM.out];rfl,hHeld.2.2.2.2.2.2.2.2⟩
def iJ(key s:ByteArray):ByteArray:=if 1≤key.size∧key.size≤32 then⟨(Cm key s).toArray⟩else⟨#[]⟩
def jm(key:ByteArray):Int:=if 1≤key.size∧key.size≤32 then 0 else 1
theorem aaz(key s:ByteArray)(hs:s.size≤140737488355328)(w:World):
  Calls Tryz.prog 27 #[.string key,.string s] w fun e w'=>e=.returned (.tuple #[.string (iJ key s),.int .i64 (jm key)])∧Below w.heap.size w w':=by
 unfold iJ jm
 by_cases h:1≤key.size∧key.size≤32
 ·rw[if_pos h,if_pos h];exact refKeyed key s h.1 h.2 hs w
 ·rw[if_neg h,if_neg h];exact aaA key s (by omega) w
theorem SA(key s:ByteArray)(hs:s.size≤140737488355328)(w:World)(hG:jR w):
  Calls Tryz.prog 136 #[.string key,.string s] w fun e w'=>e=.returned (.tuple #[.string (iJ key s),.int .i64 (jm key)])∧Below w.heap.size w w':=by
 unfold iJ jm
 by_cases h:1≤key.size∧key.size≤32
 ·rw[if_pos h,if_pos h];exact Yv key s h.1 h.2 hs w hG
 ·rw[if_neg h,if_neg h];exact Yw key s (by omega) w
def wW(key s x:ByteArray):ByteArray:=if s.toList=[]then⟨#[]⟩else iJ key x
theorem VH(key:ByteArray):jm key=0∨(jm key=1∧∀s,iJ key s=⟨#[]⟩):=by
 unfold jm iJ
 by_cases h:1≤key.size∧key.size≤32
 ·exact .inl (if_pos h)
 ·exact .inr ⟨if_neg h,fun s=>if_neg h⟩
end Go.Proofs.YtdcddenojjdmjaaGreatDoor.T
namespace Go.Proofs.YtdcddenojjdmjaaGreatDoor.T
open Go.RowKit Go.Proofs.YtdcddenojjdmjaaGreatDoorW.PrintWords Go.Proofs.YtdcddenojjdmjaaGreatDoorW.PrintLast Go.Proofs.YtdcddenojjdmjaaGreatDoorW.PrintMore
attribute [local go_sem] kH kL kK kP kJ kN kI kM
def errW:Option Int→Value
 |none=>.nilIface
 |some c=>.iface 0 (.int .i64 c)
theorem YA(l:List UInt8):(!l.isEmpty)=(l != []):=by cases l<;>rfl
theorem S9:errW none=.nilIface:=rfl
theorem Ta(c:Int):errW (some c)=.iface 0 (.int .i64 c):=rfl
theorem info3:(Tryz.prog.info? 3).map (fun i=>(i.zero,i.size,i.bytes))=some (some (.int .i64 0),1,8):=by kernel_rfl
theorem DW:(Tryz.prog.info? 9).map (fun i=>(i.zero,i.size,i.bytes))=some (some (.string ⟨#[]⟩),1,16):=by kernel_rfl
theorem info29:(Tryz.prog.info? 29).map (fun i=>(i.zero,i.size,i.bytes))=some (some (.agg #[(.int .i64 0),(.int .i64 0),(.int .i64 0)]),3,24):=by kernel_rfl
theorem wO:(Tryz.prog.info? 67).map (fun i=>(i.zero,i.size,i.bytes))=some (some (.agg #[(.int .i64 0),(.int .i64 0),(.string ⟨#[]⟩),(.string ⟨#[]⟩)]),4,48):=by kernel_rfl
theorem Vs:(Tryz.prog.info? 136).map (fun i=>(i.zero,i.size,i.bytes))=some (some (.agg #[(.int .i64 0),(.int .i64 0),(.int .i64 0),(.int .i64 0),(.int .i64 0)]),5,40):=by kernel_rfl
structure aj where
 f0:Int
 f1:Int
 f2:ByteArray
 f3:ByteArray
def z67:aj:=⟨(0:Int),(0:Int),(⟨#[]⟩:ByteArray),(⟨#[]⟩:ByteArray)⟩
def dw:Kd aj:=Kd.iso (Kd.pair (Kd.int .i64) (Kd.pair (Kd.int .i64) (Kd.pair Kd.string Kd.string))) (fun x:aj=>(x.f0,x.f1,x.f2,x.f3))
theorem VD{w:World}{x:aj}{cs:List Value}(h:dw.K w x cs):cs=[.int .i64 x.f0,.int .i64 x.f1,.string x.f2,.string x.f3]:=by
 obtain⟨_,_,rfl,rfl,⟨_,_,rfl,rfl,⟨_,_,rfl,rfl,rfl⟩⟩⟩:=h;exact rfl
theorem yG(w:World)(base:Nat)(ok:Nat→Prop)(x:aj):dw.M w base ok x [.int .i64 x.f0,.int .i64 x.f1,.string x.f2,.string x.f3]:=⟨[.int .i64 x.f0],[.int .i64 x.f1,.string x.f2,.string x.f3],rfl,rfl,⟨[.int .i64 x.f1],[.string x.f2,.string x.f3],rfl,rfl,⟨[.string x.f2],[.string x.f3],rfl,rfl,rfl⟩⟩⟩
def ak(xs:List aj)(i:Int):aj:=xs.getD i.toNat z67
theorem gL{w:World}{A:Option Addr}{n:Nat}{xs:List aj}(h:Kd.C dw w A n xs)(i:Int)(h0:0≤i)(h1:i<n):∃ad,A=some ad∧w.cell? (ad.add (i.toNat*4))=some (.int .i64 (ak xs i).f0)∧w.cell? ⟨(ad.add (i.toNat*4)).block,(ad.add (i.toNat*4)).off+1,none⟩=some (.int .i64 (ak xs i).f1)∧w.cell? ⟨(ad.add (i.toNat*4)).block,(ad.add (i.toNat*4)).off+2,none⟩=some (.string (ak xs i).f2)∧w.cell? ⟨(ad.add (i.toNat*4)).block,(ad.add (i.toNat*4)).off+3,none⟩=some (.string (ak xs i).f3):=by
 obtain⟨ad,c,e,_,hK,hc0⟩:=Kd.zi h z67 i h0 h1;have hc:∀j u,c[j]? =some u→w.cell? (ad.add (i.toNat*4+j))=some u:=hc0;obtain rfl:=VD hK;exact⟨ad,e,hc 0 _ rfl,by rw[← oP _ _ 1 (by omega)];exact hc 1 _ rfl,by rw[← oP _ _ 2 (by omega)];exact hc 2 _ rfl,by rw[← oP _ _ 3 (by omega)];exact hc 3 _ rfl⟩
structure eB where
 f0:Int
 f1:Int
 f2:Int
 f3:Bool
def z198:eB:=⟨(0:Int),(0:Int),(0:Int),false⟩
def jY:Kd eB:=Kd.iso (Kd.pair (Kd.int .i64) (Kd.pair (Kd.int .i64) (Kd.pair (Kd.int .i64) Kd.bool))) (fun x:eB=>(x.f0,x.f1,x.f2,x.f3))
theorem ZI{w:World}{x:eB}{cs:List Value}(h:jY.K w x cs):cs=[.int .i64 x.f0,.int .i64 x.f1,.int .i64 x.f2,.bool x.f3]:=by
 obtain⟨_,_,rfl,rfl,⟨_,_,rfl,rfl,⟨_,_,rfl,rfl,rfl⟩⟩⟩:=h;exact rfl
theorem ZJ{w:World}{base:Nat}{ok:Nat→Prop}{x:eB}{cs:List Value}(h:jY.M w base ok x cs):cs=[.int .i64 x.f0,.int .i64 x.f1,.int .i64 x.f2,.bool x.f3]:=by
 obtain⟨_,_,rfl,rfl,⟨_,_,rfl,rfl,⟨_,_,rfl,rfl,rfl⟩⟩⟩:=h;exact rfl
theorem M8(w:World)(base:Nat)(ok:Nat→Prop)(x:eB):jY.M w base ok x [.int .i64 x.f0,.int .i64 x.f1,.int .i64 x.f2,.bool x.f3]:=⟨[.int .i64 x.f0],[.int .i64 x.f1,.int .i64 x.f2,.bool x.f3],rfl,rfl,⟨[.int .i64 x.f1],[.int .i64 x.f2,.bool x.f3],rfl,rfl,⟨[.int .i64 x.f2],[.bool x.f3],rfl,rfl,rfl⟩⟩⟩
def Gf(xs:List eB)(i:Int):eB:=xs.getD i.toNat z198
theorem at_T198{w:World}{A:Option Addr}{n:Nat}{xs:List eB}(h:Kd.C jY w A n xs)(i:Int)(h0:0≤i)(h1:i<n):∃ad,A=some ad∧w.cell? (ad.add (i.toNat*4))=some (.int .i64 (Gf xs i).f0)∧w.cell? ⟨(ad.add (i.toNat*4)).block,(ad.add (i.toNat*4)).off+1,none⟩=some (.int .i64 (Gf xs i).f1)∧w.cell? ⟨(ad.add (i.toNat*4)).block,(ad.add (i.toNat*4)).off+2,none⟩=some (.int .i64 (Gf xs i).f2)∧w.cell? ⟨(ad.add (i.toNat*4)).block,(ad.add (i.toNat*4)).off+3,none⟩=some (.bool (Gf xs i).f3):=by
 obtain⟨ad,c,e,_,hK,hc0⟩:=Kd.zi h z198 i h0 h1;have hc:∀j u,c[j]? =some u→w.cell? (ad.add (i.toNat*4+j))=some u:=hc0;obtain rfl:=ZI hK;exact⟨ad,e,hc 0 _ rfl,by rw[← oP _ _ 1 (by omega)];exact hc 1 _ rfl,by rw[← oP _ _ 2 (by omega)];exact hc 2 _ rfl,by rw[← oP _ _ 3 (by omega)];exact hc 3 _ rfl⟩
structure lW where
 f0:Int
 f1:Int
 f2:Int
def z29:lW:=⟨(0:Int),(0:Int),(0:Int)⟩
def k29:Kd lW:=Kd.iso (Kd.pair (Kd.int .i64) (Kd.pair (Kd.int .i64) (Kd.int .i64))) (fun x:lW=>(x.f0,x.f1,x.f2))
theorem ZK{w:World}{x:lW}{cs:List Value}(h:k29.K w x cs):cs=[.int .i64 x.f0,.int .i64 x.f1,.int .i64 x.f2]:=by
 obtain⟨_,_,rfl,rfl,⟨_,_,rfl,rfl,rfl⟩⟩:=h;exact rfl
theorem k29_mkM(w:World)(base:Nat)(ok:Nat→Prop)(x:lW):k29.M w base ok x [.int .i64 x.f0,.int .i64 x.f1,.int .i64 x.f2]:=⟨[.int .i64 x.f0],[.int .i64 x.f1,.int .i64 x.f2],rfl,rfl,⟨[.int .i64 x.f1],[.int .i64 x.f2],rfl,rfl,rfl⟩⟩
def ow(xs:List lW)(i:Int):lW:=xs.getD i.toNat z29
theorem at_T29{w:World}{A:Option Addr}{n:Nat}{xs:List lW}(h:Kd.C k29 w A n xs)(i:Int)(h0:0≤i)(h1:i<n):∃ad,A=some ad∧w.cell? (ad.add (i.toNat*3))=some (.int .i64 (ow xs i).f0)∧w.cell? ⟨(ad.add (i.toNat*3)).block,(ad.add (i.toNat*3)).off+1,none⟩=some (.int .i64 (ow xs i).f1)∧w.cell? ⟨(ad.add (i.toNat*3)).block,(ad.add (i.toNat*3)).off+2,none⟩=some (.int .i64 (ow xs i).f2):=by
 obtain⟨ad,c,e,_,hK,hc0⟩:=Kd.zi h z29 i h0 h1;have hc:∀j u,c[j]? =some u→w.cell? (ad.add (i.toNat*3+j))=some u:=hc0;obtain rfl:=ZK hK;exact⟨ad,e,hc 0 _ rfl,by rw[← oP _ _ 1 (by omega)];exact hc 1 _ rfl,by rw[← oP _ _ 2 (by omega)];exact hc 2 _ rfl⟩
structure aN where
 f0:Int
 f1:Int
 f2:Int
 f3:Int
 f4:Int
def z136:aN:=⟨(0:Int),(0:Int),(0:Int),(0:Int),(0:Int)⟩
def fZ:Kd aN:=Kd.iso (Kd.pair (Kd.int .i64) (Kd.pair (Kd.int .i64) (Kd.pair (Kd.int .i64) (Kd.pair (Kd.int .i64) (Kd.int .i64))))) (fun x:aN=>(x.f0,x.f1,x.f2,x.f3,x.f4))
theorem VA{w:World}{x:aN}{cs:List Value}(h:fZ.K w x cs):cs=[.int .i64 x.f0,.int .i64 x.f1,.int .i64 x.f2,.int .i64 x.f3,.int .i64 x.f4]:=by
 obtain⟨_,_,rfl,rfl,⟨_,_,rfl,rfl,⟨_,_,rfl,rfl,⟨_,_,rfl,rfl,rfl⟩⟩⟩⟩:=h;exact rfl
theorem ZG{w:World}{base:Nat}{ok:Nat→Prop}{x:aN}{cs:List Value}(h:fZ.M w base ok x cs):cs=[.int .i64 x.f0,.int .i64 x.f1,.int .i64 x.f2,.int .i64 x.f3,.int .i64 x.f4]:=by
 obtain⟨_,_,rfl,rfl,⟨_,_,rfl,rfl,⟨_,_,rfl,rfl,⟨_,_,rfl,rfl,rfl⟩⟩⟩⟩:=h;exact rfl
theorem M7(w:World)(base:Nat)(ok:Nat→Prop)(x:aN):fZ.M w base ok x [.int .i64 x.f0,.int .i64 x.f1,.int .i64 x.f2,.int .i64 x.f3,.int .i64 x.f4]:=⟨[.int .i64 x.f0],[.int .i64 x.f1,.int .i64 x.f2,.int .i64 x.f3,.int .i64 x.f4],rfl,rfl,⟨[.int .i64 x.f1],[.int .i64 x.f2,.int .i64 x.f3,.int .i64 x.f4],rfl,rfl,⟨[.int .i64 x.f2],[.int .i64 x.f3,.int .i64 x.f4],rfl,rfl,⟨[.int .i64 x.f3],[.int .i64 x.f4],rfl,rfl,rfl⟩⟩⟩⟩
def gG(xs:List aN)(i:Int):aN:=xs.getD i.toNat z136
theorem Ik{w:World}{A:Option Addr}{n:Nat}{xs:List aN}(h:Kd.C fZ w A n xs)(i:Int)(h0:0≤i)(h1:i<n):∃ad,A=some ad∧w.cell? (ad.add (i.toNat*5))=some (.int .i64 (gG xs i).f0)∧w.cell? ⟨(ad.add (i.toNat*5)).block,(ad.add (i.toNat*5)).off+1,none⟩=some (.int .i64 (gG xs i).f1)∧w.cell? ⟨(ad.add (i.toNat*5)).block,(ad.add (i.toNat*5)).off+2,none⟩=some (.int .i64 (gG xs i).f2)∧w.cell? ⟨(ad.add (i.toNat*5)).block,(ad.add (i.toNat*5)).off+3,none⟩=some (.int .i64 (gG xs i).f3)∧w.cell? ⟨(ad.add (i.toNat*5)).block,(ad.add (i.toNat*5)).off+4,none⟩=some (.int .i64 (gG xs i).f4):=by
 obtain⟨ad,c,e,_,hK,hc0⟩:=Kd.zi h z136 i h0 h1;have hc:∀j u,c[j]? =some u→w.cell? (ad.add (i.toNat*5+j))=some u:=hc0;obtain rfl:=VA hK;exact⟨ad,e,hc 0 _ rfl,by rw[← oP _ _ 1 (by omega)];exact hc 1 _ rfl,by rw[← oP _ _ 2 (by omega)];exact hc 2 _ rfl,by rw[← oP _ _ 3 (by omega)];exact hc 3 _ rfl,by rw[← oP _ _ 4 (by omega)];exact hc 4 _ rfl⟩
structure bW where
 f0:Int
 f1:Int
 f2:(List aN)
def z189:bW:=⟨(0:Int),(0:Int),([]:List aN)⟩
def nP:Kd bW:=Kd.iso (Kd.pair (Kd.int .i64) (Kd.pair (Kd.int .i64) (Kd.slice 136 fZ))) (fun x:bW=>(x.f0,x.f1,x.f2))
theorem ZH{w:World}{x:bW}{cs:List Value}(h:nP.K w x cs):∃A2 c2,cs=[.int .i64 x.f0,.int .i64 x.f1,.slice A2 x.f2.length c2]∧x.f2.length≤c2∧fZ.C w A2 x.f2.length x.f2:=by
 obtain⟨_,_,rfl,rfl,⟨_,_,rfl,rfl,⟨A2,c2,rfl,l2,g2⟩⟩⟩:=h;exact⟨A2,c2,rfl,l2,g2⟩
theorem k189_mk(w:World)(x:bW){A2:Option Addr}{c2:Nat}(l2:x.f2.length≤c2)(g2:fZ.C w A2 x.f2.length x.f2):nP.K w x [.int .i64 x.f0,.int .i64 x.f1,.slice A2 x.f2.length c2]:=⟨[.int .i64 x.f0],[.int .i64 x.f1,.slice A2 x.f2.length c2],rfl,rfl,⟨[.int .i64 x.f1],[.slice A2 x.f2.length c2],rfl,rfl,⟨A2,c2,rfl,l2,g2⟩⟩⟩
theorem VB(w:World)(base:Nat)(ok:Nat→Prop)(x:bW){v2:Value}(g2:fZ.R 136 w base ok v2 x.f2):nP.M w base ok x [.int .i64 x.f0,.int .i64 x.f1,v2]:=⟨[.int .i64 x.f0],[.int .i64 x.f1,v2],rfl,rfl,⟨[.int .i64 x.f1],[v2],rfl,rfl,⟨v2,rfl,g2⟩⟩⟩
def ou(xs:List bW)(i:Int):bW:=xs.getD i.toNat z189
theorem Sr{w:World}{A:Option Addr}{n:Nat}{xs:List bW}(h:Kd.C nP w A n xs)(i:Int)(h0:0≤i)(h1:i<n):∃ad A2 c2,A=some ad∧w.cell? (ad.add (i.toNat*3))=some (.int .i64 (ou xs i).f0)∧w.cell? ⟨(ad.add (i.toNat*3)).block,(ad.add (i.toNat*3)).off+1,none⟩=some (.int .i64 (ou xs i).f1)∧w.cell? ⟨(ad.add (i.toNat*3)).block,(ad.add (i.toNat*3)).off+2,none⟩=some (.slice A2 (ou xs i).f2.length c2)∧(ou xs i).f2.length≤c2∧fZ.C w A2 (ou xs i).f2.length (ou xs i).f2:=by
 obtain⟨ad,c,e,_,hK,hc0⟩:=Kd.zi h z189 i h0 h1;have hc:∀j u,c[j]? =some u→w.cell? (ad.add (i.toNat*3+j))=some u:=hc0;obtain⟨A2,c2,rfl,l2,g2⟩:=ZH hK;exact⟨ad,A2,c2,e,hc 0 _ rfl,by rw[← oP _ _ 1 (by omega)];exact hc 1 _ rfl,by rw[← oP _ _ 2 (by omega)];exact hc 2 _ rfl,l2,g2⟩
structure fo where
 f0:Int
 f1:aj
 f2:(List ByteArray)
def z79:fo:=⟨(0:Int),z67,([]:List ByteArray)⟩
def vJ:Kd fo:=Kd.iso (Kd.pair (Kd.int .i64) (Kd.pair dw (Kd.slice 9 Kd.string))) (fun x:fo=>(x.f0,x.f1,x.f2))
theorem ZL{w:World}{x:fo}{cs:List Value}(h:vJ.K w x cs):∃A5 c5,cs=[.int .i64 x.f0,.int .i64 x.f1.f0,.int .i64 x.f1.f1,.string x.f1.f2,.string x.f1.f3,.slice A5 x.f2.length c5]∧x.f2.length≤c5∧Kd.string.C w A5 x.f2.length x.f2:=by
 obtain⟨_,_,rfl,rfl,⟨_,_,rfl,s1,⟨A5,c5,rfl,l5,g5⟩⟩⟩:=h;obtain rfl:=VD s1;exact⟨A5,c5,rfl,l5,g5⟩
theorem k79_mkM(w:World)(base:Nat)(ok:Nat→Prop)(x:fo){v5:Value}(g5:Kd.string.R 9 w base ok v5 x.f2):vJ.M w base ok x [.int .i64 x.f0,.int .i64 x.f1.f0,.int .i64 x.f1.f1,.string x.f1.f2,.string x.f1.f3,v5]:=⟨[.int .i64 x.f0],[.int .i64 x.f1.f0,.int .i64 x.f1.f1,.string x.f1.f2,.string x.f1.f3,v5],rfl,rfl,⟨[.int .i64 x.f1.f0,.int .i64 x.f1.f1,.string x.f1.f2,.string x.f1.f3],[v5],rfl,(yG w base ok x.f1),⟨v5,rfl,g5⟩⟩⟩
def iO(xs:List fo)(i:Int):fo:=xs.getD i.toNat z79
theorem OI{w:World}{A:Option Addr}{n:Nat}{xs:List fo}(h:Kd.C vJ w A n xs)(i:Int)(h0:0≤i)(h1:i<n):∃ad A5 c5,A=some ad∧w.cell? (ad.add (i.toNat*6))=some (.int .i64 (iO xs i).f0)∧w.cell? ⟨(ad.add (i.toNat*6)).block,(ad.add (i.toNat*6)).off+1,none⟩=some (.int .i64 (iO xs i).f1.f0)∧w.cell? ⟨(ad.add (i.toNat*6)).block,(ad.add (i.toNat*6)).off+2,none⟩=some (.int .i64 (iO xs i).f1.f1)∧w.cell? ⟨(ad.add (i.toNat*6)).block,(ad.add (i.toNat*6)).off+3,none⟩=some (.string (iO xs i).f1.f2)∧w.cell? ⟨(ad.add (i.toNat*6)).block,(ad.add (i.toNat*6)).off+4,none⟩=some (.string (iO xs i).f1.f3)∧w.cell? ⟨(ad.add (i.toNat*6)).block,(ad.add (i.toNat*6)).off+5,none⟩=some (.slice A5 (iO xs i).f2.length c5)∧(iO xs i).f2.length≤c5∧Kd.string.C w A5 (iO xs i).f2.length (iO xs i).f2:=by
 obtain⟨ad,c,e,_,hK,hc0⟩:=Kd.zi h z79 i h0 h1;have hc:∀j u,c[j]? =some u→w.cell? (ad.add (i.toNat*6+j))=some u:=hc0;obtain⟨A5,c5,rfl,l5,g5⟩:=ZL hK;exact⟨ad,A5,c5,e,hc 0 _ rfl,by rw[← oP _ _ 1 (by omega)];exact hc 1 _ rfl,by rw[← oP _ _ 2 (by omega)];exact hc 2 _ rfl,by rw[← oP _ _ 3 (by omega)];exact hc 3 _ rfl,by rw[← oP _ _ 4 (by omega)];exact hc 4 _ rfl,by rw[← oP _ _ 5 (by omega)];exact hc 5 _ rfl,l5,g5⟩
end Go.Proofs.YtdcddenojjdmjaaGreatDoor.T
