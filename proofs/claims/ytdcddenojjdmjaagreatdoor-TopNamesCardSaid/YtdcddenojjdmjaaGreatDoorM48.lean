import Derived.Test.YtdcddenojjdmjaaGreatDoorM47
set_option linter.all false
set_option maxHeartbeats 8000000
set_option maxRecDepth 100000
namespace Go.Proofs.YtdcddenojjdmjaaGreatDoor.T
open Go.RowKit Go.Proofs.YtdcddenojjdmjaaGreatDoorW.PrintWords Go.Proofs.YtdcddenojjdmjaaGreatDoorW.PrintLast Go.Proofs.YtdcddenojjdmjaaGreatDoorW.PrintMore
theorem WV(a0:Int)(v1:Value)(a1:Int)(a2 t1 t2 t3:ByteArray)(z:Int)(h1:dJ.f (IntKind.u64.wrap a1)=some t1)(h2:dJ.f a0=some t2)(h3:qY.f a2=some (t3,z))(hs:t1.size+t2.size+t3.size≤1000)(w:World):
  Calls Tryz.prog 33 #[.agg #[.int .u64 a0,v1],.int .i64 a1,.string a2] w fun e w'=>e=.returned (.string (t1++t2++t3))∧Below w.heap.size w w':=by
 have HN1:=af.mk h1;have HN2:=af.mk h2;have HN3:=af.mk h3;have e1:(t1.size+t2.size≤9223372036854775807)=True:=eq_true (by omega);have e2:(t1.size+t2.size+t3.size≤9223372036854775807)=True:=eq_true (by omega);have e3:(9223372036854775807<t1.size+t2.size)=False:=eq_false (by omega);have e4:(9223372036854775807<t1.size+t2.size+t3.size)=False:=eq_false (by omega);have HK:=af.mk (bI w (.cells #[.int .u64 a0,v1] 50));have HB0:=af.mk (ax (Below.refl w.heap.size w) (.cells #[.int .u64 a0,v1] 50));clear h1 h2 h3 hs
 go_enter Tryz.func33,Tryz.ntmps33
 go_wp2_with (go_at_call 81;with_reducible refine(qY.calls a2 t3 z _ HN3.out).mono ?_;rintro e w2 ⟨rfl,hb⟩;have gK:=af.mk (aK HK.out hb);have HB:=af.mk (av HB0.out hb);clear hb)
 have c0:w2.drew.cell? ⟨w.heap.size,0,none⟩=some (.int .u64 a0):=(ah gK.out 0).trans rfl;refine gZ (n:=10) (S:=fun w'=>w'.cell? ⟨w.heap.size,0,none⟩=some (.int .u64 a0)∧Below w.heap.size w w') (ds:=[]) #[false,false,false,false,false,false,false,false,false,false] (by kernel_rfl) rfl rfl ⟨c0,Below.drew HB.out⟩ (fun hHeld=>?_);refine au 0 14 ?_;refine au 1 15 ?_;refine au 3 17 ?_;refine au 7 21 ?_;refine bU 4 18 hHeld (by rintro w' ⟨s0,s1⟩;go_simp;with_reducible rfl) ?_ rfl rfl;refine fu 2 (N:=some 16) rfl rfl fun K hK=>?_
 refine gF Tryz.func82 (by kernel_rfl) rfl #[.int .u64 (IntKind.u64.wrap a1)] (by rfl) rfl rfl (by simp only[List.map_toArray,List.map_cons,List.map_nil];rfl) ?_
 with_reducible refine(dJ.calls (IntKind.u64.wrap a1) t1 _ HN1.out).mono ?_
 rintro e w4 ⟨rfl,hb4⟩;refine⟨_,rfl,?_⟩;have H4:=af.mk (av (hHeld.2) hb4);refine hK.out _ _ ⟨aI hb4 (hHeld.1),H4.out⟩ (fun hHeld=>?_);clear hK K;refine dM ?_;refine fu 5 (N:=some 19) rfl rfl fun K hK=>?_
 refine gF Tryz.func82 (by kernel_rfl) rfl #[.int .u64 a0] (by rfl) rfl rfl (by simp only[List.map_toArray,List.map_cons,List.map_nil];rfl) ?_
 with_reducible refine(dJ.calls a0 t2 _ HN2.out).mono ?_
 rintro e w5 ⟨rfl,hb5⟩;refine⟨_,rfl,?_⟩;have H5:=af.mk (av (hHeld.2) hb5);refine hK.out _ _ ⟨aI hb5 (hHeld.1),H5.out⟩ (fun hHeld=>?_);clear hK K;refine dM ?_;refine au 6 20 ?_;refine au 8 22 ?_;refine au 9 6 ?_;refine gJ ?_
 go_wp2_with fail
 go_ret
 exact⟨rfl,H5.out⟩
theorem tIdx0(F:Value)(w:World):Calls Tryz.prog 77 #[.slice none 0 0,F] w fun e w'=>e=.returned (.int .i64 (-1))∧Below w.heap.size w w':=by
 go_enter Tryz.func77,Tryz.ntmps77
 go_wp2_with fail
 go_loopw [8] (fun v8 wr=>v8=.int .i64 0∧Below w.heap.size w wr) (fun _ _=>0)
 case atStart=>exact⟨rfl,Below.refl _ _⟩
 case round=>
  obtain⟨rfl,hB⟩:=hrel;have HB:=af.mk hB;clear hB
  go_wp2_with fail
  go_ret
  exact⟨rfl,HB.out⟩
theorem tStep(cs:Array Value)(x0 s:ByteArray)(v1 v2 v3 v4 v5 v6 v7 v8 v9 v10 v11 v12:Value)(g:Nat)(w:World)(hne:x0.toList≠s.toList)(hg:w.heap[g]? =some (.cells #[.string s] 9 (0,0))):
  Calls Tryz.prog 78 #[.agg #[.string x0,v1,v2,v3,v4,v5,v6,v7,v8,v9,v10,v11,v12],.pointer (some ⟨g,0,none⟩)] w fun e w'=>e=.returned (.bool false)∧Below w.heap.size w w':=by
 have hb:(x0.toList==s.toList)=false:=beq_eq_false_iff_ne.2 hne;have hn:w.heap[w.heap.size]? =none:=by simp
 have c0:(w.alloc (.cells #[.string x0,v1,v2,v3,v4,v5,v6,v7,v8,v9,v10,v11,v12] 62)).cell? ⟨g,0,none⟩=some (.string s):=(ah (ay hg _) 0).trans rfl;clear hn hg hne
 go_enter Tryz.func78,Tryz.ntmps78
 go_wp2_with fail
 go_ret
 exact⟨rfl,ax (Below.refl _ _) _⟩
theorem tIdx1(arr:Array Value)(b g c:Nat)(x0 s:ByteArray)(v1 v2 v3 v4 v5 v6 v7 v8 v9 v10 v11 v12:Value)(w:World)(hne:x0.toList≠s.toList)(hb:w.heap[b]? =some (.cells arr 62 (0,0)))(hA:∀(k:Nat) (v:Value),([.string x0,v1,v2,v3,v4,v5,v6,v7,v8,v9,v10,v11,v12]:List Value)[k]? =some v→arr[k]? =some v)(hg:w.heap[g]? =some (.cells #[.string s] 9 (0,0))):
  Calls Tryz.prog 77 #[.slice (some ⟨b,0,none⟩) 1 c,.func (.func 78) #[] #[.pointer (some ⟨g,0,none⟩)]] w fun e w'=>e=.returned (.int .i64 (-1))∧Below w.heap.size w w':=by
 have HB:=af.mk hb;have HG:=af.mk hg;have HN:=af.mk hne;have HA:=af.mk hA;clear hb hg hne hA
 go_enter Tryz.func77,Tryz.ntmps77
 go_wp2_with fail
 go_loopw [8] (fun v8 wr=>∃i:Nat,i≤1∧v8=.int .i64 i∧Below w.heap.size w wr) (fun v8 _=>1-(intOf v8).toNat)
 case atStart=>exact⟨0,by omega,rfl,Below.refl _ _⟩
 case round=>
  obtain⟨i,hi,rfl,hW⟩:=hrel;have HW:=af.mk hW
  by_cases h0:i=0
  ·subst h0;have HK:=af.mk (aK HB.out hW);have q0:wr.cell? ⟨b,0,none⟩=some (.string x0):=(ah HK.out 0).trans (HA.out 0 _ rfl);have q1:wr.cell? ⟨b,1,none⟩=some v1:=(ah HK.out 1).trans (HA.out 1 _ rfl);have q2:wr.cell? ⟨b,2,none⟩=some v2:=(ah HK.out 2).trans (HA.out 2 _ rfl);have q3:wr.cell? ⟨b,3,none⟩=some v3:=(ah HK.out 3).trans (HA.out 3 _ rfl);have q4:wr.cell? ⟨b,4,none⟩=some v4:=(ah HK.out 4).trans (HA.out 4 _ rfl);have q5:wr.cell? ⟨b,5,none⟩=some v5:=(ah HK.out 5).trans (HA.out 5 _ rfl);have q6:wr.cell? ⟨b,6,none⟩=some v6:=(ah HK.out 6).trans (HA.out 6 _ rfl);have q7:wr.cell? ⟨b,7,none⟩=some v7:=(ah HK.out 7).trans (HA.out 7 _ rfl);have q8:wr.cell? ⟨b,8,none⟩=some v8:=(ah HK.out 8).trans (HA.out 8 _ rfl);have q9:wr.cell? ⟨b,9,none⟩=some v9:=(ah HK.out 9).trans (HA.out 9 _ rfl);have qZ:wr.cell? ⟨b,10,none⟩=some v10:=(ah HK.out 10).trans (HA.out 10 _ rfl);have yN:wr.cell? ⟨b,11,none⟩=some v11:=(ah HK.out 11).trans (HA.out 11 _ rfl);have jP:wr.cell? ⟨b,12,none⟩=some v12:=(ah HK.out 12).trans (HA.out 12 _ rfl);clear hW
   go_wp2_with fail
   refine(tStep #[] x0 s v1 v2 v3 v4 v5 v6 v7 v8 v9 v10 v11 v12 g _ HN.out (aK HG.out HW.out)).mono ?_;rintro e w2 ⟨rfl,hb⟩;have HW2:=af.mk (av HW.out hb);clear hb q0 q1 q2 q3 q4 q5 q6 q7 q8 q9 qZ yN jP
   go_wp2_with fail
   go_roundw
   case rel=>exact⟨1,by omega,rfl,HW2.out⟩
   case measure=>simp[intOf]
  ·obtain rfl:i=1:=by omega
   clear hW
   go_wp2_with fail
   go_ret
   exact⟨rfl,HW.out⟩
theorem atNil(u:Value)(s:ByteArray)(w:World):Calls Tryz.prog 29 #[.agg #[u,.slice none 0 0],.string s] w fun e w'=>e=.returned (.int .i64 (-1))∧Below w.heap.size w w':=by
 go_enter Tryz.func29,Tryz.ntmps29
 go_wp2_with (go_at_call 77;refine(tIdx0 _ _).mono ?_;rintro e w2 ⟨rfl,hb⟩;have HB:=af.mk (av (ax (ax (Below.refl w.heap.size w) (.cells #[u,.slice none 0 0] 50)) (.cells #[.string s] 9)) hb);clear hb)
 go_ret
 exact⟨rfl,HB.out⟩
theorem atOne(arr:Array Value)(u:Value)(b c:Nat)(x0 s:ByteArray)(v1 v2 v3 v4 v5 v6 v7 v8 v9 v10 v11 v12:Value)(w:World)(hne:x0.toList≠s.toList)(hb:w.heap[b]? =some (.cells arr 62 (0,0)))(hA:∀(k:Nat) (v:Value),([.string x0,v1,v2,v3,v4,v5,v6,v7,v8,v9,v10,v11,v12]:List Value)[k]? =some v→arr[k]? =some v):
  Calls Tryz.prog 29 #[.agg #[u,.slice (some ⟨b,0,none⟩) 1 c],.string s] w fun e w'=>e=.returned (.int .i64 (-1))∧Below w.heap.size w w':=by
 have HB:=af.mk (ay (ay hb (.cells #[u,.slice (some ⟨b,0,none⟩) 1 c] 50)) (.cells #[.string s] 9));have HN:=af.mk hne;have HG:=af.mk (bI (w.alloc (.cells #[u,.slice (some ⟨b,0,none⟩) 1 c] 50)) (.cells #[.string s] 9));rw[World.size_alloc]at HG;have HA:=af.mk hA;clear hb hne hA
 go_enter Tryz.func29,Tryz.ntmps29
 go_wp2_with (go_at_call 77;refine(tIdx1 arr b (w.heap.size+1) c x0 s v1 v2 v3 v4 v5 v6 v7 v8 v9 v10 v11 v12 _ HN.out HB.out HA.out HG.out).mono ?_;rintro e w2 ⟨rfl,hb⟩;have HB2:=af.mk (av (ax (ax (Below.refl w.heap.size w) (.cells #[u,.slice (some ⟨b,0,none⟩) 1 c] 50)) (.cells #[.string s] 9)) hb);clear hb)
 go_ret
 exact⟨rfl,HB2.out⟩
def tq(y:ByteArray×ByteArray×ByteArray):List Value:=[.string y.1,.string y.2.1,.string y.2.2,.string ⟨#[]⟩,.string ⟨#[]⟩,.int .i64 0,.int .i64 0,.bool false,.slice none 0 0,.slice none 0 0,.slice none 0 0,.int .u64 0,.int .i64 150]
def kTen:Kd (ByteArray×ByteArray×ByteArray) where
 sz:=13
 E:=[]
 K:=fun _ y cs=>cs=tq y
 M:=fun _ _ _ y cs=>cs=tq y
 rH:=fun h=>by rw[h];rfl
 su:=fun h u hu=>by
  rw[h]at hu;simp only[tq,List.mem_cons,List.not_mem_nil,or_false]at hu
  rcases hu with rfl|rfl|rfl|rfl|rfl|rfl|rfl|rfl|rfl|rfl|rfl|rfl|rfl<;>rfl
 vY:=fun _ h=>h
 pM:=fun h=>h
 lV:=fun _ h=>h
 qD:=fun h=>h
 qE:=fun _ h=>h
 vZ:=fun _ h=>h
def zTen:Value:=.agg #[.string ⟨#[]⟩,.string ⟨#[]⟩,.string ⟨#[]⟩,.string ⟨#[]⟩,.string ⟨#[]⟩,.int .i64 0,.int .i64 0,.bool false,.slice none 0 0,.slice none 0 0,.slice none 0 0,.int .u64 0,.int .i64 0]
theorem info62v:(Tryz.prog.info? 62).map (fun i=>(i.zero,i.size,i.bytes))=some (some zTen,13,192):=by kernel_rfl
theorem ten_form{W:World}{base g c:Nat}{y:ByteArray×ByteArray×ByteArray}(h:Kd.R kTen 62 W base (fun _=>True) (.slice (some ⟨g,0,none⟩) 1 c) [y]):base≤g∧∃arr,W.heap[g]? =some (.cells arr 62 (0,0))∧∀(k:Nat) (v:Value),(tq y)[k]? =some v→arr[k]? =some v:=by
 obtain⟨g',c',e,h1,h2,arr,h3⟩:=Kd.xL h (by simp)
 cases e
 refine⟨h1,arr,h3,fun k v hv=>?_⟩;obtain⟨ad,cs,e,_,hK,hc⟩:=Kd.zi (Kd.dB h).2.2 y 0 (by decide) (by simp)
 cases e
 have hK:cs=tq y:=hK;subst hK;have:=hc k v hv;rw[show(⟨g,0,none⟩:Addr).add (Int.toNat 0*kTen.sz+k)=⟨g,k,none⟩ by simp only[Addr.add,Int.toNat_zero,Nat.zero_mul,Nat.zero_add];split<;>simp_all]at this;rw[← ah h3 k];exact this
def New.B(w:World)(g c b9:Nat)(s9:Array Value)(vs:List Value)(wr:World):Prop:=
 wr.heap[w.heap.size]? =some (.cells #[.int .u64 0,.slice none 0 0] 50 (0,0))∧wr.heap[w.heap.size+1]? =some (.cells #[.int .u64 0,.slice (some ⟨g,0,none⟩) 1 c] 50 (0,0))∧wr.heap[b9]? =some (.cells s9 58 (0,0))∧(∃arr,wr.heap[g]? =some (.cells arr 62 (0,0))∧∀(k:Nat) (v:Value),vs[k]? =some v→arr[k]? =some v)∧Below w.heap.size w wr
theorem Ng{W:World}{a b:Nat}{x y:Array Value}{t u:TypeId}(ha:W.heap[a]? =some (.cells x t (0,0)))(hb:W.heap[b]? =some (.cells y u (0,0)))(h:t≠u):a≠b:=fun e=>by
 rw[e,hb]at ha;injection ha with ha
 injection ha with _ ha
 exact h ha.symm
theorem New.B.set{w W:World}{g c b9:Nat}{s9:Array Value}{vs:List Value}(h:New.B w g c b9 s9 vs W)(hg:w.heap.size≤g)(k:Nat)(u:Value)(hk:k<vs.length):New.B w g c b9 s9 (vs.set k u) (W.setCell ⟨g,k,none⟩ u):=by
 obtain⟨k4,k6,k9,⟨arr,kg,ha⟩,hB⟩:=h;refine⟨(iV (Ng k4 kg (by decide)) u).trans k4,(iV (Ng k6 kg (by decide)) u).trans k6,(iV (Ng k9 kg (by decide)) u).trans k9,⟨_,dS kg u,fun j v hv=>?_⟩,mI hB hg⟩
 have hs:k<arr.size:=by
  have:=ha k (vs[k]'hk) (List.getElem?_eq_getElem hk);exact(Array.getElem?_eq_some_iff.1 this).1
 rw[List.getElem?_set]at hv;rw[Array.getElem?_setIfInBounds]
 by_cases e:k=j
 ·rw[if_pos e]at hv ⊢;rw[if_pos hk]at hv;rw[if_pos hs];exact hv
 ·rw[if_neg e]at hv ⊢;exact ha j v hv
theorem newRes(tmps:Array Value)(b:Nat)(v0 v1 d:Value)(W:World)(hb:tmps.getD 4 undef=.pointer (some ⟨b,0,none⟩))(hd:tmps.getD 5 undef=d)(h:W.heap[b]? =some (.cells #[v0,v1] 50 (0,0))):
  (results Tryz.f14 tmps).run Tryz.prog W=.ok (.tuple #[.agg #[v0,v1],d]) W:=by
 have l0':W.cell? ⟨b,0,none⟩=some v0:=(ah h 0).trans rfl;have l1':W.cell? ⟨b,1,none⟩=some v1:=(ah h 1).trans rfl;unfold results;rw[show Tryz.f14.results= #[ResultVar.cell 4 50,ResultVar.tmp 5]from rfl];have hb':tmps[4]?.getD undef=.pointer (some ⟨b,0,none⟩):=by simpa using hb
 have hd':tmps[5]?.getD undef=d:=by simpa using hd
 go_simp
def New.At(w:World)(n0 n1 n2:ByteArray)(v18:Value)(wr:World):Prop:=
 (v18=.int .i64 0∧wr.heap[w.heap.size]? =some (.cells #[.int .u64 0,.slice none 0 0] 50 (0,0))∧wr.heap[w.heap.size+1]? =some (.cells #[.int .u64 0,.slice none 0 0] 50 (0,0))∧Below w.heap.size w wr)∨
 (v18=.int .i64 1∧∃g c,wr.heap[w.heap.size]? =some (.cells #[.int .u64 0,.slice none 0 0] 50 (0,0))∧wr.heap[w.heap.size+1]? =some (.cells #[.int .u64 0,.slice (some ⟨g,0,none⟩) 1 c] 50 (0,0))∧Kd.R kTen 62 wr w.heap.size (fun _=>True) (.slice (some ⟨g,0,none⟩) 1 c) [(n0,n1,n2)]∧Below w.heap.size w wr)
theorem newCall(b0 c0:Nat)(n0 n1 n2:ByteArray)(h0:yV.f n0 16=some true)(h1:yV.f n1 32=some true)(h2:yV.f n2 32=some true)(w:World)(hb:w.heap[b0]? =some (.cells #[.string n0,.string n1,.string n2,.string ⟨#[]⟩,.string ⟨#[]⟩,.int .i64 0,.int .i64 0,.bool false,.slice none 0 0,.slice none 0 0,.slice none 0 0,.int .u64 0,.int .i64 0] 62 (0,0))):
  Calls Tryz.prog 14 #[.slice (some ⟨b0,0,none⟩) 1 c0,.int .i64 100] w fun e w'=>∃g c arr v1 v2 v3 v4 v5 v6 v7 v8 v9 v10 v11 v12,e=.returned (.tuple #[.agg #[.int .u64 0,.slice (some ⟨g,0,none⟩) 1 c],.int .i64 0])∧w'.heap[g]? =some (.cells arr 62 (0,0))∧(∀(k:Nat) (v:Value),([.string n0,v1,v2,v3,v4,v5,v6,v7,v8,v9,v10,v11,v12]:List Value)[k]? =some v→arr[k]? =some v)∧Below w.heap.size w w':=by
 have H0:=af.mk h0;have H1:=af.mk h1;have H2:=af.mk h2;have HB0:=af.mk hb;clear h0 h1 h2 hb
 go_enter Tryz.func14,Tryz.ntmps14
 go_wp2_with fail
 have K4:=ay (bI w (.cells #[.int .u64 0,.slice none 0 0] 50)) (.cells #[.int .u64 0,.slice none 0 0] 50);have K6:=bI (w.alloc (.cells #[.int .u64 0,.slice none 0 0] 50)) (.cells #[.int .u64 0,.slice none 0 0] 50);rw[World.size_alloc]at K6;have HI:=af.mk (show New.At w n0 n1 n2 (.int .i64 0) ((w.alloc (.cells #[.int .u64 0,.slice none 0 0] 50)).alloc (.cells #[.int .u64 0,.slice none 0 0] 50))from .inl ⟨rfl,K4,K6,ax (ax (Below.refl _ _) _) _⟩);clear K4 K6
 go_loopw [18] (fun v18 wr=>New.At w n0 n1 n2 v18 wr) (fun v18 _=>1-(intOf v18).toNat)
 case atStart=>exact HI.out
 case round=>
  clear HI
  rcases hrel with ⟨rfl,k4,k6,hB⟩|⟨rfl,g,c,k4,k6,hR,hB⟩
  ·have gH:=af.mk k4;have lU:=af.mk k6;have HB:=af.mk hB;have tN:=af.mk (aK HB0.out hB);clear k4 k6 hB;have q0:wr.cell? ⟨b0,0,none⟩=some (.string n0):=(ah tN.out 0).trans rfl;have q1:wr.cell? ⟨b0,1,none⟩=some (.string n1):=(ah tN.out 1).trans rfl;have q2:wr.cell? ⟨b0,2,none⟩=some (.string n2):=(ah tN.out 2).trans rfl;have q3:wr.cell? ⟨b0,3,none⟩=some (.string ⟨#[]⟩):=(ah tN.out 3).trans rfl;have q4:wr.cell? ⟨b0,4,none⟩=some (.string ⟨#[]⟩):=(ah tN.out 4).trans rfl;have q5:wr.cell? ⟨b0,5,none⟩=some (.int .i64 0):=(ah tN.out 5).trans rfl;have q6:wr.cell? ⟨b0,6,none⟩=some (.int .i64 0):=(ah tN.out 6).trans rfl;have q7:wr.cell? ⟨b0,7,none⟩=some (.bool false):=(ah tN.out 7).trans rfl;have q8:wr.cell? ⟨b0,8,none⟩=some (.slice none 0 0):=(ah tN.out 8).trans rfl;have q9:wr.cell? ⟨b0,9,none⟩=some (.slice none 0 0):=(ah tN.out 9).trans rfl;have qZ:wr.cell? ⟨b0,10,none⟩=some (.slice none 0 0):=(ah tN.out 10).trans rfl;have yN:wr.cell? ⟨b0,11,none⟩=some (.int .u64 0):=(ah tN.out 11).trans rfl;have jP:wr.cell? ⟨b0,12,none⟩=some (.int .i64 0):=(ah tN.out 12).trans rfl;have HK6a:=af.mk (ay lU.out (.cells #[.string n0,.string n1,.string n2,.string ⟨#[]⟩,.string ⟨#[]⟩,.int .i64 0,.int .i64 0,.bool false,.slice none 0 0,.slice none 0 0,.slice none 0 0,.int .u64 0,.int .i64 0] 62));have d60:(wr.alloc (.cells #[.string n0,.string n1,.string n2,.string ⟨#[]⟩,.string ⟨#[]⟩,.int .i64 0,.int .i64 0,.bool false,.slice none 0 0,.slice none 0 0,.slice none 0 0,.int .u64 0,.int .i64 0] 62)).cell? ⟨w.heap.size+1,0,none⟩=some (.int .u64 0):=(ah HK6a.out 0).trans rfl;have d61:(wr.alloc (.cells #[.string n0,.string n1,.string n2,.string ⟨#[]⟩,.string ⟨#[]⟩,.int .i64 0,.int .i64 0,.bool false,.slice none 0 0,.slice none 0 0,.slice none 0 0,.int .u64 0,.int .i64 0] 62)).cell? ⟨w.heap.size+1,1,none⟩=some (.slice none 0 0):=(ah HK6a.out 1).trans rfl;have HK8:=af.mk (bI wr (.cells #[.string n0,.string n1,.string n2,.string ⟨#[]⟩,.string ⟨#[]⟩,.int .i64 0,.int .i64 0,.bool false,.slice none 0 0,.slice none 0 0,.slice none 0 0,.int .u64 0,.int .i64 0] 62))
   go_wp2_with (first
    |(go_at_call 28;with_reducible refine(yV.calls n0 16 true _ H0.out).mono ?_;rintro e _ ⟨rfl,⟨⟨n,rfl⟩⟩⟩)
    |(go_at_call 28;with_reducible refine(yV.calls n1 32 true _ H1.out).mono ?_;rintro e _ ⟨rfl,⟨⟨n,rfl⟩⟩⟩)
    |(go_at_call 28;with_reducible refine(yV.calls n2 32 true _ H2.out).mono ?_;rintro e _ ⟨rfl,⟨⟨n,rfl⟩⟩⟩)
    |(go_at_call 29;with_reducible refine(atNil (.int .u64 0) n0 _).mono ?_;rintro e w2 ⟨rfl,hb⟩;have K62:=af.mk (aK (aU HK6a.out _) hb);have K42:=af.mk (aK (aU (ay gH.out (.cells #[.string n0,.string n1,.string n2,.string ⟨#[]⟩,.string ⟨#[]⟩,.int .i64 0,.int .i64 0,.bool false,.slice none 0 0,.slice none 0 0,.slice none 0 0,.int .u64 0,.int .i64 0] 62)) _) hb);have K82:=af.mk (aK (aU HK8.out _) hb);have HB2:=af.mk (av (dm (ax HB.out (.cells #[.string n0,.string n1,.string n2,.string ⟨#[]⟩,.string ⟨#[]⟩,.int .i64 0,.int .i64 0,.bool false,.slice none 0 0,.slice none 0 0,.slice none 0 0,.int .u64 0,.int .i64 0] 62)) _) hb);clear hb))
   clear q0 q1 q2 q3 q4 q5 q6 q7 q8 q9 qZ yN jP d60 d61 HK6a lU gH HB HK8 tN;have lU:=K62;have gH:=K42;have HB:=HB2;clear K62 K42 HB2;obtain⟨b8,hb8⟩:∃b,b=wr.heap.size:=⟨_,rfl⟩;rw[← hb8]at K82 ⊢;clear hb8;have c61:w2.drew.cell? ⟨w.heap.size+1,1,none⟩=some (.slice none 0 0):=(ah lU.out 1).trans rfl;have c80:w2.drew.cell? ⟨b8,0,none⟩=some (.string n0):=(ah K82.out 0).trans rfl;have c81:w2.drew.cell? ⟨b8,1,none⟩=some (.string n1):=(ah K82.out 1).trans rfl;have c82:w2.drew.cell? ⟨b8,2,none⟩=some (.string n2):=(ah K82.out 2).trans rfl;refine gZ (n:=14) (S:=fun w'=>w'.heap[w.heap.size+1]? =some (.cells #[.int .u64 0,.slice none 0 0] 50 (0,0))∧w'.cell? ⟨w.heap.size+1,1,none⟩=some (.slice none 0 0)∧w'.cell? ⟨b8,0,none⟩=some (.string n0)∧w'.cell? ⟨b8,1,none⟩=some (.string n1)∧w'.cell? ⟨b8,2,none⟩=some (.string n2)∧w'.heap[w.heap.size]? =some (.cells #[.int .u64 0,.slice none 0 0] 50 (0,0))∧Below w.heap.size w w') (ds:=[11,13]) #[false,false,false,false,false,false,false,false,false,false,false,false,false,false] (by kernel_rfl) rfl rfl ⟨lU.out,c61,c80,c81,c82,gH.out,Below.drew HB.out⟩ (fun hHeld=>?_);refine au 0 46 ?_;refine au 2 48 ?_;refine au 4 50 ?_;refine au 6 52 ?_;refine bU 1 47 hHeld (by rintro w' ⟨s0,s1,s2,s3,s4,s5,s6⟩;go_simp;with_reducible rfl) ?_ rfl rfl;refine bU 3 49 hHeld (by rintro w' ⟨s0,s1,s2,s3,s4,s5,s6⟩;go_simp;with_reducible rfl) ?_ rfl rfl;refine bU 5 51 hHeld (by rintro w' ⟨s0,s1,s2,s3,s4,s5,s6⟩;go_simp;with_reducible rfl) ?_ rfl rfl;refine bU 7 53 hHeld (by rintro w' ⟨s0,s1,s2,s3,s4,s5,s6⟩;go_simp;with_reducible rfl) ?_ rfl rfl;refine fu 8 (N:=some 54) rfl rfl fun K hK=>?_
   refine gF Tryz.func30 (by kernel_rfl) rfl #[.int .u64 0] (by rfl) rfl rfl (by simp only[List.map_toArray,List.map_cons,List.map_nil];rfl) ?_
   with_reducible refine(QS.calls 0 0 150 _ rfl).mono ?_
   rintro e w4 ⟨rfl,hb4⟩;refine⟨_,rfl,?_⟩;have HA4:=af.mk (And.intro (aK (hHeld.1) hb4) (And.intro (aK (hHeld.2.2.2.2.2.1) hb4) (av (hHeld.2.2.2.2.2.2) hb4)));refine hK.out _ _ ⟨aK (hHeld.1) hb4,aI hb4 (hHeld.2.1),aI hb4 (hHeld.2.2.1),aI hb4 (hHeld.2.2.2.1),aI hb4 (hHeld.2.2.2.2.1),aK (hHeld.2.2.2.2.2.1) hb4,av (hHeld.2.2.2.2.2.2) hb4⟩ (fun hHeld=>?_);clear hK K;refine dM ?_;refine au 9 55 ?_;refine fu 10 (N:=some 56) rfl rfl fun K hK=>?_
   refine Bp (w1:=?_) (v:=?_) (by rfl) rfl ?_ ?_;rotate_left 2
   ·go_simp
    constructor
    ·rfl
    ·rfl
   refine hK.out _ _ ⟨ay (hHeld.1) _,aI (ax (Below.refl _ _) _) (hHeld.2.1),aI (ax (Below.refl _ _) _) (hHeld.2.2.1),aI (ax (Below.refl _ _) _) (hHeld.2.2.2.1),aI (ax (Below.refl _ _) _) (hHeld.2.2.2.2.1),ay (hHeld.2.2.2.2.2.1) _,ax (hHeld.2.2.2.2.2.2) _⟩ (fun hHeld=>?_);clear hK K;refine dM ?_;refine iN (i:=11) (N:=some 57) #[true,true,true,true,true,true,true,true,true,true,true,true,false,false] rfl rfl (by kernel_rfl) (by decide) (fun K hK=>?_);refine Kd.H8 kTen (w0:=w) w.heap.size (by rfl) (.tmp 47) (.tmp 56) 48 62 zTen 192 rfl Tryz.underlying48 info62v rfl (by decide) (by omega) (.slice none 0 0) [] (n0,n1,n2) [.string n0,.string n1,.string n2,.string ⟨#[]⟩,.string ⟨#[]⟩,.int .i64 0,.int .i64 0,.bool false,.slice none 0 0,.slice none 0 0,.slice none 0 0,.int .u64 0,.int .i64 150] (fun _=>True) (fun _=>False) rfl (by first|(go_simp;done)|(go_simp;rfl)) rfl (fun k h=>h.elim) (fun _ _=>trivial) (Kd.dV _ _ _ _ _) HA4.out.2.2 HA4.out.2.2.size (by decide) ?_;intro v6 w6 mU hb6 pY DC;obtain⟨g,c,hv,hg1,hg2,_⟩:=Kd.xL mU (by simp);simp only[List.nil_append,List.length_cons,List.length_nil,Nat.zero_add]at hv;subst hv;have HO6:=af.mk mU;have HB6:=af.mk hb6;have HK66:=af.mk (fP HA4.out.1 pY (by simp[Value.ownBlock]));have HK64:=af.mk (fP HA4.out.2.1 pY (by simp[Value.ownBlock]));have c61':w6.cell? ⟨w.heap.size+1,1,none⟩=some (.slice none 0 0):=(ah HK66.out 1).trans rfl;have f61:=aA HK66.out 1;have HG1:=af.mk hg1;have HG2:=af.mk hg2;clear mU hb6 pY DC hg1 hg2;refine hK.out _ _ ?_;clear hK K;refine dM ?_;refine au 12 58 ?_;refine iN (i:=13) (N:=none) #[true,true,true,true,true,true,true,true,true,true,true,true,true,true] rfl rfl (by kernel_rfl) (by decide) (fun K hK=>?_);refine jQ (w1:=?_) (by rfl) rfl ?_ ?_;rotate_left
   ·go_simp
    rfl
   refine hK.out _ _ ?_;clear hK K;refine gJ ?_;have HF:=af.mk (Kd.bY (Kd.aD (p:=⟨w.heap.size+1,1,none⟩) (Kd.R_far1 HO6.out rfl (Kd.jK HO6.out HK66.out (by decide))) (fun k hk=>hk.2) (.slice (some ⟨g,0,none⟩) 1 c)) (fun _ _=>trivial))
   go_wp2_with fail
   go_roundw
   case rel=>exact .inr ⟨by go_num,g,c,(iV (by omega) _).trans HK64.out,dS HK66.out _,HF.out,mI HB6.out (by omega)⟩
   case measure=>simp[intOf]
  ·have gH:=af.mk k4;have lU:=af.mk k6;have HB:=af.mk hB;have HR:=af.mk hR;clear k4 k6 hB hR;have d61:wr.cell? ⟨w.heap.size+1,1,none⟩=some (.slice (some ⟨g,0,none⟩) 1 c):=(ah lU.out 1).trans rfl
   go_wp2_with (go_at_call 31;with_reducible refine(Rt.calls 100 ⟨#[]⟩ ⟨#[]⟩ 100 (-1) false [] [] [] 0 _ rfl).mono ?_;rintro e w2 ⟨z5,z6,z7,rfl,o5,o6,o7,hb⟩;obtain⟨A5,c5,rfl⟩:=Kd.fH o5;obtain⟨A6,c6,rfl⟩:=Kd.Ic o6;obtain⟨A7,c7,rfl⟩:=Kd.fH o7;have K6:=af.mk (ay (aK lU.out hb) (.cells #[.string ⟨#[]⟩,.string ⟨#[]⟩,.int .i64 100,.int .i64 (-1),.bool false,.slice A5 0 c5,.slice A6 0 c6,.slice A7 0 c7] 58));have K4:=af.mk (ay (aK gH.out hb) (.cells #[.string ⟨#[]⟩,.string ⟨#[]⟩,.int .i64 100,.int .i64 (-1),.bool false,.slice A5 0 c5,.slice A6 0 c6,.slice A7 0 c7] 58));have R6:=af.mk (Kd.bX (Kd.gD HR.out hb) (.cells #[.string ⟨#[]⟩,.string ⟨#[]⟩,.int .i64 100,.int .i64 (-1),.bool false,.slice A5 0 c5,.slice A6 0 c6,.slice A7 0 c7] 58));have B6:=af.mk (ax (av HB.out hb) (.cells #[.string ⟨#[]⟩,.string ⟨#[]⟩,.int .i64 100,.int .i64 (-1),.bool false,.slice A5 0 c5,.slice A6 0 c6,.slice A7 0 c7] 58));have K9:=af.mk (bI w2 (.cells #[.string ⟨#[]⟩,.string ⟨#[]⟩,.int .i64 100,.int .i64 (-1),.bool false,.slice A5 0 c5,.slice A6 0 c6,.slice A7 0 c7] 58));have e61:=(ah K6.out 1).trans (show _=some (Value.slice (some ⟨g,0,none⟩) 1 c)from rfl);clear o5 o6 o7 hb)
   obtain⟨hg,arr0,hk0,ha0⟩:=ten_form R6.out;have HI:=af.mk (show New.B w g c w2.heap.size #[.string ⟨#[]⟩,.string ⟨#[]⟩,.int .i64 100,.int .i64 (-1),.bool false,.slice A5 0 c5,.slice A6 0 c6,.slice A7 0 c7] (tq (n0,n1,n2)) _ from⟨K4.out,K6.out,K9.out,⟨arr0,hk0,ha0⟩,B6.out⟩);have HG:=af.mk hg;clear K4 K6 R6 B6 K9 e61 hg hk0 ha0 gH lU HB HR d61;generalize w2.heap.size=b9 at HI ⊢
   go_loopw [11,72] (fun v11 v72 wr=>(v72=.int .i64 0∧New.B w g c b9 #[.string ⟨#[]⟩,.string ⟨#[]⟩,.int .i64 100,.int .i64 (-1),.bool false,.slice A5 0 c5,.slice A6 0 c6,.slice A7 0 c7] (tq (n0,n1,n2)) wr)∨(v72=.int .i64 1∧New.B w g c b9 #[.string ⟨#[]⟩,.string ⟨#[]⟩,.int .i64 100,.int .i64 (-1),.bool false,.slice A5 0 c5,.slice A6 0 c6,.slice A7 0 c7] [.string n0,.string n1,.string n2,.string ⟨#[]⟩,.string ⟨#[]⟩,.int .i64 100,.int .i64 (-1),.bool false,.slice A5 0 c5,.slice A6 0 c6,.slice A7 0 c7,.int .u64 0,.int .i64 150] wr)) (fun _ v72 _=>1-(intOf v72).toNat)
   case atStart=>exact .inl ⟨rfl,HI.out⟩
   case round=>
    clear HI
    rcases hrel with ⟨rfl,hI⟩|⟨rfl,hI⟩
    ·have HI:=af.mk hI;obtain⟨k4,k6,k9,⟨arr,kg,ha⟩,hB⟩:=hI;have HA:=af.mk ha;have HB:=af.mk hB;have H4:=af.mk k4;have H6:=af.mk k6;have H9:=af.mk k9;have HKG:=af.mk kg;clear ha hB k4 k6 k9;have e61:wr.cell? ⟨w.heap.size+1,1,none⟩=some (.slice (some ⟨g,0,none⟩) 1 c):=(ah H6.out 1).trans rfl;have s0:wr.cell? ⟨b9,0,none⟩=some (.string ⟨#[]⟩):=(ah H9.out 0).trans rfl;have s1:wr.cell? ⟨b9,1,none⟩=some (.string ⟨#[]⟩):=(ah H9.out 1).trans rfl;have s2:wr.cell? ⟨b9,2,none⟩=some (.int .i64 100):=(ah H9.out 2).trans rfl;have s3:wr.cell? ⟨b9,3,none⟩=some (.int .i64 (-1)):=(ah H9.out 3).trans rfl;have s4:wr.cell? ⟨b9,4,none⟩=some (.bool false):=(ah H9.out 4).trans rfl;have s5:wr.cell? ⟨b9,5,none⟩=some (.slice A5 0 c5):=(ah H9.out 5).trans rfl;have s6:wr.cell? ⟨b9,6,none⟩=some (.slice A6 0 c6):=(ah H9.out 6).trans rfl;have s7:wr.cell? ⟨b9,7,none⟩=some (.slice A7 0 c7):=(ah H9.out 7).trans rfl;have g3:wr.cell? ⟨g,3,none⟩=some (.string ⟨#[]⟩):=(ah kg 3).trans (HA.out 3 _ rfl);have g4:wr.cell? ⟨g,4,none⟩=some (.string ⟨#[]⟩):=(ah kg 4).trans (HA.out 4 _ rfl);have g5:wr.cell? ⟨g,5,none⟩=some (.int .i64 0):=(ah kg 5).trans (HA.out 5 _ rfl);have g6:wr.cell? ⟨g,6,none⟩=some (.int .i64 0):=(ah kg 6).trans (HA.out 6 _ rfl);have g7:wr.cell? ⟨g,7,none⟩=some (.bool false):=(ah kg 7).trans (HA.out 7 _ rfl);have g8:wr.cell? ⟨g,8,none⟩=some (.slice none 0 0):=(ah kg 8).trans (HA.out 8 _ rfl);have g9:wr.cell? ⟨g,9,none⟩=some (.slice none 0 0):=(ah kg 9).trans (HA.out 9 _ rfl);have g10:wr.cell? ⟨g,10,none⟩=some (.slice none 0 0):=(ah kg 10).trans (HA.out 10 _ rfl);have f3:=aA kg 3;have f4:=aA kg 4;have f5:=aA kg 5;have f6:=aA kg 6;have f7:=aA kg 7;have f8:=aA kg 8;have f9:=aA kg 9;have f10:=aA kg 10;clear kg;have HN:=af.mk ((((((((HI.out.set HG.out 3 (.string ⟨#[]⟩) (by simp[tq])).set HG.out 4 (.string ⟨#[]⟩) (by simp[tq])).set HG.out 5 (.int .i64 100) (by simp[tq])).set HG.out 6 (.int .i64 (-1)) (by simp[tq])).set HG.out 7 (.bool false) (by simp[tq])).set HG.out 8 (.slice A5 0 c5) (by simp[tq])).set HG.out 9 (.slice A6 0 c6) (by simp[tq])).set HG.out 10 (.slice A7 0 c7) (by simp[tq]))
     go_wp2_with fail
     go_roundw
     case rel=>exact .inr ⟨rfl,HN.out⟩
     case measure=>simp[intOf]
    ·obtain⟨k4,k6,k9,⟨arr,kg,ha⟩,hB⟩:=hI;have H6:=af.mk k6;have H4:=af.mk k4;have HKG:=af.mk kg;have HA:=af.mk ha;have HB:=af.mk hB;clear k4 k6 k9 kg ha hB;have e40:wr.cell? ⟨w.heap.size,0,none⟩=some (.int .u64 0):=(ah H4.out 0).trans rfl;have e41:wr.cell? ⟨w.heap.size,1,none⟩=some (.slice none 0 0):=(ah H4.out 1).trans rfl;have f40:=aA H4.out 0;have f41:=aA H4.out 1;have e60:wr.cell? ⟨w.heap.size+1,0,none⟩=some (.int .u64 0):=(ah H6.out 0).trans rfl;have e61:wr.cell? ⟨w.heap.size+1,1,none⟩=some (.slice (some ⟨g,0,none⟩) 1 c):=(ah H6.out 1).trans rfl
     go_wp2_with fail
     have hne:g≠w.heap.size:=Ng HKG.out H4.out (by decide);exact bodyPost_ret (newRes _ w.heap.size (.int .u64 0) (.slice (some ⟨g,0,none⟩) 1 c) (.int .i64 0) _ (by rfl) (by rfl) (dS (dS H4.out (j:=0) (.int .u64 0)) (j:=1) (.slice (some ⟨g,0,none⟩) 1 c))) rfl ⟨g,c,arr,_,_,_,_,_,_,_,_,_,_,_,_,rfl,(iV hne _).trans ((iV hne _).trans HKG.out),HA.out,mI (mI HB.out (Nat.le_refl _)) (Nat.le_refl _)⟩
end Go.Proofs.YtdcddenojjdmjaaGreatDoor.T
