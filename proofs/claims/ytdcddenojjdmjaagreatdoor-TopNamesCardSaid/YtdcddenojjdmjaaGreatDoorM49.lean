import Derived.Test.YtdcddenojjdmjaaGreatDoorM48
set_option linter.all false
set_option maxHeartbeats 8000000
set_option maxRecDepth 100000
namespace Go.Proofs.YtdcddenojjdmjaaGreatDoor.T
open Go.RowKit Go.Proofs.YtdcddenojjdmjaaGreatDoorW.PrintWords Go.Proofs.YtdcddenojjdmjaaGreatDoorW.PrintLast Go.Proofs.YtdcddenojjdmjaaGreatDoorW.PrintMore
theorem TA(tmps:Array Value)(b:Nat)(v0 v1 d:Value)(W:World)(hb:tmps.getD 4 undef=.pointer (some ⟨b,0,none⟩))(hd:tmps.getD 5 undef=d)(h:W.heap[b]? =some (.cells #[v0,v1] 50 (0,0))):
  (results Tryz.f15 tmps).run Tryz.prog W=.ok (.tuple #[.agg #[v0,v1],d]) W:=by
 have l0':W.cell? ⟨b,0,none⟩=some v0:=(ah h 0).trans rfl;have l1':W.cell? ⟨b,1,none⟩=some v1:=(ah h 1).trans rfl;unfold results;rw[show Tryz.f15.results= #[ResultVar.cell 4 50,ResultVar.tmp 5]from rfl];have hb':tmps[4]?.getD undef=.pointer (some ⟨b,0,none⟩):=by simpa using hb
 have hd':tmps[5]?.getD undef=d:=by simpa using hd
 go_simp
theorem Y4(g c k:Nat)(s nm t1 t2 t3:ByteArray)(z:Int)(hcl:CF.f k s=some (nm,false))(h1:dJ.f (IntKind.u64.wrap 3)=some t1)(h2:dJ.f 0=some t2)(h3:qY.f ⟨#[]⟩=some (t3,z))(hs:t1.size+t2.size+t3.size≤1000)(w:World):
  Calls Tryz.prog 15 #[.agg #[.int .u64 0,.slice (some ⟨g,0,none⟩) 1 c],.string s] w fun e w'=>e=.returned (.tuple #[.agg #[.int .u64 0,.slice (some ⟨g,0,none⟩) 1 c],.string (t1++t2++t3)])∧Below w.heap.size w w':=by
 have HA1:=af.mk h1;have HA2:=af.mk h2;have HA3:=af.mk h3;have HA4:=af.mk hs;have HCL:=af.mk hcl;have gK:=af.mk (ay (bI w (.cells #[.int .u64 0,.slice (some ⟨g,0,none⟩) 1 c] 50)) (.cells #[.int .u64 0,.slice none 0 0] 50));have C8:=bI (w.alloc (.cells #[.int .u64 0,.slice (some ⟨g,0,none⟩) 1 c] 50)) (.cells #[.int .u64 0,.slice none 0 0] 50);rw[World.size_alloc]at C8;have HK40:=af.mk C8;have HB0:=af.mk (ax (ax (Below.refl w.heap.size w) (.cells #[.int .u64 0,.slice (some ⟨g,0,none⟩) 1 c] 50)) (.cells #[.int .u64 0,.slice none 0 0] 50));clear h1 h2 h3 hs hcl C8
 go_enter Tryz.func15,Tryz.ntmps15
 go_wp2_with (go_at_call 32;with_reducible refine(CF.calls k s nm false _ HCL.out).mono ?_;rintro e _ ⟨rfl,⟨⟨n,rfl⟩⟩⟩;have HK:=af.mk (aU gK.out n);have gH:=af.mk (aU HK40.out n);have HB:=af.mk (dm HB0.out n))
 revert HK gH HB;generalize World.drewN _ _=W;intro HK gH HB;have c20:W.drew.cell? ⟨w.heap.size,0,none⟩=some (.int .u64 0):=(ah HK.out 0).trans rfl;have c21:W.drew.cell? ⟨w.heap.size,1,none⟩=some (.slice (some ⟨g,0,none⟩) 1 c):=(ah HK.out 1).trans rfl;refine gZ (n:=5) (S:=fun w'=>w'.cell? ⟨w.heap.size,0,none⟩=some (.int .u64 0)∧w'.cell? ⟨w.heap.size,1,none⟩=some (.slice (some ⟨g,0,none⟩) 1 c)∧w'.heap[w.heap.size+1]? =some (.cells #[.int .u64 0,.slice none 0 0] 50 (0,0))∧Below w.heap.size w w') (ds:=[3]) #[false,false,false,false,false] (by kernel_rfl) rfl rfl ⟨c20,c21,gH.out,Below.drew HB.out⟩ (fun hHeld=>?_);refine bU 0 26 hHeld (by rintro w' ⟨s0,s1,s2,s3⟩;go_simp;with_reducible rfl) ?_ rfl rfl;refine bU 1 27 hHeld (by rintro w' ⟨s0,s1,s2,s3⟩;go_simp;with_reducible rfl) ?_ rfl rfl;refine fu 2 (N:=some 28) rfl rfl fun K hK=>?_
 refine gF Tryz.func33 (by kernel_rfl) rfl #[.agg #[.int .u64 0,.slice (some ⟨g,0,none⟩) 1 c],.int .i64 3,.string ⟨#[]⟩] (by rfl) rfl rfl (by simp only[List.map_toArray,List.map_cons,List.map_nil];rfl) ?_
 with_reducible refine(WV 0 (.slice (some ⟨g,0,none⟩) 1 c) 3 ⟨#[]⟩ t1 t2 t3 z HA1.out HA2.out HA3.out HA4.out _).mono ?_
 rintro e w4 ⟨rfl,hb4⟩;refine⟨_,rfl,?_⟩;have HA:=af.mk (And.intro (aK (hHeld.2.2.1) hb4) (av (hHeld.2.2.2) hb4));have c40:w4.cell? ⟨w.heap.size+1,0,none⟩=some (.int .u64 0):=(ah HA.out.1 0).trans rfl;have c41:w4.cell? ⟨w.heap.size+1,1,none⟩=some (.slice none 0 0):=(ah HA.out.1 1).trans rfl;have f40:=aA HA.out.1 0;have f41:=aA HA.out.1 1;refine hK.out _ _ ⟨aI hb4 (hHeld.1),aI hb4 (hHeld.2.1),HA.out.1,HA.out.2⟩ (fun hHeld=>?_);clear hK K;refine dM ?_;refine iN (i:=3) (N:=none) #[true,true,true,true,false] rfl rfl (by kernel_rfl) (by decide) (fun K hK=>?_);refine jQ (w1:=?_) (by rfl) rfl ?_ ?_;rotate_left
 ·go_simp
  rfl
 refine hK.out _ _ ?_;clear hK K;refine au 4 5 ?_;refine gJ ?_
 go_wp2_with fail
 exact bodyPost_ret (TA _ (w.heap.size+1) (.int .u64 0) (.slice (some ⟨g,0,none⟩) 1 c) (.string (t1++t2++t3)) _ (by rfl) (by rfl) (dS (dS HA.out.1 (j:=0) (.int .u64 0)) (j:=1) (.slice (some ⟨g,0,none⟩) 1 c))) rfl ⟨rfl,mI (mI HA.out.2 (Nat.le_succ _)) (Nat.le_succ _)⟩
theorem Y5(arr:Array Value)(x0:ByteArray)(v1 v2 v3 v4 v5 v6 v7 v8 v9 v10 v11 v12:Value)(g c k:Nat)(s nm t1 t2 t3:ByteArray)(z:Int)(hcl:CF.f k s=some (nm,true))(hne:x0.toList≠nm.toList)(h1:dJ.f (IntKind.u64.wrap 10)=some t1)(h2:dJ.f 0=some t2)(h3:qY.f ⟨#[]⟩=some (t3,z))(hs:t1.size+t2.size+t3.size≤1000)(w:World)(hg:w.heap[g]? =some (.cells arr 62 (0,0)))(hA:∀(k:Nat) (v:Value),([.string x0,v1,v2,v3,v4,v5,v6,v7,v8,v9,v10,v11,v12]:List Value)[k]? =some v→arr[k]? =some v):
  Calls Tryz.prog 15 #[.agg #[.int .u64 0,.slice (some ⟨g,0,none⟩) 1 c],.string s] w fun e w'=>e=.returned (.tuple #[.agg #[.int .u64 0,.slice (some ⟨g,0,none⟩) 1 c],.string (t1++t2++t3)])∧Below w.heap.size w w':=by
 have HA1:=af.mk h1;have HA2:=af.mk h2;have HA3:=af.mk h3;have HA4:=af.mk hs;have HCL:=af.mk hcl;have gK:=af.mk (ay (bI w (.cells #[.int .u64 0,.slice (some ⟨g,0,none⟩) 1 c] 50)) (.cells #[.int .u64 0,.slice none 0 0] 50));have C8:=bI (w.alloc (.cells #[.int .u64 0,.slice (some ⟨g,0,none⟩) 1 c] 50)) (.cells #[.int .u64 0,.slice none 0 0] 50);rw[World.size_alloc]at C8;have HK40:=af.mk C8;have HB0:=af.mk (ax (ax (Below.refl w.heap.size w) (.cells #[.int .u64 0,.slice (some ⟨g,0,none⟩) 1 c] 50)) (.cells #[.int .u64 0,.slice none 0 0] 50));have HG:=af.mk (ay (ay hg (.cells #[.int .u64 0,.slice (some ⟨g,0,none⟩) 1 c] 50)) (.cells #[.int .u64 0,.slice none 0 0] 50));have HA9:=af.mk hA;have tO:=af.mk hne;have d20:((w.alloc (.cells #[.int .u64 0,.slice (some ⟨g,0,none⟩) 1 c] 50)).alloc (.cells #[.int .u64 0,.slice none 0 0] 50)).cell? ⟨w.heap.size,0,none⟩=some (.int .u64 0):=(ah gK.out 0).trans rfl;have d21:((w.alloc (.cells #[.int .u64 0,.slice (some ⟨g,0,none⟩) 1 c] 50)).alloc (.cells #[.int .u64 0,.slice none 0 0] 50)).cell? ⟨w.heap.size,1,none⟩=some (.slice (some ⟨g,0,none⟩) 1 c):=(ah gK.out 1).trans rfl;clear h1 h2 h3 hs hcl C8 hg hA hne
 go_enter Tryz.func15,Tryz.ntmps15
 go_wp2_with (first
  |(go_at_call 32;with_reducible refine(CF.calls k s nm true _ HCL.out).mono ?_;rintro e _ ⟨rfl,⟨⟨n,rfl⟩⟩⟩)
  |(go_at_call 29;with_reducible refine(atOne arr (.int .u64 0) g c x0 nm v1 v2 v3 v4 v5 v6 v7 v8 v9 v10 v11 v12 _ tO.out (aU HG.out _) HA9.out).mono ?_;rintro e W ⟨rfl,hb⟩;have HK:=af.mk (aK (aU gK.out _) hb);have gH:=af.mk (aK (aU HK40.out _) hb);have HB:=af.mk (av (dm HB0.out _) hb);clear hb))
 have c20:W.drew.cell? ⟨w.heap.size,0,none⟩=some (.int .u64 0):=(ah HK.out 0).trans rfl;have c21:W.drew.cell? ⟨w.heap.size,1,none⟩=some (.slice (some ⟨g,0,none⟩) 1 c):=(ah HK.out 1).trans rfl;refine gZ (n:=5) (S:=fun w'=>w'.cell? ⟨w.heap.size,0,none⟩=some (.int .u64 0)∧w'.cell? ⟨w.heap.size,1,none⟩=some (.slice (some ⟨g,0,none⟩) 1 c)∧w'.heap[w.heap.size+1]? =some (.cells #[.int .u64 0,.slice none 0 0] 50 (0,0))∧Below w.heap.size w w') (ds:=[3]) #[false,false,false,false,false] (by kernel_rfl) rfl rfl ⟨c20,c21,gH.out,Below.drew HB.out⟩ (fun hHeld=>?_);refine bU 0 34 hHeld (by rintro w' ⟨s0,s1,s2,s3⟩;go_simp;with_reducible rfl) ?_ rfl rfl;refine bU 1 35 hHeld (by rintro w' ⟨s0,s1,s2,s3⟩;go_simp;with_reducible rfl) ?_ rfl rfl;refine fu 2 (N:=some 36) rfl rfl fun K hK=>?_
 refine gF Tryz.func33 (by kernel_rfl) rfl #[.agg #[.int .u64 0,.slice (some ⟨g,0,none⟩) 1 c],.int .i64 10,.string ⟨#[]⟩] (by rfl) rfl rfl (by simp only[List.map_toArray,List.map_cons,List.map_nil];rfl) ?_
 with_reducible refine(WV 0 (.slice (some ⟨g,0,none⟩) 1 c) 10 ⟨#[]⟩ t1 t2 t3 z HA1.out HA2.out HA3.out HA4.out _).mono ?_
 rintro e w4 ⟨rfl,hb4⟩;refine⟨_,rfl,?_⟩;have HA:=af.mk (And.intro (aK (hHeld.2.2.1) hb4) (av (hHeld.2.2.2) hb4));have c40:w4.cell? ⟨w.heap.size+1,0,none⟩=some (.int .u64 0):=(ah HA.out.1 0).trans rfl;have c41:w4.cell? ⟨w.heap.size+1,1,none⟩=some (.slice none 0 0):=(ah HA.out.1 1).trans rfl;have f40:=aA HA.out.1 0;have f41:=aA HA.out.1 1;refine hK.out _ _ ⟨aI hb4 (hHeld.1),aI hb4 (hHeld.2.1),HA.out.1,HA.out.2⟩ (fun hHeld=>?_);clear hK K;refine dM ?_;refine iN (i:=3) (N:=none) #[true,true,true,true,false] rfl rfl (by kernel_rfl) (by decide) (fun K hK=>?_);refine jQ (w1:=?_) (by rfl) rfl ?_ ?_;rotate_left
 ·go_simp
  rfl
 refine hK.out _ _ ?_;clear hK K;refine au 4 5 ?_;refine gJ ?_
 go_wp2_with fail
 exact bodyPost_ret (TA _ (w.heap.size+1) (.int .u64 0) (.slice (some ⟨g,0,none⟩) 1 c) (.string (t1++t2++t3)) _ (by rfl) (by rfl) (dS (dS HA.out.1 (j:=0) (.int .u64 0)) (j:=1) (.slice (some ⟨g,0,none⟩) 1 c))) rfl ⟨rfl,mI (mI HA.out.2 (Nat.le_succ _)) (Nat.le_succ _)⟩
def Ij:ByteArray:=⟨#[36,1,98,1,9,45,42,245,154,235,77,107,130,77,47,228,136,133,204,85,172,124,207,81,223,121,85,208,196,34,179,203,241,127,62,217,166,104]⟩
theorem Yo:IE.f 40 ⟨#[107]⟩ ⟨#[98]⟩ 9 ⟨#[104]⟩=some Ij:=by decide+kernel
theorem Yn:CF.f 40 Ij=some (⟨#[98]⟩,true):=by decide+kernel
theorem Z0:CF.f 40 ⟨#[]⟩=some (⟨#[]⟩,false):=by decide+kernel
theorem num3:dJ.f (IntKind.u64.wrap 3)=some ⟨#[1,3]⟩:=by decide+kernel
theorem num10:dJ.f (IntKind.u64.wrap 10)=some ⟨#[1,10]⟩:=by decide+kernel
theorem num0:dJ.f 0=some ⟨#[0]⟩:=by decide+kernel
theorem text0:qY.f ⟨#[]⟩=some (⟨#[0]⟩,0):=by decide+kernel
theorem YW(g c:Nat)(w:World):Calls Tryz.prog 15 #[.agg #[.int .u64 0,.slice (some ⟨g,0,none⟩) 1 c],.string ⟨#[]⟩] w fun e w'=>e=.returned (.tuple #[.agg #[.int .u64 0,.slice (some ⟨g,0,none⟩) 1 c],.string ⟨#[1,3,0,0]⟩])∧Below w.heap.size w w':=
 (Y4 g c 40 ⟨#[]⟩ ⟨#[]⟩ ⟨#[1,3]⟩ ⟨#[0]⟩ ⟨#[0]⟩ 0 Z0 num3 num0 text0 (by decide) w).mono fun e w' h=>⟨h.1.trans (by rw[show(⟨#[1,3]⟩++⟨#[0]⟩++⟨#[0]⟩:ByteArray)=⟨#[1,3,0,0]⟩ by decide]),h.2⟩
theorem passCall(arr:Array Value)(v1 v2 v3 v4 v5 v6 v7 v8 v9 v10 v11 v12:Value)(g c:Nat)(w:World)(hg:w.heap[g]? =some (.cells arr 62 (0,0)))(hA:∀(k:Nat) (v:Value),([.string ⟨#[97]⟩,v1,v2,v3,v4,v5,v6,v7,v8,v9,v10,v11,v12]:List Value)[k]? =some v→arr[k]? =some v):Calls Tryz.prog 15 #[.agg #[.int .u64 0,.slice (some ⟨g,0,none⟩) 1 c],.string Ij] w fun e w'=>e=.returned (.tuple #[.agg #[.int .u64 0,.slice (some ⟨g,0,none⟩) 1 c],.string ⟨#[1,10,0,0]⟩])∧Below w.heap.size w w':=
 (Y5 arr ⟨#[97]⟩ v1 v2 v3 v4 v5 v6 v7 v8 v9 v10 v11 v12 g c 40 Ij ⟨#[98]⟩ ⟨#[1,10]⟩ ⟨#[0]⟩ ⟨#[0]⟩ 0 Yn (by decide+kernel) num10 num0 text0 (by decide) w hg hA).mono fun e w' h=>⟨h.1.trans (by rw[show(⟨#[1,10]⟩++⟨#[0]⟩++⟨#[0]⟩:ByteArray)=⟨#[1,10,0,0]⟩ by decide]),h.2⟩
def O3.f:Option Bool:=some true
theorem O3.calls(r:Bool)(w:World)(h:O3.f=some r):
  Calls Tryz.prog 4 #[] w fun e w'=>e=.returned (.bool r)∧Below w.heap.size w w':=by
 cases h
 have HAS:=af.mk Yo;have HP:=af.mk passCall;have kE:=af.mk (show yV.f ⟨#[97]⟩ 16=some true by decide+kernel);have HS2:=af.mk (show yV.f ⟨#[107]⟩ 32=some true by decide+kernel);have lQ:=af.mk (show yV.f ⟨#[115]⟩ 32=some true by decide+kernel);generalize Ij=asked at HAS HP;have HB0:=af.mk (ax (Below.refl w.heap.size w) (.cells #[.string ⟨#[97]⟩,.string ⟨#[107]⟩,.string ⟨#[115]⟩,.string ⟨#[]⟩,.string ⟨#[]⟩,.int .i64 0,.int .i64 0,.bool false,.slice none 0 0,.slice none 0 0,.slice none 0 0,.int .u64 0,.int .i64 0] 62))
 go_enter Tryz.func4,Tryz.ntmps4
 go_wp2_with (first
  |(go_at_call 14;with_reducible refine(newCall w.heap.size 1 ⟨#[97]⟩ ⟨#[107]⟩ ⟨#[115]⟩ kE.out HS2.out lQ.out _ (bI w _)).mono ?_;rintro e w2 ⟨g,c,arr,v1,v2,v3,v4,v5,v6,v7,v8,v9,v10,v11,v12,rfl,hg,hA,hb⟩;have HA:=af.mk hA;have HG2:=af.mk (ay hg (.cells #[.int .u64 0,.slice (some ⟨g,0,none⟩) 1 c] 50));have sj:=af.mk (bI w2 (.cells #[.int .u64 0,.slice (some ⟨g,0,none⟩) 1 c] 50));have HB2:=af.mk (ax (av HB0.out hb) (.cells #[.int .u64 0,.slice (some ⟨g,0,none⟩) 1 c] 50));clear hg hA hb)
  |(go_at_call 15;with_reducible refine(YW g c _).mono ?_;rintro e w3 ⟨rfl,hb⟩;have HG:=af.mk (ay (aK HG2.out hb) (.cells #[.int .u64 0,.slice (some ⟨g,0,none⟩) 1 c] 50));have HV:=af.mk (ay (aK sj.out hb) (.cells #[.int .u64 0,.slice (some ⟨g,0,none⟩) 1 c] 50));have HB:=af.mk (ax (av HB2.out hb) (.cells #[.int .u64 0,.slice (some ⟨g,0,none⟩) 1 c] 50));clear hb))
 obtain⟨bv,hbv⟩:∃b,b=w2.heap.size:=⟨_,rfl⟩;rw[← hbv]at HV ⊢;clear hbv HG2 sj HB2;revert HG HV HB;generalize w3.alloc _=W;intro HG HB HV;have c0:W.drew.cell? ⟨bv,0,none⟩=some (.int .u64 0):=(ah HV.out 0).trans rfl;have c1:W.drew.cell? ⟨bv,1,none⟩=some (.slice (some ⟨g,0,none⟩) 1 c):=(ah HV.out 1).trans rfl;refine gZ (n:=9) (S:=fun w'=>w'.cell? ⟨bv,0,none⟩=some (.int .u64 0)∧w'.cell? ⟨bv,1,none⟩=some (.slice (some ⟨g,0,none⟩) 1 c)∧w'.heap[bv]? =some (.cells #[.int .u64 0,.slice (some ⟨g,0,none⟩) 1 c] 50 (0,0))∧w'.heap[g]? =some (.cells arr 62 (0,0))∧Below w.heap.size w w') (ds:=[7]) #[false,false,false,false,false,false,false,false,false] (by kernel_rfl) rfl rfl ⟨c0,c1,HV.out,HG.out,Below.drew HB.out⟩ (fun hHeld=>?_);refine bU 0 19 hHeld (by rintro w' ⟨s0,s1,s2,s3,s4⟩;go_simp;with_reducible rfl) ?_ rfl rfl;refine two_ (i:=1) (j:=6) (Ni:=some 20) (Nj:=some 5) #[true,true,false,false,false,false,false,false,false] #[true,false,false,false,false,false,true,false,false] rfl rfl rfl rfl (by kernel_rfl) (by decide) (by decide) (fun K hK=>?_) (fun K hK=>?_)
 ·refine gF Tryz.func16 (by kernel_rfl) rfl #[.string ⟨#[107]⟩,.string ⟨#[98]⟩,.int .u64 9,.string ⟨#[104]⟩] (by rfl) rfl rfl (by simp only[List.map_toArray,List.map_cons,List.map_nil];rfl) ?_
  with_reducible refine(IE.calls 40 ⟨#[107]⟩ ⟨#[98]⟩ 9 ⟨#[104]⟩ asked _ HAS.out).mono ?_
  rintro e w4 ⟨rfl,hb4⟩;refine⟨_,rfl,?_⟩;have rF:=af.mk (iB (aK (hHeld.2.2.1) hb4));have vW:=af.mk (av (hHeld.2.2.2.2) hb4).size;refine hK.out _ _ ⟨aI hb4 (hHeld.1),aI hb4 (hHeld.2.1),aK (hHeld.2.2.1) hb4,aK (hHeld.2.2.2.1) hb4,av (hHeld.2.2.2.2) hb4⟩ (fun hHeld=>?_);clear hK K;refine dM ?_;refine two_ (i:=2) (j:=6) (Ni:=some 21) (Nj:=some 5) #[true,true,true,false,false,false,false,false,false] #[true,true,false,false,false,false,true,false,false] rfl rfl rfl rfl (by kernel_rfl) (by decide) (by decide) (fun K hK=>?_) (fun K hK=>?_)
  ·refine gF Tryz.func15 (by kernel_rfl) rfl #[.agg #[.int .u64 0,.slice (some ⟨g,0,none⟩) 1 c],.string asked] (by rfl) rfl rfl (by simp only[List.map_toArray,List.map_cons,List.map_nil];rfl) ?_
   with_reducible refine(HP.out arr v1 v2 v3 v4 v5 v6 v7 v8 v9 v10 v11 v12 g c _ (hHeld.2.2.2.1) HA.out).mono ?_
   rintro e w5 ⟨rfl,hb5⟩;refine⟨_,rfl,?_⟩;have HE:=af.mk (av (hHeld.2.2.2.2) hb5);have HEV:=af.mk (aK (hHeld.2.2.1) hb5);refine hK.out _ _ ⟨aI hb5 (hHeld.1),aI hb5 (hHeld.2.1),aK (hHeld.2.2.1) hb5,aK (hHeld.2.2.2.1) hb5,av (hHeld.2.2.2.2) hb5⟩ (fun hHeld=>?_);clear hK K;refine dM ?_;refine au 3 18 ?_;refine au 4 22 ?_;refine au 5 23 ?_;refine fu 6 (N:=some 5) rfl rfl fun K hK=>?_
   refine Bp (w1:=?_) (v:=?_) (by rfl) rfl ?_ ?_;rotate_left 2
   ·go_simp
    constructor
    ·rfl
    ·rfl
   refine hK.out _ _ ⟨aI (ax (Below.refl _ _) _) (hHeld.1),aI (ax (Below.refl _ _) _) (hHeld.2.1),ay (hHeld.2.2.1) _,ay (hHeld.2.2.2.1) _,ax (hHeld.2.2.2.2) _⟩ (fun hHeld=>?_);clear hK K;refine dM ?_;refine iN (i:=7) (N:=none) #[true,true,true,true,true,true,true,true,false] rfl rfl (by kernel_rfl) (by decide) (fun K hK=>?_);refine jQ (w1:=?_) (by rfl) rfl ?_ ?_;rotate_left
   ·go_simp
    rfl
   refine hK.out _ _ ?_;clear hK K;refine au 8 6 ?_;refine gJ ?_;have d1:(w5.alloc (.cells #[.int .u64 0,.slice (some ⟨g,0,none⟩) 1 c] 50)).cell? ⟨bv,1,none⟩=some (.slice (some ⟨g,0,none⟩) 1 c):=(ah (ay HEV.out _) 1).trans rfl
   go_wp2_with fail
   go_ret
   exact⟨rfl,ax HE.out _⟩
  ·refine Bp (w1:=?_) (v:=?_) (by rfl) rfl ?_ ?_;rotate_left 2
   ·go_simp
    constructor
    ·rfl
    ·rfl
   refine hK.out _ _ ⟨aI (ax (Below.refl _ _) _) (hHeld.1),aI (ax (Below.refl _ _) _) (hHeld.2.1),ay (hHeld.2.2.1) _,ay (hHeld.2.2.2.1) _,ax (hHeld.2.2.2.2) _⟩ (fun hHeld=>?_);clear hK K;refine dM ?_;refine fu 2 (N:=some 21) rfl rfl fun K hK=>?_
   refine gF Tryz.func15 (by kernel_rfl) rfl #[.agg #[.int .u64 0,.slice (some ⟨g,0,none⟩) 1 c],.string asked] (by rfl) rfl rfl (by simp only[List.map_toArray,List.map_cons,List.map_nil];rfl) ?_
   with_reducible refine(HP.out arr v1 v2 v3 v4 v5 v6 v7 v8 v9 v10 v11 v12 g c _ (hHeld.2.2.2.1) HA.out).mono ?_
   rintro e w5 ⟨rfl,hb5⟩;refine⟨_,rfl,?_⟩;have HZ5:=af.mk (aK (g:=w4.heap.size) (o:=.cells #[.int .u64 0,.slice none 0 0] 50 (0,0)) (bI w4 _) hb5);have z0w5:w5.cell? ⟨w4.heap.size,0,none⟩=some (.int .u64 0):=(ah HZ5.out 0).trans rfl;have z1w5:w5.cell? ⟨w4.heap.size,1,none⟩=some (.slice none 0 0):=(ah HZ5.out 1).trans rfl;have y0w5:=aA HZ5.out 0;have y1w5:=aA HZ5.out 1;have HE:=af.mk (av (hHeld.2.2.2.2) hb5);have HEV:=af.mk (aK (hHeld.2.2.1) hb5);refine hK.out _ _ ⟨aI hb5 (hHeld.1),aI hb5 (hHeld.2.1),aK (hHeld.2.2.1) hb5,aK (hHeld.2.2.2.1) hb5,av (hHeld.2.2.2.2) hb5⟩ (fun hHeld=>?_);clear hK K;refine dM ?_;refine au 3 18 ?_;refine au 4 22 ?_;refine au 5 23 ?_;refine iN (i:=7) (N:=none) #[true,true,true,true,true,true,true,true,false] rfl rfl (by kernel_rfl) (by decide) (fun K hK=>?_);refine jQ (w1:=?_) (by rfl) rfl ?_ ?_;rotate_left
   ·go_simp
    rfl
   refine hK.out _ _ ?_;clear hK K;refine au 8 6 ?_;refine gJ ?_;have d1:((w5.setCell ⟨w4.heap.size,0,none⟩ (.int .u64 0)).setCell ⟨w4.heap.size,1,none⟩ (.slice (some ⟨g,0,none⟩) 1 c)).cell? ⟨bv,1,none⟩=some (.slice (some ⟨g,0,none⟩) 1 c):=(ah ((iV (Nat.ne_of_lt rF.out) _).trans ((iV (Nat.ne_of_lt rF.out) _).trans HEV.out)) 1).trans rfl
   go_wp2_with fail
   go_ret
   exact⟨rfl,mI (mI HE.out vW.out) vW.out⟩
 ·refine Bp (w1:=?_) (v:=?_) (by rfl) rfl ?_ ?_;rotate_left 2
  ·go_simp
   constructor
   ·rfl
   ·rfl
  refine hK.out _ _ ⟨aI (ax (Below.refl _ _) _) (hHeld.1),aI (ax (Below.refl _ _) _) (hHeld.2.1),ay (hHeld.2.2.1) _,ay (hHeld.2.2.2.1) _,ax (hHeld.2.2.2.2) _⟩ (fun hHeld=>?_);clear hK K;refine dM ?_;refine fu 1 (N:=some 20) rfl rfl fun K hK=>?_
  refine gF Tryz.func16 (by kernel_rfl) rfl #[.string ⟨#[107]⟩,.string ⟨#[98]⟩,.int .u64 9,.string ⟨#[104]⟩] (by rfl) rfl rfl (by simp only[List.map_toArray,List.map_cons,List.map_nil];rfl) ?_
  with_reducible refine(IE.calls 40 ⟨#[107]⟩ ⟨#[98]⟩ 9 ⟨#[104]⟩ asked _ HAS.out).mono ?_
  rintro e w4 ⟨rfl,hb4⟩;refine⟨_,rfl,?_⟩;have rF:=af.mk (iB HV.out);have vW:=af.mk HB.out.size;have HZ4:=af.mk (aK (g:=W.heap.size) (o:=.cells #[.int .u64 0,.slice none 0 0] 50 (0,0)) (bI W.drew _) hb4);refine hK.out _ _ ⟨aI hb4 (hHeld.1),aI hb4 (hHeld.2.1),aK (hHeld.2.2.1) hb4,aK (hHeld.2.2.2.1) hb4,av (hHeld.2.2.2.2) hb4⟩ (fun hHeld=>?_);clear hK K;refine dM ?_;refine fu 2 (N:=some 21) rfl rfl fun K hK=>?_
  refine gF Tryz.func15 (by kernel_rfl) rfl #[.agg #[.int .u64 0,.slice (some ⟨g,0,none⟩) 1 c],.string asked] (by rfl) rfl rfl (by simp only[List.map_toArray,List.map_cons,List.map_nil];rfl) ?_
  with_reducible refine(HP.out arr v1 v2 v3 v4 v5 v6 v7 v8 v9 v10 v11 v12 g c _ (hHeld.2.2.2.1) HA.out).mono ?_
  rintro e w5 ⟨rfl,hb5⟩;refine⟨_,rfl,?_⟩;have HZ5:=af.mk (aK HZ4.out hb5);have z0w5:w5.cell? ⟨W.heap.size,0,none⟩=some (.int .u64 0):=(ah HZ5.out 0).trans rfl;have z1w5:w5.cell? ⟨W.heap.size,1,none⟩=some (.slice none 0 0):=(ah HZ5.out 1).trans rfl;have y0w5:=aA HZ5.out 0;have y1w5:=aA HZ5.out 1;have HE:=af.mk (av (hHeld.2.2.2.2) hb5);have HEV:=af.mk (aK (hHeld.2.2.1) hb5);refine hK.out _ _ ⟨aI hb5 (hHeld.1),aI hb5 (hHeld.2.1),aK (hHeld.2.2.1) hb5,aK (hHeld.2.2.2.1) hb5,av (hHeld.2.2.2.2) hb5⟩ (fun hHeld=>?_);clear hK K;refine dM ?_;refine au 3 18 ?_;refine au 4 22 ?_;refine au 5 23 ?_;refine iN (i:=7) (N:=none) #[true,true,true,true,true,true,true,true,false] rfl rfl (by kernel_rfl) (by decide) (fun K hK=>?_);refine jQ (w1:=?_) (by rfl) rfl ?_ ?_;rotate_left
  ·go_simp
   rfl
  refine hK.out _ _ ?_;clear hK K;refine au 8 6 ?_;refine gJ ?_;have d1:((w5.setCell ⟨W.heap.size,0,none⟩ (.int .u64 0)).setCell ⟨W.heap.size,1,none⟩ (.slice (some ⟨g,0,none⟩) 1 c)).cell? ⟨bv,1,none⟩=some (.slice (some ⟨g,0,none⟩) 1 c):=(ah ((iV (Nat.ne_of_lt rF.out) _).trans ((iV (Nat.ne_of_lt rF.out) _).trans HEV.out)) 1).trans rfl
  go_wp2_with fail
  go_ret
  exact⟨rfl,mI (mI HE.out vW.out) vW.out⟩
end Go.Proofs.YtdcddenojjdmjaaGreatDoor.T
namespace Go.Proofs.YtdcddenojjdmjaaGreatDoor.T
open Go.RowKit Go.Proofs.YtdcddenojjdmjaaGreatDoorW.PrintWords Go.Proofs.YtdcddenojjdmjaaGreatDoorW.PrintLast Go.Proofs.YtdcddenojjdmjaaGreatDoorW.PrintMore
attribute [local go_sem] kH kL kK kP kJ kN kI kM
theorem eqA136(d:Nat)(w:World)(x0 y0:Int)(x1 y1:Int)(x2 y2:Int)(x3 y3:Int)(x4 y4:Int):
  (Op.equalIn (d+2) 136 (.agg #[.int .i64 x0,.int .i64 x1,.int .i64 x2,.int .i64 x3,.int .i64 x4]) (.agg #[.int .i64 y0,.int .i64 y1,.int .i64 y2,.int .i64 y3,.int .i64 y4])).run Tryz.prog w=.ok (x0==y0&&(x1==y1&&(x2==y2&&(x3==y3&&(x4==y4))))) w:=by
 refine O7 Tryz.underlying136 (by kernel_rfl) ?_;refine Ag (by rfl) (by go_simp;rfl) (by go_simp;rfl) (by go_simp) ?_;refine Ag (by rfl) (by go_simp;rfl) (by go_simp;rfl) (by go_simp) ?_;refine Ag (by rfl) (by go_simp;rfl) (by go_simp;rfl) (by go_simp) ?_;refine Ag (by rfl) (by go_simp;rfl) (by go_simp;rfl) (by go_simp) ?_;exact O8 (by rfl) (by go_simp;rfl) (by go_simp;rfl) (by go_simp)
end Go.Proofs.YtdcddenojjdmjaaGreatDoor.T
