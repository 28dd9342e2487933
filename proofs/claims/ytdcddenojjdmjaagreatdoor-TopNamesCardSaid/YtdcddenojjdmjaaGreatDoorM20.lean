import Derived.Laws.EntriesVeiled
import Derived.Shelf.RegionOpen
import Derived.OrdersIn
import Derived.CallsIn
import Derived.Maps.OwnSet
import Derived.Maps.Views
import Derived.Test.YtdcddenojjdmjaaGreatDoorM19
set_option linter.all false
set_option maxHeartbeats 8000000
set_option maxRecDepth 100000
namespace Go.Proofs.YtdcddenojjdmjaaGreatDoor.T
open Go.RowKit Go.Proofs.YtdcddenojjdmjaaGreatDoorW.PrintWords Go.Proofs.YtdcddenojjdmjaaGreatDoorW.PrintLast Go.Proofs.YtdcddenojjdmjaaGreatDoorW.PrintMore
theorem XB{A:Option Addr}{l:List ByteArray}{w wr:World}(h:Kd.C Kd.string w A l.length l){i:Nat}(hi:i<l.length)(hb:Below w.heap.size w wr):∃ad,A=some ad∧wr.cell? (ad.add i)=some (.string (l[i]'hi)):=by
 obtain⟨ad,c,e,_,hK,hc⟩:=Kd.zi h ByteArray.empty (i:Int) (by omega) (by omega);rw[show(i:Int).toNat=i by omega]at hK hc;have er:l.getD i ByteArray.empty=l[i]'hi:=by simp[List.getD_eq_getElem?_getD,List.getElem?_eq_getElem hi]
 rw[er]at hK;have hK:c=[.string (l[i]'hi)]:=hK;subst hK;have:=hc 0 _ rfl;refine⟨ad,e,aI hb ?_⟩;have hz:(Kd.string).sz=1:=rfl;rw[hz,Nat.mul_one,Nat.add_zero]at this;exact this
def Bj:Nat→List ByteArray→Option ByteArray
 |0,_=>none
 |n+1,l=>if l.length=1 then KR.f (l.getD 0 ByteArray.empty)else
   (ru.f 64 l.length).bind fun m=>if 0≤m∧m≤l.length then
    (Bj n (l.take m.toNat)).bind fun a=>(wu.f a).bind fun sa=>(Bj n (l.drop m.toNat)).bind fun b=>(wu.f b).bind fun sb=>KS.f sa sb
   else none
theorem Rz(g:Nat):∀(n:Nat) (l:List ByteArray) (r:ByteArray) (A:Option Addr) (c:Nat) (w:World),Bj n l=some r→Kd.C Kd.string w A l.length l→l.length≤c→jR w→w.heap[g]? =some (.cells #[.func (.func 167) #[] #[.pointer (some ⟨g,0,none⟩)]] 130 (0,0))→
  Calls Tryz.prog 167 #[.slice A l.length c,.pointer (some ⟨g,0,none⟩)] w fun e w'=>e=.returned (.string r)∧Below w.heap.size w w'
 |0,_,_,_,_,_,h,_,_,_,_=>by simp[Bj]at h
 |n+1,l,r,A,c,w,h,hr,hc,hG,kg=>by
  have hlen:l.length≤9223372036854775807:=hr.2.1;have cg:w.cell? ⟨g,0,none⟩=some (.func (.func 167) #[] #[.pointer (some ⟨g,0,none⟩)]):=(ah kg 0).trans rfl;have HG:=af.mk hG;have HK:=af.mk kg;have HR:=af.mk hr;have HC:=af.mk hc;clear hG kg hr;unfold Bj at h
  by_cases h1:l.length=1
  ·rw[if_pos h1]at h;obtain⟨ad,hA,q0⟩:=XB HR.out (show 0<l.length by omega) (Below.refl _ _)
   cases hA
   rw[List.getD_eq_getElem?_getD,List.getElem?_eq_getElem (by omega),Option.getD_some]at h;have HL:=af.mk h;replace q0:w.cell? ad=some (.string (l[0]'(by omega))):=q0;clear h
   go_enter Tryz.func167,Tryz.ntmps167
   go_wp2_with (go_at_call 168;refine(KR.calls (l[0]'(by omega)) r _ HL.out).mono ?_;rintro e w2 ⟨rfl,hb⟩)
   go_ret
   exact⟨rfl,hb.below⟩
  ·rw[if_neg h1]at h;obtain⟨m0,hm,h⟩:=Option.bind_eq_some_iff.1 h
   split at h
   case isFalse=>cases h
   rename_i hmm
   obtain⟨m,rfl⟩:∃m:Nat,m0=(m:Int):=⟨m0.toNat,by omega⟩;rw[Int.toNat_natCast]at h;obtain⟨a,ha,h⟩:=Option.bind_eq_some_iff.1 h;obtain⟨sa,hsa,h⟩:=Option.bind_eq_some_iff.1 h;obtain⟨b,hb,h⟩:=Option.bind_eq_some_iff.1 h;obtain⟨sb,hsb,h⟩:=Option.bind_eq_some_iff.1 h;have hml:m≤l.length:=by omega
   have HH:=af.mk hm
   have IHA:=af.mk (show ∀W,Below w.heap.size w W→Calls Tryz.prog 167 #[.slice A m c,.pointer (some ⟨g,0,none⟩)] W fun e w'=>e=.returned (.string a)∧Below W.heap.size W w' from fun W hb=>by
    have hl:(l.take m).length=m:=by rw[List.length_take];omega
    have:=Rz g n (l.take m) a A c W ha (Kd.dN (Kd.GU HR.out hml) hb) (by omega) (HG.out.below hb) (aK HK.out hb);rwa [hl]at this)
   have IHB:=af.mk (show ∀W,Below w.heap.size w W→Calls Tryz.prog 167 #[.slice (if c=m then A else Option.map (fun x=>x.add m) A) (l.length-m) (c-m),.pointer (some ⟨g,0,none⟩)] W fun e w'=>e=.returned (.string b)∧Below W.heap.size W w' from fun W hb'=>by
    have hl:(l.drop m).length=l.length-m:=List.length_drop;have hC:=Kd.R9 (m:=m) HR.out hml hc;rw[show(Kd.string).sz=1 from rfl,Nat.mul_one]at hC;have:=Rz g n (l.drop m) b (if c=m then A else Option.map (fun x=>x.add m) A) (c-m) W hb (Kd.dN hC hb') (by omega) (HG.out.below hb') (aK HK.out hb');rwa [hl]at this)
   have HSA:=af.mk hsa;have HSB:=af.mk hsb;have HN:=af.mk h;have hp0:(0:Int)≤(m:Int):=by omega
   have hp1:(m:Int)≤(l.length:Int):=by omega
   have hp2:(m:Int)≤(c:Int):=by omega
   have hne:¬((l.length:Int)=1):=by omega
   clear h hm ha hsa hb hsb hmm h1
   go_enter Tryz.func167,Tryz.ntmps167
   go_wp2_with (go_at_call 121;refine(ru.calls 64 l.length m _ HH.out).mono ?_;rintro e w2 ⟨rfl,hb⟩;have HB:=af.mk hb.below;clear hb)
   have qg:w2.drew.cell? ⟨g,0,none⟩=some (.func (.func 167) #[] #[.pointer (some ⟨g,0,none⟩)]):=aI (Below.drew HB.out) cg;refine gZ (n:=14) (S:=fun w'=>w'.cell? ⟨g,0,none⟩=some (.func (.func 167) #[] #[.pointer (some ⟨g,0,none⟩)])∧Below w.heap.size w w') (ds:=[12]) #[false,false,false,false,false,false,false,false,false,false,false,false,false,false] (by kernel_rfl) rfl rfl ⟨qg,Below.drew HB.out⟩ (fun hHeld=>?_);refine au 1 16 ?_;refine au 2 17 ?_;refine au 3 18 ?_;refine au 7 22 ?_;refine au 8 23 ?_;refine au 9 24 ?_;refine bU 0 15 hHeld (by rintro w' ⟨s0,s1⟩;go_simp;with_reducible rfl) ?_ rfl rfl;refine bU 6 21 hHeld (by rintro w' ⟨s0,s1⟩;go_simp;with_reducible rfl) ?_ rfl rfl;refine fu 4 (N:=some 19) rfl rfl fun K hK=>?_
   refine BQ Tryz.func167 (by kernel_rfl) rfl (cap:=#[.pointer (some ⟨g,0,none⟩)]) #[.slice A m c] (by rfl) rfl rfl (by rfl) (by simp only[List.map_toArray,List.map_cons,List.map_nil];rfl) (by rfl) ?_;refine(IHA.out _ (hHeld.2)).mono ?_;rintro e w4 ⟨rfl,hbw4⟩;refine⟨_,rfl,?_⟩;refine hK.out _ _ ⟨aI hbw4 (hHeld.1),av (hHeld.2) hbw4⟩ (fun hHeld=>?_);clear hK K;refine dM ?_;refine fu 5 (N:=some 20) rfl rfl fun K hK=>?_
   refine gF Tryz.func53 (by kernel_rfl) rfl #[.string a] (by rfl) rfl rfl (by simp only[List.map_toArray,List.map_cons,List.map_nil];rfl) ?_
   with_reducible refine(wu.calls a sa _ HSA.out (HG.out.below (hHeld.2))).mono ?_
   rintro e w5 ⟨rfl,hbw5⟩;refine⟨_,rfl,?_⟩;refine hK.out _ _ ⟨aI hbw5 (hHeld.1),av (hHeld.2) hbw5⟩ (fun hHeld=>?_);clear hK K;refine dM ?_;refine fu 10 (N:=some 25) rfl rfl fun K hK=>?_
   refine BQ Tryz.func167 (by kernel_rfl) rfl (cap:=#[.pointer (some ⟨g,0,none⟩)]) #[.slice (if c=m then A else Option.map (fun x=>x.add m) A) (l.length-m) (c-m)] (by rfl) rfl rfl (by rfl) (by simp only[List.map_toArray,List.map_cons,List.map_nil];rfl) (by rfl) ?_;refine(IHB.out _ (hHeld.2)).mono ?_;rintro e w6 ⟨rfl,hbw6⟩;refine⟨_,rfl,?_⟩;refine hK.out _ _ ⟨aI hbw6 (hHeld.1),av (hHeld.2) hbw6⟩ (fun hHeld=>?_);clear hK K;refine dM ?_;refine fu 11 (N:=some 26) rfl rfl fun K hK=>?_
   refine gF Tryz.func53 (by kernel_rfl) rfl #[.string b] (by rfl) rfl rfl (by simp only[List.map_toArray,List.map_cons,List.map_nil];rfl) ?_
   with_reducible refine(wu.calls b sb _ HSB.out (HG.out.below (hHeld.2))).mono ?_
   rintro e w7 ⟨rfl,hbw7⟩;refine⟨_,rfl,?_⟩;refine hK.out _ _ ⟨aI hbw7 (hHeld.1),av (hHeld.2) hbw7⟩ (fun hHeld=>?_);clear hK K;refine dM ?_;refine iN (i:=12) (N:=some 27) #[true,true,true,true,true,true,true,true,true,true,true,true,true,false] rfl rfl (by kernel_rfl) (by decide) (fun K hK=>?_);refine gF Tryz.func169 (by kernel_rfl) rfl #[.string sa,.string sb] (by rfl) rfl rfl (by simp only[List.map_toArray,List.map_cons,List.map_nil];rfl) ?_
   with_reducible refine(KS.calls sa sb r _ HN.out).mono ?_
   rintro e w8 ⟨rfl,hbw8⟩;refine⟨_,rfl,?_⟩;have HEND:=af.mk (av (hHeld.2) hbw8.below);refine hK.out _ _ ?_;clear hK K;refine dM ?_;refine au 13 3 ?_;refine gJ ?_
   go_wp2_with fail
   all_goals (go_ret;exact⟨rfl,HEND.out⟩)
def Dr(l:List ByteArray):Option ByteArray:=if l.length=0 then some ByteArray.empty else(Bj 64 l).bind fun t=>wu.f t
theorem treeTop(A0:Option Addr)(c0:Nat)(l0:List ByteArray)(r:ByteArray)(w:World)(hr0:Kd.C Kd.string w A0 l0.length l0)(hc0:l0.length≤c0)(h:Bj 64 l0=some r)(hG:jR w):
  Calls Tryz.prog 115 #[.slice A0 l0.length c0] w fun e w'=>e=.returned (.string r)∧Below w.heap.size w w':=by
 have hmf:∀(fn:Fn) (first cap:Array Value) (w:World),(Instr.makeFunc fn first cap).run Tryz.prog w=.ok (.func fn first cap) w:=fun _ _ _ _=>rfl
 have HR:=af.mk hr0;have HG:=af.mk hG;have HT:=af.mk h;clear hr0 hG h
 go_enter Tryz.func115,Tryz.ntmps115
 go_wp2_with fail
 have hb0:=ax (Below.refl w.heap.size w) (.cells #[.func (.func 167) #[] #[.pointer (some ⟨w.heap.size,0,none⟩)]] 130);refine(Rz w.heap.size 64 l0 r A0 c0 _ HT.out (Kd.dN HR.out hb0) hc0 (HG.out.below hb0) (bI w _)).mono ?_;rintro e w2 ⟨rfl,hb⟩;have HB:=af.mk (av hb0 hb);clear hb hb0
 go_wp2_with fail
 go_ret
 exact⟨rfl,HB.out⟩
theorem XH(A0:Option Addr)(c0:Nat)(l0:List ByteArray)(r:ByteArray)(w:World)(hr0:Kd.C Kd.string w A0 l0.length l0)(hc0:l0.length≤c0)(h:Dr l0=some r)(hG:jR w):
  Calls Tryz.prog 55 #[.slice A0 l0.length c0] w fun e w'=>e=.returned (.string r)∧Below w.heap.size w w':=by
 have hlen:l0.length≤9223372036854775807:=hr0.2.1;unfold Dr at h;have HR:=af.mk hr0;have HG:=af.mk hG;clear hr0 hG
 by_cases h0:l0.length=0
 ·rw[if_pos h0]at h
  cases h
  have h0':((l0.length:Int)==0)=true:=by simp[h0]
  go_enter Tryz.func55,Tryz.ntmps55
  go_wp2_with fail
  go_ret
  exact⟨rfl,Below.refl _ _⟩
 ·rw[if_neg h0]at h;obtain⟨t,ht,h⟩:=Option.bind_eq_some_iff.1 h;have HT:=af.mk ht;have HS:=af.mk h;clear ht h
  go_enter Tryz.func55,Tryz.ntmps55
  go_wp2_with (first
   |(go_at_call 115;refine(treeTop A0 c0 l0 t _ HR.out hc0 HT.out HG.out).mono ?_;rintro e w2 ⟨rfl,hb⟩;have HB:=af.mk hb;clear hb)
   |(go_at_call 53;refine(wu.calls t r _ HS.out (HG.out.below HB.out)).mono ?_;rintro e w3 ⟨rfl,hb⟩;have HB3:=af.mk (av HB.out hb);clear hb))
  go_ret
  exact⟨rfl,HB3.out⟩
def CK.f(l0:List ByteArray):Option (ByteArray×Int):=if l0.length>4096 then some (ByteArray.empty,4)else(Dr l0).bind fun c=>(KT.f l0.length c).bind fun s=>(wu.f s).bind fun r=>some (r,0)
theorem CK.calls(A0:Option Addr)(c0:Nat)(l0:List ByteArray)(r1:ByteArray)(r2:Int)(w:World)(hr0:Kd.C Kd.string w A0 l0.length l0)(hc0:l0.length≤c0)(h:CK.f l0=some (r1,r2))(hG:jR w):
  Calls Tryz.prog 20 #[.slice A0 l0.length c0] w fun e w'=>e=.returned (.tuple #[.string r1,.int .i64 r2])∧Below w.heap.size w w':=by
 have hlen:l0.length≤9223372036854775807:=hr0.2.1;unfold CK.f at h;have HR:=af.mk hr0;have HG:=af.mk hG;clear hr0 hG
 by_cases h0:l0.length>4096
 ·rw[if_pos h0]at h
  cases h
  go_enter Tryz.func20,Tryz.ntmps20
  go_wp2_with fail
  go_ret2
  exact⟨rfl,Below.refl _ _⟩
 ·rw[if_neg h0]at h;obtain⟨t,ht,h⟩:=Option.bind_eq_some_iff.1 h;obtain⟨s,hs,h⟩:=Option.bind_eq_some_iff.1 h;obtain⟨q,hq,h⟩:=Option.bind_eq_some_iff.1 h
  cases h
  have HT:=af.mk ht;have HS:=af.mk hs;have HQ:=af.mk hq;clear ht hs hq
  go_enter Tryz.func20,Tryz.ntmps20
  go_wp2_with (first
   |(go_at_call 55;refine(XH A0 c0 l0 t _ HR.out hc0 HT.out HG.out).mono ?_;rintro e w2 ⟨rfl,hb⟩;have HB:=af.mk hb;clear hb)
   |(go_at_call 54;refine(KT.calls l0.length t s _ HS.out).mono ?_;rintro e w3 ⟨rfl,hb⟩;have HB3:=af.mk (av HB.out hb);clear hb)
   |(go_at_call 53;refine(wu.calls s r1 _ HQ.out (HG.out.below HB3.out)).mono ?_;rintro e w4 ⟨rfl,hb⟩;have vU:=af.mk (av HB3.out hb);clear hb))
  go_ret2
  exact⟨rfl,vU.out⟩
abbrev Way:=Bool×Int×Int
def zL:Nat→Int→Int→Int→Option (List Way)
 |0,_,_,_=>none
 |f+1,a,b,i=>if b-a>1 then(ru.f 64 (b-a)).bind fun m=>if 0<m∧m<b-a then
   (if i≥a+m then(zL f (a+m) b i).map ((false,a,a+m):: ·)else(zL f a (a+m) i).map ((true,a+m,b):: ·))else none else some []
section
attribute [local go_sem] Oper.semAt_some
def EC(x:Way):Value:=.agg #[.bool x.1,.int .i64 x.2.1,.int .i64 x.2.2]
theorem wayRun{P:Way→Prop}(n:Nat)(hn:1≤n)(l Bn Bi:Nat)(N i:Int)(hN:0≤N∧N≤1000000)(hi: -9223372036854775808≤i∧i≤9223372036854775807)(steps:List {x:Way//P x})(hst:zL 64 0 N i=some (steps.map (·.1)))(w0:World)(J Jx:List {x:Way//P x}→World→Prop)(B:Nat)(hJ:AbidesFrom B J)
  (hY:∀pre (x: {x:Way//P x}) W,J pre W→pre.length<steps.length→YieldAt Fence.wide (n-1) Tryz.prog l #[EC x.1] W fun e W'=>
   (e=.returned (.bool true)∧J (pre++[x]) W'∧Kof w0.heap.size Bi W W')∨(e=.returned (.bool false)∧Jx (pre++[x]) W'))
  (W:World) (hW:Below w0.heap.size w0 W) (hBn:W.cell? ⟨Bn,0,none⟩=some (.int .i64 N)) (hBi:W.heap[Bi]? =some (.cells #[.int .i64 i] 3 (0,0))) (h0:J [] W):
  CallsIn Fence.wide n Tryz.prog 120 #[.func (.yield l) #[] #[],.pointer (some ⟨Bn,0,none⟩),.pointer (some ⟨Bi,0,none⟩)] W fun e W'=>(∃v,e=.returned v)∧
   ((∃ys,ys=steps∧J ys W')∨(∃pre,pre.length≤steps.length∧Jx pre W')):=by
 have HY:=af.mk hY;have HJ:=af.mk hJ;have HS:=af.mk hst;have H0:=af.mk h0;clear hY hJ hst h0;refine callsIn_of_wp Tryz.func120 rfl trivial ?_ rfl;simp only[Tryz.ntmps120,List.size_toArray,List.length_cons,List.length_nil,Nat.reduceAdd,Nat.reduceSub,Array.replicate_succ,Array.replicate_zero,List.push_toArray,List.append_toArray,List.nil_append,List.cons_append]
 gi_wp2
 gi_region
 have hB0:Below w0.heap.size w0 W.drew:=Below.drew hW;have hJ0:J [] W.drew:=HJ.out _ W _ none H0.out (Dy (pR (Below.refl _ _)) none) (fun r e=>by cases e);have hT0:W.drew.heap[Bi]? =some (.cells #[.int .i64 i] 3 (0,0)):=hBi
 gi_wp2
 gi_loopw [4,5] (fun v4 v5 wr=>∃(f:Nat) (a b:Int) (pre rest:List {x:Way//P x}),v4=.int .i64 a∧v5=.int .i64 b∧0≤a∧a≤b∧b≤N∧zL f a b i=some (rest.map (·.1))∧steps=pre++rest∧J pre wr∧Below w0.heap.size w0 wr∧wr.heap[Bi]? =some (.cells #[.int .i64 i] 3 (0,0)))
  (fun v4 v5 _=>(intOf v5-intOf v4).toNat)
 case atStart=>exact⟨64,0,N,[],steps,rfl,rfl,by omega,hN.1,by omega,HS.out,rfl,hJ0,hB0,hT0⟩
 case round=>
  obtain⟨f,a,b,pre,rest,rfl,rfl,ha,hab,hbN,hf,hP,hJs,hB,hT⟩:=hrel;clear hB0 hJ0 hT0 H0 HS hBn;have HP:=af.mk hP;clear hP;have hw1:wrap64 (b-a)=b-a:=by unfold wrap64;omega
  cases f with
  |zero=>simp[zL]at hf
  |succ f=>
  unfold zL at hf
  by_cases hgt:b-a>1
  ·rw[if_pos hgt]at hf;obtain⟨m,hm,hf⟩:=Option.bind_eq_some_iff.1 hf
   split at hf
   case isFalse=>cases hf
   rename_i hmm
   have HM:=af.mk hm;clear hm;obtain⟨hm0,hm1⟩:=hmm;have hw2:wrap64 (a+m)=a+m:=by unfold wrap64;omega
   by_cases hik:i≥a+m
   ·rw[if_pos hik]at hf;obtain⟨r,hr,hrest⟩:=Option.map_eq_some_iff.1 hf
    obtain⟨x,rest',rfl⟩:∃x rest',rest=x::rest':=by
     cases rest with
     |nil=>simp at hrest
     |cons x t=>exact⟨x,t,rfl⟩
    simp only[List.map_cons,List.cons.injEq]at hrest;obtain⟨hx,hrest⟩:=hrest;rw[hrest]at hr;have HRS:=af.mk hr;have HX:=af.mk hx;clear hr hrest hf hx
    gi_wp2_with (refine⟨trivial,?_⟩;gi_at_call 121;refine(callsIn_wide.2 (ru.calls 64 (b-a) m _ HM.out)).mono ?_;rintro e w2 ⟨rfl,hd⟩;have hB2:=av hB hd.below;have hJ2:J pre w2:=HJ.out _ wr _ none hJs (Dy hd.below none) (fun r e=>by cases e);have hT2:=aK hT hd.below;have hT3:=ay hT2 (.cells #[.bool true,.int .i64 (a+m),.int .i64 b] 146);have ci3:(w2.alloc (.cells #[.bool true,.int .i64 (a+m),.int .i64 b] 146)).cell? ⟨Bi,0,none⟩=some (.int .i64 i):=(ah hT3 0).trans rfl;have hJ4:J pre (w2.alloc (.cells #[.bool false,.int .i64 a,.int .i64 (a+m)] 146)):=HJ.out _ w2 _ none hJ2 (World.grownBy_alloc w2 _ none) (fun r e=>by cases e);have hB4:=ax hB2 (.cells #[.bool false,.int .i64 a,.int .i64 (a+m)] 146);have hT4:=ay hT2 (.cells #[.bool false,.int .i64 a,.int .i64 (a+m)] 146);obtain⟨fn,tmps,assign,body,hy,hR⟩:=HY.out pre x _ hJ4 (by rw[HP.out,List.length_append,List.length_cons];omega);rw[← HX.out]at hy;dsimp only[EC]at hy;clear hd)
    refine hR.mono ?_;rintro e W3 (⟨rfl,hJ5,hk5⟩|⟨rfl,hJx5⟩)
    ·gi_wp2
     go_roundw
     case rel=>exact⟨f,a+m,b,pre++[x],rest',rfl,rfl,by omega,by omega,by omega,HRS.out,by rw[HP.out];simp,hJ5,hB4.trans hk5.1,hk5.2 _ _ hT4⟩
     case measure=>simp[intOf];omega
    ·gi_wp2
     refine bodyPost_ret (results_none rfl _ _ _) rfl ?_;exact⟨⟨_,rfl⟩,.inr ⟨_,by rw[HP.out];simp,hJx5⟩⟩
   ·rw[if_neg hik]at hf;obtain⟨r,hr,hrest⟩:=Option.map_eq_some_iff.1 hf
    obtain⟨x,rest',rfl⟩:∃x rest',rest=x::rest':=by
     cases rest with
     |nil=>simp at hrest
     |cons x t=>exact⟨x,t,rfl⟩
    simp only[List.map_cons,List.cons.injEq]at hrest;obtain⟨hx,hrest⟩:=hrest;rw[hrest]at hr;have HRS:=af.mk hr;have HX:=af.mk hx;clear hr hrest hf hx
    gi_wp2_with (refine⟨trivial,?_⟩;gi_at_call 121;refine(callsIn_wide.2 (ru.calls 64 (b-a) m _ HM.out)).mono ?_;rintro e w2 ⟨rfl,hd⟩;have hB2:=av hB hd.below;have hJ2:J pre w2:=HJ.out _ wr _ none hJs (Dy hd.below none) (fun r e=>by cases e);have hT2:=aK hT hd.below;have hT3:=ay hT2 (.cells #[.bool true,.int .i64 (a+m),.int .i64 b] 146);have ci3:(w2.alloc (.cells #[.bool true,.int .i64 (a+m),.int .i64 b] 146)).cell? ⟨Bi,0,none⟩=some (.int .i64 i):=(ah hT3 0).trans rfl;have hJ4:J pre (w2.alloc (.cells #[.bool true,.int .i64 (a+m),.int .i64 b] 146)):=HJ.out _ w2 _ none hJ2 (World.grownBy_alloc w2 _ none) (fun r e=>by cases e);have hB4:=ax hB2 (.cells #[.bool true,.int .i64 (a+m),.int .i64 b] 146);have hT4:=ay hT2 (.cells #[.bool true,.int .i64 (a+m),.int .i64 b] 146);obtain⟨fn,tmps,assign,body,hy,hR⟩:=HY.out pre x _ hJ4 (by rw[HP.out,List.length_append,List.length_cons];omega);rw[← HX.out]at hy;dsimp only[EC]at hy;clear hd)
    refine hR.mono ?_;rintro e W3 (⟨rfl,hJ5,hk5⟩|⟨rfl,hJx5⟩)
    ·gi_wp2
     go_roundw
     case rel=>exact⟨f,a,a+m,pre++[x],rest',rfl,rfl,by omega,by omega,by omega,HRS.out,by rw[HP.out];simp,hJ5,hB4.trans hk5.1,hk5.2 _ _ hT4⟩
     case measure=>simp[intOf];omega
    ·gi_wp2
     refine bodyPost_ret (results_none rfl _ _ _) rfl ?_;exact⟨⟨_,rfl⟩,.inr ⟨_,by rw[HP.out];simp,hJx5⟩⟩
  ·rw[if_neg hgt]at hf
   have hr:rest=[]:=by
    have:=Option.some.inj hf
    cases rest with
    |nil=>rfl
    |cons x t=>simp at this
   subst hr;have HE:=af.mk (show steps=pre by rw[HP.out,List.append_nil]);clear hf
   gi_wp2
   go_end0
   first|exact⟨⟨_,rfl⟩,.inl (by rw[HE.out];exact hJs)⟩|exact⟨⟨_,rfl⟩,.inl ⟨_,rfl,by rw[HE.out];exact hJs⟩⟩
theorem wayStops{P:Way→Prop}(n:Nat)(hn:1≤n)(Bn Bi:Nat)(N i:Int)(hN:0≤N∧N≤1000000)(hi: -9223372036854775808≤i∧i≤9223372036854775807)(steps:List {x:Way//P x})(hst:zL 64 0 N i=some (steps.map (·.1)))(w0 w:World)(hb:Below w0.heap.size w0 w)
  (hBn:w.heap[Bn]? =some (.cells #[.int .i64 N] 3 (0,0))) (hBi:w.heap[Bi]? =some (.cells #[.int .i64 i] 3 (0,0))):
  SeqStopsK Fence.wide n Tryz.prog 120 #[.pointer (some ⟨Bn,0,none⟩),.pointer (some ⟨Bi,0,none⟩)] (fun x: {x:Way//P x}=>#[EC x.1]) (Kof w0.heap.size Bi)
   (fun ys=>ys=steps) (fun pre=>pre.length≤steps.length) steps.length w:=fun l J Jx W hW hJ _ hY h0=>
 wayRun n hn l Bn Bi N i hN hi steps hst w0 J Jx _ hJ hY W (hb.trans (hW.mono hb.size)) ((ah (aK hBn hW) 0).trans rfl) (aK hBi hW) h0
theorem wayCall(N i:Int)(w:World):
  Calls Tryz.prog 62 #[.int .i64 N,.int .i64 i] w fun e w'=>e=.returned (.func (.func 120) #[] #[.pointer (some ⟨w.heap.size,0,none⟩),.pointer (some ⟨w.heap.size+1,0,none⟩)])∧w'=(w.alloc (.cells #[.int .i64 N] 3)).alloc (.cells #[.int .i64 i] 3):=by
 have hmf:∀(fn:Fn) (first cap:Array Value) (w:World),(Instr.makeFunc fn first cap).run Tryz.prog w=.ok (.func fn first cap) w:=fun _ _ _ _=>rfl
 go_enter Tryz.func62,Tryz.ntmps62
 go_wp2
 go_ret
 exact⟨rfl,rfl⟩
end
end Go.Proofs.YtdcddenojjdmjaaGreatDoor.T
namespace Go
theorem aaQ{n:Nat}{P:Program}{row:String}{args:Array Value}{w:World}{R:Value→World→Prop}(l:Nat)(h:Rows P row args w R):RowsIn (Fence.wide.inRound l) n P row args w R:=fun c cs _=>by
 obtain⟨v,w',r,s⟩:=h c cs;exact⟨v,w',r,stepsIn_wide.2 s⟩
theorem Z6{n l:Nat}{P:Program}{o:Oper}{a:Act}{w:World}{K:Act→World→Prop}{Q:Exit→Act→World→Prop}(hd:∀c,o.op≠.defer c)(h:o.wp P a w K Q):o.wpIn (Fence.wide.inRound l) n P a w K Q:=by
 refine⟨fun _ _=>trivial,?_⟩;rw[show(Fence.wide.inRound l).round=some l from rfl,Oper.semAt_eq _ _ _ hd];unfold Oper.wp at h;revert h
 cases (execOp a.eval o).run P w with
 |ok x w'=>
  cases x
  case enter f args=>exact fun h=>⟨fun e=>(by cases e),CallsIn.inRound l (callsIn_wide.2 h)⟩
  case row r args=>exact fun h=>⟨fun e=>(by cases e),aaQ l h⟩
  all_goals first
   |exact id
   |exact fun h=>h.elim
 |halt x w'=>
  cases x
  all_goals first
   |exact id
   |exact fun h=>h.elim
theorem abp{n l:Nat}{P:Program}{ops:Array Oper}{Q:Exit→Act→World→Prop}{i:Nat}{K K':Act→World→Prop}{a:Act}{w:World}(hd:∀(i:Nat) (o:Oper),ops[i]? =some o→∀c,o.op≠Op.defer c)(hL:¬LetsOut Q)
  (hK:∀a w,K a w→K' a w) (h:wpOp P ops Q i K a w):wpOpIn (Fence.wide.inRound l) n P ops Q i K' a w:=by
 unfold wpOp at h;unfold wpOpIn
 cases ho:ops[i]? with
 |none=>rw[ho]at h;exact hK _ _ h
 |some o=>
  rw[ho]at h;dsimp only at h ⊢
  split
  ·rename_i hw
   rw[if_pos hw]at h
   rcases h with h|h
   ·exact Z6 (hd i o ho) (Oper.wp_mono hK h)
   ·exact absurd h.2 hL
  ·rename_i hw
   rw[if_neg hw]at h;exact⟨fun _ _=>trivial,hK _ _ h⟩
theorem XZ{n l:Nat}{P:Program}{md:Region.Mode}{ops:Array Oper}{Q:Exit→Act→World→Prop}(hd:∀(i:Nat) (o:Oper),ops[i]? =some o→∀c,o.op≠Op.defer c)(hL:¬LetsOut Q):
  ∀(fuel:Nat) (listed:Array Bool) (a:Act) (w:World),wpAny P md ops Q fuel listed a w→wpAnyIn (Fence.wide.inRound l) n P md ops Q fuel listed a w
 |0,_,_,_,h=>h
 |fuel+1,listed,a,w,h=>⟨h.1,fun i hi=>abp hd hL (XZ hd hL fuel _) (h.2 i hi)⟩
end Go
namespace Go.Proofs.YtdcddenojjdmjaaGreatDoorW.PrintLast
def Wi(ops:Array Oper):Bool:=ops.all fun o=>match o.op with|.defer _=>false|_=>true
theorem startIn_{P:Program}{ops:Array Oper}{Q:Exit→Act→World→Prop}{S:World→Prop}{ds:List Nat}{nf l:Nat}(hnd:Wi ops=true)(hL:¬LetsOut Q){id n:Nat}{a:Act}{w:World}(lb:Array Bool)(hm:P.follows .mixedOrders=true)(hn:ops.size=n)(hl:Array.replicate n false=lb)(hS:S w.drew)
  (h:S w.drew→gN P .any ops Q S ds n lb a w.drew):(Code.region id ops true).wpIn (Fence.wide.inRound l) nf P Q a w:=by
 subst hn;subst hl
 have hd:∀(i:Nat) (o:Oper),ops[i]? =some o→∀c,o.op≠Op.defer c:=fun i o ho c e=>by
  unfold Wi at hnd;rw[Array.all_eq_true]at hnd;obtain⟨hi,he⟩:=Array.getElem?_eq_some_iff.1 ho;have:=hnd i hi;rw[he,e]at this
  cases this
 exact wpIn_region_any hm (XZ hd hL _ _ _ _ (RJ _ _ _ _ (h hS)))
end Go.Proofs.YtdcddenojjdmjaaGreatDoorW.PrintLast
namespace Go.Proofs.YtdcddenojjdmjaaGreatDoor.T
open Go.RowKit Go.Proofs.YtdcddenojjdmjaaGreatDoorW.PrintWords Go.Proofs.YtdcddenojjdmjaaGreatDoorW.PrintLast Go.Proofs.YtdcddenojjdmjaaGreatDoorW.PrintMore
def iM(x:Int):List Int→List Int
 | []=>[x]
 |y::r=>if x<y then x::y::r else if x=y then y::r else y::iM x r
theorem vM(x t:Int):∀K,t ∈ iM x K↔t=x∨t ∈ K
 | []=>by simp[iM]
 |y::r=>by
  unfold iM
  by_cases h1:x<y
  ·simp[h1]
  ·by_cases h2:x=y
   ·subst h2;simp
   ·simp only[if_neg h1,if_neg h2,List.mem_cons,vM x t r];exact or_left_comm
theorem M6(x:Int):∀K:List Int,K.Pairwise (· < ·)→(iM x K).Pairwise (· < ·)
 | [],_=>by simp[iM]
 |y::r,h=>by
  unfold iM;have hy:=(List.pairwise_cons.1 h).1;have hr:=(List.pairwise_cons.1 h).2
  by_cases h1:x<y
  ·rw[if_pos h1]
   exact List.pairwise_cons.2 ⟨fun t ht=>by
    rcases List.mem_cons.1 ht with rfl|ht
    ·exact h1
    ·have:=hy _ ht;omega,h⟩
  ·by_cases h2:x=y
   ·rw[if_neg h1,if_pos h2];exact h
   ·rw[if_neg h1,if_neg h2]
    exact List.pairwise_cons.2 ⟨fun t ht=>by
     rcases(vM x t r).1 ht with rfl|ht
     ·omega
     ·exact hy _ ht,M6 x r hr⟩
theorem Vw(x:Int):∀K:List Int,K.Pairwise (· < ·)→(iM x K).length=if K.contains x then K.length else K.length+1
 | [],_=>by simp[iM]
 |y::r,h=>by
  unfold iM;have hr:=(List.pairwise_cons.1 h).2;have hy:=(List.pairwise_cons.1 h).1
  by_cases h1:x<y
  ·have hc:(y::r).contains x=false:=by
    rw[← Bool.not_eq_true,List.contains_iff_mem];intro hm
    rcases List.mem_cons.1 hm with rfl|hm
    ·omega
    ·have:=hy _ hm;omega
   rw[if_pos h1,hc];simp
  ·by_cases h2:x=y
   ·subst h2;simp
   ·rw[if_neg h1,if_neg h2,List.length_cons,Vw x r hr]
    have hc:(y::r).contains x=r.contains x:=by
     rw[Bool.eq_iff_iff,List.contains_iff_mem,List.contains_iff_mem,List.mem_cons];exact⟨fun h=>h.elim (fun e=>absurd e h2) id,.inr⟩
    rw[hc]
    split<;>simp
theorem Xx{K:List Int}(h:K.Pairwise (· < ·)):K.Nodup:=h.imp fun h=>by omega
def mE(v:Value):Option (DataW Value×List MemPlace):=some (.held v,[])
def eu(b:Nat)(K:List Int)(f:Int→Value)(w:World):Prop:=
 K.Pairwise (· < ·)∧(∀t ∈ K,(Lit.int .i64 t).wf=true)∧∃D:DataW Value,w.ownsMap Tryz.prog 3 mE b K.length D∧Maps.size D=K.length∧(∀t,Maps.has D (.int .i64 t)=K.contains t)∧∀t,t ∈ K→∀z,D.atKey (.int .i64 t) z=.held (f t)
def oz(f:Int→Value)(x:Int)(v:Value):Int→Value:=fun t=>if t=x then v else f t
theorem F4:Maps.Keyed Tryz.prog 3:=Maps.int_keyed Tryz.underlying3
theorem key3{t:Int}(h:(Lit.int .i64 t).wf=true):keyOf Tryz.prog 3 (.int .i64 t)=some (.int .i64 t):=Maps.keyOf_int_mk Tryz.underlying3 h
theorem WB{w:World}{P:Program}{k:TypeId}{R:Value→Option (DataW Value×List MemPlace)}{b n:Nat}{D:DataW Value}(h:w.ownsMap P k R b n D):w.ownsMap P k R b (Maps.size D) D:=by
 obtain⟨es,clock,hb,F,hs,rfl⟩:=h;exact⟨es,clock,hb,F,by simp[Maps.size,length_sorted],rfl⟩
namespace eu
variable {b:Nat}{K:List Int}{f:Int→Value}{w w':World}
theorem made(w:World)(f:Int→Value):eu w.heap.size [] f (w.alloc (.map #[] 0)):=
 ⟨List.Pairwise.nil,by simp,.map [],World.ownsMap_made _ _ _ _,rfl,fun t=>rfl,fun t h=>by cases h⟩
theorem kept{row:Option Nat}(h:eu b K f w)(hg:w.grownBy w' row)(hne:some b≠row):eu b K f w':=by
 obtain⟨h1,h2,D,h3,h4⟩:=h;exact⟨h1,h2,D,h3.kept hg hne,h4⟩
theorem alloc(h:eu b K f w)(o:Obj):eu b K f (w.alloc o):=h.kept (World.grownBy_alloc w o none) (by simp)
theorem drew(h:eu b K f w):eu b K f w.drew:=h
theorem drewN(h:eu b K f w)(n:Nat):eu b K f (w.drewN n):=h
theorem lt(h:eu b K f w):b<w.heap.size:=by obtain⟨_,_,D,h3,_⟩:=h;exact h3.lt
theorem below(h:eu b K f w)(hb:Below w.heap.size w w'):eu b K f w':=by
 have hlt:=h.lt;obtain⟨h1,h2,D,⟨es,clock,hbk,F,hs,hD⟩,h4⟩:=h;exact⟨h1,h2,D,⟨es,clock,(hb.block b hlt).trans hbk,F,hs,hD⟩,h4⟩
theorem congr{f':Int→Value}(h:eu b K f w)(hf:∀t ∈ K,f t=f' t):eu b K f' w:=by
 obtain⟨h1,h2,D,h3,h4,h5,h6⟩:=h;exact⟨h1,h2,D,h3,h4,h5,fun t ht z=>by rw[← hf t ht];exact h6 t ht z⟩
theorem look(h:eu b K f w){t e:TypeId}(ht:Tryz.prog.underlying t=some (.map 3 e)){z:Value}(hz:(zeroValue e).run Tryz.prog w=.ok z w){x:Int}(hx:(Lit.int .i64 x).wf=true):
  (Instr.lookup t (.map (some b)) (.int .i64 x) false).run Tryz.prog w=.ok (if K.contains x then f x else z) w:=by
 obtain⟨h1,h2,D,h3,h4,h5,h6⟩:=h;obtain⟨v,ps,hrun,hv⟩:=h3.lookup F4 ht hz (R:=mE) (zd:=.held z) (zp:=[]) rfl (key3 hx);have e1:DataW.held v=D.atKey (.int .i64 x) (.held z):=congrArg Prod.fst (Option.some.inj hv)
 have e2:v=if K.contains x then f x else z:=by
  cases hc:K.contains x with
  |true=>
   rw[h6 x (List.contains_iff_mem.1 hc)]at e1;injection e1
  |false=>
   rw[Maps.atKey_of_not_has ((h5 x).trans hc)]at e1;injection e1
 exact hrun.trans (congrArg (fun y=>Result.ok y w) e2)
theorem store(h:eu b K f w){t e:TypeId}(ht:Tryz.prog.underlying t=some (.map 3 e))(hn:K.length<maxLen){x:Int}(hx:(Lit.int .i64 x).wf=true)(v:Value):
  ∃w',(Instr.mapUpdate t (.map (some b)) (.int .i64 x) v).run Tryz.prog w=.ok () w'∧eu b (iM x K) (oz f x v) w'∧w.grownBy w' (some b):=by
 obtain⟨h1,h2,D,h3,h4,h5,h6⟩:=h;obtain⟨w',hrun,hown,hg⟩:=h3.update F4 ht hn (R:=mE) (key3 hx) (val:=v) (d:=.held v) (ps:=[]) rfl;have hk:WideAt.IsKeyLit (.int .i64 x):=trivial
 have hsz:Maps.size (D.put (.int .i64 x) (.held v))=(iM x K).length:=by
  rw[Maps.size_put (h3.tidy F4),Vw x K h1,h5,h4]
 refine⟨w',hrun,⟨M6 x K h1,fun t ht=>?_,_,hsz▸WB hown,hsz,fun t=>?_,fun t ht z=>?_⟩,hg⟩
 ·rcases(vM x t K).1 ht with rfl|ht
  ·exact hx
  ·exact h2 t ht
 ·by_cases e:t=x
  ·subst e;rw[Maps.has_put_same h3.isMap hk];exact(List.contains_iff_mem.2 ((vM t t K).2 (.inl rfl))).symm
  ·rw[Maps.has_put_other (by intro e';injection e' with _ e';exact e e'),h5];rw[Bool.eq_iff_iff,List.contains_iff_mem,List.contains_iff_mem,vM];exact⟨.inr,fun h=>h.elim (fun e'=>absurd e' e) id⟩
 ·by_cases e:t=x
  ·subst e;rw[Maps.atKey_put_same h3.isMap hk];simp[oz]
  ·rw[Maps.atKey_put_other (by intro e';injection e' with _ e';exact e e')];rw[h6 t (((vM x t K).1 ht).elim (fun e'=>absurd e' e) id)];simp[oz,e]
theorem len(h:eu b K f w){t e:TypeId}(ht:Tryz.prog.underlying t=some (.map 3 e))(ty:TypeId):(Builtin.len_ #[t] ty #[.map (some b)]).run Tryz.prog w=.ok (.int .i64 K.length) w:=by
 obtain⟨h1,h2,D,h3,h4,h5,h6⟩:=h;rw[h3.len ht ty,h4]
theorem drop(h:eu b K f w){t e:TypeId}(ht:Tryz.prog.underlying t=some (.map 3 e)){x:Int}(hx:(Lit.int .i64 x).wf=true)(ty:TypeId):
  ∃w',(Builtin.delete_ #[t,3] ty #[.map (some b),.int .i64 x]).run Tryz.prog w=.ok (.tuple #[]) w'∧eu b (K.erase x) f w'∧w.grownBy w' (some b):=by
 obtain⟨h1,h2,D,h3,h4,h5,h6⟩:=h;obtain⟨w',hrun,hown,hg⟩:=h3.drop F4 ht (key3 hx) ty;have hnd:=Xx h1
 have hsz:Maps.size (D.del (.int .i64 x))=(K.erase x).length:=by
  have hs:=Maps.size_del (k:=.int .i64 x) (h3.tidy F4);rw[h5,h4]at hs;rw[List.length_erase]
  by_cases hm:x ∈ K
  ·rw[if_pos (List.contains_iff_mem.2 hm)]at hs;rw[if_pos hm];omega
  ·rw[if_neg (by rw[List.contains_iff_mem];exact hm)]at hs;rw[if_neg hm];omega
 refine⟨w',hrun,⟨h1.sublist List.erase_sublist,fun t ht=>h2 t (List.mem_of_mem_erase ht),_,hsz▸WB hown,hsz,fun t=>?_,fun t ht z=>?_⟩,hg.grown⟩
 ·by_cases e:t=x
  ·subst e;rw[Maps.has_del_same]
   symm
   rw[← Bool.not_eq_true,List.contains_iff_mem];exact fun hm=>((List.Nodup.mem_erase_iff hnd).1 hm).1 rfl
  ·rw[Maps.has_del_other (by intro e';injection e' with _ e';exact e e'),h5];rw[Bool.eq_iff_iff,List.contains_iff_mem,List.contains_iff_mem,List.Nodup.mem_erase_iff hnd];exact⟨fun h=>⟨e,h⟩,fun h=>h.2⟩
 ·have hh:=(List.Nodup.mem_erase_iff hnd).1 ht;rw[Maps.atKey_del_other (by intro e';injection e' with _ e';exact hh.1 e')];exact h6 t hh.2 z
end eu
section
variable {ops:Array Oper}{rest:List Oper}{o:Oper}{a:Act}{Q:Exit→Act→World→Prop}
theorem Gt(w:World)(hg:o.guard=none)(m x v:Operand)(t e:TypeId)(hop:o.op=Op.mapUpdate t m x v)(ht:Tryz.prog.underlying t=some (.map 3 e))(b:Nat)(K:List Int)(f:Int→Value)
  (hm:a.eval m=.map (some b)) (h:eu b K f w) (hn:K.length<maxLen) (y:Int) (val:Value) (hx:a.eval x=.int .i64 y) (hv:a.eval v=val) (hy:(Lit.int .i64 y).wf=true)
  (hK:∀w',eu b (iM y K) (oz f y val) w'→w.grownBy w' (some b)→wpList Tryz.prog ops Q rest (a.put o.dst undef) w'):
  wpList Tryz.prog ops Q (o::rest) a w:=by
 refine wpList_plain hg fun K' hK'=>?_
 obtain⟨w',hrun,r1,r2⟩:=h.store ht hn hy val;unfold Oper.wp;simp[execOp,hop,hm,hx,hv,hrun,Result.andThen];exact hK' _ _ (hK w' r1 r2)
theorem abq(w:World)(hg:o.guard=none)(m x:Operand)(t e:TypeId)(hop:o.op=Op.call {callee:=Callee.builtin Builtin.delete,args:=#[m,x],argTypes:=#[t,3]})(ht:Tryz.prog.underlying t=some (.map 3 e))(b:Nat)(K:List Int)(f:Int→Value)
  (hm:a.eval m=.map (some b)) (h:eu b K f w) (y:Int) (hx:a.eval x=.int .i64 y) (hy:(Lit.int .i64 y).wf=true)
  (hK:∀w',eu b (K.erase y) f w'→w.grownBy w' (some b)→wpList Tryz.prog ops Q rest (a.put o.dst (.tuple #[])) w'):
  wpList Tryz.prog ops Q (o::rest) a w:=by
 refine wpList_plain hg fun K' hK'=>?_
 obtain⟨w',hrun,r1,r2⟩:=h.drop ht hy o.type;unfold Oper.wp;simp[execOp,hop,resolve,invoke,builtin,hm,hx,hrun,Result.andThen];exact hK' _ _ (hK w' r1 r2)
theorem RL(w:World)(hg:o.guard=none)(m x:Operand)(t e:TypeId)(hop:o.op=Op.lookup t m x false)(ht:Tryz.prog.underlying t=some (.map 3 e)){z:Value}(hz:(zeroValue e).run Tryz.prog w=.ok z w)(b:Nat)(K:List Int)(f:Int→Value)
  (hm:a.eval m=.map (some b)) (h:eu b K f w) (y:Int) (hx:a.eval x=.int .i64 y) (hy:(Lit.int .i64 y).wf=true)
  (hK:wpList Tryz.prog ops Q rest (a.put o.dst (if K.contains y then f y else z)) w):
  wpList Tryz.prog ops Q (o::rest) a w:=by
 refine wpList_plain hg fun K' hK'=>?_
 unfold Oper.wp;simp only[execOp,hop,hm,hx];have hl:=h.look ht hz hy;revert hK hl;generalize (if K.contains y then f y else z)=v;intro hK hl;simp[hl,Result.andThen];exact hK' _ _ hK
end
end Go.Proofs.YtdcddenojjdmjaaGreatDoor.T
