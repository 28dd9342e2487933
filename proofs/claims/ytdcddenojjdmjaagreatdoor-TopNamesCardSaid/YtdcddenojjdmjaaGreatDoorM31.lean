import Derived.Test.YtdcddenojjdmjaaGreatDoorM29
import Derived.Test.YtdcddenojjdmjaaGreatDoorM30
set_option linter.all false
set_option maxHeartbeats 8000000
set_option maxRecDepth 100000
namespace Go.Proofs.YtdcddenojjdmjaaGreatDoor.T
open Go.RowKit Go.Proofs.YtdcddenojjdmjaaGreatDoorW.PrintWords Go.Proofs.YtdcddenojjdmjaaGreatDoorW.PrintLast Go.Proofs.YtdcddenojjdmjaaGreatDoorW.PrintMore
def mq(h:List aj)(V:List Int)(n:Nat):List aN:=(List.range (n-1)).flatMap fun m=>ni h 1 (V.getD m 0).toNat (V.getD (m+1) 0).toNat
def uy(h:List aj)(V:List Int)(i:Nat)(n:Int):List aN:=
 if n<0∧¬(uG h i).toList=[]then[]else(if n≥0 then ni h 2 (V.getD n.toNat 0).toNat i else[])++(if n+1<V.length then ni h 3 i (V.getD (n+1).toNat 0).toNat else[])
def ofRow(h:List aj)(key:ByteArray)(V:List Int)(i:Nat):List aN:=
 if((h.getD i z67).f2.toList==key.toList)&&(iE.f h i).getD false then uy h V i (idx (oJ h i) V)else[]
def uw(h:List aj)(key:ByteArray)(V:List Int)(n:Nat):List aN:=(List.range n).flatMap (ofRow h key V)
def ofL(h:List aj)(key:ByteArray)(V:List Int):List aN:=mq h V V.length++uw h key V h.length
def F9(h:List aj)(V:List Int):Bool:=decide (h.length≤100000∧V.length≤100000)&&(V.all (fun i=>decide (0≤i∧i<h.length))&&(List.range h.length).all fun i=>(iE.f h i).isSome)
def xW.f(k:Nat)(l0:List aj)(a1:ByteArray):Option (List aN):=(zw.f k l0 a1).bind fun V=>if F9 l0 V then some (ofL l0 a1 V)else none
theorem Nl(h:List aj)(kind:Int)(i k:Nat):(ni h kind i k).length≤1:=by unfold ni;split<;>simp
theorem Wn(h:List aj)(V:List Int)(n:Nat)(hn:1≤n):mq h V (n+1)=mq h V n++ni h 1 (V.getD (n-1) 0).toNat (V.getD n 0).toNat:=by
 unfold mq;obtain⟨m,rfl⟩:∃m,n=m+1:=⟨n-1,by omega⟩;simp only[Nat.add_sub_cancel];rw[List.range_succ,List.flatMap_append];simp
theorem QX(h:List aj)(V:List Int):∀n,(mq h V n).length≤n
 |0=>by simp[mq]
 |1=>by simp[mq]
 |n+2=>by
  rw[Wn h V (n+1) (by omega),List.length_append];have:=QX h V (n+1);have:=Nl h 1 (V.getD (n+1-1) 0).toNat (V.getD (n+1) 0).toNat;omega
theorem Z5(h:List aj)(V:List Int)(i:Nat)(n:Int):(uy h V i n).length≤2:=by
 unfold uy
 split
 ·simp
 ·rw[List.length_append];have h1:=Nl h 2 (V.getD n.toNat 0).toNat i;have h2:=Nl h 3 i (V.getD (n+1).toNat 0).toNat
  split<;>split<;>(try simp only[List.length_nil])<;>omega
theorem Z4(h:List aj)(key:ByteArray)(V:List Int)(i:Nat):(ofRow h key V i).length≤2:=by
 unfold ofRow
 split
 ·exact Z5 h V i _
 ·simp
theorem Wq(h:List aj)(key:ByteArray)(V:List Int)(n:Nat):uw h key V (n+1)=uw h key V n++ofRow h key V n:=by
 unfold uw;rw[List.range_succ,List.flatMap_append];simp
theorem Wp(h:List aj)(key:ByteArray)(V:List Int):∀n,(uw h key V n).length≤2*n
 |0=>by simp[uw]
 |n+1=>by
  rw[Wq,List.length_append];have:=Wp h key V n;have:=Z4 h key V n;omega
def Of.K(w:World)(A:Option Addr)(n c:Nat)(A7:Option Addr)(c7:Nat)(V:List Int)(out:List aN)(W:World):Prop:=
 OfIn w w.heap.size (w.heap.size+1) A n c out W∧Kd.R (Kd.int .i64) 3 W w.heap.size (fun _=>True) (.slice A7 V.length c7) V
def Of.At1(w:World)(h:List aj)(A:Option Addr)(c:Nat)(A7:Option Addr)(c7:Nat)(V:List Int)(v8:Value)(wr:World):Prop:=
 ∃n:Nat,1≤n∧(n≤V.length∨n=1)∧v8=.int .i64 n∧Of.K w A h.length c A7 c7 V (mq h V n) wr
def Of.At2(w:World)(h:List aj)(key:ByteArray)(A:Option Addr)(c:Nat)(A7:Option Addr)(c7:Nat)(V:List Int)(v34:Value)(wr:World):Prop:=
 ∃i:Nat,i≤h.length∧v34=.int .i64 i∧Of.K w A h.length c A7 c7 V (mq h V V.length++uw h key V i) wr
theorem Of.K.below{w:World}{A:Option Addr}{n c:Nat}{A7:Option Addr}{c7:Nat}{V:List Int}{out:List aN}{W W':World}(h:Of.K w A n c A7 c7 V out W)(hb:Below W.heap.size W W'):Of.K w A n c A7 c7 V out W':=by
 obtain⟨⟨h1,h2,h3,v,h4,h5⟩,h6⟩:=h;exact⟨⟨aK h1 hb,h2,av h3 hb,v,aK h4 hb,Kd.gD h5 hb⟩,Kd.gD h6 hb⟩
theorem Of.K.put{w:World}{A:Option Addr}{n c:Nat}{A7:Option Addr}{c7:Nat}{V:List Int}{out out':List aN}{W W':World}(h:Of.K w A n c A7 c7 V out W)(hI:OfIn w w.heap.size (w.heap.size+1) A n c out' W')(hk:EW (w.heap.size+1) W W'):Of.K w A n c A7 c7 V out' W':=by
 obtain⟨⟨h1,h2,h3,v,h4,h5⟩,h6⟩:=h;exact⟨hI,hk.R h6 (by decide) ⟨_,_,h4⟩⟩
theorem xW.calls(k:Nat)(A0:Option Addr)(c0:Nat)(l0:List aj)(a1:ByteArray)(r:List aN)(w:World)(hr0:Kd.C dw w A0 l0.length l0)(hc0:l0.length≤c0)(h:xW.f k l0 a1=some r):
  Calls Tryz.prog 100 #[.slice A0 l0.length c0,.string a1] w fun e w'=>∃fE:Value,e=.returned (fE)∧Kd.R fZ 136 w' w.heap.size (fun _=>True) fE r∧Below w.heap.size w w':=by
 unfold xW.f at h;obtain⟨V,hV,h⟩:=Option.bind_eq_some_iff.1 h
 split at h
 case isFalse=>cases h
 rename_i hok
 cases h
 obtain⟨h1,h2⟩:=Bool.and_eq_true_iff.1 hok;obtain⟨h2,h3⟩:=Bool.and_eq_true_iff.1 h2;obtain⟨hmax,hvm⟩:=of_decide_eq_true h1;have HVI:=af.mk (show ∀x ∈ V,0≤x∧x<l0.length from fun x hx=>of_decide_eq_true (List.all_eq_true.1 h2 x hx));have HOU:=af.mk (show ∀i,i<l0.length→∃b,iE.f l0 i=some b from fun i hi=>Option.isSome_iff_exists.1 (List.all_eq_true.1 h3 i (List.mem_range.2 hi)));have HV:=af.mk hV;have HR:=af.mk hr0;have hmf:∀(fn:Fn) (first cap:Array Value) (w:World),(Instr.makeFunc fn first cap).run Tryz.prog w=.ok (.func fn first cap) w:=fun _ _ _ _=>rfl
 clear hr0 hV hok h1 h2 h3 h;have b0:=ay (bI w (.cells #[.slice A0 l0.length c0] 22)) (.cells #[.slice none 0 0] 30);have b1:=bI (w.alloc (.cells #[.slice A0 l0.length c0] 22)) (.cells #[.slice none 0 0] 30);rw[show(w.alloc (.cells #[.slice A0 l0.length c0] 22)).heap.size=w.heap.size+1 by simp]at b1;have HB0:=af.mk (And.intro b0 (And.intro b1 (ax (ax (Below.refl w.heap.size w) (.cells #[.slice A0 l0.length c0] 22)) (.cells #[.slice none 0 0] 30))));clear b0 b1
 go_enter Tryz.func100,Tryz.ntmps100
 go_wp2_with (go_at_call 153;refine(zw.calls k A0 c0 l0 a1 V _ (Kd.dN HR.out HB0.out.2.2) hc0 HV.out).mono ?_;rintro e w2 ⟨v7,rfl,ho,hb⟩;obtain⟨A7,c7,rfl⟩:=Kd.fH ho;have HO:=af.mk ho;have HB:=af.mk hb;clear ho hb)
 have H0:=af.mk (show Of.At1 w l0 A0 c0 A7 c7 V (.int .i64 1) w2 from⟨1,Nat.le_refl _,.inr rfl,rfl,⟨aK HB0.out.1 HB.out,Nat.le_succ _,av HB0.out.2.2 HB.out,_,aK HB0.out.2.1 HB.out,Kd.dV _ _ _ _ _⟩,Kd.gU HO.out HB0.out.2.2.size⟩);clear HO HB HB0
 go_loopw [8] (fun v8 wr=>Of.At1 w l0 A0 c0 A7 c7 V v8 wr) (fun v8 _=>V.length-(intOf v8).toNat)
 case atStart=>exact H0.out
 case round=>
  obtain⟨n,hn1,hn2,rfl,hK⟩:=hrel;clear H0;have HK:=af.mk hK;clear hK
  by_cases hlt:n<V.length
  ·obtain⟨m,rfl⟩:∃m,n=m+1:=⟨n-1,by omega⟩;obtain⟨ad,hA,qx⟩:=wP (Kd.dB HK.out.2).2.2 (show m<V.length by omega) (pR (Below.refl _ _))
   cases hA
   obtain⟨ad',hA,qy⟩:=wP (Kd.dB HK.out.2).2.2 hlt (pR (Below.refl _ _))
   cases hA
   have hxm:=HVI.out _ (List.getElem_mem (show m<V.length by omega));have hym:=HVI.out _ (List.getElem_mem hlt);obtain⟨x,hx⟩:∃x:Nat,V[m]'(by omega)=(x:Int):=⟨(V[m]'(by omega)).toNat,by omega⟩;obtain⟨y,hy⟩:∃y:Nat,V[m+1]'hlt=(y:Int):=⟨(V[m+1]'hlt).toNat,by omega⟩;rw[hx]at qx hxm;rw[hy]at qy hym;have HXY:=af.mk (show x<l0.length∧y<l0.length by omega)
   have HPS:=af.mk (show mq l0 V (m+1+1)=mq l0 V (m+1)++ni l0 1 x y by
    rw[Wn l0 V (m+1) (by omega),Nat.add_sub_cancel];simp only[List.getD_eq_getElem?_getD,List.getElem?_eq_getElem (show m<V.length by omega),List.getElem?_eq_getElem hlt,Option.getD_some,hx,hy,Int.toNat_natCast])
   have rD:=af.mk (show((mq l0 V (m+1)).length+1)*40≤140737488355328 by have:=QX l0 V (m+1);omega);have nG:=af.mk (HK.out.below (pR (Below.refl _ _)));have HML:=af.mk (show m+1<V.length from hlt);have em:wrap64 (m:Int)=m:=by unfold wrap64;omega
   have em0:(0:Int)≤(m:Int):=by omega
   have em1:(m:Int)<V.length:=by omega
   have em2:(0:Int)≤(m:Int)+1:=by omega
   have em3:(m:Int)+1<V.length:=by omega
   clear hxm hym hx hy
   go_wp2_with fail
   refine gZ (n:=11) (S:=fun w'=>w'.cell? (ad.add m)=some (.int .i64 (x:Int))∧w'.cell? ⟨ad.block,ad.off+(m+1),none⟩=some (.int .i64 (y:Int))) (ds:=[10]) #[false,false,false,false,false,false,false,false,false,false,false] (by kernel_rfl) rfl rfl ⟨qx,qy⟩ (fun hHeld=>?_);refine au 0 21 ?_;refine au 1 22 ?_;refine au 2 23 ?_;refine au 3 24 ?_;refine au 4 25 ?_;refine au 6 27 ?_;refine au 7 28 ?_;refine au 8 29 ?_;refine bU 5 26 hHeld (by rintro w' ⟨s0,s1⟩;go_simp;with_reducible rfl) ?_ rfl rfl;refine bU 9 30 hHeld (by rintro w' ⟨s0,s1⟩;go_simp;with_reducible rfl) ?_ rfl rfl;refine iN (i:=10) (N:=some 31) #[true,true,true,true,true,true,true,true,true,true,true] rfl rfl (by kernel_rfl) (by decide) (fun K hK=>?_);refine BQ Tryz.func152 (by kernel_rfl) rfl (cap:=#[.pointer (some ⟨w.heap.size,0,none⟩),.pointer (some ⟨w.heap.size+1,0,none⟩)]) #[.int .i64 1,.int .i64 (x:Int),.int .i64 (y:Int)] (by rfl) rfl rfl (by rfl) (by simp only[List.map_toArray,List.map_cons,List.map_nil];rfl) (by rfl) ?_;refine(Kz 1 x y w.heap.size (w.heap.size+1) c0 A0 l0 (mq l0 V (m+1)) w _ HR.out HXY.out.1 HXY.out.2 nG.out.1 rD.out).mono ?_;rintro e w3 ⟨rfl,hi3,hk3⟩;have gq:=af.mk (nG.out.put hi3 hk3);clear hi3 hk3;refine⟨_,rfl,?_⟩;refine hK.out _ _ ?_;clear hK K;refine dM ?_;refine gJ ?_;have HK3':=af.mk (show Of.K w A0 l0.length c0 (some ad) c7 V (mq l0 V (m+1+1)) w3 by rw[HPS.out];exact gq.out);clear gq
   go_wp2_with fail
   go_roundw
   case rel=>exact⟨m+1+1,by omega,.inl (by have:=HML.out;omega),by go_num,HK3'.out⟩
   case measure=>have:=HML.out;simp[intOf];omega
  ·have HPE:=af.mk (show mq l0 V n=mq l0 V V.length by
    rcases hn2 with h|h
    ·rw[show n=V.length by omega]
    ·subst h;have:V.length=0∨V.length=1:=by omega
     rcases this with e|e<;>rw[e]<;>rfl)
   have ch:wr.cell? ⟨w.heap.size,0,none⟩=some (.slice A0 l0.length c0):=(ah HK.out.1.1 0).trans rfl
   go_wp2_with fail
   have H1:=af.mk (show Of.At2 w l0 a1 A0 c0 A7 c7 V (.int .i64 0) wr from⟨0,Nat.zero_le _,rfl,by rw[← HPE.out];simpa [uw]using HK.out⟩);clear HK HPE hn1 hn2 hlt ch
   go_loopw [34] (fun v34 wr=>Of.At2 w l0 a1 A0 c0 A7 c7 V v34 wr) (fun v34 _=>l0.length-(intOf v34).toNat)
   case atStart=>exact H1.out
   case round=>
    obtain⟨i,hi,rfl,hK⟩:=hrel;clear H1;have HK:=af.mk hK;clear hK
    by_cases hlt:i<l0.length
    ·have rE:=af.mk (HK.out.below (ax (Below.refl wr.heap.size wr) (.cells #[.int .i64 (i:Int)] 3)));have ki:=bI wr (.cells #[.int .i64 (i:Int)] 3);obtain⟨ad,hA,_,_,x2,x3⟩:=pW HR.out hlt rE.out.1.2.2.1;subst hA;have ch:(wr.alloc (.cells #[.int .i64 (i:Int)] 3)).cell? ⟨w.heap.size,0,none⟩=some (.slice (some ad) l0.length c0):=(ah rE.out.1.1 0).trans rfl;have ci:(wr.alloc (.cells #[.int .i64 (i:Int)] 3)).cell? ⟨wr.heap.size,0,none⟩=some (.int .i64 (i:Int)):=(ah ki 0).trans rfl;have eg:l0.getD i z67=l0[i]'hlt:=by simp[List.getD_eq_getElem?_getD,List.getElem?_eq_getElem hlt]
     have HRW:=af.mk (show ofRow l0 a1 V i=if((l0[i]'hlt).f2.toList==a1.toList)&&(iE.f l0 i).getD false then uy l0 V i (idx (oJ l0 i) V)else[] by
      unfold ofRow;rw[eg])
     have HVA:=af.mk (show uG l0 i=(l0[i]'hlt).f3 by rw[uG,eg]);obtain⟨k2,hk2⟩:∃k2,k2=(l0[i]'hlt).f2:=⟨_,rfl⟩;rw[← hk2]at x2 HRW;obtain⟨k3,hk3⟩:∃k3,k3=(l0[i]'hlt).f3:=⟨_,rfl⟩;rw[← hk3]at x3 HVA
     have HPL:=af.mk (show(mq l0 V V.length++uw l0 a1 V i).length≤300000 by
      have:=QX l0 V V.length;have:=Wp l0 a1 V i;rw[List.length_append];omega)
     have HPU:∀e,ofRow l0 a1 V i=e→mq l0 V V.length++uw l0 a1 V (i+1)=(mq l0 V V.length++uw l0 a1 V i)++e:=fun e h=>by rw[Wq,← List.append_assoc,h]
     obtain⟨pre,hpre⟩:∃pre,pre=mq l0 V V.length++uw l0 a1 V i:=⟨_,rfl⟩;rw[← hpre]at HPL rE;have HAT:=af.mk (show ∀e W,ofRow l0 a1 V i=e→Of.K w (some ad) l0.length c0 A7 c7 V (pre++e) W→Of.At2 w l0 a1 (some ad) c0 A7 c7 V (.int .i64 ((i:Int)+1)) W from fun e W h hK=>⟨i+1,by omega,by go_num,by rw[HPU e h,← hpre];exact hK⟩);have tO:=af.mk (show wr.heap.size≠w.heap.size+1 by have:=HK.out.1.2.2.2;obtain⟨v,hv,_⟩:=this;have:=iB hv;omega);have rF:=af.mk hlt;clear HPU hpre HK
     have Ht:=af.mk (show ∀W3,Of.K w (some ad) l0.length c0 A7 c7 V pre W3→W3.heap[wr.heap.size]? =some (.cells #[.int .i64 (i:Int)] 3 (0,0))→∀x W',x ∈ V→Below W3.heap.size W3 W'→
       Calls Tryz.prog 156 (#[.int .i64 x]++#[.pointer (some ⟨w.heap.size,0,none⟩),.pointer (some ⟨wr.heap.size,0,none⟩)]) W' fun e W''=>e=.returned (.bool (oJ l0 i x))∧Below W'.heap.size W' W'' from fun W3 h3 k3 x W' hx hb=>by
      obtain⟨h0,h1⟩:=HVI.out x hx;obtain⟨k,rfl⟩:∃k:Nat,x=(k:Int):=⟨x.toNat,by omega⟩;exact ofSaw k i w.heap.size wr.heap.size c0 (some ad) l0 w W' HR.out hlt (by omega) (av h3.1.2.2.1 hb) (aK h3.1.1 hb) (aK k3 hb))
     obtain⟨r,hr⟩:=HOU.out i hlt;have HRR:=af.mk hr;have HKI:=af.mk ki;rw[hr]at HRW;clear hk2 hk3 eg ki hr;have pK:=af.mk (show ∀W,Of.K w (some ad) l0.length c0 A7 c7 V pre W→Kd.C (Kd.int .i64) W A7 V.length V∧V.length≤c7 from fun W h=>⟨(Kd.dB h.2).2.2,(Kd.dB h.2).2.1⟩)
     cases hkey:(k2.toList==a1.toList)with
     |false=>
      have HE:=af.mk (show ofRow l0 a1 V i=[] by rw[HRW.out,hkey];rfl)
      go_wp2_with fail
      go_roundw
      case rel=>exact HAT.out _ _ HE.out (by rw[List.append_nil];exact rE.out)
      case measure=>simp[intOf];omega
     |true=>
      rw[hkey]at HRW
      cases r with
      |false=>
       have HE:=af.mk (show ofRow l0 a1 V i=[] by rw[HRW.out];rfl)
       go_wp2_with (go_at_call 154;refine(iE.calls (some ad) c0 l0 i false _ (Kd.dN HR.out rE.out.1.2.2.1) hc0 HRR.out).mono ?_;rintro e w3 ⟨rfl,hb3⟩;have gq:=af.mk (rE.out.below hb3);clear hb3)
       go_roundw
       case rel=>exact HAT.out _ _ HE.out (by rw[List.append_nil];exact gq.out)
       case measure=>simp[intOf];omega
      |true=>
       have HE:=af.mk (show ofRow l0 a1 V i=uy l0 V i (idx (oJ l0 i) V) by rw[HRW.out];rfl)
       have hix:idx (oJ l0 i) V= -1∨∃n:Nat,n<V.length∧idx (oJ l0 i) V=(n:Int):=by
        cases ha:V.any (oJ l0 i)with
        |false=>exact .inl (AZ _ _ fun j hj=>by simpa using List.any_eq_false.1 ha _ (List.getElem_mem hj))
        |true=>obtain⟨n,hn,h,_⟩:=QD ha;exact .inr ⟨n,hn,h⟩
       rcases hix with hix|⟨n,hn,hix⟩
       ·rw[hix]at HE;have HIX:=af.mk hix;clear hix
        cases hke:k3.toList.isEmpty with
        |false=>
         have HE':=af.mk (show ofRow l0 a1 V i=[] by rw[HE.out];unfold uy;rw[if_pos ⟨by decide,by rw[HVA.out];intro e;rw[e]at hke;cases hke⟩])
         go_wp2_with (first
          |(go_at_call 154;refine(iE.calls (some ad) c0 l0 i true _ (Kd.dN HR.out rE.out.1.2.2.1) hc0 HRR.out).mono ?_;rintro e w3 ⟨rfl,hb3⟩;have gq:=af.mk (rE.out.below hb3);have HI3:=af.mk (aK HKI.out hb3);have oO:=af.mk (aI hb3 x3);clear hb3)
          |(go_at_call 155;refine(Cj 156 #[.pointer (some ⟨w.heap.size,0,none⟩),.pointer (some ⟨wr.heap.size,0,none⟩)] (mO Tryz.func156 (by kernel_rfl) rfl) A7 c7 V (oJ l0 i) _ (pK.out _ gq.out).1 (pK.out _ gq.out).2 (Ht.out _ gq.out HI3.out)).mono ?_;rw[HIX.out];rintro e w4 ⟨rfl,hb4⟩;have gH:=af.mk (gq.out.below hb4);have HI4:=af.mk (aK HI3.out hb4);have ch4:w4.cell? ⟨w.heap.size,0,none⟩=some (.slice (some ad) l0.length c0):=(ah gH.out.1.1 0).trans rfl;have ci4:w4.cell? ⟨wr.heap.size,0,none⟩=some (.int .i64 (i:Int)):=(ah HI4.out 0).trans rfl;have cx4:=aI hb4 oO.out;clear hb4))
         go_roundw
         case rel=>exact HAT.out _ _ HE'.out (by rw[List.append_nil];exact gH.out)
         case measure=>simp[intOf];omega
        |true=>
         have HKE:=af.mk (show k3.toList=[]from List.isEmpty_iff.1 hke)
         by_cases h1:0<V.length
         ·obtain⟨y,hy⟩:∃y:Nat,V[0]'h1=(y:Int):=⟨(V[0]'h1).toNat,by have:=(HVI.out _ (List.getElem_mem h1)).1;omega⟩;have HY:=af.mk (show i<l0.length∧y<l0.length from⟨rF.out,by have:=(HVI.out _ (List.getElem_mem h1)).2;omega⟩);have HYV:=af.mk hy;have eY:V.getD (0) 0=(y:Int):=by rw[List.getD_eq_getElem?_getD,List.getElem?_eq_getElem h1,Option.getD_some,hy]
          clear hy;have ew:wrap64 0=0:=by unfold wrap64;omega
          have hp1:(0:Int)<V.length:=by omega
          have HE':=af.mk (show ofRow l0 a1 V i=ni l0 3 i y by
           rw[HE.out];unfold uy;rw[if_neg (fun h=>h.2 (by rw[HVA.out];exact HKE.out)),if_neg (by decide),if_pos (by omega),List.nil_append,show((-1:Int)+1).toNat=0 from rfl,eY,Int.toNat_natCast])
          clear eY
          go_wp2_with (first
           |(go_at_call 154;refine(iE.calls (some ad) c0 l0 i true _ (Kd.dN HR.out rE.out.1.2.2.1) hc0 HRR.out).mono ?_;rintro e w3 ⟨rfl,hb3⟩;have gq:=af.mk (rE.out.below hb3);have HI3:=af.mk (aK HKI.out hb3);have oO:=af.mk (aI hb3 x3);clear hb3)
           |(go_at_call 155;refine(Cj 156 #[.pointer (some ⟨w.heap.size,0,none⟩),.pointer (some ⟨wr.heap.size,0,none⟩)] (mO Tryz.func156 (by kernel_rfl) rfl) A7 c7 V (oJ l0 i) _ (pK.out _ gq.out).1 (pK.out _ gq.out).2 (Ht.out _ gq.out HI3.out)).mono ?_;rw[HIX.out];rintro e w4 ⟨rfl,hb4⟩;have gH:=af.mk (gq.out.below hb4);have HI4:=af.mk (aK HI3.out hb4);have ch4:w4.cell? ⟨w.heap.size,0,none⟩=some (.slice (some ad) l0.length c0):=(ah gH.out.1.1 0).trans rfl;have ci4:w4.cell? ⟨wr.heap.size,0,none⟩=some (.int .i64 (i:Int)):=(ah HI4.out 0).trans rfl;have cx4:=aI hb4 oO.out;clear hb4))
          obtain⟨ad7,hA,qy⟩:=wP (pK.out _ gH.out).1 h1 (pR (Below.refl _ _))
          cases hA
          rw[HYV.out]at qy;replace qy:w4.drew.cell? ad7=some (.int .i64 (y:Int)):=qy;have qi:w4.drew.cell? ⟨wr.heap.size,0,none⟩=some (.int .i64 (i:Int)):=(ah (show w4.drew.heap[wr.heap.size]? =_ from HI4.out) 0).trans rfl;have nG:=af.mk (gH.out.below (pR (Below.refl _ _)));have rD:=af.mk (show(pre.length+1)*40≤140737488355328 by have:=HPL.out;omega);refine gZ (n:=8) (S:=fun w'=>w'.cell? ⟨wr.heap.size,0,none⟩=some (.int .i64 (i:Int))∧w'.cell? ad7=some (.int .i64 (y:Int))) (ds:=[7]) #[false,false,false,false,false,false,false,false] (by kernel_rfl) rfl rfl ⟨qi,qy⟩ (fun hHeld=>?_);refine au 0 77 ?_;refine au 2 79 ?_;refine au 3 80 ?_;refine au 4 81 ?_;refine au 5 82 ?_;refine bU 1 78 hHeld (by rintro w' ⟨s0,s1⟩;go_simp;with_reducible rfl) ?_ rfl rfl;refine bU 6 83 hHeld (by rintro w' ⟨s0,s1⟩;go_simp;with_reducible rfl) ?_ rfl rfl;refine iN (i:=7) (N:=some 84) #[true,true,true,true,true,true,true,true] rfl rfl (by kernel_rfl) (by decide) (fun K hK=>?_);refine BQ Tryz.func152 (by kernel_rfl) rfl (cap:=#[.pointer (some ⟨w.heap.size,0,none⟩),.pointer (some ⟨w.heap.size+1,0,none⟩)]) #[.int .i64 3,.int .i64 (i:Int),.int .i64 (y:Int)] (by rfl) rfl rfl (by rfl) (by simp only[List.map_toArray,List.map_cons,List.map_nil];rfl) (by rfl) ?_;refine(Kz 3 i y w.heap.size (w.heap.size+1) c0 (some ad) l0 _ w _ HR.out HY.out.1 HY.out.2 nG.out.1 rD.out).mono ?_;rintro e w6 ⟨rfl,hi6,hk6⟩;have lU:=af.mk (nG.out.put hi6 hk6);clear hi6 hk6;refine⟨_,rfl,?_⟩;refine hK.out _ _ ?_;clear hK K;refine dM ?_;refine gJ ?_
          go_wp2_with fail
          go_roundw
          case rel=>exact HAT.out _ _ HE'.out (by exact lU.out)
          case measure=>simp[intOf];omega
         ·have HE':=af.mk (show ofRow l0 a1 V i=[] by
           rw[HE.out];unfold uy;rw[if_neg (fun h=>h.2 (by rw[HVA.out];exact HKE.out)),if_neg (by decide),if_neg (by omega)];rfl)
          go_wp2_with (first
           |(go_at_call 154;refine(iE.calls (some ad) c0 l0 i true _ (Kd.dN HR.out rE.out.1.2.2.1) hc0 HRR.out).mono ?_;rintro e w3 ⟨rfl,hb3⟩;have gq:=af.mk (rE.out.below hb3);have HI3:=af.mk (aK HKI.out hb3);have oO:=af.mk (aI hb3 x3);clear hb3)
           |(go_at_call 155;refine(Cj 156 #[.pointer (some ⟨w.heap.size,0,none⟩),.pointer (some ⟨wr.heap.size,0,none⟩)] (mO Tryz.func156 (by kernel_rfl) rfl) A7 c7 V (oJ l0 i) _ (pK.out _ gq.out).1 (pK.out _ gq.out).2 (Ht.out _ gq.out HI3.out)).mono ?_;rw[HIX.out];rintro e w4 ⟨rfl,hb4⟩;have gH:=af.mk (gq.out.below hb4);have HI4:=af.mk (aK HI3.out hb4);have ch4:w4.cell? ⟨w.heap.size,0,none⟩=some (.slice (some ad) l0.length c0):=(ah gH.out.1.1 0).trans rfl;have ci4:w4.cell? ⟨wr.heap.size,0,none⟩=some (.int .i64 (i:Int)):=(ah HI4.out 0).trans rfl;have cx4:=aI hb4 oO.out;clear hb4))
          go_roundw
          case rel=>exact HAT.out _ _ HE'.out (by rw[List.append_nil];exact gH.out)
          case measure=>simp[intOf];omega
       ·rw[hix]at HE;have HIX:=af.mk hix;clear hix;obtain⟨x,hx⟩:∃x:Nat,V[n]'hn=(x:Int):=⟨(V[n]'hn).toNat,by have:=(HVI.out _ (List.getElem_mem hn)).1;omega⟩;have HX:=af.mk (show x<l0.length by have:=(HVI.out _ (List.getElem_mem hn)).2;omega);have HXV:=af.mk hx;have eX:V.getD n 0=(x:Int):=by rw[List.getD_eq_getElem?_getD,List.getElem?_eq_getElem hn,Option.getD_some,hx]
        have HNL:=af.mk hn;have hp0:(0:Int)≤(n:Int):=by omega
        have hp1:(n:Int)<V.length:=by omega
        have hp2:wrap64 ((n:Int)+1)=(n:Int)+1:=by unfold wrap64;omega
        have hp3:(0:Int)≤(n:Int)+1:=by omega
        clear hx
        by_cases h1:n+1<V.length
        ·obtain⟨y,hy⟩:∃y:Nat,V[n+1]'h1=(y:Int):=⟨(V[n+1]'h1).toNat,by have:=(HVI.out _ (List.getElem_mem h1)).1;omega⟩;have HY:=af.mk (show i<l0.length∧y<l0.length from⟨rF.out,by have:=(HVI.out _ (List.getElem_mem h1)).2;omega⟩);have HYV:=af.mk hy;have eY:V.getD (n+1) 0=(y:Int):=by rw[List.getD_eq_getElem?_getD,List.getElem?_eq_getElem h1,Option.getD_some,hy]
         clear hy
         have HE':=af.mk (show ofRow l0 a1 V i=ni l0 2 x i++ni l0 3 i y by
          rw[HE.out];unfold uy;rw[if_neg (fun h=>absurd h.1 (by omega)),if_pos (by omega),if_pos (by omega),show((n:Int)+1).toNat=n+1 by omega,Int.toNat_natCast,eX,eY,Int.toNat_natCast,Int.toNat_natCast])
         have hp4:(n:Int)+1<V.length:=by omega
         clear eX eY
         go_wp2_with (first
          |(go_at_call 154;refine(iE.calls (some ad) c0 l0 i true _ (Kd.dN HR.out rE.out.1.2.2.1) hc0 HRR.out).mono ?_;rintro e w3 ⟨rfl,hb3⟩;have gq:=af.mk (rE.out.below hb3);have HI3:=af.mk (aK HKI.out hb3);have oO:=af.mk (aI hb3 x3);clear hb3)
          |(go_at_call 155;refine(Cj 156 #[.pointer (some ⟨w.heap.size,0,none⟩),.pointer (some ⟨wr.heap.size,0,none⟩)] (mO Tryz.func156 (by kernel_rfl) rfl) A7 c7 V (oJ l0 i) _ (pK.out _ gq.out).1 (pK.out _ gq.out).2 (Ht.out _ gq.out HI3.out)).mono ?_;rw[HIX.out];rintro e w4 ⟨rfl,hb4⟩;have gH:=af.mk (gq.out.below hb4);have HI4:=af.mk (aK HI3.out hb4);have ch4:w4.cell? ⟨w.heap.size,0,none⟩=some (.slice (some ad) l0.length c0):=(ah gH.out.1.1 0).trans rfl;have ci4:w4.cell? ⟨wr.heap.size,0,none⟩=some (.int .i64 (i:Int)):=(ah HI4.out 0).trans rfl;have cx4:=aI hb4 oO.out;clear hb4))
         obtain⟨ad7,hA,qx⟩:=wP (pK.out _ gH.out).1 HNL.out (pR (Below.refl _ _))
         cases hA
         rw[HXV.out]at qx;have qi:w4.drew.cell? ⟨wr.heap.size,0,none⟩=some (.int .i64 (i:Int)):=(ah (show w4.drew.heap[wr.heap.size]? =_ from HI4.out) 0).trans rfl;have nG:=af.mk (gH.out.below (pR (Below.refl _ _)));have rD:=af.mk (show(pre.length+1)*40≤140737488355328 by have:=HPL.out;omega);refine gZ (n:=7) (S:=fun w'=>w'.cell? ⟨wr.heap.size,0,none⟩=some (.int .i64 (i:Int))∧w'.cell? (ad7.add n)=some (.int .i64 (x:Int))) (ds:=[6]) #[false,false,false,false,false,false,false] (by kernel_rfl) rfl rfl ⟨qi,qx⟩ (fun hHeld=>?_);refine au 0 65 ?_;refine au 1 66 ?_;refine au 2 67 ?_;refine au 3 68 ?_;refine bU 4 69 hHeld (by rintro w' ⟨s0,s1⟩;go_simp;with_reducible rfl) ?_ rfl rfl;refine bU 5 70 hHeld (by rintro w' ⟨s0,s1⟩;go_simp;with_reducible rfl) ?_ rfl rfl;refine iN (i:=6) (N:=some 71) #[true,true,true,true,true,true,true] rfl rfl (by kernel_rfl) (by decide) (fun K hK=>?_);refine BQ Tryz.func152 (by kernel_rfl) rfl (cap:=#[.pointer (some ⟨w.heap.size,0,none⟩),.pointer (some ⟨w.heap.size+1,0,none⟩)]) #[.int .i64 2,.int .i64 (x:Int),.int .i64 (i:Int)] (by rfl) rfl rfl (by rfl) (by simp only[List.map_toArray,List.map_cons,List.map_nil];rfl) (by rfl) ?_;refine(Kz 2 x i w.heap.size (w.heap.size+1) c0 (some ad) l0 _ w _ HR.out HX.out rF.out nG.out.1 rD.out).mono ?_;rintro e w5 ⟨rfl,hi5,hk5⟩;have HK5:=af.mk (nG.out.put hi5 hk5);have HI5:=af.mk (hk5.blk HI4.out (by decide) tO.out);clear hi5 hk5;refine⟨_,rfl,?_⟩;refine hK.out _ _ ?_;clear hK K;refine dM ?_;refine gJ ?_;clear qi qx nG rD
         go_wp2_with fail
         obtain⟨ad7',hA,qy⟩:=wP (Kd.dB HK5.out.2).2.2 h1 (pR (Below.refl _ _))
         cases hA
         rw[HYV.out]at qy;have qi:w5.drew.cell? ⟨wr.heap.size,0,none⟩=some (.int .i64 (i:Int)):=(ah (show w5.drew.heap[wr.heap.size]? =_ from HI5.out) 0).trans rfl;have nG:=af.mk (HK5.out.below (pR (Below.refl _ _)));have rD:=af.mk (show((pre++ni l0 2 x i).length+1)*40≤140737488355328 by have:=HPL.out;have:=Nl l0 2 x i;rw[List.length_append];omega);refine gZ (n:=8) (S:=fun w'=>w'.cell? ⟨wr.heap.size,0,none⟩=some (.int .i64 (i:Int))∧w'.cell? ⟨ad7.block,ad7.off+(n+1),none⟩=some (.int .i64 (y:Int))) (ds:=[7]) #[false,false,false,false,false,false,false,false] (by kernel_rfl) rfl rfl ⟨qi,qy⟩ (fun hHeld=>?_);refine au 0 77 ?_;refine au 2 79 ?_;refine au 3 80 ?_;refine au 4 81 ?_;refine au 5 82 ?_;refine bU 1 78 hHeld (by rintro w' ⟨s0,s1⟩;go_simp;with_reducible rfl) ?_ rfl rfl;refine bU 6 83 hHeld (by rintro w' ⟨s0,s1⟩;go_simp;with_reducible rfl) ?_ rfl rfl;refine iN (i:=7) (N:=some 84) #[true,true,true,true,true,true,true,true] rfl rfl (by kernel_rfl) (by decide) (fun K hK=>?_);refine BQ Tryz.func152 (by kernel_rfl) rfl (cap:=#[.pointer (some ⟨w.heap.size,0,none⟩),.pointer (some ⟨w.heap.size+1,0,none⟩)]) #[.int .i64 3,.int .i64 (i:Int),.int .i64 (y:Int)] (by rfl) rfl rfl (by rfl) (by simp only[List.map_toArray,List.map_cons,List.map_nil];rfl) (by rfl) ?_;refine(Kz 3 i y w.heap.size (w.heap.size+1) c0 (some ad) l0 _ w _ HR.out HY.out.1 HY.out.2 nG.out.1 rD.out).mono ?_;rintro e w6 ⟨rfl,hi6,hk6⟩;have lU:=af.mk (nG.out.put hi6 hk6);clear hi6 hk6;refine⟨_,rfl,?_⟩;refine hK.out _ _ ?_;clear hK K;refine dM ?_;refine gJ ?_
         go_wp2_with fail
         go_roundw
         case rel=>exact HAT.out _ _ HE'.out (by rw[← List.append_assoc];exact lU.out)
         case measure=>simp[intOf];omega
        ·have HE':=af.mk (show ofRow l0 a1 V i=ni l0 2 x i by
          rw[HE.out];unfold uy;rw[if_neg (fun h=>absurd h.1 (by omega)),if_pos (by omega),if_neg (by omega),Int.toNat_natCast,eX,Int.toNat_natCast,List.append_nil])
         have hp4:¬(n:Int)+1<V.length:=by omega
         clear eX
         go_wp2_with (first
          |(go_at_call 154;refine(iE.calls (some ad) c0 l0 i true _ (Kd.dN HR.out rE.out.1.2.2.1) hc0 HRR.out).mono ?_;rintro e w3 ⟨rfl,hb3⟩;have gq:=af.mk (rE.out.below hb3);have HI3:=af.mk (aK HKI.out hb3);have oO:=af.mk (aI hb3 x3);clear hb3)
          |(go_at_call 155;refine(Cj 156 #[.pointer (some ⟨w.heap.size,0,none⟩),.pointer (some ⟨wr.heap.size,0,none⟩)] (mO Tryz.func156 (by kernel_rfl) rfl) A7 c7 V (oJ l0 i) _ (pK.out _ gq.out).1 (pK.out _ gq.out).2 (Ht.out _ gq.out HI3.out)).mono ?_;rw[HIX.out];rintro e w4 ⟨rfl,hb4⟩;have gH:=af.mk (gq.out.below hb4);have HI4:=af.mk (aK HI3.out hb4);have ch4:w4.cell? ⟨w.heap.size,0,none⟩=some (.slice (some ad) l0.length c0):=(ah gH.out.1.1 0).trans rfl;have ci4:w4.cell? ⟨wr.heap.size,0,none⟩=some (.int .i64 (i:Int)):=(ah HI4.out 0).trans rfl;have cx4:=aI hb4 oO.out;clear hb4))
         obtain⟨ad7,hA,qx⟩:=wP (pK.out _ gH.out).1 HNL.out (pR (Below.refl _ _))
         cases hA
         rw[HXV.out]at qx;have qi:w4.drew.cell? ⟨wr.heap.size,0,none⟩=some (.int .i64 (i:Int)):=(ah (show w4.drew.heap[wr.heap.size]? =_ from HI4.out) 0).trans rfl;have nG:=af.mk (gH.out.below (pR (Below.refl _ _)));have rD:=af.mk (show(pre.length+1)*40≤140737488355328 by have:=HPL.out;omega);refine gZ (n:=7) (S:=fun w'=>w'.cell? ⟨wr.heap.size,0,none⟩=some (.int .i64 (i:Int))∧w'.cell? (ad7.add n)=some (.int .i64 (x:Int))) (ds:=[6]) #[false,false,false,false,false,false,false] (by kernel_rfl) rfl rfl ⟨qi,qx⟩ (fun hHeld=>?_);refine au 0 65 ?_;refine au 1 66 ?_;refine au 2 67 ?_;refine au 3 68 ?_;refine bU 4 69 hHeld (by rintro w' ⟨s0,s1⟩;go_simp;with_reducible rfl) ?_ rfl rfl;refine bU 5 70 hHeld (by rintro w' ⟨s0,s1⟩;go_simp;with_reducible rfl) ?_ rfl rfl;refine iN (i:=6) (N:=some 71) #[true,true,true,true,true,true,true] rfl rfl (by kernel_rfl) (by decide) (fun K hK=>?_);refine BQ Tryz.func152 (by kernel_rfl) rfl (cap:=#[.pointer (some ⟨w.heap.size,0,none⟩),.pointer (some ⟨w.heap.size+1,0,none⟩)]) #[.int .i64 2,.int .i64 (x:Int),.int .i64 (i:Int)] (by rfl) rfl rfl (by rfl) (by simp only[List.map_toArray,List.map_cons,List.map_nil];rfl) (by rfl) ?_;refine(Kz 2 x i w.heap.size (w.heap.size+1) c0 (some ad) l0 _ w _ HR.out HX.out rF.out nG.out.1 rD.out).mono ?_;rintro e w5 ⟨rfl,hi5,hk5⟩;have HK5:=af.mk (nG.out.put hi5 hk5);have HI5:=af.mk (hk5.blk HI4.out (by decide) tO.out);clear hi5 hk5;refine⟨_,rfl,?_⟩;refine hK.out _ _ ?_;clear hK K;refine dM ?_;refine gJ ?_;clear qi qx nG rD
         go_wp2_with fail
         go_roundw
         case rel=>exact HAT.out _ _ HE'.out (by exact HK5.out)
         case measure=>simp[intOf];omega
    ·have HE:=af.mk (show i=l0.length by omega);obtain⟨v,hv,hO⟩:=HK.out.1.2.2.2;have HO:=af.mk hO;have co:wr.cell? ⟨w.heap.size+1,0,none⟩=some v:=(ah hv 0).trans rfl;clear hO hv
     go_wp2_with fail
     go_ret
     exact⟨_,rfl,by have:=HO.out;rw[HE.out]at this;exact this,HK.out.1.2.2.1⟩
end Go.Proofs.YtdcddenojjdmjaaGreatDoor.T
