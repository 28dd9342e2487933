import Derived.Test.YtdcddenojjdmjaaGreatDoorM27
set_option linter.all false
set_option maxHeartbeats 8000000
set_option maxRecDepth 100000
namespace Go.Proofs.YtdcddenojjdmjaaGreatDoor.T
open Go.RowKit Go.Proofs.YtdcddenojjdmjaaGreatDoorW.PrintWords Go.Proofs.YtdcddenojjdmjaaGreatDoorW.PrintLast Go.Proofs.YtdcddenojjdmjaaGreatDoorW.PrintMore
def rq(s:ByteArray):Bool:=(s.size:Int)==32
def qd(i:Int):Bool:=if i≥0 then decide (i<256)else false
def rQ(i:Int):Bool:=if i≥1 then decide (i≤32)else false
theorem placeB_f(i:Int):mM.f i=some (qd i):=by unfold mM.f qd;split<;>rfl
theorem XP(i:Int):sI.f i=some (rQ i):=by unfold sI.f rQ;split<;>rfl
def BL(e:aN):Bool:=decide (e.f0<1)||(decide (e.f0>3)||(!rQ e.f1||(!rQ e.f2||(!qd e.f3|| !qd e.f4))))
theorem Ru(s:ByteArray)(w:World):Calls Tryz.prog 68 #[.string s] w fun e w'=>e=.returned (.bool (!rq s))∧Below w.heap.size w w':=by
 go_enter Tryz.func68,Tryz.ntmps68
 go_wp2_with (go_at_call 69;refine(mg.calls s (rq s) _ rfl).mono ?_;rintro e w2 ⟨rfl,hb⟩)
 go_ret
 exact⟨rfl,hb.below⟩
theorem XQ(i:Int)(w:World):Calls Tryz.prog 127 #[.int .i64 i] w fun e w'=>e=.returned (.bool (!rQ i))∧Below w.heap.size w w':=by
 go_enter Tryz.func127,Tryz.ntmps127
 go_wp2_with (go_at_call 124;refine(sI.calls i (rQ i) _ (XP i)).mono ?_;rintro e w2 ⟨rfl,hb⟩)
 go_ret
 exact⟨rfl,hb.below⟩
def Rw.At(l:List (ByteArray))(p:ByteArray→Bool)(W:World)(v8:Value)(wr:World):Prop:=
 ∃i:Nat,i≤l.length∧v8=.int .i64 i∧Below W.heap.size W wr∧∀j (hj:j<l.length),j<i→p (l[j]'hj)=false
theorem Rw(K:Nat)(he:∀args w,(callFunc K args).run Tryz.prog w=.ok (.enter K args) w)(A:Option Addr)(c:Nat)(l:List (ByteArray))(p:ByteArray→Bool)(W:World)(hr:Kd.C Kd.string W A l.length l)(hc:l.length≤c)
  (hstep:∀(x:ByteArray) W',x ∈ l→Below W.heap.size W W'→Calls Tryz.prog K #[.string x] W' fun e W''=>e=.returned (.bool (p x))∧Below W'.heap.size W' W''):
  Calls Tryz.prog 122 #[.slice A l.length c,.func (.func K) #[] #[]] W fun e W'=>e=.returned (.int .i64 (idx p l))∧Below W.heap.size W W':=by
 have hlen:l.length≤9223372036854775807:=hr.2.1;have HR:=af.mk hr;have HS:=af.mk hstep;clear hr hstep
 go_enter Tryz.func122,Tryz.ntmps122
 go_wp2_with fail
 go_loopw [8] (fun v8 wr=>Rw.At l p W v8 wr) (fun v8 _=>l.length-(intOf v8).toNat)
 case atStart=>exact⟨0,by omega,rfl,Below.refl _ _,fun j _ hj=>by omega⟩
 case round=>
  obtain⟨i,hi,rfl,hI,hN⟩:=hrel;have HI:=af.mk hI;have HN:=af.mk hN;clear hI hN
  by_cases hlt:i<l.length
  ·obtain⟨ad,hA,z0⟩:=XB HR.out hlt HI.out
   cases hA
   have HM:=af.mk (List.getElem_mem hlt);have HPP:=af.mk (fun(hp:p (l[i]'hlt)=true)=>DV p l i HN.out hlt hp);obtain⟨x,hx⟩:∃x,x=l[i]'hlt:=⟨_,rfl⟩
   have HXE:=af.mk (show ∀j (hj:j<l.length),j<i+1→(p x=false)→p (l[j]'hj)=false from fun j hj hji hpx=>by
    rcases Nat.lt_or_ge j i with h|h
    ·exact HN.out j hj h
    ·obtain rfl:j=i:=by omega
     rw[← hx];exact hpx)
   rw[← hx]at z0 HM HPP;clear hx
   go_wp2_with fail
   refine(HS.out x _ HM.out HI.out).mono ?_;rintro e w2 ⟨rfl,h2⟩;have H2:=af.mk (av HI.out h2);clear h2 z0
   cases hp:p x with
   |true=>
    have HP:=af.mk (HPP.out hp)
    go_wp2_with fail
    go_ret
    exact⟨by rw[HP.out];rfl,H2.out⟩
   |false=>
    have HP:=af.mk hp
    go_wp2_with fail
    go_roundw
    case rel=>exact⟨i+1,by omega,by go_num,H2.out,fun j hj hji=>HXE.out j hj hji HP.out⟩
    case measure=>simp[intOf];omega
  ·have HP:=af.mk (AZ p l (fun j hj=>HN.out j hj (by omega)))
   go_wp2_with fail
   go_ret
   exact⟨by rw[HP.out];rfl,HI.out⟩
theorem Rv(K:Nat)(he:∀args w,(callFunc K args).run Tryz.prog w=.ok (.enter K args) w)(A:Option Addr)(c:Nat)(l:List (ByteArray))(p:ByteArray→Bool)(W:World)(hr:Kd.C Kd.string W A l.length l)(hc:l.length≤c)
  (hstep:∀(x:ByteArray) W',x ∈ l→Below W.heap.size W W'→Calls Tryz.prog K #[.string x] W' fun e W''=>e=.returned (.bool (p x))∧Below W'.heap.size W' W''):
  Calls Tryz.prog 67 #[.slice A l.length c,.func (.func K) #[] #[]] W fun e W'=>e=.returned (.bool (l.any p))∧Below W.heap.size W W':=by
 have HC:=af.mk (Rw K he A c l p W hr hc hstep);have HE:=af.mk (Kt p l);clear hr hstep he;generalize idx p l=n at HC HE
 go_enter Tryz.func67,Tryz.ntmps67
 go_wp2_with (go_at_call 122;refine HC.out.mono ?_;rintro e w2 ⟨rfl,h2⟩;have H2:=af.mk h2;clear h2)
 go_ret
 exact⟨by rw[← HE.out];rfl,H2.out⟩
def Pj.At(l:List (aN))(p:aN→Bool)(W:World)(v8:Value)(wr:World):Prop:=
 ∃i:Nat,i≤l.length∧v8=.int .i64 i∧Below W.heap.size W wr∧∀j (hj:j<l.length),j<i→p (l[j]'hj)=false
theorem Pj(K:Nat)(he:∀args w,(callFunc K args).run Tryz.prog w=.ok (.enter K args) w)(A:Option Addr)(c:Nat)(l:List (aN))(p:aN→Bool)(W:World)(hr:Kd.C fZ W A l.length l)(hc:l.length≤c)
  (hstep:∀(x:aN) W',x ∈ l→Below W.heap.size W W'→Calls Tryz.prog K #[.agg #[.int .i64 x.f0,.int .i64 x.f1,.int .i64 x.f2,.int .i64 x.f3,.int .i64 x.f4]] W' fun e W''=>e=.returned (.bool (p x))∧Below W'.heap.size W' W''):
  Calls Tryz.prog 174 #[.slice A l.length c,.func (.func K) #[] #[]] W fun e W'=>e=.returned (.int .i64 (idx p l))∧Below W.heap.size W W':=by
 have hlen:l.length≤9223372036854775807:=hr.2.1;have HR:=af.mk hr;have HS:=af.mk hstep;clear hr hstep
 go_enter Tryz.func174,Tryz.ntmps174
 go_wp2_with fail
 go_loopw [8] (fun v8 wr=>Pj.At l p W v8 wr) (fun v8 _=>l.length-(intOf v8).toNat)
 case atStart=>exact⟨0,by omega,rfl,Below.refl _ _,fun j _ hj=>by omega⟩
 case round=>
  obtain⟨i,hi,rfl,hI,hN⟩:=hrel;have HI:=af.mk hI;have HN:=af.mk hN;clear hI hN
  by_cases hlt:i<l.length
  ·obtain⟨ad,hA,z0,z1,z2,z3,z4⟩:=LF HR.out hlt HI.out
   cases hA
   have HM:=af.mk (List.getElem_mem hlt);have HPP:=af.mk (fun(hp:p (l[i]'hlt)=true)=>DV p l i HN.out hlt hp);obtain⟨x,hx⟩:∃x,x=l[i]'hlt:=⟨_,rfl⟩
   have HXE:=af.mk (show ∀j (hj:j<l.length),j<i+1→(p x=false)→p (l[j]'hj)=false from fun j hj hji hpx=>by
    rcases Nat.lt_or_ge j i with h|h
    ·exact HN.out j hj h
    ·obtain rfl:j=i:=by omega
     rw[← hx];exact hpx)
   rw[← hx]at z0 z1 z2 z3 z4 HM HPP;clear hx
   go_wp2_with fail
   refine(HS.out x _ HM.out HI.out).mono ?_;rintro e w2 ⟨rfl,h2⟩;have H2:=af.mk (av HI.out h2);clear h2 z0 z1 z2 z3 z4
   cases hp:p x with
   |true=>
    have HP:=af.mk (HPP.out hp)
    go_wp2_with fail
    go_ret
    exact⟨by rw[HP.out];rfl,H2.out⟩
   |false=>
    have HP:=af.mk hp
    go_wp2_with fail
    go_roundw
    case rel=>exact⟨i+1,by omega,by go_num,H2.out,fun j hj hji=>HXE.out j hj hji HP.out⟩
    case measure=>simp[intOf];omega
  ·have HP:=af.mk (AZ p l (fun j hj=>HN.out j hj (by omega)))
   go_wp2_with fail
   go_ret
   exact⟨by rw[HP.out];rfl,HI.out⟩
theorem exAny(K:Nat)(he:∀args w,(callFunc K args).run Tryz.prog w=.ok (.enter K args) w)(A:Option Addr)(c:Nat)(l:List (aN))(p:aN→Bool)(W:World)(hr:Kd.C fZ W A l.length l)(hc:l.length≤c)
  (hstep:∀(x:aN) W',x ∈ l→Below W.heap.size W W'→Calls Tryz.prog K #[.agg #[.int .i64 x.f0,.int .i64 x.f1,.int .i64 x.f2,.int .i64 x.f3,.int .i64 x.f4]] W' fun e W''=>e=.returned (.bool (p x))∧Below W'.heap.size W' W''):
  Calls Tryz.prog 125 #[.slice A l.length c,.func (.func K) #[] #[]] W fun e W'=>e=.returned (.bool (l.any p))∧Below W.heap.size W W':=by
 have HC:=af.mk (Pj K he A c l p W hr hc hstep);have HE:=af.mk (Kt p l);clear hr hstep he;generalize idx p l=n at HC HE
 go_enter Tryz.func125,Tryz.ntmps125
 go_wp2_with (go_at_call 174;refine HC.out.mono ?_;rintro e w2 ⟨rfl,h2⟩;have H2:=af.mk h2;clear h2)
 go_ret
 exact⟨by rw[← HE.out];rfl,H2.out⟩
theorem ixAny(K:Nat)(he:∀args w,(callFunc K args).run Tryz.prog w=.ok (.enter K args) w)(A:Option Addr)(c:Nat)(l:List (Int))(p:Int→Bool)(W:World)(hr:Kd.C (Kd.int .i64) W A l.length l)(hc:l.length≤c)
  (hstep:∀(x:Int) W',x ∈ l→Below W.heap.size W W'→Calls Tryz.prog K #[.int .i64 x] W' fun e W''=>e=.returned (.bool (p x))∧Below W'.heap.size W' W''):
  Calls Tryz.prog 126 #[.slice A l.length c,.func (.func K) #[] #[]] W fun e W'=>e=.returned (.bool (l.any p))∧Below W.heap.size W W':=by
 have HC:=af.mk (Cj K #[] he A c l p W hr hc hstep);have HE:=af.mk (Kt p l);clear hr hstep he;generalize idx p l=n at HC HE
 go_enter Tryz.func126,Tryz.ntmps126
 go_wp2_with (go_at_call 155;refine HC.out.mono ?_;rintro e w2 ⟨rfl,h2⟩;have H2:=af.mk h2;clear h2)
 go_ret
 exact⟨by rw[← HE.out];rfl,H2.out⟩
theorem prRead{A:Option Addr}{l:List fo}{w wr:World}(h:Kd.C vJ w A l.length l){i:Nat}(hi:i<l.length)(hb:Below w.heap.size w wr):∃ad A5 c5,A=some ad∧wr.cell? (ad.add (i*6))=some (.int .i64 (l[i]'hi).f0)∧wr.cell? ⟨(ad.add (i*6)).block,(ad.add (i*6)).off+1,none⟩=some (.int .i64 (l[i]'hi).f1.f0)∧wr.cell? ⟨(ad.add (i*6)).block,(ad.add (i*6)).off+2,none⟩=some (.int .i64 (l[i]'hi).f1.f1)∧
  wr.cell? ⟨(ad.add (i*6)).block,(ad.add (i*6)).off+3,none⟩=some (.string (l[i]'hi).f1.f2)∧wr.cell? ⟨(ad.add (i*6)).block,(ad.add (i*6)).off+4,none⟩=some (.string (l[i]'hi).f1.f3)∧wr.cell? ⟨(ad.add (i*6)).block,(ad.add (i*6)).off+5,none⟩=some (.slice A5 (l[i]'hi).f2.length c5)∧(l[i]'hi).f2.length≤c5∧Kd.C Kd.string wr A5 (l[i]'hi).f2.length (l[i]'hi).f2:=by
 obtain⟨ad,A5,c5,e,h0,h1,h2,h3,h4,h5,h6,h7⟩:=OI h (i:Int) (by omega) (by omega);have er:iO l (i:Int)=l[i]'hi:=by simp[iO,List.getD_eq_getElem?_getD,List.getElem?_eq_getElem hi]
 rw[show(i:Int).toNat=i by omega,er]at h0 h1 h2 h3 h4 h5;rw[er]at h6 h7;exact⟨ad,A5,c5,e,aI hb h0,aI hb h1,aI hb h2,aI hb h3,aI hb h4,aI hb h5,h6,Kd.dN h7 hb⟩
def Rc.At(l:List (fo))(p:fo→Bool)(W:World)(v8:Value)(wr:World):Prop:=
 ∃i:Nat,i≤l.length∧v8=.int .i64 i∧Below W.heap.size W wr∧∀j (hj:j<l.length),j<i→p (l[j]'hj)=false
theorem Rc(K:Nat)(he:∀args w,(callFunc K args).run Tryz.prog w=.ok (.enter K args) w)(A:Option Addr)(c:Nat)(l:List (fo))(p:fo→Bool)(W:World)(hr:Kd.C vJ W A l.length l)(hc:l.length≤c)
  (hstep:∀(x:fo) (A5:Option Addr) (c5:Nat) W',x ∈ l→Below W.heap.size W W'→x.f2.length≤c5→Kd.C Kd.string W' A5 x.f2.length x.f2→Calls Tryz.prog K #[.agg #[.int .i64 x.f0,.int .i64 x.f1.f0,.int .i64 x.f1.f1,.string x.f1.f2,.string x.f1.f3,.slice A5 x.f2.length c5]] W' fun e W''=>e=.returned (.bool (p x))∧Below W'.heap.size W' W''):
  Calls Tryz.prog 128 #[.slice A l.length c,.func (.func K) #[] #[]] W fun e W'=>e=.returned (.int .i64 (idx p l))∧Below W.heap.size W W':=by
 have hlen:l.length≤9223372036854775807:=hr.2.1;have HR:=af.mk hr;have HS:=af.mk hstep;clear hr hstep
 go_enter Tryz.func128,Tryz.ntmps128
 go_wp2_with fail
 go_loopw [8] (fun v8 wr=>Rc.At l p W v8 wr) (fun v8 _=>l.length-(intOf v8).toNat)
 case atStart=>exact⟨0,by omega,rfl,Below.refl _ _,fun j _ hj=>by omega⟩
 case round=>
  obtain⟨i,hi,rfl,hI,hN⟩:=hrel;have HI:=af.mk hI;have HN:=af.mk hN;clear hI hN
  by_cases hlt:i<l.length
  ·obtain⟨ad,A5,c5,hA,z0,z1,z2,z3,z4,z5,z6,z7⟩:=prRead HR.out hlt HI.out
   cases hA
   have HM:=af.mk (List.getElem_mem hlt);have HPP:=af.mk (fun(hp:p (l[i]'hlt)=true)=>DV p l i HN.out hlt hp);obtain⟨x,hx⟩:∃x,x=l[i]'hlt:=⟨_,rfl⟩
   have HXE:=af.mk (show ∀j (hj:j<l.length),j<i+1→(p x=false)→p (l[j]'hj)=false from fun j hj hji hpx=>by
    rcases Nat.lt_or_ge j i with h|h
    ·exact HN.out j hj h
    ·obtain rfl:j=i:=by omega
     rw[← hx];exact hpx)
   rw[← hx]at z0 z1 z2 z3 z4 z5 z6 z7 HM HPP;clear hx
   go_wp2_with fail
   refine(HS.out x A5 c5 _ HM.out HI.out z6 z7).mono ?_;rintro e w2 ⟨rfl,h2⟩;have H2:=af.mk (av HI.out h2);clear h2 z0 z1 z2 z3 z4 z5 z6 z7
   cases hp:p x with
   |true=>
    have HP:=af.mk (HPP.out hp)
    go_wp2_with fail
    go_ret
    exact⟨by rw[HP.out];rfl,H2.out⟩
   |false=>
    have HP:=af.mk hp
    go_wp2_with fail
    go_roundw
    case rel=>exact⟨i+1,by omega,by go_num,H2.out,fun j hj hji=>HXE.out j hj hji HP.out⟩
    case measure=>simp[intOf];omega
  ·have HP:=af.mk (AZ p l (fun j hj=>HN.out j hj (by omega)))
   go_wp2_with fail
   go_ret
   exact⟨by rw[HP.out];rfl,HI.out⟩
theorem pxAny(K:Nat)(he:∀args w,(callFunc K args).run Tryz.prog w=.ok (.enter K args) w)(A:Option Addr)(c:Nat)(l:List (fo))(p:fo→Bool)(W:World)(hr:Kd.C vJ W A l.length l)(hc:l.length≤c)
  (hstep:∀(x:fo) (A5:Option Addr) (c5:Nat) W',x ∈ l→Below W.heap.size W W'→x.f2.length≤c5→Kd.C Kd.string W' A5 x.f2.length x.f2→Calls Tryz.prog K #[.agg #[.int .i64 x.f0,.int .i64 x.f1.f0,.int .i64 x.f1.f1,.string x.f1.f2,.string x.f1.f3,.slice A5 x.f2.length c5]] W' fun e W''=>e=.returned (.bool (p x))∧Below W'.heap.size W' W''):
  Calls Tryz.prog 71 #[.slice A l.length c,.func (.func K) #[] #[]] W fun e W'=>e=.returned (.bool (l.any p))∧Below W.heap.size W W':=by
 have HC:=af.mk (Rc K he A c l p W hr hc hstep);have HE:=af.mk (Kt p l);clear hr hstep he;generalize idx p l=n at HC HE
 go_enter Tryz.func71,Tryz.ntmps71
 go_wp2_with (go_at_call 128;refine HC.out.mono ?_;rintro e w2 ⟨rfl,h2⟩;have H2:=af.mk h2;clear h2)
 go_ret
 exact⟨by rw[← HE.out];rfl,H2.out⟩
theorem Bl{i:Int}{b:Bool}(h:rQ i=b):sI.f i=some b:=by rw[XP,h]
theorem qf{i:Int}{b:Bool}(h:qd i=b):mM.f i=some b:=by rw[placeB_f,h]
theorem pE{s:ByteArray}{b:Bool}(h:rq s=b):mg.f s=some b:=by unfold mg.f;unfold rq at h;rw[h]
theorem SV(x:aN)(w:World):Calls Tryz.prog 123 #[.agg #[.int .i64 x.f0,.int .i64 x.f1,.int .i64 x.f2,.int .i64 x.f3,.int .i64 x.f4]] w fun e w'=>e=.returned (.bool (BL x))∧Below w.heap.size w w':=by
 obtain⟨x0,x1,x2,x3,x4⟩:=x;have hE:=af.mk (show BL ⟨x0,x1,x2,x3,x4⟩=(decide (x0<1)||(decide (x0>3)||(!rQ x1||(!rQ x2||(!qd x3|| !qd x4)))))from rfl);generalize BL ⟨x0,x1,x2,x3,x4⟩=r at hE ⊢;simp only
 by_cases c1:x0<1
 ·have HE:=af.mk (hE.out.trans (by rw[decide_eq_true c1];rfl):r=true);clear hE
  go_enter Tryz.func123,Tryz.ntmps123
  go_wp2_with (first|fail)
  go_ret
  exact⟨by rw[HE.out];rfl,by repeat(first|apply dm|apply ax|exact Below.refl _ _)⟩
 ·by_cases c2:x0>3
  ·have HE:=af.mk (hE.out.trans (by rw[decide_eq_false c1,decide_eq_true c2];rfl):r=true);clear hE
   go_enter Tryz.func123,Tryz.ntmps123
   go_wp2_with (first|fail)
   go_ret
   exact⟨by rw[HE.out];rfl,by repeat(first|apply dm|apply ax|exact Below.refl _ _)⟩
  ·cases h1:rQ x1 with
   |false=>
    have tH:=af.mk h1;have HE:=af.mk (hE.out.trans (by rw[decide_eq_false c1,decide_eq_false c2,h1];rfl):r=true);clear hE
    go_enter Tryz.func123,Tryz.ntmps123
    go_wp2_with (first|(go_at_call 124;with_reducible refine(sI.calls x1 false _ (Bl tH.out)).mono ?_;rintro e _ ⟨rfl,⟨⟨n,rfl⟩⟩⟩))
    go_ret
    exact⟨by rw[HE.out];rfl,by repeat(first|apply dm|apply ax|exact Below.refl _ _)⟩
   |true=>
    have tH:=af.mk h1
    cases h2:rQ x2 with
    |false=>
     have Ah2:=af.mk h2;have HE:=af.mk (hE.out.trans (by rw[decide_eq_false c1,decide_eq_false c2,h1,h2];rfl):r=true);clear hE
     go_enter Tryz.func123,Tryz.ntmps123
     go_wp2_with (first|(go_at_call 124;with_reducible refine(sI.calls x1 true _ (Bl tH.out)).mono ?_;rintro e _ ⟨rfl,⟨⟨n,rfl⟩⟩⟩)|(go_at_call 124;with_reducible refine(sI.calls x2 false _ (Bl Ah2.out)).mono ?_;rintro e _ ⟨rfl,⟨⟨n,rfl⟩⟩⟩))
     go_ret
     exact⟨by rw[HE.out];rfl,by repeat(first|apply dm|apply ax|exact Below.refl _ _)⟩
    |true=>
     have Ah2:=af.mk h2
     cases h3:qd x3 with
     |false=>
      have Ah3:=af.mk h3;have HE:=af.mk (hE.out.trans (by rw[decide_eq_false c1,decide_eq_false c2,h1,h2,h3];rfl):r=true);clear hE
      go_enter Tryz.func123,Tryz.ntmps123
      go_wp2_with (first|(go_at_call 124;with_reducible refine(sI.calls x1 true _ (Bl tH.out)).mono ?_;rintro e _ ⟨rfl,⟨⟨n,rfl⟩⟩⟩)|(go_at_call 124;with_reducible refine(sI.calls x2 true _ (Bl Ah2.out)).mono ?_;rintro e _ ⟨rfl,⟨⟨n,rfl⟩⟩⟩)|(go_at_call 65;with_reducible refine(mM.calls x3 false _ (qf Ah3.out)).mono ?_;rintro e _ ⟨rfl,⟨⟨n,rfl⟩⟩⟩))
      go_ret
      exact⟨by rw[HE.out];rfl,by repeat(first|apply dm|apply ax|exact Below.refl _ _)⟩
     |true=>
      have Ah3:=af.mk h3
      cases h4:qd x4 with
      |false=>
       have Ah4:=af.mk h4;have HE:=af.mk (hE.out.trans (by rw[decide_eq_false c1,decide_eq_false c2,h1,h2,h3,h4];rfl):r=true);clear hE
       go_enter Tryz.func123,Tryz.ntmps123
       go_wp2_with (first|(go_at_call 124;with_reducible refine(sI.calls x1 true _ (Bl tH.out)).mono ?_;rintro e _ ⟨rfl,⟨⟨n,rfl⟩⟩⟩)|(go_at_call 124;with_reducible refine(sI.calls x2 true _ (Bl Ah2.out)).mono ?_;rintro e _ ⟨rfl,⟨⟨n,rfl⟩⟩⟩)|(go_at_call 65;with_reducible refine(mM.calls x3 true _ (qf Ah3.out)).mono ?_;rintro e _ ⟨rfl,⟨⟨n,rfl⟩⟩⟩)|(go_at_call 65;with_reducible refine(mM.calls x4 false _ (qf Ah4.out)).mono ?_;rintro e _ ⟨rfl,⟨⟨n,rfl⟩⟩⟩))
       go_ret
       exact⟨by rw[HE.out];rfl,by repeat(first|apply dm|apply ax|exact Below.refl _ _)⟩
      |true=>
       have Ah4:=af.mk h4;have HE:=af.mk (hE.out.trans (by rw[decide_eq_false c1,decide_eq_false c2,h1,h2,h3,h4];rfl):r=false);clear hE
       go_enter Tryz.func123,Tryz.ntmps123
       go_wp2_with (first|(go_at_call 124;with_reducible refine(sI.calls x1 true _ (Bl tH.out)).mono ?_;rintro e _ ⟨rfl,⟨⟨n,rfl⟩⟩⟩)|(go_at_call 124;with_reducible refine(sI.calls x2 true _ (Bl Ah2.out)).mono ?_;rintro e _ ⟨rfl,⟨⟨n,rfl⟩⟩⟩)|(go_at_call 65;with_reducible refine(mM.calls x3 true _ (qf Ah3.out)).mono ?_;rintro e _ ⟨rfl,⟨⟨n,rfl⟩⟩⟩)|(go_at_call 65;with_reducible refine(mM.calls x4 true _ (qf Ah4.out)).mono ?_;rintro e _ ⟨rfl,⟨⟨n,rfl⟩⟩⟩))
       go_ret
       exact⟨by rw[HE.out];rfl,by repeat(first|apply dm|apply ax|exact Below.refl _ _)⟩
theorem may_ex(x:aj):∃b,gW.f 4 x.f0 x.f1 x.f2 x.f3=some b:=by
 unfold gW.f;simp only[gW.j0,gW.j1,oV.f]
 repeat' split
 all_goals first|exact⟨_,rfl⟩|(rw[Option.bind_some];repeat' split)|skip
 all_goals exact⟨_,rfl⟩
def Ky(x:aj):Bool:=(gW.f 4 x.f0 x.f1 x.f2 x.f3).getD false
theorem QO{x:aj}{b:Bool}(h:Ky x=b):gW.f 4 x.f0 x.f1 x.f2 x.f3=some b:=by
 obtain⟨c,hc⟩:=may_ex x;unfold Ky at h;rw[hc]at h ⊢;rw[← h];rfl
def Be(x:fo):Bool:= !qd x.f0||(!Ky x.f1||(decide (x.f2.length>12)||x.f2.any (fun s=> !rq s)))
theorem WG(x:fo)(A5:Option Addr)(c5:Nat)(w:World)(hc:x.f2.length≤c5)(hr:Kd.C Kd.string w A5 x.f2.length x.f2):Calls Tryz.prog 64 #[.agg #[.int .i64 x.f0,.int .i64 x.f1.f0,.int .i64 x.f1.f1,.string x.f1.f2,.string x.f1.f3,.slice A5 x.f2.length c5]] w fun e w'=>e=.returned (.bool (Be x))∧Below w.heap.size w w':=by
 obtain⟨x0,⟨e0,e1,e2,e3⟩,p⟩:=x;have hE:=af.mk (show Be ⟨x0,⟨e0,e1,e2,e3⟩,p⟩=(!qd x0||(!Ky ⟨e0,e1,e2,e3⟩||(decide (p.length>12)||p.any (fun s=> !rq s))))from rfl);generalize Be ⟨x0,⟨e0,e1,e2,e3⟩,p⟩=r at hE ⊢;simp only at hc hr ⊢;have HR:=af.mk hr;have hlen:p.length≤9223372036854775807:=hr.2.1;clear hr
 cases h1:qd x0 with
 |false=>
  have tH:=af.mk h1;have HE:=af.mk (hE.out.trans (by rw[h1];rfl):r=true);clear hE
  go_enter Tryz.func64,Tryz.ntmps64
  go_wp2_with (first|(go_at_call 65;with_reducible refine(mM.calls x0 false _ (qf tH.out)).mono ?_;rintro e _ ⟨rfl,⟨⟨n,rfl⟩⟩⟩))
  go_ret
  exact⟨by rw[HE.out];rfl,by repeat(first|apply dm|apply ax|exact Below.refl _ _)⟩
 |true=>
  have tH:=af.mk h1
  cases h2:Ky ⟨e0,e1,e2,e3⟩with
  |false=>
   have Ah2:=af.mk h2;have HE:=af.mk (hE.out.trans (by rw[h1,h2];rfl):r=true);clear hE
   go_enter Tryz.func64,Tryz.ntmps64
   go_wp2_with (first|(go_at_call 65;with_reducible refine(mM.calls x0 true _ (qf tH.out)).mono ?_;rintro e _ ⟨rfl,⟨⟨n,rfl⟩⟩⟩)|(go_at_call 66;with_reducible refine(gW.calls 4 e0 e1 e2 e3 false _ (QO Ah2.out)).mono ?_;rintro e w2 ⟨rfl,hb⟩;have K2:=af.mk (aK (aU (bI w (.cells #[.int .i64 x0,.int .i64 e0,.int .i64 e1,.string e2,.string e3,.slice A5 p.length c5] 79)) _) hb);have d5:w2.cell? ⟨w.heap.size,5,none⟩=some (.slice A5 p.length c5):=(ah K2.out 5).trans rfl;have B2:=af.mk (av (dm (ax (Below.refl w.heap.size w) (.cells #[.int .i64 x0,.int .i64 e0,.int .i64 e1,.string e2,.string e3,.slice A5 p.length c5] 79)) _) hb);clear hb)|(go_at_call 67;with_reducible refine(Rv 68 (mO Tryz.func68 (by kernel_rfl) rfl) A5 c5 p (fun s=> !rq s) _ (Kd.dN HR.out B2.out) hc (fun x W _ _=>Ru x W)).mono ?_;rintro e w3 ⟨rfl,hb⟩;have B3:=af.mk (av B2.out hb);clear hb))
   go_ret
   exact⟨by rw[HE.out];rfl,B2.out⟩
  |true=>
   have Ah2:=af.mk h2
   by_cases c3:p.length>12
   ·have HE:=af.mk (hE.out.trans (by rw[h1,h2,decide_eq_true c3];rfl):r=true);clear hE;have c3b:decide (12<(p.length:Int))=true:=decide_eq_true (by omega)
    go_enter Tryz.func64,Tryz.ntmps64
    go_wp2_with (first|(go_at_call 65;with_reducible refine(mM.calls x0 true _ (qf tH.out)).mono ?_;rintro e _ ⟨rfl,⟨⟨n,rfl⟩⟩⟩)|(go_at_call 66;with_reducible refine(gW.calls 4 e0 e1 e2 e3 true _ (QO Ah2.out)).mono ?_;rintro e w2 ⟨rfl,hb⟩;have K2:=af.mk (aK (aU (bI w (.cells #[.int .i64 x0,.int .i64 e0,.int .i64 e1,.string e2,.string e3,.slice A5 p.length c5] 79)) _) hb);have d5:w2.cell? ⟨w.heap.size,5,none⟩=some (.slice A5 p.length c5):=(ah K2.out 5).trans rfl;have B2:=af.mk (av (dm (ax (Below.refl w.heap.size w) (.cells #[.int .i64 x0,.int .i64 e0,.int .i64 e1,.string e2,.string e3,.slice A5 p.length c5] 79)) _) hb);clear hb)|(go_at_call 67;with_reducible refine(Rv 68 (mO Tryz.func68 (by kernel_rfl) rfl) A5 c5 p (fun s=> !rq s) _ (Kd.dN HR.out B2.out) hc (fun x W _ _=>Ru x W)).mono ?_;rintro e w3 ⟨rfl,hb⟩;have B3:=af.mk (av B2.out hb);clear hb))
    go_ret
    exact⟨by rw[HE.out];rfl,B2.out⟩
   ·have HE:=af.mk (hE.out.trans (by rw[h1,h2,decide_eq_false c3];rfl):r=p.any (fun s=> !rq s));clear hE;have c3b:decide (12<(p.length:Int))=false:=decide_eq_false (by omega)
    go_enter Tryz.func64,Tryz.ntmps64
    go_wp2_with (first|(go_at_call 65;with_reducible refine(mM.calls x0 true _ (qf tH.out)).mono ?_;rintro e _ ⟨rfl,⟨⟨n,rfl⟩⟩⟩)|(go_at_call 66;with_reducible refine(gW.calls 4 e0 e1 e2 e3 true _ (QO Ah2.out)).mono ?_;rintro e w2 ⟨rfl,hb⟩;have K2:=af.mk (aK (aU (bI w (.cells #[.int .i64 x0,.int .i64 e0,.int .i64 e1,.string e2,.string e3,.slice A5 p.length c5] 79)) _) hb);have d5:w2.cell? ⟨w.heap.size,5,none⟩=some (.slice A5 p.length c5):=(ah K2.out 5).trans rfl;have B2:=af.mk (av (dm (ax (Below.refl w.heap.size w) (.cells #[.int .i64 x0,.int .i64 e0,.int .i64 e1,.string e2,.string e3,.slice A5 p.length c5] 79)) _) hb);clear hb)|(go_at_call 67;with_reducible refine(Rv 68 (mO Tryz.func68 (by kernel_rfl) rfl) A5 c5 p (fun s=> !rq s) _ (Kd.dN HR.out B2.out) hc (fun x W _ _=>Ru x W)).mono ?_;rintro e w3 ⟨rfl,hb⟩;have B3:=af.mk (av B2.out hb);clear hb))
    go_ret
    exact⟨by rw[HE.out];rfl,B3.out⟩
def EA(a0:Int)(l2:List Int)(a3 a4 a5:Int)(l6:List aN):Bool:=
 !(decide (a0<1)||(decide (a0>2)||(decide (l2.length>32)||(decide (a3<0)||(decide (a3>4)||(!qd a4||(!qd a5||(decide (l6.length>128)||(l6.any BL||l2.any (fun n=> !rQ n))))))))))
theorem Gs(a0:Int)(a1:Bool)(A2:Option Addr)(k2:Nat)(l2:List Int)(a3 a4 a5:Int)(A6:Option Addr)(k6:Nat)(l6:List aN)(w:World)(hr2:Kd.C (Kd.int .i64) w A2 l2.length l2)(hc2:l2.length≤k2)(hr6:Kd.C fZ w A6 l6.length l6)(hc6:l6.length≤k6):
  Calls Tryz.prog 70 #[.agg #[.int .i64 a0,.bool a1,.slice A2 l2.length k2,.int .i64 a3,.int .i64 a4,.int .i64 a5,.slice A6 l6.length k6]] w fun e w'=>e=.returned (.bool (EA a0 l2 a3 a4 a5 l6))∧Below w.heap.size w w':=by
 have hE:=af.mk (show EA a0 l2 a3 a4 a5 l6= !(decide (a0<1)||(decide (a0>2)||(decide (l2.length>32)||(decide (a3<0)||(decide (a3>4)||(!qd a4||(!qd a5||(decide (l6.length>128)||(l6.any BL||l2.any (fun n=> !rQ n))))))))))from rfl);generalize EA a0 l2 a3 a4 a5 l6=r at hE ⊢;have HR2:=af.mk hr2;have HR6:=af.mk hr6;have hlen2:l2.length≤9223372036854775807:=hr2.2.1;have hlen6:l6.length≤9223372036854775807:=hr6.2.1;clear hr2 hr6
 by_cases c1:a0<1
 ·have HE:=af.mk (hE.out.trans (by rw[decide_eq_true c1];rfl):r=false);clear hE
  go_enter Tryz.func70,Tryz.ntmps70
  go_wp2_with (first|fail)
  go_ret
  exact⟨by rw[HE.out];rfl,by repeat(first|apply dm|apply ax|exact Below.refl _ _)⟩
 ·by_cases c2:a0>2
  ·have HE:=af.mk (hE.out.trans (by rw[decide_eq_false c1,decide_eq_true c2];rfl):r=false);clear hE
   go_enter Tryz.func70,Tryz.ntmps70
   go_wp2_with (first|fail)
   go_ret
   exact⟨by rw[HE.out];rfl,by repeat(first|apply dm|apply ax|exact Below.refl _ _)⟩
  ·by_cases c3:l2.length>32
   ·have HE:=af.mk (hE.out.trans (by rw[decide_eq_false c1,decide_eq_false c2,decide_eq_true c3];rfl):r=false);clear hE;have c3b:decide (32<(l2.length:Int))=true:=decide_eq_true (by omega)
    go_enter Tryz.func70,Tryz.ntmps70
    go_wp2_with (first|fail)
    go_ret
    exact⟨by rw[HE.out];rfl,by repeat(first|apply dm|apply ax|exact Below.refl _ _)⟩
   ·by_cases c4:a3<0
    ·have HE:=af.mk (hE.out.trans (by rw[decide_eq_false c1,decide_eq_false c2,decide_eq_false c3,decide_eq_true c4];rfl):r=false);clear hE;have c3b:decide (32<(l2.length:Int))=false:=decide_eq_false (by omega)
     go_enter Tryz.func70,Tryz.ntmps70
     go_wp2_with (first|fail)
     go_ret
     exact⟨by rw[HE.out];rfl,by repeat(first|apply dm|apply ax|exact Below.refl _ _)⟩
    ·by_cases c5:a3>4
     ·have HE:=af.mk (hE.out.trans (by rw[decide_eq_false c1,decide_eq_false c2,decide_eq_false c3,decide_eq_false c4,decide_eq_true c5];rfl):r=false);clear hE;have c3b:decide (32<(l2.length:Int))=false:=decide_eq_false (by omega)
      go_enter Tryz.func70,Tryz.ntmps70
      go_wp2_with (first|fail)
      go_ret
      exact⟨by rw[HE.out];rfl,by repeat(first|apply dm|apply ax|exact Below.refl _ _)⟩
     ·cases h6:qd a4 with
      |false=>
       have rX:=af.mk h6;have HE:=af.mk (hE.out.trans (by rw[decide_eq_false c1,decide_eq_false c2,decide_eq_false c3,decide_eq_false c4,decide_eq_false c5,h6];rfl):r=false);clear hE;have c3b:decide (32<(l2.length:Int))=false:=decide_eq_false (by omega)
       go_enter Tryz.func70,Tryz.ntmps70
       go_wp2_with (first|(go_at_call 65;with_reducible refine(mM.calls a4 false _ (qf rX.out)).mono ?_;rintro e _ ⟨rfl,⟨⟨n,rfl⟩⟩⟩))
       go_ret
       exact⟨by rw[HE.out];rfl,by repeat(first|apply dm|apply ax|exact Below.refl _ _)⟩
      |true=>
       have rX:=af.mk h6
       cases h7:qd a5 with
       |false=>
        have nU:=af.mk h7;have HE:=af.mk (hE.out.trans (by rw[decide_eq_false c1,decide_eq_false c2,decide_eq_false c3,decide_eq_false c4,decide_eq_false c5,h6,h7];rfl):r=false);clear hE;have c3b:decide (32<(l2.length:Int))=false:=decide_eq_false (by omega)
        go_enter Tryz.func70,Tryz.ntmps70
        go_wp2_with (first|(go_at_call 65;with_reducible refine(mM.calls a4 true _ (qf rX.out)).mono ?_;rintro e _ ⟨rfl,⟨⟨n,rfl⟩⟩⟩)|(go_at_call 65;with_reducible refine(mM.calls a5 false _ (qf nU.out)).mono ?_;rintro e _ ⟨rfl,⟨⟨n,rfl⟩⟩⟩))
        go_ret
        exact⟨by rw[HE.out];rfl,by repeat(first|apply dm|apply ax|exact Below.refl _ _)⟩
       |true=>
        have nU:=af.mk h7
        by_cases c8:l6.length>128
        ·have HE:=af.mk (hE.out.trans (by rw[decide_eq_false c1,decide_eq_false c2,decide_eq_false c3,decide_eq_false c4,decide_eq_false c5,h6,h7,decide_eq_true c8];rfl):r=false);clear hE;have c3b:decide (32<(l2.length:Int))=false:=decide_eq_false (by omega);have c8b:decide (128<(l6.length:Int))=true:=decide_eq_true (by omega)
         go_enter Tryz.func70,Tryz.ntmps70
         go_wp2_with (first|(go_at_call 65;with_reducible refine(mM.calls a4 true _ (qf rX.out)).mono ?_;rintro e _ ⟨rfl,⟨⟨n,rfl⟩⟩⟩)|(go_at_call 65;with_reducible refine(mM.calls a5 true _ (qf nU.out)).mono ?_;rintro e _ ⟨rfl,⟨⟨n,rfl⟩⟩⟩))
         go_ret
         exact⟨by rw[HE.out];rfl,by repeat(first|apply dm|apply ax|exact Below.refl _ _)⟩
        ·cases h9:l6.any BL with
         |true=>
          have Ah9:=af.mk h9;have HE:=af.mk (hE.out.trans (by rw[decide_eq_false c1,decide_eq_false c2,decide_eq_false c3,decide_eq_false c4,decide_eq_false c5,h6,h7,decide_eq_false c8,h9];rfl):r=false);clear hE;have c3b:decide (32<(l2.length:Int))=false:=decide_eq_false (by omega);have c8b:decide (128<(l6.length:Int))=false:=decide_eq_false (by omega)
          go_enter Tryz.func70,Tryz.ntmps70
          go_wp2_with (first|(go_at_call 65;with_reducible refine(mM.calls a4 true _ (qf rX.out)).mono ?_;rintro e _ ⟨rfl,⟨⟨n,rfl⟩⟩⟩)|(go_at_call 65;with_reducible refine(mM.calls a5 true _ (qf nU.out)).mono ?_;rintro e _ ⟨rfl,⟨⟨n,rfl⟩⟩⟩)|(go_at_call 125;with_reducible refine(exAny 123 (mO Tryz.func123 (by kernel_rfl) rfl) A6 k6 l6 BL _ (Kd.dN HR6.out (by repeat(first|apply dm|apply ax|exact Below.refl _ _))) hc6 (fun x W _ _=>SV x W)).mono ?_;rw[Ah9.out];rintro e w2 ⟨rfl,hb⟩;have K2:=af.mk (aK (aU (bI w (.cells #[.int .i64 a0,.bool a1,.slice A2 l2.length k2,.int .i64 a3,.int .i64 a4,.int .i64 a5,.slice A6 l6.length k6] 32)) _) hb);have d2:w2.cell? ⟨w.heap.size,2,none⟩=some (.slice A2 l2.length k2):=(ah K2.out 2).trans rfl;have B2:=af.mk (av (by repeat(first|apply dm|apply ax|exact Below.refl _ _)) hb);clear hb)|(go_at_call 126;with_reducible refine(ixAny 127 (mO Tryz.func127 (by kernel_rfl) rfl) A2 k2 l2 (fun n=> !rQ n) _ (Kd.dN HR2.out B2.out) hc2 (fun x W _ _=>XQ x W)).mono ?_;rintro e w3 ⟨rfl,hb⟩;have B3:=af.mk (av B2.out hb);clear hb))
          go_ret
          exact⟨by rw[HE.out];rfl,B2.out⟩
         |false=>
          have Ah9:=af.mk h9;have HE:=af.mk (hE.out.trans (by rw[decide_eq_false c1,decide_eq_false c2,decide_eq_false c3,decide_eq_false c4,decide_eq_false c5,h6,h7,decide_eq_false c8,h9];rfl):r= !(l2.any (fun n=> !rQ n)));clear hE;have c3b:decide (32<(l2.length:Int))=false:=decide_eq_false (by omega);have c8b:decide (128<(l6.length:Int))=false:=decide_eq_false (by omega)
          go_enter Tryz.func70,Tryz.ntmps70
          go_wp2_with (first|(go_at_call 65;with_reducible refine(mM.calls a4 true _ (qf rX.out)).mono ?_;rintro e _ ⟨rfl,⟨⟨n,rfl⟩⟩⟩)|(go_at_call 65;with_reducible refine(mM.calls a5 true _ (qf nU.out)).mono ?_;rintro e _ ⟨rfl,⟨⟨n,rfl⟩⟩⟩)|(go_at_call 125;with_reducible refine(exAny 123 (mO Tryz.func123 (by kernel_rfl) rfl) A6 k6 l6 BL _ (Kd.dN HR6.out (by repeat(first|apply dm|apply ax|exact Below.refl _ _))) hc6 (fun x W _ _=>SV x W)).mono ?_;rw[Ah9.out];rintro e w2 ⟨rfl,hb⟩;have K2:=af.mk (aK (aU (bI w (.cells #[.int .i64 a0,.bool a1,.slice A2 l2.length k2,.int .i64 a3,.int .i64 a4,.int .i64 a5,.slice A6 l6.length k6] 32)) _) hb);have d2:w2.cell? ⟨w.heap.size,2,none⟩=some (.slice A2 l2.length k2):=(ah K2.out 2).trans rfl;have B2:=af.mk (av (by repeat(first|apply dm|apply ax|exact Below.refl _ _)) hb);clear hb)|(go_at_call 126;with_reducible refine(ixAny 127 (mO Tryz.func127 (by kernel_rfl) rfl) A2 k2 l2 (fun n=> !rQ n) _ (Kd.dN HR2.out B2.out) hc2 (fun x W _ _=>XQ x W)).mono ?_;rintro e w3 ⟨rfl,hb⟩;have B3:=af.mk (av B2.out hb);clear hb))
          go_ret
          exact⟨by rw[HE.out];rfl,B3.out⟩
end Go.Proofs.YtdcddenojjdmjaaGreatDoor.T
