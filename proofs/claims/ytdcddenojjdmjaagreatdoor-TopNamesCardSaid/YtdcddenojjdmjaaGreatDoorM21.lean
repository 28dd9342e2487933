import Derived.Test.YtdcddenojjdmjaaGreatDoorM20
set_option linter.all false
set_option maxHeartbeats 8000000
set_option maxRecDepth 100000
namespace Go.Proofs.YtdcddenojjdmjaaGreatDoor.T
open Go.RowKit Go.Proofs.YtdcddenojjdmjaaGreatDoorW.PrintWords Go.Proofs.YtdcddenojjdmjaaGreatDoorW.PrintLast Go.Proofs.YtdcddenojjdmjaaGreatDoorW.PrintMore
theorem NI{A:Option Addr}{l:List bW}{w wr:World}(h:Kd.C nP w A l.length l){i:Nat}(hi:i<l.length)(hb:Below w.heap.size w wr):
  ∃ad A2 c2,A=some ad∧wr.cell? (ad.add (i*3))=some (.int .i64 (l[i]'hi).f0)∧wr.cell? ⟨(ad.add (i*3)).block,(ad.add (i*3)).off+1,none⟩=some (.int .i64 (l[i]'hi).f1)∧wr.cell? ⟨(ad.add (i*3)).block,(ad.add (i*3)).off+2,none⟩=some (.slice A2 (l[i]'hi).f2.length c2)∧(l[i]'hi).f2.length≤c2∧fZ.C w A2 (l[i]'hi).f2.length (l[i]'hi).f2:=by
 obtain⟨ad,A2,c2,e,h0,h1,h2,h3,h4⟩:=Sr h (i:Int) (by omega) (by omega);have er:ou l (i:Int)=l[i]'hi:=by simp[ou,List.getD_eq_getElem?_getD,List.getElem?_eq_getElem hi]
 rw[show(i:Int).toNat=i by omega,er]at h0 h1 h2;rw[er]at h3 h4;exact⟨ad,A2,c2,e,aI hb h0,aI hb h1,aI hb h2,h3,h4⟩
def NH.At(l:List bW)(p:bW→Bool)(Inv:World→Prop)(v8:Value)(wr:World):Prop:=
 ∃i:Nat,i≤l.length∧v8=.int .i64 i∧Inv wr∧∀j (hj:j<l.length),j<i→p (l[j]'hj)=false
theorem NH(K:Nat)(cap:Array Value)(he:∀args w,(callFunc K args).run Tryz.prog w=.ok (.enter K args) w)(A:Option Addr)(c:Nat)(l:List bW)(p:bW→Bool)(w W:World)(hr:Kd.C nP w A l.length l)(hc:l.length≤c)(Inv:World→Prop)(h0:Inv W)
  (hbel:∀W',Inv W'→Below w.heap.size w W')
  (hstep:∀(x:bW) (A2:Option Addr) (c2:Nat) W',x ∈ l→Inv W'→Calls Tryz.prog K (#[.agg #[.int .i64 x.f0,.int .i64 x.f1,.slice A2 x.f2.length c2]]++cap) W' fun e W''=>e=.returned (.bool (p x))∧Inv W''):
  Calls Tryz.prog 157 #[.slice A l.length c,.func (.func K) #[] cap] W fun e W'=>e=.returned (.int .i64 (idx p l))∧Inv W':=by
 have hlen:l.length≤9223372036854775807:=hr.2.1;have HR:=af.mk hr;have H0:=af.mk h0;have HS:=af.mk hstep;have HBel:=af.mk hbel;clear hr h0 hstep hbel
 go_enter Tryz.func157,Tryz.ntmps157
 go_wp2_with fail
 go_loopw [8] (fun v8 wr=>NH.At l p Inv v8 wr) (fun v8 _=>l.length-(intOf v8).toNat)
 case atStart=>exact⟨0,by omega,rfl,H0.out,fun j _ hj=>by omega⟩
 case round=>
  obtain⟨i,hi,rfl,hI,hN⟩:=hrel;have HI:=af.mk hI;have HN:=af.mk hN;clear hI hN H0
  by_cases hlt:i<l.length
  ·obtain⟨ad,A2,c2,hA,hc0,hc1,hc2,_,_⟩:=NI HR.out hlt (HBel.out _ HI.out)
   cases hA
   go_wp2_with fail
   refine(HS.out (l[i]'hlt) A2 c2 _ (List.getElem_mem hlt) HI.out).mono ?_;rintro e w2 ⟨rfl,h2⟩;have H2:=af.mk h2;clear h2 hc0 hc1 hc2
   by_cases hp:p (l[i]'hlt)=true
   ·have HP:=af.mk (DV p l i HN.out hlt hp);rw[hp]
    go_wp2_with fail
    go_ret
    exact⟨by rw[HP.out];rfl,H2.out⟩
   ·have hp:p (l[i]'hlt)=false:=by simpa using hp
    have HP:=af.mk hp;rw[hp];clear hp
    go_wp2_with fail
    go_roundw
    case rel=>exact⟨i+1,by omega,by go_num,H2.out,fun j hj hji=>by
     rcases Nat.lt_or_ge j i with h|h
     ·exact HN.out j hj h
     ·obtain rfl:j=i:=by omega
      exact HP.out⟩
    case measure=>simp[intOf];omega
  ·have HP:=af.mk (AZ p l (fun j hj=>HN.out j hj (by omega)))
   go_wp2_with fail
   go_ret
   exact⟨by rw[HP.out];rfl,HI.out⟩
theorem Kt{α:Type}(p:α→Bool)(l:List α):decide (idx p l≥0)=l.any p:=by
 unfold idx
 cases h:l.findIdx? p with
 |none=>
  rw[List.findIdx?_eq_none_iff]at h
  have:l.any p=false:=by
   rw[← Bool.not_eq_true,List.any_eq_true];rintro⟨x,hx,hp⟩;rw[h x hx]at hp;cases hp
  rw[this];rfl
 |some i=>
  rw[List.findIdx?_eq_some_iff_getElem]at h;obtain⟨hi,hp,_⟩:=h;have:l.any p=true:=List.any_eq_true.2 ⟨_,List.getElem_mem hi,hp⟩;rw[this];exact decide_eq_true (by simp)
theorem stAny(K:Nat)(cap:Array Value)(he:∀args w,(callFunc K args).run Tryz.prog w=.ok (.enter K args) w)(A:Option Addr)(c:Nat)(l:List bW)(p:bW→Bool)(w W:World)(hr:Kd.C nP w A l.length l)(hc:l.length≤c)(Inv:World→Prop)(h0:Inv W)
  (hbel:∀W',Inv W'→Below w.heap.size w W')
  (hstep:∀(x:bW) (A2:Option Addr) (c2:Nat) W',x ∈ l→Inv W'→Calls Tryz.prog K (#[.agg #[.int .i64 x.f0,.int .i64 x.f1,.slice A2 x.f2.length c2]]++cap) W' fun e W''=>e=.returned (.bool (p x))∧Inv W''):
  Calls Tryz.prog 102 #[.slice A l.length c,.func (.func K) #[] cap] W fun e W'=>e=.returned (.bool (l.any p))∧Inv W':=by
 have HC:=af.mk (NH K cap he A c l p w W hr hc Inv h0 hbel hstep);have HE:=af.mk (Kt p l);clear hr h0 hbel hstep he;generalize idx p l=n at HC HE
 go_enter Tryz.func102,Tryz.ntmps102
 go_wp2_with (go_at_call 157;refine HC.out.mono ?_;rintro e w2 ⟨rfl,h2⟩;have H2:=af.mk h2;clear h2)
 go_ret
 exact⟨by rw[← HE.out];rfl,H2.out⟩
def qC(t:Int):Prop:=(Lit.int .i64 t).wf=true
abbrev iW(b:Nat)(K:List Int)(w:World):Prop:=eu b K (fun _=>.bool true) w
theorem Ku{b:Nat}{K:List Int}{x:Int}{w:World}(h:eu b K (oz (fun _=>.bool true) x (.bool true)) w):iW b K w:=h.congr (fun t _=>by unfold oz;split<;>rfl)
section
variable {ops:Array Oper}{rest:List Oper}{o:Oper}{a:Act}{Q:Exit→Act→World→Prop}
theorem NQ(w:World)(hg:o.guard=none)(m x:Operand)(hop:o.op=Op.lookup 131 m x false)(b:Nat)(K:List Int)
  (hm:a.eval m=.map (some b)) (h:iW b K w) (y:Int) (hx:a.eval x=.int .i64 y) (hy:qC y)
  (hK:wpList Tryz.prog ops Q rest (a.put o.dst (.bool (K.contains y))) w):
  wpList Tryz.prog ops Q (o::rest) a w:=
 RL w hg m x 131 4 hop Tryz.underlying131 (Tryz.zeroValue4 w) b K (fun _=>.bool true) hm h y hx hy (by
  cases hc:K.contains y with
  |true=>rw[hc]at hK;exact hK
  |false=>rw[hc]at hK;exact hK)
end
def wo(K:List Int)(l:List bW):List Int:=l.foldl (fun out s=>if K.contains s.f1 then iM s.f0 out else out) []
theorem Sw(K:List Int)(l:List bW)(i:Nat)(hi:i<l.length):wo K (l.take (i+1))=if K.contains (l[i]'hi).f1 then iM (l[i]'hi).f0 (wo K (l.take i))else wo K (l.take i):=by
 unfold wo;rw[← List.take_append_getElem hi,List.foldl_append];rfl
theorem M5(x:Int):∀K:List Int,(iM x K).length≤K.length+1
 | []=>by simp[iM]
 |y::r=>by
  unfold iM;have:=M5 x r
  split
  ·simp
  ·split
   ·simp
   ·simp;omega
theorem Sv(K:List Int)(l:List bW):∀i,i≤l.length→(wo K (l.take i)).length≤i
 |0,_=>by simp[wo]
 |i+1,hi=>by
  rw[Sw K l i (by omega)];have:=Sv K l i (by omega)
  split
  ·have:=M5 (l[i]'(by omega)).f0 (wo K (l.take i));omega
  ·omega
def Nv.At(w:World)(K:List Int)(l:List bW)(v11:Value)(wr:World):Prop:=
 ∃i:Nat,i≤l.length∧v11=.int .i64 i∧iW w.heap.size (wo K (l.take i)) wr∧Below w.heap.size w wr
theorem Nv(A0:Option Addr)(c0:Nat)(l:List bW)(b:Nat)(K:List Int)(w:World)(hr0:Kd.C nP w A0 l.length l)(hc0:l.length≤c0)(hwf:∀s ∈ l,qC s.f0∧qC s.f1)(hK:iW b K w):
  Calls Tryz.prog 106 #[.slice A0 l.length c0,.map (some b)] w fun e w'=>e=.returned (.map (some w.heap.size))∧iW w.heap.size (wo K l) w'∧Below w.heap.size w w':=by
 have hlen:l.length≤9223372036854775807:=hr0.2.1;have HR:=af.mk hr0;have HW:=af.mk hwf;have HK:=af.mk hK;have hmm:=@run_makeMap Tryz.prog;clear hr0 hwf hK
 go_enter Tryz.func106,Tryz.ntmps106
 go_wp2_with fail
 go_loopw [11] (fun v11 wr=>Nv.At w K l v11 wr) (fun v11 _=>l.length-(intOf v11).toNat)
 case atStart=>exact⟨0,by omega,rfl,eu.made w _,ax (Below.refl _ _) _⟩
 case round=>
  obtain⟨i,hi,rfl,hS,hB⟩:=hrel;have HS:=af.mk hS;have HB:=af.mk hB;clear hS hB
  by_cases hlt:i<l.length
  ·obtain⟨ad,A2,c2,hA,hc0,hc1,hc2,_,_⟩:=NI HR.out hlt HB.out
   cases hA
   have HT:=af.mk (Sw K l i hlt);have HL:=af.mk (Sv K l i hi);have hw:=HW.out _ (List.getElem_mem hlt);obtain⟨⟨x0,x1,x2⟩,hx⟩:∃x,x=l[i]'hlt:=⟨_,rfl⟩;rw[← hx]at hc0 hc1 hc2 hw HT;clear hx;simp only at hc0 hc1 hc2 hw HT;have HX:=af.mk hw;clear hw
   cases hcc:K.contains x1 with
   |true=>
    have HC:=af.mk hcc;clear hcc
    go_wp2_with (first
     |(at_lookup;refine NQ _ rfl _ _ rfl b K rfl ((HK.out.below HB.out).alloc _) x1 rfl HX.out.2 ?_;rw[HC.out])
     |(at_mapUpdate;refine Gt _ rfl _ _ _ 131 4 rfl Tryz.underlying131 w.heap.size _ _ rfl (HS.out.alloc _) (by have:=HL.out;unfold maxLen;omega) x0 _ rfl rfl HX.out.1 ?_;intro w2 hm2 hg2;have HM:=af.mk hm2;have HG:=af.mk hg2;clear hm2 hg2))
    go_roundw
    case rel=>exact⟨i+1,by omega,by go_num,by rw[HT.out,if_pos HC.out];exact Ku HM.out,vN (ax HB.out _) _ (ax HB.out _).size HG.out (fun k e=>by cases e;exact Nat.le_refl _)⟩
    case measure=>simp[intOf];omega
   |false=>
    have HC:=af.mk hcc;clear hcc
    go_wp2_with (first
     |(at_lookup;refine NQ _ rfl _ _ rfl b K rfl ((HK.out.below HB.out).alloc _) x1 rfl HX.out.2 ?_;rw[HC.out]))
    go_roundw
    case rel=>exact⟨i+1,by omega,by go_num,by rw[HT.out,if_neg (by rw[HC.out];decide)];exact HS.out.alloc _,ax HB.out _⟩
    case measure=>simp[intOf];omega
  ·obtain rfl:i=l.length:=by omega
   rw[List.take_length]at HS
   go_wp2_with fail
   go_ret
   exact⟨rfl,HS.out,HB.out⟩
theorem QE:(Tryz.prog.info? 189).map (fun i=>(i.zero,i.size,i.bytes))=some (some (.agg #[(.int .i64 0),(.int .i64 0),(.slice none 0 0)]),3,40):=by kernel_rfl
abbrev Ie:=bW×Option Addr×Nat
def KO(y:Ie):List Value:=[.int .i64 y.1.f0,.int .i64 y.1.f1,.slice y.2.1 y.1.f2.length y.2.2]
def QH:Kd Ie where
 sz:=3
 E:=[]
 K:=fun _ y cs=>cs=KO y
 M:=fun _ _ _ y cs=>cs=KO y
 rH:=fun h=>by rw[h];rfl
 su:=fun h u hu=>by
  rw[h]at hu;simp only[KO,List.mem_cons,List.not_mem_nil,or_false]at hu
  rcases hu with rfl|rfl|rfl<;>rfl
 vY:=fun _ h=>h
 pM:=fun h=>h
 lV:=fun _ h=>h
 qD:=fun h=>h
 qE:=fun _ h=>h
 vZ:=fun _ h=>h
def StIn(w:World)(y:Ie):Prop:=y.1.f2.length≤y.2.2∧fZ.C w y.2.1 y.1.f2.length y.1.f2
theorem aas{α β:Type}{R:α→List Value→Prop}{R':β→List Value→Prop}{sz:Nat}{w:World}{A:Option Addr}{n:Nat}{xs:List α}(h:pQ R sz w A n xs)(f:α→β)(hR:∀x ∈ xs,∀cs,R x cs→R' (f x) cs):pQ R' sz w A n (xs.map f):=by
 refine⟨by rw[List.length_map];exact h.1,h.2.1,fun hn=>?_⟩;obtain⟨ad,e,hc⟩:=h.2.2 hn;refine⟨ad,e,fun j p hj=>?_⟩;rw[List.getElem?_map]at hj
 cases hx:xs[j]? with
 |none=>rw[hx]at hj;cases hj
 |some x=>
  rw[hx]at hj
  cases hj
  obtain⟨c,h1,h2,h3⟩:=hc j x hx;exact⟨c,h1,hR x (List.mem_of_getElem? hx) c h2,h3⟩
theorem kFlat_C{w w1:World}{A:Option Addr}{n:Nat}{ys:List Ie}(h:QH.C w1 A n ys)(hi:∀y ∈ ys,StIn w y)(hb:Below w.heap.size w w1):nP.C w1 A n (ys.map (·.1)):=
 aas h _ (fun y hy cs e=>by
  obtain⟨h1,h2⟩:=hi y hy;have e:cs=KO y:=e;rw[e];exact k189_mk w1 y.1 h1 (Kd.dN h2 hb))
theorem Vz{b:Nat}{K:List Int}{w:World}(h:iW b K w){y:Int}(hy:qC y):(Instr.lookup 131 (.map (some b)) (.int .i64 y) false).run Tryz.prog w=.ok (.bool (K.contains y)) w:=by
 have:=eu.look h Tryz.underlying131 (Tryz.zeroValue4 w) hy
 cases hc:K.contains y<;>rw[hc]at this<;>exact this
def BF(at_:Int)(K:List Int)(x:bW):Bool:=x.f0==at_&&K.contains x.f1
theorem Yh(x:bW)(A2:Option Addr)(c2:Nat)(ga gr gk n cR bk k:Nat)(AR:Addr)(at_:Int)(K:List Int)(w:World)
  (ha:w.heap[ga]? =some (.cells #[.int .i64 at_] 3 (0,0))) (hr:w.heap[gr]? =some (.cells #[.slice (some AR) n cR] 201 (0,0))) (hk:w.heap[gk]? =some (.cells #[.int .i64 (k:Int)] 3 (0,0)))
  (hkn:k<n) (hn:n≤9223372036854775807) (hc:w.cell? (AR.add k)=some (.map (some bk))) (hS:iW bk K w) (hx:qC x.f1):
  Calls Tryz.prog 161 #[.agg #[.int .i64 x.f0,.int .i64 x.f1,.slice A2 x.f2.length c2],.pointer (some ⟨ga,0,none⟩),.pointer (some ⟨gr,0,none⟩),.pointer (some ⟨gk,0,none⟩)] w fun e w'=>e=.returned (.bool (BF at_ K x))∧Below w.heap.size w w':=by
 obtain⟨x0,x1,x2⟩:=x;simp only at hx ⊢;have la:=iB ha;have lr:=iB hr;have lk:=iB hk;have ca:w.cell? ⟨ga,0,none⟩=some (.int .i64 at_):=(ah ha 0).trans rfl;have cr:w.cell? ⟨gr,0,none⟩=some (.slice (some AR) n cR):=(ah hr 0).trans rfl;have ck:w.cell? ⟨gk,0,none⟩=some (.int .i64 (k:Int)):=(ah hk 0).trans rfl;have hl:∀m:Nat,(Instr.lookup 131 (.map (some bk)) (.int .i64 x1) false).run Tryz.prog ((w.alloc (.cells #[.int .i64 x0,.int .i64 x1,.slice A2 x2.length c2] 189)).drewN m)=.ok (.bool (K.contains x1)) ((w.alloc (.cells #[.int .i64 x0,.int .i64 x1,.slice A2 x2.length c2] 189)).drewN m):=fun m=>Vz ((hS.alloc _).drewN m) hx
 have hc':=aI (ax (Below.refl w.heap.size w) (.cells #[.int .i64 x0,.int .i64 x1,.slice A2 x2.length c2] 189)) hc;clear hc ha hr hk hS;unfold BF
 by_cases h1:x0=at_
 ·subst h1;have e:((x0==x0)&&K.contains x1)=K.contains x1:=by simp
  rw[e];clear e;generalize K.contains x1=c at hl ⊢
  go_enter Tryz.func161,Tryz.ntmps161
  go_wp2_with fail
  go_quiet (fail)
  go_wp2_with fail
  go_ret
  exact⟨rfl,dm (ax (Below.refl _ _) _) _⟩
 ·have hb:(x0==at_)=false:=beq_eq_false_iff_ne.2 h1;simp only[hb,Bool.false_and];clear hl
  go_enter Tryz.func161,Tryz.ntmps161
  go_wp2_with fail
  go_quiet (fail)
  go_wp2_with fail
  go_ret
  exact⟨rfl,dm (ax (Below.refl _ _) _) _⟩
def ve(l:List bW):List (List Int)→Int→List bW
 | [],_=>[]
 |K::r,at_=>match l.find? (BF at_ K)with
  |some s=>s::ve l r s.f1
  |none=>[]
theorem QD{α:Type}{p:α→Bool}{l:List α}(h:l.any p=true):∃i,∃hi:i<l.length,idx p l=(i:Int)∧l.find? p=some (l[i]'hi)∧p (l[i]'hi)=true:=by
 unfold idx
 cases hf:l.findIdx? p with
 |none=>
  rw[List.findIdx?_eq_none_iff]at hf;obtain⟨x,hx,hp⟩:=List.any_eq_true.1 h;rw[hf x hx]at hp;cases hp
 |some i=>
  rw[List.findIdx?_eq_some_iff_getElem]at hf;obtain⟨hi,hp,hj⟩:=hf;exact⟨i,hi,rfl,List.find?_eq_some_iff_getElem.2 ⟨hp,i,hi,rfl,fun j hji=>by simpa using hj j hji⟩,hp⟩
theorem V9(K:List Int)(t:Int):∀(l:List bW) (acc:List Int),t ∈ l.foldl (fun out s=>if K.contains s.f1 then iM s.f0 out else out) acc↔t ∈ acc∨∃s ∈ l,s.f0=t∧K.contains s.f1=true
 | [],acc=>by simp
 |x::r,acc=>by
  rw[List.foldl_cons,V9 K t r]
  by_cases c:K.contains x.f1=true
  ·rw[if_pos c,vM];constructor
   ·rintro((rfl|h)|⟨s,hs,h1,h2⟩)
    ·exact .inr ⟨x,List.mem_cons_self,rfl,c⟩
    ·exact .inl h
    ·exact .inr ⟨s,List.mem_cons_of_mem _ hs,h1,h2⟩
   ·rintro(h|⟨s,hs,h1,h2⟩)
    ·exact .inl (.inr h)
    ·rcases List.mem_cons.1 hs with rfl|hs
     ·exact .inl (.inl h1.symm)
     ·exact .inr ⟨s,hs,h1,h2⟩
  ·rw[if_neg c];constructor
   ·rintro(h|⟨s,hs,h1,h2⟩)
    ·exact .inl h
    ·exact .inr ⟨s,List.mem_cons_of_mem _ hs,h1,h2⟩
   ·rintro(h|⟨s,hs,h1,h2⟩)
    ·exact .inl h
    ·rcases List.mem_cons.1 hs with rfl|hs
     ·exact absurd h2 c
     ·exact .inr ⟨s,hs,h1,h2⟩
theorem Yi{l:List bW}{K:List Int}{at_:Int}(h:(wo K l).contains at_=true):l.any (BF at_ K)=true:=by
 rcases(V9 K at_ l []).1 (List.contains_iff_mem.1 h)with h|⟨s,hs,h1,h2⟩
 ·cases h
 ·exact List.any_eq_true.2 ⟨s,hs,by simp only[BF,h1,h2,beq_self_eq_true,Bool.and_self]⟩
theorem take_rev{Ks:List (List Int)}{m:Nat}(h:m<Ks.length):(Ks.take (m+1)).reverse=Ks.getD m []::(Ks.take m).reverse:=by
 rw[← List.take_append_getElem h,List.reverse_append,List.getD_eq_getElem?_getD,List.getElem?_eq_getElem h];rfl
def Ba:Kd Nat:=Kd.scalar (fun b=>.map (some b)) (fun _=>rfl)
def along.At(w:World)(l:List bW)(AR:Addr)(cR:Nat)(Ks:List (List Int))(r:List bW)(m:Nat)(v7 v9:Value)(wr:World):Prop:=
 ∃(at_:Int) (out:List Ie) (g9:Nat),m<Ks.length∧v9=.pointer (some ⟨g9,0,none⟩)∧w.heap.size+1<g9∧wr.heap[g9]? =some (.cells #[.int .i64 ((m:Int)-1)] 3 (0,0))∧wr.heap[w.heap.size]? =some (.cells #[.slice (some AR) Ks.length cR] 201 (0,0))∧
  wr.heap[w.heap.size+1]? =some (.cells #[.int .i64 at_] 3 (0,0))∧Kd.R QH 189 wr w.heap.size (fun _=>True) v7 out∧(∀y ∈ out,StIn w y)∧out.length+m≤Ks.length∧
  out.map (·.1)++ve l ((Ks.take m).reverse) at_=r∧(Ks.getD m []).contains at_=true∧Below w.heap.size w wr
theorem aaH(A0:Option Addr)(c0:Nat)(l:List bW)(AR:Addr)(cR:Nat)(bs:List Nat)(Ks:List (List Int))(from_:Int)(w:World)(hr0:Kd.C nP w A0 l.length l)(hc0:l.length≤c0)(hwf:∀s ∈ l,qC s.f0∧qC s.f1)
  (hR:∀j (hj:j<bs.length),w.cell? (AR.add j)=some (.map (some (bs[j]'hj)))) (hlen:bs.length=Ks.length) (h2:2≤Ks.length) (hmax:Ks.length≤1000000)
  (hS:∀j (hj:j<bs.length),iW (bs[j]'hj) (Ks.getD j []) w) (hch:∀j,j+1<Ks.length→Ks.getD (j+1) []=wo (Ks.getD j []) l) (hin:(Ks.getD (Ks.length-1) []).contains from_=true):
  Calls Tryz.prog 107 #[.slice A0 l.length c0,.int .i64 from_,.slice (some AR) Ks.length cR] w fun e w'=>∃A c,e=.returned (.slice A (ve l ((Ks.take (Ks.length-1)).reverse) from_).length c)∧(ve l ((Ks.take (Ks.length-1)).reverse) from_).length≤c∧
   Kd.C nP w' A (ve l ((Ks.take (Ks.length-1)).reverse) from_).length (ve l ((Ks.take (Ks.length-1)).reverse) from_)∧Below w.heap.size w w':=by
 have hll:l.length≤9223372036854775807:=hr0.2.1;obtain⟨r,hr⟩:∃r,r=ve l ((Ks.take (Ks.length-1)).reverse) from_:=⟨_,rfl⟩;rw[← hr];have cZ:=af.mk hr0;have HW:=af.mk hwf;have HR:=af.mk hR;have HS:=af.mk hS;have HCH:=af.mk hch;have HIN:=af.mk hin;have HLEN:=af.mk hlen;have HRR:=af.mk hr;clear hr0 hwf hR hS hch hin hlen hr;obtain⟨N,hN⟩:∃N,N=Ks.length:=⟨_,rfl⟩;rw[← hN]at h2 hmax;have hw2:IntKind.i64.wrap ((N:Int)-2)=(N:Int)-2:=IntWalk.i64_in _ (by omega);have hmf:∀(fn:Fn) (first cap:Array Value) (w:World),(Instr.makeFunc fn first cap).run Tryz.prog w=.ok (.func fn first cap) w:=fun _ _ _ _=>rfl
 rw[← hN];have HN:=af.mk hN;clear hN
 go_enter Tryz.func107,Tryz.ntmps107
 go_wp2_with fail
 have e1:(w.alloc (.cells #[.slice (some AR) N cR] 201)).heap.size=w.heap.size+1:=by simp
 have e2:((w.alloc (.cells #[.slice (some AR) N cR] 201)).alloc (.cells #[.int .i64 from_] 3)).heap.size=w.heap.size+1+1:=by simp
 have b0:=bI w (.cells #[.slice (some AR) N cR] 201);have b1:=bI (w.alloc (.cells #[.slice (some AR) N cR] 201)) (.cells #[.int .i64 from_] 3);have b2:=bI ((w.alloc (.cells #[.slice (some AR) N cR] 201)).alloc (.cells #[.int .i64 from_] 3)) (.cells #[.int .i64 ((N:Int)-2)] 3);rw[e1]at b1;rw[e2]at b2
 have HI:=af.mk (show along.At w l AR cR Ks r (N-1) (.slice none 0 0) (.pointer (some ⟨w.heap.size+1+1,0,none⟩)) _ from
  ⟨from_,[],w.heap.size+1+1,by have:=HN.out;omega,rfl,by omega,by rw[show((N-1:Nat):Int)-1=(N:Int)-2 by omega];exact b2,by rw[← HN.out];exact ay (ay b0 _) _,ay b1 _,Kd.dV _ _ _ _ _,by simp,by have:=HN.out;simp;omega,
   by rw[HRR.out,HN.out];rfl,by rw[HN.out];exact HIN.out,ax (ax (ax (Below.refl _ _) _) _) _⟩)
 clear b0 b1 b2 e1 e2
 go_loopg [7,9] (N-1) (fun m v7 v9 wr=>along.At w l AR cR Ks r m v7 v9 wr)
 case atStart=>exact HI.out
 case round=>
  obtain⟨at_,out,g9,hm,rfl,hg9,b9,b0,b1,hO,hI,hl,hT,hin,hB⟩:=hrel;clear HI;obtain⟨A7,c7,rfl⟩:=Kd.fH hO;have l9:=iB b9;have l0:=iB b0;have l1:=iB b1
  cases gk with
  |zero=>
   have c9:wr.cell? ⟨g9,0,none⟩=some (.int .i64 (-1)):=(ah b9 0).trans rfl;have hrr:out.map (·.1)=r:=by rw[← hT];simp[ve]
   obtain⟨A,c,he,hle,hC⟩:=Kd.Ia hO
   cases he
   have HC:=af.mk (And.intro (kFlat_C hC hI hB) (And.intro hle hB));have HRR':=af.mk hrr;clear hO hI hT hin hB hC b9 b0 b1 hrr
   go_wp2_with fail
   go_ret
   exact⟨A7,c7,by rw[← HRR'.out,List.length_map];rfl,by rw[← HRR'.out,List.length_map];exact HC.out.2.1,by rw[← HRR'.out,List.length_map];exact HC.out.1,HC.out.2.2⟩
  |succ m=>
   have em:((m+1:Nat):Int)-1=(m:Int):=by omega
   rw[em]at b9;clear em;have c9:wr.cell? ⟨g9,0,none⟩=some (.int .i64 (m:Int)):=(ah b9 0).trans rfl;have hmN:m+1<N:=by have:=HN.out;omega
   have hany:=Yi (l:=l) (K:=Ks.getD m []) (at_:=at_) (by rw[← HCH.out m (by omega)];exact hin);obtain⟨i,hi,hidx,hfind,hpi⟩:=QD hany;have HO:=af.mk hO;have HB:=af.mk hB;have HX:=af.mk (And.intro hI (And.intro hl hT));have HF:=af.mk (And.intro hidx (And.intro hfind hpi));have HK:=af.mk (And.intro b9 (And.intro b0 b1));clear hO hB hI hl hT hidx hfind hpi hany hin b9 b0 b1
   go_wp2_with fail
   refine(NH 161 #[.pointer (some ⟨w.heap.size+1,0,none⟩),.pointer (some ⟨w.heap.size,0,none⟩),.pointer (some ⟨g9,0,none⟩)] (mO Tryz.func161 (by kernel_rfl) rfl) A0 c0 l (BF at_ (Ks.getD m [])) wr wr (Kd.dN cZ.out HB.out) hc0 (fun W'=>Below wr.heap.size wr W') (Below.refl _ _) (fun _ h=>h) ?_).mono ?_
   ·intro x A2 c2 W' hx hbW;have hj:m<bs.length:=by have:=HLEN.out;omega
    refine(Yh x A2 c2 (w.heap.size+1) w.heap.size g9 Ks.length cR (bs[m]'hj) m AR at_ (Ks.getD m []) W' (aK HK.out.2.2 hbW) (aK HK.out.2.1 hbW) (aK HK.out.1 hbW) (by omega) (by have:=HN.out;omega) (aI (HB.out.trans (hbW.mono HB.out.size)) (HR.out m hj)) (((HS.out m hj).below HB.out).below hbW) (HW.out x hx).2).mono ?_;rintro e w2 ⟨rfl,h2⟩;exact⟨rfl,hbW.trans (h2.mono hbW.size)⟩
   rintro e w2 ⟨rfl,hb2⟩;rw[HF.out.1];have HB2:=af.mk (HB.out.trans (hb2.mono HB.out.size));have j4:=af.mk (Kd.gD HO.out hb2);have gK:=af.mk (And.intro (aK HK.out.1 hb2) (And.intro (aK HK.out.2.1 hb2) (aK HK.out.2.2 hb2)));clear hb2 HB HO HK c9 l9 l0 l1;obtain⟨ad,A2,c2,hA,hc0',hc1',hc2',hle2,hin2⟩:=NI cZ.out hi (Below.refl _ _)
   cases hA
   obtain⟨s,hs⟩:∃s,s=l[i]'hi:=⟨_,rfl⟩;have HSM:=af.mk (show s ∈ l by rw[hs];exact List.getElem_mem hi);rw[← hs]at hc0' hc1' hc2' hle2 hin2 HF;clear hs;have HIN2:=af.mk (And.intro hle2 hin2);have HCE:=af.mk hc1';replace hc0':=aI HB2.out hc0';replace hc1':=aI HB2.out hc1';replace hc2':=aI HB2.out hc2';clear hle2 hin2;have rD:=af.mk (show(out.length+1)*40≤140737488355328 by have:=HX.out.2.1;have:=HN.out;omega)
   go_wp2_with (first
    |((with_reducible refine jN (b:=.append) (xs:=#[.tmp 22,.tmp 27]) rfl ?_);at_builtin;refine Kd.kY QH (w0:=w) w.heap.size rfl (.tmp 22) (.tmp 27) 116 189 (.agg #[(.int .i64 0),(.int .i64 0),(.slice none 0 0)]) 40 rfl Tryz.underlying116 QE rfl (by decide) (by omega) (.slice A7 out.length c7) out (s,A2,c2) (KO (s,A2,c2)) (fun _=>True) (fun _=>False) rfl (by first|(go_simp;done)|(go_simp;rfl)) rfl (fun _ h=>h.elim) (fun _ _=>trivial) j4.out HB2.out HB2.out.size rD.out ?_;intro v7 w3 ho3 hb3 hg3 mQ;
      have k9:=fP gK.out.1 hg3 (Kd.jK j4.out gK.out.1 (by decide));have k0:=fP gK.out.2.1 hg3 (Kd.jK j4.out gK.out.2.1 (by decide));have k1:=fP gK.out.2.2 hg3 (Kd.jK j4.out gK.out.2.2 (by decide));have nY:=af.mk ho3;have HB3:=af.mk hb3;have hd1:=aI hb3 HCE.out;have d9:w3.cell? ⟨g9,0,none⟩=some (.int .i64 (m:Int)):=(ah k9 0).trans rfl;have d1:w3.cell? ⟨w.heap.size+1,0,none⟩=some (.int .i64 at_):=(ah k1 0).trans rfl;have df1:=aA k1 0;have n1:g9≠w.heap.size+1:=(by omega);have lk9:=iB k9;have lk1:=iB k1;have gq:=af.mk (And.intro k9 (And.intro k0 k1));clear ho3 hb3 hg3 mQ k9 k0 k1 hc0' hc1' hc2'))
   have hz:(w3.setCell ⟨w.heap.size+1,0,none⟩ (.int .i64 s.f1)).heap.size=w3.heap.size:=by simp[World.setCell]
   have kn:=bI (w3.setCell ⟨w.heap.size+1,0,none⟩ (.int .i64 s.f1)) (.cells #[.int .i64 ((m:Int)-1)] 3);rw[hz]at kn
   go_roundg m
   case measure=>omega
   case rel=>
    refine⟨s.f1,out++[(s,A2,c2)],w3.heap.size,by omega,rfl,by omega,kn,ay ((iV (by omega) _).trans gq.out.2.1) _,ay ((dS gq.out.2.2 _).trans (by simp)) _,Kd.bX (Kd.OA nY.out gq.out.2.2 (by decide) 0 _) _,?_,by have:=HX.out.2.1;simp;omega,?_,?_,ax (mI HB3.out (by omega)) _⟩
    ·intro y hy
     rcases List.mem_append.1 hy with hy|hy
     ·exact HX.out.1 y hy
     ·obtain rfl:=List.mem_singleton.1 hy;exact HIN2.out
    ·have hT:=HX.out.2.2;rw[take_rev (by omega),ve,HF.out.2.1]at hT;rw[← hT];simp
    ·have hp:=HF.out.2.2;unfold BF at hp;exact(Bool.and_eq_true_iff.1 hp).2
end Go.Proofs.YtdcddenojjdmjaaGreatDoor.T
