import Derived.Test.YtdcddenojjdmjaaGreatDoorM26
set_option linter.all false
set_option maxHeartbeats 8000000
set_option maxRecDepth 100000
namespace Go.Proofs.YtdcddenojjdmjaaGreatDoor.T
open Go.RowKit Go.Proofs.YtdcddenojjdmjaaGreatDoorW.PrintWords Go.Proofs.YtdcddenojjdmjaaGreatDoorW.PrintLast Go.Proofs.YtdcddenojjdmjaaGreatDoorW.PrintMore
def xV(e:aN):Array Value:=#[.int .i64 e.f0,.int .i64 e.f1,.int .i64 e.f2,.int .i64 e.f3,.int .i64 e.f4]
theorem LF{A:Option Addr}{l:List aN}{w wr:World}(h:Kd.C fZ w A l.length l){i:Nat}(hi:i<l.length)(hb:Below w.heap.size w wr):
  ∃ad,A=some ad∧wr.cell? (ad.add (i*5))=some (.int .i64 (l[i]'hi).f0)∧wr.cell? ⟨(ad.add (i*5)).block,(ad.add (i*5)).off+1,none⟩=some (.int .i64 (l[i]'hi).f1)∧wr.cell? ⟨(ad.add (i*5)).block,(ad.add (i*5)).off+2,none⟩=some (.int .i64 (l[i]'hi).f2)∧
   wr.cell? ⟨(ad.add (i*5)).block,(ad.add (i*5)).off+3,none⟩=some (.int .i64 (l[i]'hi).f3)∧wr.cell? ⟨(ad.add (i*5)).block,(ad.add (i*5)).off+4,none⟩=some (.int .i64 (l[i]'hi).f4):=by
 obtain⟨ad,e,h0,h1,h2,h3,h4⟩:=Ik h (i:Int) (by omega) (by omega);have er:gG l (i:Int)=l[i]'hi:=by simp[gG,List.getD_eq_getElem?_getD,List.getElem?_eq_getElem hi]
 rw[show(i:Int).toNat=i by omega,er]at h0 h1 h2 h3 h4;exact⟨ad,e,aI hb h0,aI hb h1,aI hb h2,aI hb h3,aI hb h4⟩
theorem Ws{w:World}{g base:Nat}{e:aN}(h:w.heap[g]? =some (.cells (xV e) 136 (0,0)))(hb:base≤g):fZ.R 136 w base (fun k=>k=g) (.slice (some ⟨g,0,none⟩) 1 1) [e]:=by
 refine⟨fun k hk=>by simpa [Value.ownBlock]using hk.symm,(xV e).toList,⟨rfl,.inr ⟨g,1,xV e,rfl,hb,h,Nat.le_refl _,by unfold maxLen;omega,rfl,rfl⟩⟩,?_⟩;exact(fC.none _ 5).snoc (M7 _ _ _ e) rfl
theorem Wt{w:World}{g:Nat}{e:aN}(h:w.heap[g]? =some (.cells (xV e) 136 (0,0))):fZ.C w (some ⟨g,0,none⟩) 1 [e]:=by
 obtain⟨A,c,he,_,hC⟩:=Kd.Ia (Ws h (Nat.zero_le _))
 cases he;exact hC
theorem putOne(g1 g2:Nat)(e f:aN)(w:World)(h1:w.heap[g1]? =some (.cells (xV e) 136 (0,0)))(h2:w.heap[g2]? =some (.cells (xV f) 136 (0,0))):
  Calls Tryz.prog 98 #[.slice (some ⟨g1,0,none⟩) 1 1,.slice (some ⟨g2,0,none⟩) 1 1] w fun e' w'=>∃v:Value,e'=.returned v∧Kd.R fZ 136 w' w.heap.size (fun _=>True) v [e,f]∧Below w.heap.size w w':=
 BN.calls (some ⟨g1,0,none⟩) 1 [e] (some ⟨g2,0,none⟩) 1 [f] [e,f] w (Wt h1) (Nat.le_refl _) (Wt h2) (Nat.le_refl _) rfl
def NJ(a0:Int)(e:aN):Bool:=a0==1||(a0==2&& !(e.f0==3))
def zH(a0:Int)(e f:aN):Bool:=a0==2&&(f.f0==3&&f.f1==e.f2)
def zI(a0:Int)(e:aN)(l:List aN):List bW:=(l.filter (zH a0 e)).map (fun f=>⟨e.f1,f.f2,[e,f]⟩)
def uD(a0:Int)(l:List aN)(e:aN):List bW:=if NJ a0 e then⟨e.f1,e.f2,[e]⟩::zI a0 e l else[]
def Ew(a0:Int)(l:List aN):List bW:=l.flatMap (uD a0 l)
def BM.f(a0:Int)(l1:List aN):Option (List bW):=if l1.length≤1000000 then some (Ew a0 l1)else none
theorem aa2(a0:Int)(l m:List aN)(i:Nat)(hi:i<m.length):(m.take (i+1)).flatMap (uD a0 l)=(m.take i).flatMap (uD a0 l)++uD a0 l (m[i]'hi):=by
 rw[← List.take_append_getElem hi,List.flatMap_append];simp
theorem two_take(a0:Int)(e:aN)(l:List aN)(i:Nat)(hi:i<l.length):zI a0 e (l.take (i+1))=zI a0 e (l.take i)++if zH a0 e (l[i]'hi)then[⟨e.f1,(l[i]'hi).f2,[e,l[i]'hi]⟩]else[]:=by
 unfold zI;rw[← List.take_append_getElem hi,List.filter_append,List.map_append]
 congr 1
 cases c:zH a0 e (l[i]'hi)<;>simp[c]
theorem XO(a0:Int)(e:aN)(l:List aN):(zI a0 e l).length≤l.length:=by
 unfold zI;rw[List.length_map];exact List.length_filter_le _ _
theorem one_len(a0:Int)(l:List aN)(e:aN):(uD a0 l e).length≤l.length+1:=by
 unfold uD
 split
 ·rw[List.length_cons];have:=XO a0 e l;omega
 ·simp
theorem XA(a0:Int)(l:List aN):∀m:List aN,(m.flatMap (uD a0 l)).length≤m.length*(l.length+1)
 | []=>by simp
 |e::r=>by
  rw[List.flatMap_cons,List.length_append,List.length_cons,Nat.succ_mul];have:=XA a0 l r;have:=one_len a0 l e;omega
def Steps.At(w:World)(a0:Int)(l:List aN)(v5 v13:Value)(wr:World):Prop:=
 ∃i:Nat,i≤l.length∧v13=.int .i64 i∧Kd.R nP 189 wr w.heap.size (fun _=>True) v5 ((l.take i).flatMap (uD a0 l))∧Below w.heap.size w wr
def Steps.In(w:World)(a0:Int)(l:List aN)(pre:List bW)(e:aN)(b7 g:Nat)(v5 v41:Value)(wr:World):Prop:=
 ∃k:Nat,k≤l.length∧v41=.int .i64 k∧Kd.R nP 189 wr w.heap.size (fun _=>True) v5 (pre++⟨e.f1,e.f2,[e]⟩::zI a0 e (l.take k))∧wr.heap[b7]? =some (.cells (xV e) 136 (0,0))∧wr.heap[g]? =some (.cells (xV e) 136 (0,0))∧Below w.heap.size w wr
theorem BM.calls(a0:Int)(A1:Option Addr)(c1:Nat)(l1:List aN)(r:List bW)(w:World)(hr1:Kd.C fZ w A1 l1.length l1)(hc1:l1.length≤c1)(h:BM.f a0 l1=some r):
  Calls Tryz.prog 45 #[.int .i64 a0,.slice A1 l1.length c1] w fun e w'=>∃fE:Value,e=.returned (fE)∧Kd.R nP 189 w' w.heap.size (fun _=>True) fE r∧Below w.heap.size w w':=by
 unfold BM.f at h
 split at h
 case isFalse=>cases h
 rename_i hmax
 cases h
 have HR:=af.mk hr1;clear hr1
 go_enter Tryz.func45,Tryz.ntmps45
 go_wp2_with fail
 go_loopw [5,13] (fun v5 v13 wr=>Steps.At w a0 l1 v5 v13 wr) (fun _ v13 _=>l1.length-(intOf v13).toNat)
 case atStart=>exact⟨0,by omega,rfl,Kd.dV _ _ _ _ _,Below.refl _ _⟩
 case round=>
  obtain⟨i,hi,rfl,hO,hB⟩:=hrel;obtain⟨A5,c5,rfl⟩:=Kd.fH hO;have HO:=af.mk hO;have HB:=af.mk hB;clear hO hB
  by_cases hlt:i<l1.length
  ·obtain⟨ad,hA,q0,q1,q2,q3,q4⟩:=LF HR.out hlt HB.out
   cases hA
   have HT:=af.mk (aa2 a0 l1 l1 i hlt);have rF:=af.mk (XA a0 l1 (l1.take i));obtain⟨⟨e0,e1,e2,e3,e4⟩,he⟩:∃x,x=l1[i]'hlt:=⟨_,rfl⟩;rw[← he]at q0 q1 q2 q3 q4 HT;clear he;simp only at q0 q1 q2 q3 q4;obtain⟨pre,hpre⟩:∃pre,pre=(l1.take i).flatMap (uD a0 l1):=⟨_,rfl⟩;rw[← hpre]at HO HT rF;rw[← hpre];clear hpre
   cases hs:NJ a0 ⟨e0,e1,e2,e3,e4⟩with
   |false=>
    have HN:=af.mk (show Steps.At w a0 l1 (.slice A5 pre.length c5) (.int .i64 ((i:Int)+1)) (wr.alloc (.cells #[.int .i64 e0,.int .i64 e1,.int .i64 e2,.int .i64 e3,.int .i64 e4] 136))from
     ⟨i+1,by omega,rfl,by rw[HT.out];unfold uD;rw[hs];simpa using Kd.bX HO.out _,ax HB.out _⟩)
    have hcase:((a0 != 1)=true∧(a0 != 2)=true)∨((a0 != 1)=true∧(a0 != 2)=false∧(e0==3)=true):=by
     unfold NJ at hs
     cases x1:(a0==1)<;>cases x2:(a0==2)<;>cases x3:(e0==3)<;>simp[x1,x2,x3,bne]at hs ⊢
    clear hs
    rcases hcase with ⟨x1,x2⟩|⟨x1,x2,x3⟩
    all_goals
     go_wp2_with fail
     go_roundw
     case rel=>exact HN.out
     case measure=>simp[intOf];omega
   |true=>
    have hcase:(a0 != 1)=false∨((a0 != 1)=true∧(a0 != 2)=false∧(e0==3)=false):=by
     unfold NJ at hs
     cases x1:(a0==1)<;>cases x2:(a0==2)<;>cases x3:(e0==3)<;>simp[x1,x2,x3,bne]at hs ⊢
    have HS:=af.mk hs;have z1:(wr.alloc (.cells #[.int .i64 e0,.int .i64 e1,.int .i64 e2,.int .i64 e3,.int .i64 e4] 136)).heap.size=wr.heap.size+1:=by simp
    have kg:=bI (wr.alloc (.cells #[.int .i64 e0,.int .i64 e1,.int .i64 e2,.int .i64 e3,.int .i64 e4] 136)) (.cells #[.int .i64 e0,.int .i64 e1,.int .i64 e2,.int .i64 e3,.int .i64 e4] 136);rw[z1]at kg;have HW:=af.mk (And.intro (ay (bI wr (.cells #[.int .i64 e0,.int .i64 e1,.int .i64 e2,.int .i64 e3,.int .i64 e4] 136)) (.cells #[.int .i64 e0,.int .i64 e1,.int .i64 e2,.int .i64 e3,.int .i64 e4] 136)) kg);have j4:=af.mk (Kd.bX (Kd.bX HO.out (.cells #[.int .i64 e0,.int .i64 e1,.int .i64 e2,.int .i64 e3,.int .i64 e4] 136)) (.cells #[.int .i64 e0,.int .i64 e1,.int .i64 e2,.int .i64 e3,.int .i64 e4] 136));have HB2:=af.mk (ax (ax HB.out (.cells #[.int .i64 e0,.int .i64 e1,.int .i64 e2,.int .i64 e3,.int .i64 e4] 136)) (.cells #[.int .i64 e0,.int .i64 e1,.int .i64 e2,.int .i64 e3,.int .i64 e4] 136))
    have qo:=af.mk (show(pre.length+1)*40≤140737488355328 by
     have:=rF.out;have h1:(l1.take i).length≤1000000:=by rw[List.length_take];omega
     have h2:(l1.take i).length*(l1.length+1)≤1000000*1000001:=Nat.mul_le_mul h1 (by omega);omega)
    have hbs:w.heap.size≤wr.heap.size+1:=by have:=HB.out.size;omega
    clear hs kg z1 HO
    rcases hcase with x1|⟨x1,x2,x3⟩
    all_goals
     go_wp2_with (first
      |((with_reducible refine jN (b:=.append) (xs:=#[.tmp 30,.tmp 37]) rfl ?_);at_builtin;refine Kd.kY nP (w0:=w) w.heap.size rfl (.tmp 30) (.tmp 37) 116 189 (.agg #[(.int .i64 0),(.int .i64 0),(.slice none 0 0)]) 40 rfl Tryz.underlying116 QE rfl (by decide) (by omega) (.slice A5 pre.length c5) pre ⟨e1,e2,[⟨e0,e1,e2,e3,e4⟩]⟩ [.int .i64 e1,.int .i64 e2,.slice (some ⟨wr.heap.size+1,0,none⟩) 1 1] (fun _=>True) (fun k=>k=wr.heap.size+1) rfl (by first|(go_simp;done)|(go_simp;rfl)) (VB _ _ _ _ (Ws HW.out.2 hbs)) (fun k h=>⟨trivial,by rw[h];exact Kd.jK j4.out HW.out.2 (by decide)⟩) (fun _ _=>trivial) j4.out HB2.out HB2.out.size qo.out ?_;intro v5 w3 ho3 hb3 hg3 mQ;
        have kk7:=fP HW.out.1 hg3 (Kd.jK j4.out HW.out.1 (by decide));have kkg:=fP HW.out.2 hg3 (Kd.jK j4.out HW.out.2 (by decide));have gq:=af.mk (And.intro kk7 kkg);have nY:=af.mk ho3;have HB3:=af.mk hb3;clear ho3 hb3 hg3 mQ kk7 kkg q0 q1 q2 q3 q4))
     have HI:=af.mk (show Steps.In w a0 l1 pre ⟨e0,e1,e2,e3,e4⟩ wr.heap.size (wr.heap.size+1) v5 (.int .i64 0) w3 from⟨0,by omega,rfl,nY.out,gq.out.1,gq.out.2,HB3.out⟩);clear nY gq j4 HB2 HW qo;have hb7:w.heap.size≤wr.heap.size:=HB.out.size;generalize wr.heap.size=b7 at HI hb7 hbs ⊢
     go_loopw [5,41] (fun v5 v41 wr=>Steps.In w a0 l1 pre ⟨e0,e1,e2,e3,e4⟩ b7 (b7+1) v5 v41 wr) (fun _ v41 _=>l1.length-(intOf v41).toNat)
     case atStart=>exact HI.out
     case round=>
      obtain⟨k,hk,rfl,hO,k7,kg,hB⟩:=hrel;clear HI HB;obtain⟨A6,c6,rfl⟩:=Kd.fH hO;have HO:=af.mk hO;have HB:=af.mk hB;have HK:=af.mk (And.intro k7 kg);clear hO hB kg
      by_cases hlt2:k<l1.length
      ·obtain⟨ad,hA,q0,q1,q2,q3,q4⟩:=LF HR.out hlt2 HB.out
       cases hA
       have HT2:=af.mk (two_take a0 ⟨e0,e1,e2,e3,e4⟩ l1 k hlt2);have HL2:=af.mk (XO a0 ⟨e0,e1,e2,e3,e4⟩ (l1.take k));obtain⟨⟨f0,f1,f2,f3,f4⟩,he⟩:∃x,x=l1[k]'hlt2:=⟨_,rfl⟩;rw[← he]at q0 q1 q2 q3 q4 HT2;clear he;simp only at q0 q1 q2 q3 q4 HT2;obtain⟨xs,hxs⟩:∃xs,xs=pre++⟨e1,e2,[⟨e0,e1,e2,e3,e4⟩]⟩::zI a0 ⟨e0,e1,e2,e3,e4⟩ (l1.take k):=⟨_,rfl⟩;rw[← hxs]at HO;rw[← hxs];have HX:=af.mk hxs;clear hxs;have d1:wr.cell? ⟨b7,1,none⟩=some (.int .i64 e1):=(ah k7 1).trans rfl;have d2:wr.cell? ⟨b7,2,none⟩=some (.int .i64 e2):=(ah k7 2).trans rfl;have l7:=iB k7;clear k7
       have hno:zH a0 ⟨e0,e1,e2,e3,e4⟩ ⟨f0,f1,f2,f3,f4⟩=false→Steps.In w a0 l1 pre ⟨e0,e1,e2,e3,e4⟩ b7 (b7+1) (.slice A6 xs.length c6) (.int .i64 ((k:Int)+1)) (wr.alloc (.cells #[.int .i64 f0,.int .i64 f1,.int .i64 f2,.int .i64 f3,.int .i64 f4] 136)):=fun hs=>
        ⟨k+1,by omega,rfl,by rw[HT2.out,hs,if_neg (by decide),List.append_nil,← HX.out];exact Kd.bX HO.out _,ay HK.out.1 _,ay HK.out.2 _,ax HB.out _⟩
       have HNO:=af.mk hno;clear hno
       cases x4:(a0==2)with
       |false=>
        have HN:=af.mk (HNO.out (by unfold zH;rw[x4];rfl));clear HNO
        go_wp2_with fail
        go_roundw
        case rel=>exact HN.out
        case measure=>simp[intOf];omega
       |true=>
        cases x5:(f0==3)with
        |false=>
         have HN:=af.mk (HNO.out (by unfold zH;rw[x4];simp only[x5];rfl));clear HNO
         go_wp2_with fail
         go_roundw
         case rel=>exact HN.out
         case measure=>simp[intOf];omega
        |true=>
         cases x6:(f1==e2)with
         |false=>
          have HN:=af.mk (HNO.out (by unfold zH;rw[x4];simp only[x5,x6];rfl));clear HNO
          go_wp2_with fail
          go_roundw
          case rel=>exact HN.out
          case measure=>simp[intOf];omega
         |true=>
          have HY:=af.mk (show zH a0 ⟨e0,e1,e2,e3,e4⟩ ⟨f0,f1,f2,f3,f4⟩=true by unfold zH;rw[x4];simp only[x5,x6];rfl);clear HNO
          have qp:=af.mk (show(xs.length+1)*40≤140737488355328 by
           rw[HX.out,List.length_append,List.length_cons];have:=rF.out;have h1:(l1.take i).length≤1000000:=by rw[List.length_take];omega
           have h2:(l1.take i).length*(l1.length+1)≤1000000*1000001:=Nat.mul_le_mul h1 (by omega);have h3:=HL2.out;have h4:(l1.take k).length≤1000000:=by rw[List.length_take];omega
           omega)
          go_wp2_with fail
          obtain⟨b10,hb10⟩:∃b,b=wr.heap.size:=⟨_,rfl⟩;have kn:=bI wr (.cells #[.int .i64 f0,.int .i64 f1,.int .i64 f2,.int .i64 f3,.int .i64 f4] 136);replace HO:=af.mk (Kd.bX HO.out (.cells #[.int .i64 f0,.int .i64 f1,.int .i64 f2,.int .i64 f3,.int .i64 f4] 136));replace HB:=af.mk (ax HB.out (.cells #[.int .i64 f0,.int .i64 f1,.int .i64 f2,.int .i64 f3,.int .i64 f4] 136));replace HK:=af.mk (And.intro (ay HK.out.1 (.cells #[.int .i64 f0,.int .i64 f1,.int .i64 f2,.int .i64 f3,.int .i64 f4] 136)) (ay HK.out.2 (.cells #[.int .i64 f0,.int .i64 f1,.int .i64 f2,.int .i64 f3,.int .i64 f4] 136)));rw[← hb10]at kn ⊢;clear hb10 q0 q1 q2 q3 q4 d1 d2;revert kn HO HB HK;generalize wr.alloc (.cells #[.int .i64 f0,.int .i64 f1,.int .i64 f2,.int .i64 f3,.int .i64 f4] 136)=W;intro kn HO HB HK;have q0:W.drew.cell? ⟨b10,0,none⟩=some (.int .i64 f0):=(ah kn 0).trans rfl;have q1:W.drew.cell? ⟨b10,1,none⟩=some (.int .i64 f1):=(ah kn 1).trans rfl;have q2:W.drew.cell? ⟨b10,2,none⟩=some (.int .i64 f2):=(ah kn 2).trans rfl;have q3:W.drew.cell? ⟨b10,3,none⟩=some (.int .i64 f3):=(ah kn 3).trans rfl;have q4:W.drew.cell? ⟨b10,4,none⟩=some (.int .i64 f4):=(ah kn 4).trans rfl;have d1:W.drew.cell? ⟨b7,1,none⟩=some (.int .i64 e1):=(ah HK.out.1 1).trans rfl;refine gZ (n:=13) (S:=fun w'=>w'.cell? ⟨b10,0,none⟩=some (.int .i64 f0)∧w'.cell? ⟨b10,1,none⟩=some (.int .i64 f1)∧w'.cell? ⟨b10,2,none⟩=some (.int .i64 f2)∧w'.cell? ⟨b10,3,none⟩=some (.int .i64 f3)∧w'.cell? ⟨b10,4,none⟩=some (.int .i64 f4)∧w'.cell? ⟨b7,1,none⟩=some (.int .i64 e1)∧w'.heap[b7]? =some (.cells (xV ⟨e0,e1,e2,e3,e4⟩) 136 (0,0))∧w'.heap[b7+1]? =some (.cells (xV ⟨e0,e1,e2,e3,e4⟩) 136 (0,0))∧Kd.R nP 189 w' w.heap.size (fun _=>True) (.slice A6 xs.length c6) xs∧Below w.heap.size w w') (ds:=[11]) #[false,false,false,false,false,false,false,false,false,false,false,false,false] (by kernel_rfl) rfl rfl ⟨q0,q1,q2,q3,q4,d1,HK.out.1,HK.out.2,Kd.di HO.out,Below.drew HB.out⟩ (fun hHeld=>?_);refine au 0 59 ?_;refine au 1 60 ?_;refine au 3 62 ?_;refine au 5 64 ?_;refine bU 2 61 hHeld (by rintro w' ⟨s0,s1,s2,s3,s4,s5,s6,s7,s8,s9⟩;go_simp;with_reducible rfl) ?_ rfl rfl;refine bU 4 63 hHeld (by rintro w' ⟨s0,s1,s2,s3,s4,s5,s6,s7,s8,s9⟩;go_simp;with_reducible rfl) ?_ rfl rfl;refine bU 6 65 hHeld (by rintro w' ⟨s0,s1,s2,s3,s4,s5,s6,s7,s8,s9⟩;go_simp;with_reducible rfl) ?_ rfl rfl;refine fu 7 (N:=some 66) rfl rfl fun K hK=>?_
          refine Bp (w1:=?_) (v:=?_) (by rfl) rfl ?_ ?_;rotate_left 2
          ·go_simp
           constructor
           ·rfl
           ·rfl
          have hnw:(W.alloc (.cells #[.int .i64 f0,.int .i64 f1,.int .i64 f2,.int .i64 f3,.int .i64 f4] 136)).drew.heap[W.heap.size]? =some (.cells (xV ⟨f0,f1,f2,f3,f4⟩) 136 (0,0)):=bI W _;refine hK.out _ _ ⟨aI (ax (Below.refl _ _) _) (hHeld.1),aI (ax (Below.refl _ _) _) (hHeld.2.1),aI (ax (Below.refl _ _) _) (hHeld.2.2.1),aI (ax (Below.refl _ _) _) (hHeld.2.2.2.1),aI (ax (Below.refl _ _) _) (hHeld.2.2.2.2.1),aI (ax (Below.refl _ _) _) (hHeld.2.2.2.2.2.1),ay (hHeld.2.2.2.2.2.2.1) _,ay (hHeld.2.2.2.2.2.2.2.1) _,Kd.bX (hHeld.2.2.2.2.2.2.2.2.1) _,ax (hHeld.2.2.2.2.2.2.2.2.2) _⟩ (fun hHeld=>?_);clear hK K;refine dM ?_;refine fu 8 (N:=some 67) rfl rfl fun K hK=>?_
          refine gF Tryz.func98 (by kernel_rfl) rfl #[.slice (some ⟨b7+1,0,none⟩) 1 1,.slice (some ⟨W.heap.size,0,none⟩) 1 1] (by rfl) rfl rfl (by simp only[List.map_toArray,List.map_cons,List.map_nil];rfl) ?_
          with_reducible refine(putOne (b7+1) W.heap.size ⟨e0,e1,e2,e3,e4⟩ ⟨f0,f1,f2,f3,f4⟩ _ (hHeld.2.2.2.2.2.2.2.1) hnw).mono ?_
          rintro e w4 ⟨v4,rfl,sM,hb4⟩;refine⟨_,rfl,?_⟩;obtain⟨A4,c4,hv4⟩:=Kd.fH sM;simp only[List.length_cons,List.length_nil,Nat.zero_add,Nat.reduceAdd]at hv4;subst hv4;have HO4:=af.mk (Kd.gU sM (ax (Below.drew HB.out) _).size);have gH:=af.mk (And.intro (aK (hHeld.2.2.2.2.2.2.1) hb4) (And.intro (aK (hHeld.2.2.2.2.2.2.2.1) hb4) (And.intro (Kd.gD (hHeld.2.2.2.2.2.2.2.2.1) hb4) (av (hHeld.2.2.2.2.2.2.2.2.2) hb4))));clear sM;refine hK.out _ _ ⟨aI hb4 (hHeld.1),aI hb4 (hHeld.2.1),aI hb4 (hHeld.2.2.1),aI hb4 (hHeld.2.2.2.1),aI hb4 (hHeld.2.2.2.2.1),aI hb4 (hHeld.2.2.2.2.2.1),gH.out.1,gH.out.2.1,gH.out.2.2.1,gH.out.2.2.2⟩ (fun hHeld=>?_);clear hK K;refine dM ?_;refine au 9 68 ?_;refine fu 10 (N:=some 69) rfl rfl fun K hK=>?_
          refine Bp (w1:=?_) (v:=?_) (by rfl) rfl ?_ ?_;rotate_left 2
          ·go_simp
           constructor
           ·rfl
           ·rfl
          refine hK.out _ _ ⟨aI (ax (Below.refl _ _) _) (hHeld.1),aI (ax (Below.refl _ _) _) (hHeld.2.1),aI (ax (Below.refl _ _) _) (hHeld.2.2.1),aI (ax (Below.refl _ _) _) (hHeld.2.2.2.1),aI (ax (Below.refl _ _) _) (hHeld.2.2.2.2.1),aI (ax (Below.refl _ _) _) (hHeld.2.2.2.2.2.1),ay (hHeld.2.2.2.2.2.2.1) _,ay (hHeld.2.2.2.2.2.2.2.1) _,Kd.bX (hHeld.2.2.2.2.2.2.2.2.1) _,ax (hHeld.2.2.2.2.2.2.2.2.2) _⟩ (fun hHeld=>?_);clear hK K;refine dM ?_;refine iN (i:=11) (N:=some 70) #[true,true,true,true,true,true,true,true,true,true,true,true,false] rfl rfl (by kernel_rfl) (by decide) (fun K hK=>?_);refine Kd.H8 nP (w0:=w) w.heap.size (by rfl) (.tmp 59) (.tmp 69) 116 189 (.agg #[(.int .i64 0),(.int .i64 0),(.slice none 0 0)]) 40 rfl Tryz.underlying116 QE rfl (by decide) (by omega) (.slice A6 xs.length c6) xs ⟨e1,f2,[⟨e0,e1,e2,e3,e4⟩,⟨f0,f1,f2,f3,f4⟩]⟩ [.int .i64 e1,.int .i64 f2,.slice A4 2 c4] (fun _=>True) (fun k=>True∧some k≠(Value.slice A6 xs.length c6).ownBlock) rfl (by first|(go_simp;done)|(go_simp;rfl)) (VB _ _ _ _ (Kd.Yd HO4.out gH.out.2.2.1 (by decide))) (fun k h=>h) (fun _ _=>trivial) gH.out.2.2.1 gH.out.2.2.2 gH.out.2.2.2.size qp.out ?_;intro v6 w6 mU hb6 pY DC;have lU:=af.mk (And.intro (fP gH.out.1 pY (Kd.jK gH.out.2.2.1 gH.out.1 (by decide))) (And.intro (fP gH.out.2.1 pY (Kd.jK gH.out.2.2.1 gH.out.2.1 (by decide))) (And.intro mU hb6)));clear mU hb6 pY DC;refine hK.out _ _ ?_;clear hK K;refine dM ?_;refine au 12 5 ?_;refine gJ ?_
          go_wp2_with fail
          go_roundw
          case rel=>exact⟨k+1,by omega,by go_num,by rw[HT2.out,if_pos HY.out,← List.cons_append,← List.append_assoc,← HX.out];exact lU.out.2.2.1,lU.out.1,lU.out.2.1,lU.out.2.2.2⟩
          case measure=>simp[intOf];omega
      ·obtain rfl:k=l1.length:=by omega
       have HN:=af.mk (show Steps.At w a0 l1 _ (.int .i64 ((i:Int)+1)) wr from⟨i+1,by omega,rfl,by rw[HT.out];unfold uD;rw[if_pos HS.out];have:=HO.out;rw[List.take_length]at this;exact this,HB.out⟩);rw[List.take_length]
       go_wp2_with fail
       go_roundw
       case rel=>exact HN.out
       case measure=>simp[intOf];omega
  ·obtain rfl:i=l1.length:=by omega
   rw[List.take_length]at HO;rw[List.take_length]
   go_wp2_with fail
   go_ret
   exact⟨_,rfl,HO.out,HB.out⟩
end Go.Proofs.YtdcddenojjdmjaaGreatDoor.T
