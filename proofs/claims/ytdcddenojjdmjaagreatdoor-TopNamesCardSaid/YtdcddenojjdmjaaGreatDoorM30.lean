import Derived.Test.YtdcddenojjdmjaaGreatDoorM27
set_option linter.all false
set_option maxHeartbeats 8000000
set_option maxRecDepth 100000
namespace Go.Proofs.YtdcddenojjdmjaaGreatDoor.T
open Go.RowKit Go.Proofs.YtdcddenojjdmjaaGreatDoorW.PrintWords Go.Proofs.YtdcddenojjdmjaaGreatDoorW.PrintLast Go.Proofs.YtdcddenojjdmjaaGreatDoorW.PrintMore
theorem ZE:(Tryz.prog.info? 136).map (fun i=>(i.zero,i.size,i.bytes))=some (some (.agg #[(.int .i64 0),(.int .i64 0),(.int .i64 0),(.int .i64 0),(.int .i64 0)]),5,40):=by kernel_rfl
def nS(h:List aj)(i:Nat):Int:=(h.getD i z67).f1
def uG(h:List aj)(i:Nat):ByteArray:=(h.getD i z67).f3
def ni(h:List aj)(kind:Int)(i k:Nat):List aN:=if nS h i==nS h k then[]else[⟨kind,nS h i,nS h k,i,k⟩]
theorem LG{A:Option Addr}{l:List aj}{w:World}(h:Kd.C dw w A l.length l){i:Nat}(hi:i<l.length):∃ad,A=some ad∧w.cell? ⟨(ad.add (i*4)).block,(ad.add (i*4)).off+1,none⟩=some (.int .i64 (nS l i))∧w.cell? ⟨(ad.add (i*4)).block,(ad.add (i*4)).off+3,none⟩=some (.string (uG l i)):=by
 obtain⟨ad,hA,_,h1,_,h3⟩:=pW h hi (Below.refl _ _);have e:l.getD i z67=l[i]'hi:=by simp[List.getD_eq_getElem?_getD,List.getElem?_eq_getElem hi]
 exact⟨ad,hA,by rw[nS,e];exact h1,by rw[uG,e];exact h3⟩
def OfIn(w0:World)(gh go:Nat)(A:Option Addr)(n c:Nat)(out:List aN)(w:World):Prop:=
 w.heap[gh]? =some (.cells #[.slice A n c] 22 (0,0))∧w0.heap.size≤go∧Below w0.heap.size w0 w∧∃v:Value,w.heap[go]? =some (.cells #[v] 30 (0,0))∧Kd.R fZ 136 w w0.heap.size (fun _=>True) v out
def EW(go:Nat)(w w':World):Prop:=∀k cells t fr,w.heap[k]? =some (.cells cells t fr)→t≠136→k≠go→w'.heap[k]? =w.heap[k]?
theorem EW.R{go:Nat}{w w':World}{α:Type}{d:Kd α}{e base:Nat}{v:Value}{xs:List α}(h:EW go w w')(hR:d.R e w base (fun _=>True) v xs)(ht:∀q,q ∈ e::d.E→q≠136∧q≠30)(hgo:∃cells fr,w.heap[go]? =some (.cells cells 30 fr)):d.R e w' base (fun _=>True) v xs:=by
 refine Kd.bY (Kd.EY (Kd.pO hR) (fun k hk hlt=>?_)) (fun _ _=>trivial);obtain⟨_,_,_,q,hq,cells,hc⟩:=hk;refine h k cells q _ hc (ht q hq).1 (fun e=>?_);obtain⟨c',fr,hg⟩:=hgo;rw[e,hg]at hc
 cases hc
 exact(ht _ hq).2 rfl
theorem EW.blk{go:Nat}{w w':World}{g t:Nat}{cells:Array Value}{fr:Nat×Nat}(h:EW go w w')(hk:w.heap[g]? =some (.cells cells t fr))(ht:t≠136)(hne:g≠go):w'.heap[g]? =some (.cells cells t fr):=(h g cells t fr hk ht hne).trans hk
theorem Kz(kind:Int)(i k gh go c:Nat)(A:Option Addr)(h:List aj)(out:List aN)(w0 w:World)(hr:Kd.C dw w0 A h.length h)(hi:i<h.length)(hk:k<h.length)(hI:OfIn w0 gh go A h.length c out w)(hl:(out.length+1)*40≤140737488355328):
  Calls Tryz.prog 152 #[.int .i64 kind,.int .i64 (i:Int),.int .i64 (k:Int),.pointer (some ⟨gh,0,none⟩),.pointer (some ⟨go,0,none⟩)] w fun e w'=>e=.returned (.tuple #[])∧OfIn w0 gh go A h.length c (out++ni h kind i k) w'∧EW go w w':=by
 have hlen:h.length≤9223372036854775807:=hr.2.1;obtain⟨kh,hgo,hB,v,ko,hO⟩:=hI;obtain⟨ad,hA,xi,_⟩:=LG hr hi;obtain⟨ad',hA',xk,_⟩:=LG hr hk;subst hA
 cases hA'
 obtain⟨Av,cv,rfl⟩:=Kd.fH hO;have HP:=af.mk (show ni h kind i k=if nS h i==nS h k then[]else[⟨kind,nS h i,nS h k,i,k⟩]from rfl);generalize ni h kind i k=pe at HP ⊢;generalize nS h i=x at xi HP;generalize nS h k=y at xk HP;have HX:=af.mk (And.intro xi xk);replace xi:=aI hB xi;replace xk:=aI hB xk;have ch:w.cell? ⟨gh,0,none⟩=some (.slice (some ad) h.length c):=(ah kh 0).trans rfl;have HO:=af.mk hO;have HB:=af.mk hB;have HK:=af.mk (And.intro kh ko);clear hO hB kh ko hr
 cases hxy:(x==y)with
 |true=>
  have HQ:=af.mk (show pe=[] by rw[HP.out,if_pos hxy]);have hne:(x != y)=false:=by simp[bne,hxy]
  clear hxy
  go_enter Tryz.func152,Tryz.ntmps152
  go_wp2_with fail
  go_quiet (fail)
  go_wp2_with fail
  go_end0
  exact⟨rfl,⟨HK.out.1,hgo,dm HB.out _,_,HK.out.2,by rw[HQ.out,List.append_nil];exact Kd.dK HO.out _⟩,fun _ _ _ _ _ _ _=>rfl⟩
 |false=>
  have HQ:=af.mk (show pe=[⟨kind,x,y,i,k⟩] by rw[HP.out,if_neg (by rw[hxy];decide)]);have hne:(x != y)=true:=by simp[bne,hxy]
  clear hxy
  go_enter Tryz.func152,Tryz.ntmps152
  go_wp2_with fail
  go_quiet (fail)
  go_wp2_with fail
  rename_i nq
  replace HO:=af.mk (Kd.dK HO.out nq);replace HB:=af.mk (dm HB.out nq);replace HK:=af.mk (And.intro (aU HK.out.1 nq) (aU HK.out.2 nq));have HWH:=af.mk (show(w.drewN nq).heap=w.heap from rfl);clear xi xk ch;revert HO HB HK HWH;generalize w.drewN nq=W;intro HO HB HK HWH;have ch:W.drew.cell? ⟨gh,0,none⟩=some (.slice (some ad) h.length c):=(ah HK.out.1 0).trans rfl;have co:W.drew.cell? ⟨go,0,none⟩=some (.slice Av out.length cv):=(ah HK.out.2 0).trans rfl;have xi:=aI (Below.drew HB.out) HX.out.1;have xk:=aI (Below.drew HB.out) HX.out.2;have HL:=af.mk hl;clear hl;refine gZ (n:=18) (S:=fun w'=>w'.cell? ⟨go,0,none⟩=some (.slice Av out.length cv)∧w'.cell? ⟨gh,0,none⟩=some (.slice (some ad) h.length c)∧w'.cell? ⟨(ad.add (i*4)).block,(ad.add (i*4)).off+1,none⟩=some (.int .i64 x)∧w'.cell? ⟨(ad.add (k*4)).block,(ad.add (k*4)).off+1,none⟩=some (.int .i64 y)) (ds:=[16,17]) #[false,false,false,false,false,false,false,false,false,false,false,false,false,false,false,false,false,false] (by kernel_rfl) rfl rfl ⟨co,ch,xi,xk⟩ (fun hHeld=>?_);refine au 1 20 ?_;refine au 3 22 ?_;refine au 8 27 ?_;refine au 12 31 ?_;refine au 13 32 ?_;refine bU 0 19 hHeld (by rintro w' ⟨s0,s1,s2,s3⟩;go_simp;with_reducible rfl) ?_ rfl rfl;refine bU 2 21 hHeld (by rintro w' ⟨s0,s1,s2,s3⟩;go_simp;with_reducible rfl) ?_ rfl rfl;refine au 4 23 ?_;refine au 5 24 ?_;refine bU 6 25 hHeld (by rintro w' ⟨s0,s1,s2,s3⟩;go_simp;with_reducible rfl) ?_ rfl rfl;refine bU 7 26 hHeld (by rintro w' ⟨s0,s1,s2,s3⟩;go_simp;with_reducible rfl) ?_ rfl rfl;refine au 9 28 ?_;refine au 10 29 ?_;refine bU 11 30 hHeld (by rintro w' ⟨s0,s1,s2,s3⟩;go_simp;with_reducible rfl) ?_ rfl rfl;refine au 14 33 ?_;refine fu 15 (N:=some 34) rfl rfl fun K hK=>?_
  refine Bp (w1:=?_) (v:=?_) (by rfl) rfl ?_ ?_;rotate_left 2
  ·go_simp
   constructor
   ·rfl
   ·rfl
  refine hK.out _ _ ⟨aI (ax (Below.refl _ _) _) (hHeld.1),aI (ax (Below.refl _ _) _) (hHeld.2.1),aI (ax (Below.refl _ _) _) (hHeld.2.2.1),aI (ax (Below.refl _ _) _) (hHeld.2.2.2)⟩ (fun hHeld=>?_);clear hK K;refine dM ?_;refine iN (i:=16) (N:=some 35) #[true,true,true,true,true,true,true,true,true,true,true,true,true,true,true,true,true,false] rfl rfl (by kernel_rfl) (by decide) (fun K hK=>?_);refine Kd.H8 fZ (w0:=w0) w0.heap.size (by rfl) (.tmp 19) (.tmp 34) 30 136 (.agg #[(.int .i64 0),(.int .i64 0),(.int .i64 0),(.int .i64 0),(.int .i64 0)]) 40 rfl Tryz.underlying30 ZE rfl (by decide) (by omega) (.slice Av out.length cv) out ⟨kind,x,y,i,k⟩ [.int .i64 kind,.int .i64 x,.int .i64 y,.int .i64 (i:Int),.int .i64 (k:Int)] (fun _=>True) (fun _=>False) rfl (by first|(go_simp;done)|(go_simp;rfl)) (M7 _ _ _ ⟨kind,x,y,i,k⟩) (fun k h=>h.elim) (fun _ _=>trivial) (Kd.di HO.out) (Below.drew HB.out) (Below.drew HB.out).size HL.out ?_;intro v6 w6 mU hb6 pY DC;have k6h:=fP (show W.drew.heap[gh]? =_ from HK.out.1) pY (Kd.jK (Kd.di HO.out) (show W.drew.heap[gh]? =_ from HK.out.1) (by decide));have k6o:=fP (show W.drew.heap[go]? =_ from HK.out.2) pY (Kd.jK (Kd.di HO.out) (show W.drew.heap[go]? =_ from HK.out.2) (by decide));have lU:=af.mk (And.intro k6h (And.intro k6o (And.intro mU hb6)));have c6o:w6.cell? ⟨go,0,none⟩=some (.slice Av out.length cv):=(ah k6o 0).trans rfl;have f6o:=aA k6o 0;have HG6:=af.mk pY;obtain⟨A6,c6,rfl⟩:=Kd.fH mU;clear mU hb6 pY DC k6h k6o;refine hK.out _ _ ?_;clear hK K;refine dM ?_;refine iN (i:=17) (N:=none) #[true,true,true,true,true,true,true,true,true,true,true,true,true,true,true,true,true,true] rfl rfl (by kernel_rfl) (by decide) (fun K hK=>?_);refine jQ (w1:=?_) (by rfl) rfl ?_ ?_;rotate_left
  ·go_simp
   rfl
  refine hK.out _ _ ?_;clear hK K;refine gJ ?_
  go_wp2_with fail
  go_end0
  obtain⟨k1,k2,k3,k4⟩:=lU.out;rw[List.length_append,List.length_singleton]at k3;refine⟨rfl,⟨(iV (blk_ne k1 k2 (by decide)) _).trans k1,hgo,mI k4 hgo,.slice A6 (out.length+1) c6,(dS k2 _).trans (by simp),by rw[HQ.out];exact Kd.OA k3 k2 (by decide) 0 _⟩,fun q cells t fr hq ht hne=>?_⟩;rw[← HWH.out]at hq ⊢;refine(iV hne _).trans (HG6.out.block q (iB hq) (fun e=>?_));obtain⟨cells',hc'⟩:=Kd.Dj HO.out q e.symm;rw[hq]at hc'
  cases hc'
  exact ht rfl
def oJ(h:List aj)(i:Nat)(k:Int):Bool:=(uG h k.toNat).toList==(uG h i).toList
theorem ofSaw(k i gh gi c:Nat)(A:Option Addr)(h:List aj)(w0 w:World)(hr:Kd.C dw w0 A h.length h)(hi:i<h.length)(hk:k<h.length)(hB:Below w0.heap.size w0 w)(kh:w.heap[gh]? =some (.cells #[.slice A h.length c] 22 (0,0)))(ki:w.heap[gi]? =some (.cells #[.int .i64 (i:Int)] 3 (0,0))):
  Calls Tryz.prog 156 #[.int .i64 (k:Int),.pointer (some ⟨gh,0,none⟩),.pointer (some ⟨gi,0,none⟩)] w fun e w'=>e=.returned (.bool (oJ h i (k:Int)))∧Below w.heap.size w w':=by
 have hlen:h.length≤9223372036854775807:=hr.2.1;obtain⟨ad,hA,_,xi⟩:=LG hr hi;obtain⟨ad',hA',_,xk⟩:=LG hr hk;subst hA
 cases hA'
 have HP:=af.mk (show oJ h i (k:Int)=((uG h k).toList==(uG h i).toList)from rfl);generalize oJ h i (k:Int)=pe at HP ⊢;generalize uG h i=x at xi HP;generalize uG h k=y at xk HP;replace xi:=aI hB xi;replace xk:=aI hB xk;have ch:w.cell? ⟨gh,0,none⟩=some (.slice (some ad) h.length c):=(ah kh 0).trans rfl;have ci:w.cell? ⟨gi,0,none⟩=some (.int .i64 (i:Int)):=(ah ki 0).trans rfl;clear kh ki hr hB
 go_enter Tryz.func156,Tryz.ntmps156
 go_wp2_with fail
 go_quiet (fail)
 go_wp2_with fail
 go_ret
 exact⟨by rw[HP.out];rfl,dm (Below.refl _ _) _⟩
end Go.Proofs.YtdcddenojjdmjaaGreatDoor.T
