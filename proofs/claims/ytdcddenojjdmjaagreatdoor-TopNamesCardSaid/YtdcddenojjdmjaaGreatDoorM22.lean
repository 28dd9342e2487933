import Derived.Shelf.SlGeneric
import Derived.Shelf.SlIterI.Nil
import Derived.Shelf.SlIter.Nil
import Derived.Shelf.SortM.Plain
import Derived.Shelf.SortM.SortNone
import Derived.Ground.GgzProg
import Derived.Ground.SlgmProg
import Derived.Ground.SlsfProg
import Derived.StringKeys
import Derived.Test.YtdcddenojjdmjaaGreatDoorM21
set_option linter.all false
set_option maxHeartbeats 8000000
set_option maxRecDepth 100000
namespace Go.Proofs
open Go.Shelf
def Tryz.VJ:Go.Shelf.Ren:=⟨fun|7=>61|10=>119|n=>n,fun|23=>131|26=>3|3=>4|28=>140|0=>0|27=>139|33=>148|4=>4|n=>n,fun|n=>n⟩
theorem Tryz.keysI:Go.Proofs.SlLaysZI.n7 Tryz.prog Tryz.VJ:= {
 mixed:=by kernel_rfl
 f7:=⟨Tryz.f61.name,by decide,Tryz.func61.trans (congrArg some (by kernel_rfl))⟩
 f10:=⟨Tryz.f119.name,by decide,Tryz.func119.trans (congrArg some (by kernel_rfl))⟩
 t0:=Tryz.underlying0
 a0:=Tryz.isAgg0
 z0:=Tryz.sizeOf0
 v0:=Tryz.zeroValue0
 t4:=Tryz.underlying4
 a4:=Tryz.isAgg4
 z4:=Tryz.sizeOf4
 v4:=Tryz.zeroValue4
 t23:=Tryz.underlying131
 a23:=Tryz.isAgg131
 z23:=Tryz.sizeOf131
 v23:=Tryz.zeroValue131
 t26:=Tryz.underlying3
 a26:=Tryz.isAgg3
 z26:=Tryz.sizeOf3
 v26:=Tryz.zeroValue3
 t27:=Tryz.underlying139
 a27:=Tryz.isAgg139
 z27:=Tryz.sizeOf139
 v27:=Tryz.zeroValue139
 t28:=Tryz.underlying140
 a28:=Tryz.isAgg140
 z28:=Tryz.sizeOf140
 v28:=Tryz.zeroValue140
 t33:=Tryz.underlying148
 a33:=Tryz.isAgg148
 z33:=Tryz.sizeOf148
 v33:=Tryz.zeroValue148}
def Tryz.Xv:Go.Shelf.Ren:=⟨fun|6=>60|8=>118|9=>105|11=>173|13=>160|12=>159|23=>207|24=>208|14=>198|15=>199|16=>200|17=>201|18=>202|19=>203|20=>204|21=>205|22=>206|25=>226|26=>227|27=>228|28=>229|29=>230|30=>231|31=>258|n=>n,fun|26=>3|28=>140|24=>27|0=>0|3=>3|37=>224|48=>159|50=>47|4=>4|40=>281|39=>280|45=>286|5=>5|9=>9|51=>310|55=>314|57=>335|58=>336|33=>148|n=>n,fun|n=>n⟩
theorem Tryz.sortedI:Go.Proofs.SlLaysZI.n6 Tryz.prog Tryz.Xv:= {
 mixed:=by kernel_rfl
 f6:=⟨Tryz.f60.name,by decide,Tryz.func60.trans (congrArg some (by kernel_rfl))⟩
 f8:=⟨Tryz.f118.name,by decide,Tryz.func118.trans (congrArg some (by kernel_rfl))⟩
 f11:=⟨Tryz.f173.name,by decide,Tryz.func173.trans (congrArg some (by kernel_rfl))⟩
 t0:=Tryz.underlying0
 a0:=Tryz.isAgg0
 z0:=Tryz.sizeOf0
 v0:=Tryz.zeroValue0
 t24:=Tryz.underlying27
 a24:=Tryz.isAgg27
 z24:=Tryz.sizeOf27
 v24:=Tryz.zeroValue27
 t26:=Tryz.underlying3
 a26:=Tryz.isAgg3
 z26:=Tryz.sizeOf3
 v26:=Tryz.zeroValue3
 t28:=Tryz.underlying140
 a28:=Tryz.isAgg140
 z28:=Tryz.sizeOf140
 v28:=Tryz.zeroValue140
 i26:=by kernel_rfl}
def Tryz.aaV:Go.Shelf.Ren:=⟨fun|5=>105|8=>160|7=>159|19=>207|20=>208|10=>198|11=>199|12=>200|13=>201|14=>202|15=>203|16=>204|17=>205|18=>206|30=>226|31=>227|32=>228|33=>229|34=>230|35=>231|40=>258|n=>n,fun|23=>27|25=>3|3=>3|32=>224|22=>27|0=>0|44=>159|46=>47|4=>4|36=>281|35=>280|41=>286|5=>5|9=>9|53=>310|57=>314|63=>335|64=>336|n=>n,fun|n=>n⟩
theorem Tryz.rf:Go.Proofs.SlLaysM.n5 Tryz.prog Tryz.aaV:= {
 mixed:=by kernel_rfl
 f5:=⟨Tryz.f105.name,by decide,Tryz.func105.trans (congrArg some (by kernel_rfl))⟩
 f7:=⟨Tryz.f159.name,by decide,Tryz.func159.trans (congrArg some (by kernel_rfl))⟩
 f8:=Tryz.func160.trans (congrArg some (by kernel_rfl))
 f10:=⟨Tryz.f198.name,by decide,Tryz.func198.trans (congrArg some (by kernel_rfl))⟩
 f11:=⟨Tryz.f199.name,by decide,Tryz.func199.trans (congrArg some (by kernel_rfl))⟩
 f12:=⟨Tryz.f200.name,by decide,Tryz.func200.trans (congrArg some (by kernel_rfl))⟩
 f13:=⟨Tryz.f201.name,by decide,Tryz.func201.trans (congrArg some (by kernel_rfl))⟩
 f14:=⟨Tryz.f202.name,by decide,Tryz.func202.trans (congrArg some (by kernel_rfl))⟩
 f15:=⟨Tryz.f203.name,by decide,Tryz.func203.trans (congrArg some (by kernel_rfl))⟩
 f16:=⟨Tryz.f204.name,by decide,Tryz.func204.trans (congrArg some (by kernel_rfl))⟩
 f17:=⟨Tryz.f205.name,by decide,Tryz.func205.trans (congrArg some (by kernel_rfl))⟩
 f18:=⟨Tryz.f206.name,by decide,Tryz.func206.trans (congrArg some (by kernel_rfl))⟩
 f19:=Tryz.func207.trans (congrArg some (by kernel_rfl))
 f20:=Tryz.func208.trans (congrArg some (by kernel_rfl))
 f30:=⟨Tryz.f226.name,by decide,Tryz.func226.trans (congrArg some (by kernel_rfl))⟩
 f31:=Tryz.func227.trans (congrArg some (by kernel_rfl))
 f32:=Tryz.func228.trans (congrArg some (by kernel_rfl))
 f33:=⟨Tryz.f229.name,by decide,Tryz.func229.trans (congrArg some (by kernel_rfl))⟩
 f34:=⟨Tryz.f230.name,by decide,Tryz.func230.trans (congrArg some (by kernel_rfl))⟩
 f35:=⟨Tryz.f231.name,by decide,Tryz.func231.trans (congrArg some (by kernel_rfl))⟩
 f40:=⟨Tryz.f258.name,by decide,Tryz.func258.trans (congrArg some (by kernel_rfl))⟩
 t0:=Tryz.underlying0
 a0:=Tryz.isAgg0
 z0:=Tryz.sizeOf0
 v0:=Tryz.zeroValue0
 t3:=Tryz.underlying3
 a3:=Tryz.isAgg3
 z3:=Tryz.sizeOf3
 v3:=Tryz.zeroValue3
 t4:=Tryz.underlying4
 a4:=Tryz.isAgg4
 z4:=Tryz.sizeOf4
 v4:=Tryz.zeroValue4
 t5:=Tryz.underlying5
 a5:=Tryz.isAgg5
 z5:=Tryz.sizeOf5
 v5:=Tryz.zeroValue5
 t9:=Tryz.underlying9
 a9:=Tryz.isAgg9
 z9:=Tryz.sizeOf9
 v9:=Tryz.zeroValue9
 t22:=Tryz.underlying27
 a22:=Tryz.isAgg27
 z22:=Tryz.sizeOf27
 v22:=Tryz.zeroValue27
 t23:=Tryz.underlying27
 a23:=Tryz.isAgg27
 z23:=Tryz.sizeOf27
 v23:=Tryz.zeroValue27
 t25:=Tryz.underlying3
 a25:=Tryz.isAgg3
 z25:=Tryz.sizeOf3
 v25:=Tryz.zeroValue3
 t32:=Tryz.underlying224
 a32:=Tryz.isAgg224
 z32:=Tryz.sizeOf224
 v32:=Tryz.zeroValue224
 t35:=Tryz.underlying280
 a35:=Tryz.isAgg280
 z35:=Tryz.sizeOf280
 v35:=Tryz.zeroValue280
 t36:=Tryz.underlying281
 a36:=Tryz.isAgg281
 z36:=Tryz.sizeOf281
 v36:=Tryz.zeroValue281
 t41:=Tryz.underlying286
 a41:=Tryz.isAgg286
 z41:=Tryz.sizeOf286
 v41:=Tryz.zeroValue286
 t44:=Tryz.underlying159
 a44:=Tryz.isAgg159
 z44:=Tryz.sizeOf159
 v44:=Tryz.zeroValue159
 t46:=Tryz.underlying47
 a46:=Tryz.isAgg47
 z46:=Tryz.sizeOf47
 v46:=Tryz.zeroValue47
 t53:=Tryz.underlying310
 a53:=Tryz.isAgg310
 z53:=Tryz.sizeOf310
 v53:=Tryz.zeroValue310
 t57:=Tryz.underlying314
 a57:=Tryz.isAgg314
 z57:=Tryz.sizeOf314
 v57:=Tryz.zeroValue314
 t63:=Tryz.underlying335
 a63:=Tryz.isAgg335
 z63:=Tryz.sizeOf335
 v63:=Tryz.zeroValue335
 t64:=Tryz.underlying336
 a64:=Tryz.isAgg336
 z64:=Tryz.sizeOf336
 v64:=Tryz.zeroValue336}
def Tryz.VK:Go.Shelf.Ren:=⟨fun|7=>151|10=>193|n=>n,fun|23=>235|26=>9|3=>4|28=>238|0=>0|27=>237|33=>151|4=>4|n=>n,fun|n=>n⟩
theorem Tryz.keysS:Go.Proofs.SlLaysZ.n7 Tryz.prog Tryz.VK:= {
 mixed:=by kernel_rfl
 f7:=⟨Tryz.f151.name,by decide,Tryz.func151.trans (congrArg some (by kernel_rfl))⟩
 f10:=⟨Tryz.f193.name,by decide,Tryz.func193.trans (congrArg some (by kernel_rfl))⟩
 t0:=Tryz.underlying0
 a0:=Tryz.isAgg0
 z0:=Tryz.sizeOf0
 v0:=Tryz.zeroValue0
 t4:=Tryz.underlying4
 a4:=Tryz.isAgg4
 z4:=Tryz.sizeOf4
 v4:=Tryz.zeroValue4
 t23:=Tryz.underlying235
 a23:=Tryz.isAgg235
 z23:=Tryz.sizeOf235
 v23:=Tryz.zeroValue235
 t26:=Tryz.underlying9
 a26:=Tryz.isAgg9
 z26:=Tryz.sizeOf9
 v26:=Tryz.zeroValue9
 t27:=Tryz.underlying237
 a27:=Tryz.isAgg237
 z27:=Tryz.sizeOf237
 v27:=Tryz.zeroValue237
 t28:=Tryz.underlying238
 a28:=Tryz.isAgg238
 z28:=Tryz.sizeOf238
 v28:=Tryz.zeroValue238
 t33:=Tryz.underlying151
 a33:=Tryz.isAgg151
 z33:=Tryz.sizeOf151
 v33:=Tryz.zeroValue151}
def Tryz.Xw:Go.Shelf.Ren:=⟨fun|6=>150|8=>191|9=>192|11=>222|13=>160|12=>223|23=>207|24=>208|14=>241|15=>242|16=>243|17=>244|18=>245|19=>246|20=>247|21=>248|22=>249|25=>260|26=>227|27=>228|28=>261|29=>262|30=>263|31=>267|n=>n,fun|26=>9|28=>238|24=>56|0=>0|3=>3|37=>224|48=>159|50=>47|4=>4|40=>281|39=>280|45=>286|5=>5|9=>9|51=>310|55=>314|57=>335|58=>336|33=>151|n=>n,fun|n=>n⟩
theorem Tryz.sortedS:Go.Proofs.SlLaysZ.n6 Tryz.prog Tryz.Xw:= {
 mixed:=by kernel_rfl
 f6:=⟨Tryz.f150.name,by decide,Tryz.func150.trans (congrArg some (by kernel_rfl))⟩
 f8:=⟨Tryz.f191.name,by decide,Tryz.func191.trans (congrArg some (by kernel_rfl))⟩
 f11:=⟨Tryz.f222.name,by decide,Tryz.func222.trans (congrArg some (by kernel_rfl))⟩
 t0:=Tryz.underlying0
 a0:=Tryz.isAgg0
 z0:=Tryz.sizeOf0
 v0:=Tryz.zeroValue0
 t24:=Tryz.underlying56
 a24:=Tryz.isAgg56
 z24:=Tryz.sizeOf56
 v24:=Tryz.zeroValue56
 t26:=Tryz.underlying9
 a26:=Tryz.isAgg9
 z26:=Tryz.sizeOf9
 v26:=Tryz.zeroValue9
 t28:=Tryz.underlying238
 a28:=Tryz.isAgg238
 z28:=Tryz.sizeOf238
 v28:=Tryz.zeroValue238
 i26:=by kernel_rfl}
def Tryz.aaX:Go.Shelf.Ren:=⟨fun|6=>192|8=>160|9=>223|19=>207|20=>208|21=>241|22=>242|23=>243|24=>244|25=>245|26=>246|27=>247|28=>248|29=>249|36=>260|31=>227|32=>228|37=>261|38=>262|39=>263|41=>267|n=>n,fun|27=>56|29=>9|3=>3|32=>224|26=>56|0=>0|44=>159|46=>47|4=>4|36=>281|35=>280|41=>286|5=>5|9=>9|53=>310|57=>314|63=>335|64=>336|n=>n,fun|n=>n⟩
theorem Tryz.oL:Go.Proofs.SlLaysM.n6 Tryz.prog Tryz.aaX:= {
 mixed:=by kernel_rfl
 f6:=⟨Tryz.f192.name,by decide,Tryz.func192.trans (congrArg some (by kernel_rfl))⟩
 f8:=Tryz.func160.trans (congrArg some (by kernel_rfl))
 f9:=⟨Tryz.f223.name,by decide,Tryz.func223.trans (congrArg some (by kernel_rfl))⟩
 f19:=Tryz.func207.trans (congrArg some (by kernel_rfl))
 f20:=Tryz.func208.trans (congrArg some (by kernel_rfl))
 f21:=⟨Tryz.f241.name,by decide,Tryz.func241.trans (congrArg some (by kernel_rfl))⟩
 f22:=⟨Tryz.f242.name,by decide,Tryz.func242.trans (congrArg some (by kernel_rfl))⟩
 f23:=⟨Tryz.f243.name,by decide,Tryz.func243.trans (congrArg some (by kernel_rfl))⟩
 f24:=⟨Tryz.f244.name,by decide,Tryz.func244.trans (congrArg some (by kernel_rfl))⟩
 f25:=⟨Tryz.f245.name,by decide,Tryz.func245.trans (congrArg some (by kernel_rfl))⟩
 f26:=⟨Tryz.f246.name,by decide,Tryz.func246.trans (congrArg some (by kernel_rfl))⟩
 f27:=⟨Tryz.f247.name,by decide,Tryz.func247.trans (congrArg some (by kernel_rfl))⟩
 f28:=⟨Tryz.f248.name,by decide,Tryz.func248.trans (congrArg some (by kernel_rfl))⟩
 f29:=⟨Tryz.f249.name,by decide,Tryz.func249.trans (congrArg some (by kernel_rfl))⟩
 f31:=Tryz.func227.trans (congrArg some (by kernel_rfl))
 f32:=Tryz.func228.trans (congrArg some (by kernel_rfl))
 f36:=⟨Tryz.f260.name,by decide,Tryz.func260.trans (congrArg some (by kernel_rfl))⟩
 f37:=⟨Tryz.f261.name,by decide,Tryz.func261.trans (congrArg some (by kernel_rfl))⟩
 f38:=⟨Tryz.f262.name,by decide,Tryz.func262.trans (congrArg some (by kernel_rfl))⟩
 f39:=⟨Tryz.f263.name,by decide,Tryz.func263.trans (congrArg some (by kernel_rfl))⟩
 f41:=⟨Tryz.f267.name,by decide,Tryz.func267.trans (congrArg some (by kernel_rfl))⟩
 t0:=Tryz.underlying0
 a0:=Tryz.isAgg0
 z0:=Tryz.sizeOf0
 v0:=Tryz.zeroValue0
 t3:=Tryz.underlying3
 a3:=Tryz.isAgg3
 z3:=Tryz.sizeOf3
 v3:=Tryz.zeroValue3
 t4:=Tryz.underlying4
 a4:=Tryz.isAgg4
 z4:=Tryz.sizeOf4
 v4:=Tryz.zeroValue4
 t5:=Tryz.underlying5
 a5:=Tryz.isAgg5
 z5:=Tryz.sizeOf5
 v5:=Tryz.zeroValue5
 t9:=Tryz.underlying9
 a9:=Tryz.isAgg9
 z9:=Tryz.sizeOf9
 v9:=Tryz.zeroValue9
 t26:=Tryz.underlying56
 a26:=Tryz.isAgg56
 z26:=Tryz.sizeOf56
 v26:=Tryz.zeroValue56
 t27:=Tryz.underlying56
 a27:=Tryz.isAgg56
 z27:=Tryz.sizeOf56
 v27:=Tryz.zeroValue56
 t29:=Tryz.underlying9
 a29:=Tryz.isAgg9
 z29:=Tryz.sizeOf9
 v29:=Tryz.zeroValue9
 t32:=Tryz.underlying224
 a32:=Tryz.isAgg224
 z32:=Tryz.sizeOf224
 v32:=Tryz.zeroValue224
 t35:=Tryz.underlying280
 a35:=Tryz.isAgg280
 z35:=Tryz.sizeOf280
 v35:=Tryz.zeroValue280
 t36:=Tryz.underlying281
 a36:=Tryz.isAgg281
 z36:=Tryz.sizeOf281
 v36:=Tryz.zeroValue281
 t41:=Tryz.underlying286
 a41:=Tryz.isAgg286
 z41:=Tryz.sizeOf286
 v41:=Tryz.zeroValue286
 t44:=Tryz.underlying159
 a44:=Tryz.isAgg159
 z44:=Tryz.sizeOf159
 v44:=Tryz.zeroValue159
 t46:=Tryz.underlying47
 a46:=Tryz.isAgg47
 z46:=Tryz.sizeOf47
 v46:=Tryz.zeroValue47
 t53:=Tryz.underlying310
 a53:=Tryz.isAgg310
 z53:=Tryz.sizeOf310
 v53:=Tryz.zeroValue310
 t57:=Tryz.underlying314
 a57:=Tryz.isAgg314
 z57:=Tryz.sizeOf314
 v57:=Tryz.zeroValue314
 t63:=Tryz.underlying335
 a63:=Tryz.isAgg335
 z63:=Tryz.sizeOf335
 v63:=Tryz.zeroValue335
 t64:=Tryz.underlying336
 a64:=Tryz.isAgg336
 z64:=Tryz.sizeOf336
 v64:=Tryz.zeroValue336}
end Go.Proofs
namespace Go.Proofs.YtdcddenojjdmjaaGreatDoor.T
open Go.RowKit Go.Proofs.YtdcddenojjdmjaaGreatDoorW.PrintWords Go.Proofs.YtdcddenojjdmjaaGreatDoorW.PrintLast Go.Proofs.YtdcddenojjdmjaaGreatDoorW.PrintMore
theorem sortsI(m:Nat):AnyZI.SortsIn Tryz.prog Tryz.Xv Fence.wide m:=
 ⟨fun blk off cap ss W hH hblk hsz=>callsIn_wide.2 (AnyM.slices_Sort_int Tryz.rf blk off cap ss W hH hblk hsz),
  fun p cap W=>callsIn_wide.2 (AnyM.slices_Sort_int_none Tryz.rf p cap W)⟩
theorem Kv(mb:Option Nat)(W:World):Calls Tryz.prog 61 #[.map mb] W fun e w'=>e=.returned (.func (.func 119) #[] #[.pointer (some ⟨W.heap.size,0,none⟩)])∧w'=W.alloc (.cells #[.map mb] 131):=
 (callsIn_wide (n:=5)).1 (AnyZI.keys_in Tryz.keysI Fence.wide 5 trivial rfl mb W)
theorem aa0{H:Type}{D:DataW H}{ss K:List Int}(hK:K.Pairwise (· < ·))(ht:∃es,D=.map es∧es.Pairwise (fun p q=>p.1≠q.1)∧∀p ∈ es,∃x,p.1=.int .i64 x)(hm:∀t,Maps.has D (.int .i64 t)=K.contains t)(hp:ss.Perm (intKeys D)):
  ss.mergeSort (fun x y=>decide (x≤y))=K:=by
 obtain⟨es,rfl,h1,h2⟩:=ht;have hk:=perm_intKeys h1 h2 (Xx hK) (fun x=>by rw[hm x,List.contains_iff_mem]);have tr:∀a b c:Int,decide (a≤b)=true→decide (b≤c)=true→decide (a≤c)=true:=fun a b c h1 h2=>by simp only[decide_eq_true_eq]at*;omega
 have tot:∀a b:Int,(decide (a≤b)||decide (b≤a))=true:=fun a b=>by simp only[Bool.or_eq_true,decide_eq_true_eq];omega
 refine List.Perm.eq_of_pairwise (le:=fun a b=>decide (a≤b)=true) (fun a b _ _ h1 h2=>?_) (List.pairwise_mergeSort tr tot ss) (hK.imp fun h=>decide_eq_true (by omega)) ((List.mergeSort_perm ss _).trans (hp.trans hk.symm));simp only[decide_eq_true_eq]at h1 h2;omega
theorem KM(g b:Nat)(K:List Int)(f:Int→Value)(W:World)(hg:W.heap[g]? =some (.cells #[.map (some b)] 131 (0,0)))(h:eu b K f W)(hl:K.length≤1000000):
  Calls Tryz.prog 60 #[.func (.func 119) #[] #[.pointer (some ⟨g,0,none⟩)]] W fun e w'=>∃v:Value,e=.returned v∧Kd.R (Kd.int .i64) 3 w' W.heap.size (fun _=>True) v K∧Below W.heap.size W w':=by
 obtain⟨h1,h2,D,hown,h4,h5,h6⟩:=h;have hgl:=iB hg
 have hseq:SeqGives Fence.wide 2 Tryz.prog 119 #[.pointer (some ⟨g,0,none⟩)] encZ (fun ss=>ss.Perm (intKeys D)) (Maps.size D) W:=
  AnyZI.keys_gives (ρ:=Tryz.VJ) {Tryz.keysI with} Fence.wide _ trivial rfl (by omega) g b K.length D W hgl ((ah hg 0).trans rfl) hown
 have cS:=AnyZI.sorted_in Tryz.sortedI Fence.wide 5 trivial trivial trivial trivial rfl (by omega) (sortsI _) (enters_of Tryz.func105 (by kernel_rfl) rfl) 119 #[.pointer (some ⟨g,0,none⟩)] trivial (enters_of Tryz.func119 (by kernel_rfl) rfl) _ (Maps.size D) (by rw[h4];unfold maxLen;omega) (by rw[h4];omega) _ hseq
 change CallsIn _ _ Tryz.prog 60 _ _ _ at cS
 refine((callsIn_wide (n:=5)).1 cS).mono ?_;rintro e w' ⟨v,ss,rfl,hS,hrow,hnil,hb⟩
 have ht:∃es,D=.map es∧es.Pairwise (fun p q=>p.1≠q.1)∧∀p ∈ es,∃x,p.1=.int .i64 x:=by
  obtain⟨es,e1,e2⟩:=hown.tidy F4;obtain⟨es',e3,e4⟩:=hown.keysOf;rw[e1]at e3
  cases e3
  refine⟨es,e1,e2,fun p hp=>?_⟩;obtain⟨v,hv⟩:=e4 p hp;obtain⟨x,_,hx,_⟩:=Maps.keyOf_i64 Tryz.underlying3 hv;exact⟨x,hx⟩
 have hs:=aa0 h1 ht h5 hS;rw[hs]at hrow;have hl2:ss.length=K.length:=by rw[← hs,List.length_mergeSort]
 rw[hl2]at hrow;exact⟨v,rfl,Kd.EX hrow (fun _ _=>trivial),hb⟩
theorem VF:Maps.Keyed Tryz.prog 9:=Maps.string_keyed Tryz.underlying9
def sw(L:List (List UInt8))(x:List UInt8):List (List UInt8):=if L.contains x then L else L++[x]
theorem VZ(L:List (List UInt8))(x t:List UInt8):t ∈ sw L x↔t=x∨t ∈ L:=by
 unfold sw
 by_cases h:L.contains x=true
 ·rw[if_pos h];have:=List.contains_iff_mem.1 h;constructor
  ·exact .inr
  ·rintro(rfl|h)
   ·exact this
   ·exact h
 ·rw[if_neg h,List.mem_append,List.mem_singleton];exact or_comm
theorem ZY{L:List (List UInt8)}(h:L.Nodup)(x:List UInt8):(sw L x).Nodup:=by
 unfold sw
 by_cases hc:L.contains x=true
 ·rw[if_pos hc];exact h
 ·rw[if_neg hc,List.nodup_append];refine⟨h,by simp,fun a ha b hb e=>hc ?_⟩;rw[List.mem_singleton]at hb;subst hb;subst e;exact List.contains_iff_mem.2 ha
def SSet(b n:Nat)(L:List (List UInt8))(w:World):Prop:=
 L.Nodup∧∃D:DataW Value,w.ownsMap Tryz.prog 9 mE b n D∧∀t,Maps.has D (.string t)=L.contains t
namespace SSet
variable {b n:Nat}{L:List (List UInt8)}{w w':World}
theorem made(w:World):SSet w.heap.size 0 [] (w.alloc (.map #[] 0)):=⟨List.nodup_nil,.map [],World.ownsMap_made _ _ _ _,fun t=>rfl⟩
theorem alloc(h:SSet b n L w)(o:Obj):SSet b n L (w.alloc o):=by
 obtain⟨h1,D,h2,h3⟩:=h;exact⟨h1,D,h2.alloc o,h3⟩
theorem mono{m:Nat}(h:SSet b n L w)(hm:n≤m):SSet b m L w:=by
 obtain⟨h1,D,h2,h3⟩:=h;exact⟨h1,D,h2.mono hm,h3⟩
theorem store(h:SSet b n L w)(hn:n<maxLen){x:ByteArray}(hx:x.size≤maxLen)(v:Value):
  ∃w',(Instr.mapUpdate 235 (.map (some b)) (.string x) v).run Tryz.prog w=.ok () w'∧SSet b (n+1) (sw L x.data.toList) w'∧w.grownBy w' (some b):=by
 obtain⟨h1,D,h2,h3⟩:=h;obtain⟨w',hrun,hown,hg⟩:=h2.update VF Tryz.underlying235 hn (R:=mE) (WideMaps.keyOf_string_mk Tryz.underlying9 hx) (val:=v) (d:=.held v) (ps:=[]) rfl;refine⟨w',hrun,⟨ZY h1 _,_,hown,fun t=>?_⟩,hg⟩
 by_cases e:t=x.data.toList
 ·subst e;rw[Maps.has_put_same h2.isMap (show WideAt.IsKeyLit (.string x.data.toList)from trivial)];exact(List.contains_iff_mem.2 ((VZ L _ _).2 (.inl rfl))).symm
 ·rw[Maps.has_put_other (by intro e';injection e' with e';exact e e'),h3,Bool.eq_iff_iff,List.contains_iff_mem,List.contains_iff_mem,VZ];exact⟨.inr,fun h=>h.elim (fun e'=>absurd e' e) id⟩
end SSet
section
variable {ops:Array Oper}{rest:List Oper}{o:Oper}{a:Act}{Q:Exit→Act→World→Prop}
theorem X0(w:World)(hg:o.guard=none)(m x v:Operand)(hop:o.op=Op.mapUpdate 235 m x v)(b n:Nat)(L:List (List UInt8))
  (hm:a.eval m=.map (some b)) (h:SSet b n L w) (hn:n<maxLen) (y:ByteArray) (val:Value) (hx:a.eval x=.string y) (hv:a.eval v=val) (hy:y.size≤maxLen)
  (hK:∀w',SSet b (n+1) (sw L y.data.toList) w'→w.grownBy w' (some b)→wpList Tryz.prog ops Q rest (a.put o.dst undef) w'):
  wpList Tryz.prog ops Q (o::rest) a w:=by
 refine wpList_plain hg fun K' hK'=>?_
 obtain⟨w',hrun,r1,r2⟩:=h.store hn hy val;unfold Oper.wp;simp[execOp,hop,hm,hx,hv,hrun,Result.andThen];exact hK' _ _ (hK w' r1 r2)
end
theorem sortsS(m:Nat):AnyZ.SortsIn Tryz.prog Tryz.Xw Fence.wide m:=
 ⟨fun blk off cap ss W hH hblk hsz=>callsIn_wide.2 (AnyM.slices_Sort_string Tryz.oL blk off cap ss W hH hblk hsz),
  fun p cap W=>callsIn_wide.2 (AnyM.slices_Sort_string_none Tryz.oL p cap W)⟩
theorem ZO(mb:Option Nat)(W:World):Calls Tryz.prog 151 #[.map mb] W fun e w'=>e=.returned (.func (.func 193) #[] #[.pointer (some ⟨W.heap.size,0,none⟩)])∧w'=W.alloc (.cells #[.map mb] 235):=
 (callsIn_wide (n:=5)).1 (AnyZ.keys_in Tryz.keysS Fence.wide 5 trivial rfl mb W)
def OW(l:List UInt8):ByteArray:=⟨l.toArray⟩
def oL(L:List (List UInt8)):List ByteArray:=(L.mergeSort (fun x y=>decide (x≤y))).map OW
theorem aaZ(g b n:Nat)(L:List (List UInt8))(W:World)(hg:W.heap[g]? =some (.cells #[.map (some b)] 235 (0,0)))(h:SSet b n L W)(hl:n≤1000000):
  Calls Tryz.prog 150 #[.func (.func 193) #[] #[.pointer (some ⟨g,0,none⟩)]] W fun e w'=>∃v:Value,e=.returned v∧Kd.R Kd.string 9 w' W.heap.size (fun _=>True) v (oL L)∧Below W.heap.size W w':=by
 obtain⟨h1,D,hown,h5⟩:=h;have hgl:=iB hg
 have hseq:SeqGives Fence.wide 2 Tryz.prog 193 #[.pointer (some ⟨g,0,none⟩)] encStr (fun ss=>ss.Perm (strKeys D)) (Maps.size D) W:=
  AnyZ.keys_gives (ρ:=Tryz.VK) {Tryz.keysS with} Fence.wide _ trivial rfl (by omega) g b n D W hgl ((ah hg 0).trans rfl) hown
 have hsz:=hown.size_le;have cS:=AnyZ.sorted_in Tryz.sortedS Fence.wide 5 trivial trivial trivial trivial rfl (by omega) (sortsS _) (enters_of Tryz.func192 (by kernel_rfl) rfl) 193 #[.pointer (some ⟨g,0,none⟩)] trivial (enters_of Tryz.func193 (by kernel_rfl) rfl) _ (Maps.size D) (by unfold maxLen;omega) (by omega) _ hseq
 change CallsIn _ _ Tryz.prog 150 _ _ _ at cS
 refine((callsIn_wide (n:=5)).1 cS).mono ?_;rintro e w' ⟨v,ss,rfl,hS,hrow,hnil,hb⟩
 have hp:L.Perm (strKeys D):=by
  obtain⟨es,e1,e2⟩:=hown.tidy VF;obtain⟨es',e3,e4⟩:=hown.keysOf;rw[e1]at e3
  cases e3
  subst e1;refine perm_strKeys e2 (fun p hp=>?_) h1 (fun x=>by rw[h5 x,List.contains_iff_mem]);obtain⟨v,hv⟩:=e4 p hp;obtain⟨x,_,hx,_⟩:=Maps.keyOf_str Tryz.underlying9 hv;exact⟨x,hx⟩
 have hs:=mergeSort_of_perm (hS.trans hp.symm);have hs:ss.mergeSort (fun x y=>decide (x≤y))=L.mergeSort (fun x y=>decide (x≤y)):=hs;rw[hs]at hrow
 have hl2:ss.length=(oL L).length:=by
  unfold oL;rw[List.length_map,← hs,List.length_mergeSort]
 have henc:(L.mergeSort (fun x y=>decide (x≤y))).map encStr=encs Value.string (oL L):=by
  unfold oL encs;rw[List.map_map];rfl
 rw[hl2,henc]at hrow;exact⟨v,rfl,Kd.EX hrow (fun _ _=>trivial),hb⟩
def sP(x:aj):Bool:=x.f0==2||x.f0==3
def qc(h:List aj):List (List UInt8):=h.foldl (fun L x=>if sP x then sw L x.f2.data.toList else L) []
def AX.f(l0:List aj):Option (List ByteArray):=if l0.length≤1000000∧(l0.all fun x=>decide (x.f2.size≤140737488355328))=true then some (oL (qc l0))else none
theorem ZN(h:List aj)(i:Nat)(hi:i<h.length):qc (h.take (i+1))=if sP (h[i]'hi)then sw (qc (h.take i)) (h[i]'hi).f2.data.toList else qc (h.take i):=by
 unfold qc;rw[← List.take_append_getElem hi,List.foldl_append];rfl
def Keys.At(w:World)(h:List aj)(v9:Value)(wr:World):Prop:=
 ∃i:Nat,i≤h.length∧v9=.int .i64 i∧SSet w.heap.size i (qc (h.take i)) wr∧Below w.heap.size w wr
theorem AX.calls(A0:Option Addr)(c0:Nat)(l0:List aj)(r:List ByteArray)(w:World)(hr0:Kd.C dw w A0 l0.length l0)(hc0:l0.length≤c0)(h:AX.f l0=some r):
  Calls Tryz.prog 99 #[.slice A0 l0.length c0] w fun e w'=>∃fE:Value,e=.returned (fE)∧Kd.R Kd.string 9 w' w.heap.size (fun _=>True) fE r∧Below w.heap.size w w':=by
 unfold AX.f at h
 split at h
 case isFalse=>cases h
 rename_i hh
 cases h
 obtain⟨hmax,hw0⟩:=hh;have HW:=af.mk (show ∀x ∈ l0,x.f2.size≤140737488355328 from fun x hx=>of_decide_eq_true (List.all_eq_true.1 hw0 x hx));have HR:=af.mk hr0;have hmm:=@run_makeMap Tryz.prog;clear hr0 hw0
 go_enter Tryz.func99,Tryz.ntmps99
 go_wp2_with fail
 go_loopw [9] (fun v9 wr=>Keys.At w l0 v9 wr) (fun v9 _=>l0.length-(intOf v9).toNat)
 case atStart=>exact⟨0,by omega,rfl,SSet.made w,ax (Below.refl _ _) _⟩
 case round=>
  obtain⟨i,hi,rfl,hS,hB⟩:=hrel;have HS:=af.mk hS;have HB:=af.mk hB;clear hS hB
  by_cases hlt:i<l0.length
  ·obtain⟨ad,hA,q0,q1,q2,q3⟩:=pW HR.out hlt HB.out
   cases hA
   have HN:=af.mk (And.intro (ZN l0 i hlt) (HW.out _ (List.getElem_mem hlt)));obtain⟨⟨x0,x1,x2,x3⟩,hx⟩:∃x,x=l0[i]'hlt:=⟨_,rfl⟩;rw[← hx]at q0 q1 q2 q3 HN;clear hx;simp only at q0 q1 q2 q3 HN
   cases t2:(x0==2)with
   |true=>
    have hk:sP ⟨x0,x1,x2,x3⟩=true:=by unfold sP;simp only[t2,Bool.true_or]
    have nG:=af.mk hk;clear hk
    go_wp2_with (at_mapUpdate;refine X0 _ rfl _ _ _ rfl w.heap.size i _ rfl (HS.out.alloc _) (by unfold maxLen;omega) x2 _ rfl rfl (by have:=HN.out.2;unfold maxLen;omega) ?_;intro w2 hm2 hg2;have HM:=af.mk hm2;have HG:=af.mk hg2;clear hm2 hg2)
    go_roundw
    case rel=>exact⟨i+1,by omega,by go_num,by rw[HN.out.1,if_pos nG.out];exact HM.out,vN (ax HB.out _) _ (ax HB.out _).size HG.out (fun k e=>by cases e;exact Nat.le_refl _)⟩
    case measure=>simp[intOf];omega
   |false=>
    cases t3:(x0==3)with
    |true=>
     have hk:sP ⟨x0,x1,x2,x3⟩=true:=by unfold sP;simp only[t2,t3,Bool.or_true]
     have nG:=af.mk hk;clear hk
     go_wp2_with (at_mapUpdate;refine X0 _ rfl _ _ _ rfl w.heap.size i _ rfl (HS.out.alloc _) (by unfold maxLen;omega) x2 _ rfl rfl (by have:=HN.out.2;unfold maxLen;omega) ?_;intro w2 hm2 hg2;have HM:=af.mk hm2;have HG:=af.mk hg2;clear hm2 hg2)
     go_roundw
     case rel=>exact⟨i+1,by omega,by go_num,by rw[HN.out.1,if_pos nG.out];exact HM.out,vN (ax HB.out _) _ (ax HB.out _).size HG.out (fun k e=>by cases e;exact Nat.le_refl _)⟩
     case measure=>simp[intOf];omega
    |false=>
     have hk:¬sP ⟨x0,x1,x2,x3⟩=true:=by unfold sP;simp only[t2,t3,Bool.or_false];decide
     have nG:=af.mk hk;clear hk
     go_wp2_with fail
     go_roundw
     case rel=>exact⟨i+1,by omega,by go_num,by rw[HN.out.1,if_neg nG.out];exact(HS.out.alloc _).mono (by omega),ax HB.out _⟩
     case measure=>simp[intOf];omega
  ·obtain rfl:i=l0.length:=by omega
   rw[List.take_length]at HS
   go_wp2_with (first
    |(go_at_call 151;refine(ZO _ _).mono ?_;rintro e w2 ⟨rfl,rfl⟩)
    |(go_at_call 150;refine(aaZ wr.heap.size w.heap.size l0.length (qc l0) _ (bI wr _) (HS.out.alloc _) hmax).mono ?_;rintro e w2 ⟨v29,rfl,hs,hb⟩;have HC7:=af.mk (Kd.gU hs (ax HB.out (.cells #[.map (some w.heap.size)] 235)).size);have xD:=af.mk (av (ax HB.out _) hb);clear hs hb))
   go_ret
   exact⟨_,rfl,HC7.out,xD.out⟩
theorem wP{A:Option Addr}{l:List Int}{w wr:World}(h:Kd.C (Kd.int .i64) w A l.length l){i:Nat}(hi:i<l.length)(hb:Below w.heap.size w wr):∃ad,A=some ad∧wr.cell? (ad.add i)=some (.int .i64 (l[i]'hi)):=by
 obtain⟨ad,c,e,_,hK,hc⟩:=Kd.zi h 0 (i:Int) (by omega) (by omega);rw[show(i:Int).toNat=i by omega]at hK hc;have er:l.getD i 0=l[i]'hi:=by simp[List.getD_eq_getElem?_getD,List.getElem?_eq_getElem hi]
 rw[er]at hK;have hK:c=[.int .i64 (l[i]'hi)]:=hK;subst hK;have:=hc 0 _ rfl;refine⟨ad,e,aI hb ?_⟩;have hz:(Kd.int .i64).sz=1:=rfl;rw[hz,Nat.mul_one,Nat.add_zero]at this;exact this
def Cj.At(l:List Int)(p:Int→Bool)(W:World)(v8:Value)(wr:World):Prop:=
 ∃i:Nat,i≤l.length∧v8=.int .i64 i∧Below W.heap.size W wr∧∀j (hj:j<l.length),j<i→p (l[j]'hj)=false
theorem Cj(K:Nat)(cap:Array Value)(he:∀args w,(callFunc K args).run Tryz.prog w=.ok (.enter K args) w)(A:Option Addr)(c:Nat)(l:List Int)(p:Int→Bool)(W:World)(hr:Kd.C (Kd.int .i64) W A l.length l)(hc:l.length≤c)
  (hstep:∀x W',x ∈ l→Below W.heap.size W W'→Calls Tryz.prog K (#[.int .i64 x]++cap) W' fun e W''=>e=.returned (.bool (p x))∧Below W'.heap.size W' W''):
  Calls Tryz.prog 155 #[.slice A l.length c,.func (.func K) #[] cap] W fun e W'=>e=.returned (.int .i64 (idx p l))∧Below W.heap.size W W':=by
 have hlen:l.length≤9223372036854775807:=hr.2.1;have HR:=af.mk hr;have HS:=af.mk hstep;clear hr hstep
 go_enter Tryz.func155,Tryz.ntmps155
 go_wp2_with fail
 go_loopw [8] (fun v8 wr=>Cj.At l p W v8 wr) (fun v8 _=>l.length-(intOf v8).toNat)
 case atStart=>exact⟨0,by omega,rfl,Below.refl _ _,fun j _ hj=>by omega⟩
 case round=>
  obtain⟨i,hi,rfl,hI,hN⟩:=hrel;have HI:=af.mk hI;have HN:=af.mk hN;clear hI hN
  by_cases hlt:i<l.length
  ·obtain⟨ad,hA,hc0⟩:=wP HR.out hlt HI.out
   cases hA
   go_wp2_with fail
   refine(HS.out (l[i]'hlt) _ (List.getElem_mem hlt) HI.out).mono ?_;rintro e w2 ⟨rfl,h2⟩;have H2:=af.mk (av HI.out h2);clear h2 hc0
   by_cases hp:p (l[i]'hlt)=true
   ·have HP:=af.mk (DV p l i HN.out hlt hp);rw[hp]
    go_wp2_with fail
    go_ret
    exact⟨by rw[HP.out];rfl,H2.out⟩
   ·have hp:p (l[i]'hlt)=false:=by simpa using hp
    have HP:=af.mk hp;rw[hp];clear hp
    go_wp2_with fail
    go_roundw
    case rel=>exact⟨i+1,by omega,by go_num,H2.out,fun j hj hji=>by
     rcases Nat.lt_or_ge j i with h|h
     ·exact HN.out j hj h
     ·obtain rfl:j=i:=by omega
      exact HP.out⟩
    case measure=>simp[intOf];omega
  ·have HP:=af.mk (AZ p l (fun j hj=>HN.out j hj (by omega)))
   go_wp2_with fail
   go_ret
   exact⟨by rw[HP.out];rfl,HI.out⟩
end Go.Proofs.YtdcddenojjdmjaaGreatDoor.T
