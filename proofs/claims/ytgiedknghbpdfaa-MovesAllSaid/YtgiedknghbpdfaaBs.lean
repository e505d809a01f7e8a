import Derived.Test.YtgiedknghbpdfaaMb
import Derived.Ground.NamesProg
import Derived.Ground.SlsfProg
import Derived.Test.YtgiedknghbpdfaaProg
import Derived.Test.YtgiedknghbpdfaaRows
import Derived.KernelRfl

namespace Go.Proofs.Ytgiedknghbpdfaa
set_option linter.all false
open Go.Shelf Go.Sort
def lays189_ren:Go.Shelf.Ren:=⟨fun|189=>21|125=>37|257=>36|128=>60|129=>61|294=>51|295=>52|296=>53|297=>54|298=>55|299=>56|216=>57|300=>58|301=>59|328=>80|329=>81|330=>82|331=>83|332=>84|215=>70|343=>93|n=>n,fun|28=>35|3=>3|46=>90|0=>0|51=>110|53=>22|4=>4|183=>102|182=>101|131=>107|5=>5|9=>9|218=>123|222=>127|228=>132|229=>133|n=>n,fun|n=>n⟩
theorem lays189:Go.Proofs.Lays.n189 Try.prog lays189_ren:={
 mixed:=by kernel_rfl
 f125:=Try.func37.trans (congrArg some (by kernel_rfl))
 f128:=Try.func60.trans (congrArg some (by kernel_rfl))
 f129:=Try.func61.trans (congrArg some (by kernel_rfl))
 f189:=Try.func21.trans (congrArg some (by kernel_rfl))
 f215:=Try.func70.trans (congrArg some (by kernel_rfl))
 f216:=Try.func57.trans (congrArg some (by kernel_rfl))
 f257:=Try.func36.trans (congrArg some (by kernel_rfl))
 f294:=Try.func51.trans (congrArg some (by kernel_rfl))
 f295:=Try.func52.trans (congrArg some (by kernel_rfl))
 f296:=Try.func53.trans (congrArg some (by kernel_rfl))
 f297:=Try.func54.trans (congrArg some (by kernel_rfl))
 f298:=Try.func55.trans (congrArg some (by kernel_rfl))
 f299:=Try.func56.trans (congrArg some (by kernel_rfl))
 f300:=Try.func58.trans (congrArg some (by kernel_rfl))
 f301:=Try.func59.trans (congrArg some (by kernel_rfl))
 f328:=Try.func80.trans (congrArg some (by kernel_rfl))
 f329:=Try.func81.trans (congrArg some (by kernel_rfl))
 f330:=Try.func82.trans (congrArg some (by kernel_rfl))
 f331:=Try.func83.trans (congrArg some (by kernel_rfl))
 f332:=Try.func84.trans (congrArg some (by kernel_rfl))
 f343:=Try.func93.trans (congrArg some (by kernel_rfl))
 t0:=Try.underlying0
 a0:=Try.isAgg0
 z0:=Try.sizeOf0
 v0:=Try.zeroValue0
 t3:=Try.underlying3
 a3:=Try.isAgg3
 z3:=Try.sizeOf3
 v3:=Try.zeroValue3
 t4:=Try.underlying4
 a4:=Try.isAgg4
 z4:=Try.sizeOf4
 v4:=Try.zeroValue4
 t5:=Try.underlying5
 a5:=Try.isAgg5
 z5:=Try.sizeOf5
 v5:=Try.zeroValue5
 t9:=Try.underlying9
 a9:=Try.isAgg9
 z9:=Try.sizeOf9
 v9:=Try.zeroValue9
 t28:=Try.underlying35
 a28:=Try.isAgg35
 z28:=Try.sizeOf35
 v28:=Try.zeroValue35
 t46:=Try.underlying90
 a46:=Try.isAgg90
 z46:=Try.sizeOf90
 v46:=Try.zeroValue90
 t51:=Try.underlying110
 a51:=Try.isAgg110
 z51:=Try.sizeOf110
 v51:=Try.zeroValue110
 t53:=Try.underlying22
 a53:=Try.isAgg22
 z53:=Try.sizeOf22
 v53:=Try.zeroValue22
 t131:=Try.underlying107
 a131:=Try.isAgg107
 z131:=Try.sizeOf107
 v131:=Try.zeroValue107
 t182:=Try.underlying101
 a182:=Try.isAgg101
 z182:=Try.sizeOf101
 v182:=Try.zeroValue101
 t183:=Try.underlying102
 a183:=Try.isAgg102
 z183:=Try.sizeOf102
 v183:=Try.zeroValue102
 t218:=Try.underlying123
 a218:=Try.isAgg123
 z218:=Try.sizeOf123
 v218:=Try.zeroValue123
 t222:=Try.underlying127
 a222:=Try.isAgg127
 z222:=Try.sizeOf127
 v222:=Try.zeroValue127
 t228:=Try.underlying132
 a228:=Try.isAgg132
 z228:=Try.sizeOf132
 v228:=Try.zeroValue132
 t229:=Try.underlying133
 a229:=Try.isAgg133
 z229:=Try.sizeOf133
 v229:=Try.zeroValue133 }
def laysM_ren:Go.Shelf.Ren:=⟨fun|6=>22|15=>37|14=>38|28=>60|29=>61|20=>62|21=>63|22=>64|23=>65|24=>66|25=>67|26=>68|27=>69|46=>85|47=>81|48=>82|49=>86|50=>87|57=>94|n=>n,fun|22=>43|24=>45|25=>70|3=>3|39=>90|0=>0|53=>110|55=>22|4=>4|46=>102|45=>101|50=>107|5=>5|9=>9|66=>123|70=>127|76=>132|77=>133|n=>n,fun|n=>n⟩
theorem laysM:Go.Proofs.SlLaysF0.n6 Try.prog laysM_ren:={
 mixed:=by kernel_rfl
 f6:=⟨Try.f22.name,by decide,Try.func22.trans (congrArg some (by kernel_rfl))⟩
 f14:=⟨Try.f38.name,by decide,Try.func38.trans (congrArg some (by kernel_rfl))⟩
 f15:=Try.func37.trans (congrArg some (by kernel_rfl))
 f20:=⟨Try.f62.name,by decide,Try.func62.trans (congrArg some (by kernel_rfl))⟩
 f21:=⟨Try.f63.name,by decide,Try.func63.trans (congrArg some (by kernel_rfl))⟩
 f22:=⟨Try.f64.name,by decide,Try.func64.trans (congrArg some (by kernel_rfl))⟩
 f23:=⟨Try.f65.name,by decide,Try.func65.trans (congrArg some (by kernel_rfl))⟩
 f24:=⟨Try.f66.name,by decide,Try.func66.trans (congrArg some (by kernel_rfl))⟩
 f25:=⟨Try.f67.name,by decide,Try.func67.trans (congrArg some (by kernel_rfl))⟩
 f26:=⟨Try.f68.name,by decide,Try.func68.trans (congrArg some (by kernel_rfl))⟩
 f27:=⟨Try.f69.name,by decide,Try.func69.trans (congrArg some (by kernel_rfl))⟩
 f28:=Try.func60.trans (congrArg some (by kernel_rfl))
 f29:=Try.func61.trans (congrArg some (by kernel_rfl))
 f46:=⟨Try.f85.name,by decide,Try.func85.trans (congrArg some (by kernel_rfl))⟩
 f47:=Try.func81.trans (congrArg some (by kernel_rfl))
 f48:=Try.func82.trans (congrArg some (by kernel_rfl))
 f49:=⟨Try.f86.name,by decide,Try.func86.trans (congrArg some (by kernel_rfl))⟩
 f50:=⟨Try.f87.name,by decide,Try.func87.trans (congrArg some (by kernel_rfl))⟩
 f57:=⟨Try.f94.name,by decide,Try.func94.trans (congrArg some (by kernel_rfl))⟩
 t0:=Try.underlying0
 a0:=Try.isAgg0
 z0:=Try.sizeOf0
 v0:=Try.zeroValue0
 t3:=Try.underlying3
 a3:=Try.isAgg3
 z3:=Try.sizeOf3
 v3:=Try.zeroValue3
 t4:=Try.underlying4
 a4:=Try.isAgg4
 z4:=Try.sizeOf4
 v4:=Try.zeroValue4
 t5:=Try.underlying5
 a5:=Try.isAgg5
 z5:=Try.sizeOf5
 v5:=Try.zeroValue5
 t9:=Try.underlying9
 a9:=Try.isAgg9
 z9:=Try.sizeOf9
 v9:=Try.zeroValue9
 t22:=Try.underlying43
 a22:=Try.isAgg43
 z22:=Try.sizeOf43
 v22:=Try.zeroValue43
 t25:=Try.underlying70
 a25:=Try.isAgg70
 z25:=Try.sizeOf70
 v25:=Try.zeroValue70
 t39:=Try.underlying90
 a39:=Try.isAgg90
 z39:=Try.sizeOf90
 v39:=Try.zeroValue90
 t45:=Try.underlying101
 a45:=Try.isAgg101
 z45:=Try.sizeOf101
 v45:=Try.zeroValue101
 t46:=Try.underlying102
 a46:=Try.isAgg102
 z46:=Try.sizeOf102
 v46:=Try.zeroValue102
 t50:=Try.underlying107
 a50:=Try.isAgg107
 z50:=Try.sizeOf107
 v50:=Try.zeroValue107
 t53:=Try.underlying110
 a53:=Try.isAgg110
 z53:=Try.sizeOf110
 v53:=Try.zeroValue110
 t55:=Try.underlying22
 a55:=Try.isAgg22
 z55:=Try.sizeOf22
 v55:=Try.zeroValue22
 t66:=Try.underlying123
 a66:=Try.isAgg123
 z66:=Try.sizeOf123
 v66:=Try.zeroValue123
 t70:=Try.underlying127
 a70:=Try.isAgg127
 z70:=Try.sizeOf127
 v70:=Try.zeroValue127
 t76:=Try.underlying132
 a76:=Try.isAgg132
 z76:=Try.sizeOf132
 v76:=Try.zeroValue132
 t77:=Try.underlying133
 a77:=Try.isAgg133
 z77:=Try.sizeOf133
 v77:=Try.zeroValue133 }
def bsL:List Nat:=[21,22]
def Bas:CallT:=fun g vs o K=>SortIB 21 g vs o K∨SortFB Try.prog 22 3 mvC mvCmp g vs o K
theorem bas_i {g:Nat} {vs:List V} {o:O} {K:V→O→Prop} (h:SortIB 21 g vs o K):Bas g vs o K:=.inl h
theorem bas_m {g:Nat} {vs:List V} {o:O} {K:V→O→Prop} (h:SortFB Try.prog 22 3 mvC mvCmp g vs o K):Bas g vs o K:=.inr h
theorem basI {g:Nat} {vs:List V} {o:O} {K:V→O→Prop} (h:SortIB 21 g vs o K):Snd Try.prog g vs o K :=
 sortI_ok (by kernel_rfl) (fun blk off cap zs w h1 h2 h3=>Any.slices_Sort_int lays189 blk off cap zs w h1 h2 h3) (fun p cap w=>Any.slices_Sort_int_none lays189 p cap w) h
theorem basMT (f:Nat) (cb:Array Value) (blk off cap:Nat) (d:Array Mv) (w:World) (h1:∀ args w,(callFunc f args).run Try.prog w=.ok (.enter f args) w) (h2:CmpLays Try.prog f cb mvE 3 mvCmp blk off d.size w) (h3:HoldsK mvE 3 w blk off d) (h4:blk < w.heap.size) (h5:d.size < 4611686018427387904) :
  Calls Try.prog 22 #[.slice (some ⟨blk,off,none⟩) d.size cap,.func (.func f) #[] cb] w fun e w'=>e=.returned (.tuple #[])∧∃ n os,w'=sortWorldK mvE 3 w blk off n (d.toList.mergeSort fun x y=>!(ltOf mvCmp) y x).toArray os:=by
 have hcon:=AnyQ.slices_SortFunc_total laysM 3 (enc:=mvE) Try.isAgg45 Try.sizeOf45 (fun _=>rfl) (fun x v hv=>by simp [mvE] at hv;rcases hv with rfl|rfl|rfl<;>rfl) mvCmp swoM f cb blk off cap d w h1 h2 h3 h4 h5 totM;change Calls Try.prog 22 _ _ _ at hcon
 exact hcon
theorem basMN (p:Option Addr) (cap:Nat) (fv:Value) (w:World):Calls Try.prog 22 #[.slice p 0 cap,fv] w fun e w'=>e=.returned (.tuple #[])∧w'=w:=by
 have hcon:=AnyF.slices_SortFunc_none laysM p cap fv w;change Calls Try.prog 22 _ _ _ at hcon
 exact hcon
theorem basM {g:Nat} {vs:List V} {o:O} {K:V→O→Prop} (h:SortFB Try.prog 22 3 mvC mvCmp g vs o K):Snd Try.prog g vs o K :=
 sortF_ok (P:=Try.prog) (g:=22) (k:=3) (α:=Mv) (enc:=mvE) (encV:=mvC) (cf:=mvCmp) (by kernel_rfl) (fun _=>rfl) (fun _=>rfl) (fun x v hv=>by simp [mvE] at hv;rcases hv with rfl|rfl|rfl<;>rfl) mv_rep mv_inj basMT basMN h
theorem Bas_ok:∀ g vs o K,Bas g vs o K→Snd Try.prog g vs o K:=by
 intro g vs o K h;rcases h with h|h
 ·exact basI h
 ·exact basM h
end Go.Proofs.Ytgiedknghbpdfaa
