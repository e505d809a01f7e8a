import Derived.Test.YtgiedknghbpdfaaDoorMb
import Derived.Ground.NamesProg
import Derived.Ground.SlsfProg
import Derived.Test.YtgiedknghbpdfaaDoorProg
import Derived.Test.YtgiedknghbpdfaaDoorRows
import Derived.KernelRfl

namespace Go.Proofs.YtgiedknghbpdfaaDoor
set_option linter.all false
open Go.Shelf Go.Sort
def lays189_ren:Go.Shelf.Ren:=⟨fun|189=>24|125=>39|257=>38|128=>62|129=>63|294=>53|295=>54|296=>55|297=>56|298=>57|299=>58|216=>59|300=>60|301=>61|328=>83|329=>84|330=>85|331=>86|332=>87|215=>72|343=>96|n=>n,fun|28=>34|3=>3|46=>106|0=>0|51=>129|53=>22|4=>4|183=>121|182=>120|131=>126|5=>5|9=>9|218=>142|222=>146|228=>153|229=>154|n=>n,fun|n=>n⟩
theorem lays189:Go.Proofs.Lays.n189 Tryd.prog lays189_ren:={
 mixed:=by kernel_rfl
 f125:=Tryd.func39.trans (congrArg some (by kernel_rfl))
 f128:=Tryd.func62.trans (congrArg some (by kernel_rfl))
 f129:=Tryd.func63.trans (congrArg some (by kernel_rfl))
 f189:=Tryd.func24.trans (congrArg some (by kernel_rfl))
 f215:=Tryd.func72.trans (congrArg some (by kernel_rfl))
 f216:=Tryd.func59.trans (congrArg some (by kernel_rfl))
 f257:=Tryd.func38.trans (congrArg some (by kernel_rfl))
 f294:=Tryd.func53.trans (congrArg some (by kernel_rfl))
 f295:=Tryd.func54.trans (congrArg some (by kernel_rfl))
 f296:=Tryd.func55.trans (congrArg some (by kernel_rfl))
 f297:=Tryd.func56.trans (congrArg some (by kernel_rfl))
 f298:=Tryd.func57.trans (congrArg some (by kernel_rfl))
 f299:=Tryd.func58.trans (congrArg some (by kernel_rfl))
 f300:=Tryd.func60.trans (congrArg some (by kernel_rfl))
 f301:=Tryd.func61.trans (congrArg some (by kernel_rfl))
 f328:=Tryd.func83.trans (congrArg some (by kernel_rfl))
 f329:=Tryd.func84.trans (congrArg some (by kernel_rfl))
 f330:=Tryd.func85.trans (congrArg some (by kernel_rfl))
 f331:=Tryd.func86.trans (congrArg some (by kernel_rfl))
 f332:=Tryd.func87.trans (congrArg some (by kernel_rfl))
 f343:=Tryd.func96.trans (congrArg some (by kernel_rfl))
 t0:=Tryd.underlying0
 a0:=Tryd.isAgg0
 z0:=Tryd.sizeOf0
 v0:=Tryd.zeroValue0
 t3:=Tryd.underlying3
 a3:=Tryd.isAgg3
 z3:=Tryd.sizeOf3
 v3:=Tryd.zeroValue3
 t4:=Tryd.underlying4
 a4:=Tryd.isAgg4
 z4:=Tryd.sizeOf4
 v4:=Tryd.zeroValue4
 t5:=Tryd.underlying5
 a5:=Tryd.isAgg5
 z5:=Tryd.sizeOf5
 v5:=Tryd.zeroValue5
 t9:=Tryd.underlying9
 a9:=Tryd.isAgg9
 z9:=Tryd.sizeOf9
 v9:=Tryd.zeroValue9
 t28:=Tryd.underlying34
 a28:=Tryd.isAgg34
 z28:=Tryd.sizeOf34
 v28:=Tryd.zeroValue34
 t46:=Tryd.underlying106
 a46:=Tryd.isAgg106
 z46:=Tryd.sizeOf106
 v46:=Tryd.zeroValue106
 t51:=Tryd.underlying129
 a51:=Tryd.isAgg129
 z51:=Tryd.sizeOf129
 v51:=Tryd.zeroValue129
 t53:=Tryd.underlying22
 a53:=Tryd.isAgg22
 z53:=Tryd.sizeOf22
 v53:=Tryd.zeroValue22
 t131:=Tryd.underlying126
 a131:=Tryd.isAgg126
 z131:=Tryd.sizeOf126
 v131:=Tryd.zeroValue126
 t182:=Tryd.underlying120
 a182:=Tryd.isAgg120
 z182:=Tryd.sizeOf120
 v182:=Tryd.zeroValue120
 t183:=Tryd.underlying121
 a183:=Tryd.isAgg121
 z183:=Tryd.sizeOf121
 v183:=Tryd.zeroValue121
 t218:=Tryd.underlying142
 a218:=Tryd.isAgg142
 z218:=Tryd.sizeOf142
 v218:=Tryd.zeroValue142
 t222:=Tryd.underlying146
 a222:=Tryd.isAgg146
 z222:=Tryd.sizeOf146
 v222:=Tryd.zeroValue146
 t228:=Tryd.underlying153
 a228:=Tryd.isAgg153
 z228:=Tryd.sizeOf153
 v228:=Tryd.zeroValue153
 t229:=Tryd.underlying154
 a229:=Tryd.isAgg154
 z229:=Tryd.sizeOf154
 v229:=Tryd.zeroValue154 }
def laysM_ren:Go.Shelf.Ren:=⟨fun|6=>25|15=>39|14=>40|28=>62|29=>63|20=>64|21=>65|22=>66|23=>67|24=>68|25=>69|26=>70|27=>71|46=>88|47=>84|48=>85|49=>89|50=>90|57=>97|n=>n,fun|22=>53|24=>57|25=>91|3=>3|39=>106|0=>0|53=>129|55=>22|4=>4|46=>121|45=>120|50=>126|5=>5|9=>9|66=>142|70=>146|76=>153|77=>154|n=>n,fun|n=>n⟩
theorem laysM:Go.Proofs.SlLaysF0.n6 Tryd.prog laysM_ren:={
 mixed:=by kernel_rfl
 f6:=⟨Tryd.f25.name,by decide,Tryd.func25.trans (congrArg some (by kernel_rfl))⟩
 f14:=⟨Tryd.f40.name,by decide,Tryd.func40.trans (congrArg some (by kernel_rfl))⟩
 f15:=Tryd.func39.trans (congrArg some (by kernel_rfl))
 f20:=⟨Tryd.f64.name,by decide,Tryd.func64.trans (congrArg some (by kernel_rfl))⟩
 f21:=⟨Tryd.f65.name,by decide,Tryd.func65.trans (congrArg some (by kernel_rfl))⟩
 f22:=⟨Tryd.f66.name,by decide,Tryd.func66.trans (congrArg some (by kernel_rfl))⟩
 f23:=⟨Tryd.f67.name,by decide,Tryd.func67.trans (congrArg some (by kernel_rfl))⟩
 f24:=⟨Tryd.f68.name,by decide,Tryd.func68.trans (congrArg some (by kernel_rfl))⟩
 f25:=⟨Tryd.f69.name,by decide,Tryd.func69.trans (congrArg some (by kernel_rfl))⟩
 f26:=⟨Tryd.f70.name,by decide,Tryd.func70.trans (congrArg some (by kernel_rfl))⟩
 f27:=⟨Tryd.f71.name,by decide,Tryd.func71.trans (congrArg some (by kernel_rfl))⟩
 f28:=Tryd.func62.trans (congrArg some (by kernel_rfl))
 f29:=Tryd.func63.trans (congrArg some (by kernel_rfl))
 f46:=⟨Tryd.f88.name,by decide,Tryd.func88.trans (congrArg some (by kernel_rfl))⟩
 f47:=Tryd.func84.trans (congrArg some (by kernel_rfl))
 f48:=Tryd.func85.trans (congrArg some (by kernel_rfl))
 f49:=⟨Tryd.f89.name,by decide,Tryd.func89.trans (congrArg some (by kernel_rfl))⟩
 f50:=⟨Tryd.f90.name,by decide,Tryd.func90.trans (congrArg some (by kernel_rfl))⟩
 f57:=⟨Tryd.f97.name,by decide,Tryd.func97.trans (congrArg some (by kernel_rfl))⟩
 t0:=Tryd.underlying0
 a0:=Tryd.isAgg0
 z0:=Tryd.sizeOf0
 v0:=Tryd.zeroValue0
 t3:=Tryd.underlying3
 a3:=Tryd.isAgg3
 z3:=Tryd.sizeOf3
 v3:=Tryd.zeroValue3
 t4:=Tryd.underlying4
 a4:=Tryd.isAgg4
 z4:=Tryd.sizeOf4
 v4:=Tryd.zeroValue4
 t5:=Tryd.underlying5
 a5:=Tryd.isAgg5
 z5:=Tryd.sizeOf5
 v5:=Tryd.zeroValue5
 t9:=Tryd.underlying9
 a9:=Tryd.isAgg9
 z9:=Tryd.sizeOf9
 v9:=Tryd.zeroValue9
 t22:=Tryd.underlying53
 a22:=Tryd.isAgg53
 z22:=Tryd.sizeOf53
 v22:=Tryd.zeroValue53
 t25:=Tryd.underlying91
 a25:=Tryd.isAgg91
 z25:=Tryd.sizeOf91
 v25:=Tryd.zeroValue91
 t39:=Tryd.underlying106
 a39:=Tryd.isAgg106
 z39:=Tryd.sizeOf106
 v39:=Tryd.zeroValue106
 t45:=Tryd.underlying120
 a45:=Tryd.isAgg120
 z45:=Tryd.sizeOf120
 v45:=Tryd.zeroValue120
 t46:=Tryd.underlying121
 a46:=Tryd.isAgg121
 z46:=Tryd.sizeOf121
 v46:=Tryd.zeroValue121
 t50:=Tryd.underlying126
 a50:=Tryd.isAgg126
 z50:=Tryd.sizeOf126
 v50:=Tryd.zeroValue126
 t53:=Tryd.underlying129
 a53:=Tryd.isAgg129
 z53:=Tryd.sizeOf129
 v53:=Tryd.zeroValue129
 t55:=Tryd.underlying22
 a55:=Tryd.isAgg22
 z55:=Tryd.sizeOf22
 v55:=Tryd.zeroValue22
 t66:=Tryd.underlying142
 a66:=Tryd.isAgg142
 z66:=Tryd.sizeOf142
 v66:=Tryd.zeroValue142
 t70:=Tryd.underlying146
 a70:=Tryd.isAgg146
 z70:=Tryd.sizeOf146
 v70:=Tryd.zeroValue146
 t76:=Tryd.underlying153
 a76:=Tryd.isAgg153
 z76:=Tryd.sizeOf153
 v76:=Tryd.zeroValue153
 t77:=Tryd.underlying154
 a77:=Tryd.isAgg154
 z77:=Tryd.sizeOf154
 v77:=Tryd.zeroValue154 }
def bsL:List Nat:=[24,25]
def Bas:CallT:=fun g vs o K=>SortIB 24 g vs o K∨SortFB Tryd.prog 25 3 mvC mvCmp g vs o K
theorem bas_i {g:Nat} {vs:List V} {o:O} {K:V→O→Prop} (h:SortIB 24 g vs o K):Bas g vs o K:=.inl h
theorem bas_m {g:Nat} {vs:List V} {o:O} {K:V→O→Prop} (h:SortFB Tryd.prog 25 3 mvC mvCmp g vs o K):Bas g vs o K:=.inr h
theorem basI {g:Nat} {vs:List V} {o:O} {K:V→O→Prop} (h:SortIB 24 g vs o K):Snd Tryd.prog g vs o K :=
 sortI_ok (by kernel_rfl) (fun blk off cap zs w h1 h2 h3=>Any.slices_Sort_int lays189 blk off cap zs w h1 h2 h3) (fun p cap w=>Any.slices_Sort_int_none lays189 p cap w) h
theorem basMT (f:Nat) (cb:Array Value) (blk off cap:Nat) (d:Array Mv) (w:World) (h1:∀ args w,(callFunc f args).run Tryd.prog w=.ok (.enter f args) w) (h2:CmpLays Tryd.prog f cb mvE 3 mvCmp blk off d.size w) (h3:HoldsK mvE 3 w blk off d) (h4:blk < w.heap.size) (h5:d.size < 4611686018427387904) :
  Calls Tryd.prog 25 #[.slice (some ⟨blk,off,none⟩) d.size cap,.func (.func f) #[] cb] w fun e w'=>e=.returned (.tuple #[])∧∃ n os,w'=sortWorldK mvE 3 w blk off n (d.toList.mergeSort fun x y=>!(ltOf mvCmp) y x).toArray os:=by
 have hcon:=AnyQ.slices_SortFunc_total laysM 3 (enc:=mvE) Tryd.isAgg57 Tryd.sizeOf57 (fun _=>rfl) (fun x v hv=>by simp [mvE] at hv;rcases hv with rfl|rfl|rfl<;>rfl) mvCmp swoM f cb blk off cap d w h1 h2 h3 h4 h5 totM;change Calls Tryd.prog 25 _ _ _ at hcon
 exact hcon
theorem basMN (p:Option Addr) (cap:Nat) (fv:Value) (w:World):Calls Tryd.prog 25 #[.slice p 0 cap,fv] w fun e w'=>e=.returned (.tuple #[])∧w'=w:=by
 have hcon:=AnyF.slices_SortFunc_none laysM p cap fv w;change Calls Tryd.prog 25 _ _ _ at hcon
 exact hcon
theorem basM {g:Nat} {vs:List V} {o:O} {K:V→O→Prop} (h:SortFB Tryd.prog 25 3 mvC mvCmp g vs o K):Snd Tryd.prog g vs o K :=
 sortF_ok (P:=Tryd.prog) (g:=25) (k:=3) (α:=Mv) (enc:=mvE) (encV:=mvC) (cf:=mvCmp) (by kernel_rfl) (fun _=>rfl) (fun _=>rfl) (fun x v hv=>by simp [mvE] at hv;rcases hv with rfl|rfl|rfl<;>rfl) mv_rep mv_inj basMT basMN h
theorem Bas_ok:∀ g vs o K,Bas g vs o K→Snd Tryd.prog g vs o K:=by
 intro g vs o K h;rcases h with h|h
 ·exact basI h
 ·exact basM h
end Go.Proofs.YtgiedknghbpdfaaDoor
