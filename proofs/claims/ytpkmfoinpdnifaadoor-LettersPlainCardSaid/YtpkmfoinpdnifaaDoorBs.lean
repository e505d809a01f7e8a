import Derived.Test.YtpkmfoinpdnifaaDoorMb
import Derived.Ground.NamesProg
import Derived.Ground.SlsfProg
import Derived.Test.YtpkmfoinpdnifaaDoorProg
import Derived.Test.YtpkmfoinpdnifaaDoorRows
import Derived.KernelRfl

namespace Go.Proofs.YtpkmfoinpdnifaaDoor
set_option linter.all false
open Go.Shelf Go.Sort
def lays189_ren:Go.Shelf.Ren:=⟨fun|189=>24|125=>40|257=>39|128=>64|129=>65|294=>55|295=>56|296=>57|297=>58|298=>59|299=>60|216=>61|300=>62|301=>63|328=>84|329=>85|330=>86|331=>87|332=>88|215=>74|343=>97|n=>n,fun|28=>34|3=>3|46=>86|0=>0|51=>130|53=>22|4=>4|183=>123|182=>122|131=>107|5=>5|9=>9|218=>142|222=>146|228=>151|229=>152|n=>n,fun|n=>n⟩
theorem lays189:Go.Proofs.Lays.n189 Tryd.prog lays189_ren:={
 mixed:=by kernel_rfl
 f125:=Tryd.func40.trans (congrArg some (by kernel_rfl))
 f128:=Tryd.func64.trans (congrArg some (by kernel_rfl))
 f129:=Tryd.func65.trans (congrArg some (by kernel_rfl))
 f189:=Tryd.func24.trans (congrArg some (by kernel_rfl))
 f215:=Tryd.func74.trans (congrArg some (by kernel_rfl))
 f216:=Tryd.func61.trans (congrArg some (by kernel_rfl))
 f257:=Tryd.func39.trans (congrArg some (by kernel_rfl))
 f294:=Tryd.func55.trans (congrArg some (by kernel_rfl))
 f295:=Tryd.func56.trans (congrArg some (by kernel_rfl))
 f296:=Tryd.func57.trans (congrArg some (by kernel_rfl))
 f297:=Tryd.func58.trans (congrArg some (by kernel_rfl))
 f298:=Tryd.func59.trans (congrArg some (by kernel_rfl))
 f299:=Tryd.func60.trans (congrArg some (by kernel_rfl))
 f300:=Tryd.func62.trans (congrArg some (by kernel_rfl))
 f301:=Tryd.func63.trans (congrArg some (by kernel_rfl))
 f328:=Tryd.func84.trans (congrArg some (by kernel_rfl))
 f329:=Tryd.func85.trans (congrArg some (by kernel_rfl))
 f330:=Tryd.func86.trans (congrArg some (by kernel_rfl))
 f331:=Tryd.func87.trans (congrArg some (by kernel_rfl))
 f332:=Tryd.func88.trans (congrArg some (by kernel_rfl))
 f343:=Tryd.func97.trans (congrArg some (by kernel_rfl))
 t0:=Tryd.underlying0
 a0:=Tryd.isAgg0
 z0:=Tryd.sizeOf0
 v0:=Tryd.zeroValue0
 t3:=Tryd.underlying3
 a3:=Tryd.isAgg3
 z3:=Tryd.sizeOf3
 v3:=Tryd.zeroValue3
 t4:=Tryd.underlying4
 a4:=Tryd.isAgg4
 z4:=Tryd.sizeOf4
 v4:=Tryd.zeroValue4
 t5:=Tryd.underlying5
 a5:=Tryd.isAgg5
 z5:=Tryd.sizeOf5
 v5:=Tryd.zeroValue5
 t9:=Tryd.underlying9
 a9:=Tryd.isAgg9
 z9:=Tryd.sizeOf9
 v9:=Tryd.zeroValue9
 t28:=Tryd.underlying34
 a28:=Tryd.isAgg34
 z28:=Tryd.sizeOf34
 v28:=Tryd.zeroValue34
 t46:=Tryd.underlying86
 a46:=Tryd.isAgg86
 z46:=Tryd.sizeOf86
 v46:=Tryd.zeroValue86
 t51:=Tryd.underlying130
 a51:=Tryd.isAgg130
 z51:=Tryd.sizeOf130
 v51:=Tryd.zeroValue130
 t53:=Tryd.underlying22
 a53:=Tryd.isAgg22
 z53:=Tryd.sizeOf22
 v53:=Tryd.zeroValue22
 t131:=Tryd.underlying107
 a131:=Tryd.isAgg107
 z131:=Tryd.sizeOf107
 v131:=Tryd.zeroValue107
 t182:=Tryd.underlying122
 a182:=Tryd.isAgg122
 z182:=Tryd.sizeOf122
 v182:=Tryd.zeroValue122
 t183:=Tryd.underlying123
 a183:=Tryd.isAgg123
 z183:=Tryd.sizeOf123
 v183:=Tryd.zeroValue123
 t218:=Tryd.underlying142
 a218:=Tryd.isAgg142
 z218:=Tryd.sizeOf142
 v218:=Tryd.zeroValue142
 t222:=Tryd.underlying146
 a222:=Tryd.isAgg146
 z222:=Tryd.sizeOf146
 v222:=Tryd.zeroValue146
 t228:=Tryd.underlying151
 a228:=Tryd.isAgg151
 z228:=Tryd.sizeOf151
 v228:=Tryd.zeroValue151
 t229:=Tryd.underlying152
 a229:=Tryd.isAgg152
 z229:=Tryd.sizeOf152
 v229:=Tryd.zeroValue152 }
def laysM_ren:Go.Shelf.Ren:=⟨fun|6=>25|15=>40|14=>41|28=>64|29=>65|20=>66|21=>67|22=>68|23=>69|24=>70|25=>71|26=>72|27=>73|46=>89|47=>85|48=>86|49=>90|50=>91|57=>98|n=>n,fun|22=>81|24=>78|25=>83|3=>3|39=>86|0=>0|53=>130|55=>22|4=>4|46=>123|45=>122|50=>107|5=>5|9=>9|66=>142|70=>146|76=>151|77=>152|n=>n,fun|n=>n⟩
theorem laysM:Go.Proofs.SlLaysF0.n6 Tryd.prog laysM_ren:={
 mixed:=by kernel_rfl
 f6:=⟨Tryd.f25.name,by decide,Tryd.func25.trans (congrArg some (by kernel_rfl))⟩
 f14:=⟨Tryd.f41.name,by decide,Tryd.func41.trans (congrArg some (by kernel_rfl))⟩
 f15:=Tryd.func40.trans (congrArg some (by kernel_rfl))
 f20:=⟨Tryd.f66.name,by decide,Tryd.func66.trans (congrArg some (by kernel_rfl))⟩
 f21:=⟨Tryd.f67.name,by decide,Tryd.func67.trans (congrArg some (by kernel_rfl))⟩
 f22:=⟨Tryd.f68.name,by decide,Tryd.func68.trans (congrArg some (by kernel_rfl))⟩
 f23:=⟨Tryd.f69.name,by decide,Tryd.func69.trans (congrArg some (by kernel_rfl))⟩
 f24:=⟨Tryd.f70.name,by decide,Tryd.func70.trans (congrArg some (by kernel_rfl))⟩
 f25:=⟨Tryd.f71.name,by decide,Tryd.func71.trans (congrArg some (by kernel_rfl))⟩
 f26:=⟨Tryd.f72.name,by decide,Tryd.func72.trans (congrArg some (by kernel_rfl))⟩
 f27:=⟨Tryd.f73.name,by decide,Tryd.func73.trans (congrArg some (by kernel_rfl))⟩
 f28:=Tryd.func64.trans (congrArg some (by kernel_rfl))
 f29:=Tryd.func65.trans (congrArg some (by kernel_rfl))
 f46:=⟨Tryd.f89.name,by decide,Tryd.func89.trans (congrArg some (by kernel_rfl))⟩
 f47:=Tryd.func85.trans (congrArg some (by kernel_rfl))
 f48:=Tryd.func86.trans (congrArg some (by kernel_rfl))
 f49:=⟨Tryd.f90.name,by decide,Tryd.func90.trans (congrArg some (by kernel_rfl))⟩
 f50:=⟨Tryd.f91.name,by decide,Tryd.func91.trans (congrArg some (by kernel_rfl))⟩
 f57:=⟨Tryd.f98.name,by decide,Tryd.func98.trans (congrArg some (by kernel_rfl))⟩
 t0:=Tryd.underlying0
 a0:=Tryd.isAgg0
 z0:=Tryd.sizeOf0
 v0:=Tryd.zeroValue0
 t3:=Tryd.underlying3
 a3:=Tryd.isAgg3
 z3:=Tryd.sizeOf3
 v3:=Tryd.zeroValue3
 t4:=Tryd.underlying4
 a4:=Tryd.isAgg4
 z4:=Tryd.sizeOf4
 v4:=Tryd.zeroValue4
 t5:=Tryd.underlying5
 a5:=Tryd.isAgg5
 z5:=Tryd.sizeOf5
 v5:=Tryd.zeroValue5
 t9:=Tryd.underlying9
 a9:=Tryd.isAgg9
 z9:=Tryd.sizeOf9
 v9:=Tryd.zeroValue9
 t22:=Tryd.underlying81
 a22:=Tryd.isAgg81
 z22:=Tryd.sizeOf81
 v22:=Tryd.zeroValue81
 t25:=Tryd.underlying83
 a25:=Tryd.isAgg83
 z25:=Tryd.sizeOf83
 v25:=Tryd.zeroValue83
 t39:=Tryd.underlying86
 a39:=Tryd.isAgg86
 z39:=Tryd.sizeOf86
 v39:=Tryd.zeroValue86
 t45:=Tryd.underlying122
 a45:=Tryd.isAgg122
 z45:=Tryd.sizeOf122
 v45:=Tryd.zeroValue122
 t46:=Tryd.underlying123
 a46:=Tryd.isAgg123
 z46:=Tryd.sizeOf123
 v46:=Tryd.zeroValue123
 t50:=Tryd.underlying107
 a50:=Tryd.isAgg107
 z50:=Tryd.sizeOf107
 v50:=Tryd.zeroValue107
 t53:=Tryd.underlying130
 a53:=Tryd.isAgg130
 z53:=Tryd.sizeOf130
 v53:=Tryd.zeroValue130
 t55:=Tryd.underlying22
 a55:=Tryd.isAgg22
 z55:=Tryd.sizeOf22
 v55:=Tryd.zeroValue22
 t66:=Tryd.underlying142
 a66:=Tryd.isAgg142
 z66:=Tryd.sizeOf142
 v66:=Tryd.zeroValue142
 t70:=Tryd.underlying146
 a70:=Tryd.isAgg146
 z70:=Tryd.sizeOf146
 v70:=Tryd.zeroValue146
 t76:=Tryd.underlying151
 a76:=Tryd.isAgg151
 z76:=Tryd.sizeOf151
 v76:=Tryd.zeroValue151
 t77:=Tryd.underlying152
 a77:=Tryd.isAgg152
 z77:=Tryd.sizeOf152
 v77:=Tryd.zeroValue152 }
def bsL:List Nat:=[24,25]
def Bas:CallT:=fun g vs o K=>SortIB 24 g vs o K∨SortFB Tryd.prog 25 3 mvC mvCmp g vs o K
theorem bas_i {g:Nat} {vs:List V} {o:O} {K:V→O→Prop} (h:SortIB 24 g vs o K):Bas g vs o K:=.inl h
theorem bas_m {g:Nat} {vs:List V} {o:O} {K:V→O→Prop} (h:SortFB Tryd.prog 25 3 mvC mvCmp g vs o K):Bas g vs o K:=.inr h
theorem basI {g:Nat} {vs:List V} {o:O} {K:V→O→Prop} (h:SortIB 24 g vs o K):Snd Tryd.prog g vs o K :=
 sortI_ok (by kernel_rfl) (fun blk off cap zs w h1 h2 h3=>Any.slices_Sort_int lays189 blk off cap zs w h1 h2 h3) (fun p cap w=>Any.slices_Sort_int_none lays189 p cap w) h
theorem basMT (f:Nat) (cb:Array Value) (blk off cap:Nat) (d:Array Mv) (w:World) (h1:∀ args w,(callFunc f args).run Tryd.prog w=.ok (.enter f args) w) (h2:CmpLays Tryd.prog f cb mvE 3 mvCmp blk off d.size w) (h3:HoldsK mvE 3 w blk off d) (h4:blk < w.heap.size) (h5:d.size < 4611686018427387904) :
  Calls Tryd.prog 25 #[.slice (some ⟨blk,off,none⟩) d.size cap,.func (.func f) #[] cb] w fun e w'=>e=.returned (.tuple #[])∧∃ n os,w'=sortWorldK mvE 3 w blk off n (d.toList.mergeSort fun x y=>!(ltOf mvCmp) y x).toArray os:=by
 have hcon:=AnyQ.slices_SortFunc_total laysM 3 (enc:=mvE) Tryd.isAgg78 Tryd.sizeOf78 (fun _=>rfl) (fun x v hv=>by simp [mvE] at hv;rcases hv with rfl|rfl|rfl<;>rfl) mvCmp swoM f cb blk off cap d w h1 h2 h3 h4 h5 totM;change Calls Tryd.prog 25 _ _ _ at hcon
 exact hcon
theorem basMN (p:Option Addr) (cap:Nat) (fv:Value) (w:World):Calls Tryd.prog 25 #[.slice p 0 cap,fv] w fun e w'=>e=.returned (.tuple #[])∧w'=w:=by
 have hcon:=AnyF.slices_SortFunc_none laysM p cap fv w;change Calls Tryd.prog 25 _ _ _ at hcon
 exact hcon
theorem basM {g:Nat} {vs:List V} {o:O} {K:V→O→Prop} (h:SortFB Tryd.prog 25 3 mvC mvCmp g vs o K):Snd Tryd.prog g vs o K :=
 sortF_ok (P:=Tryd.prog) (g:=25) (k:=3) (α:=Mv) (enc:=mvE) (encV:=mvC) (cf:=mvCmp) (by kernel_rfl) (fun _=>rfl) (fun _=>rfl) (fun x v hv=>by simp [mvE] at hv;rcases hv with rfl|rfl|rfl<;>rfl) mv_rep mv_inj basMT basMN h
theorem Bas_ok:∀ g vs o K,Bas g vs o K→Snd Tryd.prog g vs o K:=by
 intro g vs o K h;rcases h with h|h
 ·exact basI h
 ·exact basM h
end Go.Proofs.YtpkmfoinpdnifaaDoor
