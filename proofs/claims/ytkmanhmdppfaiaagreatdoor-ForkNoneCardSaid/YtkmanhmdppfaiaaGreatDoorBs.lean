import Derived.Test.YtkmanhmdppfaiaaGreatDoorMb
import Derived.Ground.NamesProg
import Derived.Ground.SlsfProg
import Derived.Test.YtkmanhmdppfaiaaGreatDoorProg
import Derived.Test.YtkmanhmdppfaiaaGreatDoorRows
import Derived.KernelRfl

namespace Go.Proofs.YtkmanhmdppfaiaaGreatDoor
set_option linter.all false
open Go.Shelf Go.Sort
def lays189_ren:Go.Shelf.Ren:=⟨fun|189=>24|125=>44|257=>43|128=>72|129=>73|294=>63|295=>64|296=>65|297=>66|298=>67|299=>68|216=>69|300=>70|301=>71|328=>103|329=>104|330=>105|331=>106|332=>107|215=>82|343=>120|n=>n,fun|28=>34|3=>3|46=>90|0=>0|51=>136|53=>22|4=>4|183=>128|182=>127|131=>133|5=>5|9=>9|218=>156|222=>160|228=>170|229=>171|n=>n,fun|n=>n⟩
theorem lays189:Go.Proofs.Lays.n189 Tryz.prog lays189_ren:={
 mixed:=by kernel_rfl
 f125:=Tryz.func44.trans (congrArg some (by kernel_rfl))
 f128:=Tryz.func72.trans (congrArg some (by kernel_rfl))
 f129:=Tryz.func73.trans (congrArg some (by kernel_rfl))
 f189:=Tryz.func24.trans (congrArg some (by kernel_rfl))
 f215:=Tryz.func82.trans (congrArg some (by kernel_rfl))
 f216:=Tryz.func69.trans (congrArg some (by kernel_rfl))
 f257:=Tryz.func43.trans (congrArg some (by kernel_rfl))
 f294:=Tryz.func63.trans (congrArg some (by kernel_rfl))
 f295:=Tryz.func64.trans (congrArg some (by kernel_rfl))
 f296:=Tryz.func65.trans (congrArg some (by kernel_rfl))
 f297:=Tryz.func66.trans (congrArg some (by kernel_rfl))
 f298:=Tryz.func67.trans (congrArg some (by kernel_rfl))
 f299:=Tryz.func68.trans (congrArg some (by kernel_rfl))
 f300:=Tryz.func70.trans (congrArg some (by kernel_rfl))
 f301:=Tryz.func71.trans (congrArg some (by kernel_rfl))
 f328:=Tryz.func103.trans (congrArg some (by kernel_rfl))
 f329:=Tryz.func104.trans (congrArg some (by kernel_rfl))
 f330:=Tryz.func105.trans (congrArg some (by kernel_rfl))
 f331:=Tryz.func106.trans (congrArg some (by kernel_rfl))
 f332:=Tryz.func107.trans (congrArg some (by kernel_rfl))
 f343:=Tryz.func120.trans (congrArg some (by kernel_rfl))
 t0:=Tryz.underlying0
 a0:=Tryz.isAgg0
 z0:=Tryz.sizeOf0
 v0:=Tryz.zeroValue0
 t3:=Tryz.underlying3
 a3:=Tryz.isAgg3
 z3:=Tryz.sizeOf3
 v3:=Tryz.zeroValue3
 t4:=Tryz.underlying4
 a4:=Tryz.isAgg4
 z4:=Tryz.sizeOf4
 v4:=Tryz.zeroValue4
 t5:=Tryz.underlying5
 a5:=Tryz.isAgg5
 z5:=Tryz.sizeOf5
 v5:=Tryz.zeroValue5
 t9:=Tryz.underlying9
 a9:=Tryz.isAgg9
 z9:=Tryz.sizeOf9
 v9:=Tryz.zeroValue9
 t28:=Tryz.underlying34
 a28:=Tryz.isAgg34
 z28:=Tryz.sizeOf34
 v28:=Tryz.zeroValue34
 t46:=Tryz.underlying90
 a46:=Tryz.isAgg90
 z46:=Tryz.sizeOf90
 v46:=Tryz.zeroValue90
 t51:=Tryz.underlying136
 a51:=Tryz.isAgg136
 z51:=Tryz.sizeOf136
 v51:=Tryz.zeroValue136
 t53:=Tryz.underlying22
 a53:=Tryz.isAgg22
 z53:=Tryz.sizeOf22
 v53:=Tryz.zeroValue22
 t131:=Tryz.underlying133
 a131:=Tryz.isAgg133
 z131:=Tryz.sizeOf133
 v131:=Tryz.zeroValue133
 t182:=Tryz.underlying127
 a182:=Tryz.isAgg127
 z182:=Tryz.sizeOf127
 v182:=Tryz.zeroValue127
 t183:=Tryz.underlying128
 a183:=Tryz.isAgg128
 z183:=Tryz.sizeOf128
 v183:=Tryz.zeroValue128
 t218:=Tryz.underlying156
 a218:=Tryz.isAgg156
 z218:=Tryz.sizeOf156
 v218:=Tryz.zeroValue156
 t222:=Tryz.underlying160
 a222:=Tryz.isAgg160
 z222:=Tryz.sizeOf160
 v222:=Tryz.zeroValue160
 t228:=Tryz.underlying170
 a228:=Tryz.isAgg170
 z228:=Tryz.sizeOf170
 v228:=Tryz.zeroValue170
 t229:=Tryz.underlying171
 a229:=Tryz.isAgg171
 z229:=Tryz.sizeOf171
 v229:=Tryz.zeroValue171 }
def laysM_ren:Go.Shelf.Ren:=⟨fun|6=>25|15=>44|14=>45|28=>72|29=>73|20=>74|21=>75|22=>76|23=>77|24=>78|25=>79|26=>80|27=>81|46=>108|47=>104|48=>105|49=>109|50=>110|57=>121|n=>n,fun|22=>68|24=>70|25=>86|3=>3|39=>90|0=>0|53=>136|55=>22|4=>4|46=>128|45=>127|50=>133|5=>5|9=>9|66=>156|70=>160|76=>170|77=>171|n=>n,fun|n=>n⟩
theorem laysM:Go.Proofs.SlLaysF0.n6 Tryz.prog laysM_ren:={
 mixed:=by kernel_rfl
 f6:=⟨Tryz.f25.name,by decide,Tryz.func25.trans (congrArg some (by kernel_rfl))⟩
 f14:=⟨Tryz.f45.name,by decide,Tryz.func45.trans (congrArg some (by kernel_rfl))⟩
 f15:=Tryz.func44.trans (congrArg some (by kernel_rfl))
 f20:=⟨Tryz.f74.name,by decide,Tryz.func74.trans (congrArg some (by kernel_rfl))⟩
 f21:=⟨Tryz.f75.name,by decide,Tryz.func75.trans (congrArg some (by kernel_rfl))⟩
 f22:=⟨Tryz.f76.name,by decide,Tryz.func76.trans (congrArg some (by kernel_rfl))⟩
 f23:=⟨Tryz.f77.name,by decide,Tryz.func77.trans (congrArg some (by kernel_rfl))⟩
 f24:=⟨Tryz.f78.name,by decide,Tryz.func78.trans (congrArg some (by kernel_rfl))⟩
 f25:=⟨Tryz.f79.name,by decide,Tryz.func79.trans (congrArg some (by kernel_rfl))⟩
 f26:=⟨Tryz.f80.name,by decide,Tryz.func80.trans (congrArg some (by kernel_rfl))⟩
 f27:=⟨Tryz.f81.name,by decide,Tryz.func81.trans (congrArg some (by kernel_rfl))⟩
 f28:=Tryz.func72.trans (congrArg some (by kernel_rfl))
 f29:=Tryz.func73.trans (congrArg some (by kernel_rfl))
 f46:=⟨Tryz.f108.name,by decide,Tryz.func108.trans (congrArg some (by kernel_rfl))⟩
 f47:=Tryz.func104.trans (congrArg some (by kernel_rfl))
 f48:=Tryz.func105.trans (congrArg some (by kernel_rfl))
 f49:=⟨Tryz.f109.name,by decide,Tryz.func109.trans (congrArg some (by kernel_rfl))⟩
 f50:=⟨Tryz.f110.name,by decide,Tryz.func110.trans (congrArg some (by kernel_rfl))⟩
 f57:=⟨Tryz.f121.name,by decide,Tryz.func121.trans (congrArg some (by kernel_rfl))⟩
 t0:=Tryz.underlying0
 a0:=Tryz.isAgg0
 z0:=Tryz.sizeOf0
 v0:=Tryz.zeroValue0
 t3:=Tryz.underlying3
 a3:=Tryz.isAgg3
 z3:=Tryz.sizeOf3
 v3:=Tryz.zeroValue3
 t4:=Tryz.underlying4
 a4:=Tryz.isAgg4
 z4:=Tryz.sizeOf4
 v4:=Tryz.zeroValue4
 t5:=Tryz.underlying5
 a5:=Tryz.isAgg5
 z5:=Tryz.sizeOf5
 v5:=Tryz.zeroValue5
 t9:=Tryz.underlying9
 a9:=Tryz.isAgg9
 z9:=Tryz.sizeOf9
 v9:=Tryz.zeroValue9
 t22:=Tryz.underlying68
 a22:=Tryz.isAgg68
 z22:=Tryz.sizeOf68
 v22:=Tryz.zeroValue68
 t25:=Tryz.underlying86
 a25:=Tryz.isAgg86
 z25:=Tryz.sizeOf86
 v25:=Tryz.zeroValue86
 t39:=Tryz.underlying90
 a39:=Tryz.isAgg90
 z39:=Tryz.sizeOf90
 v39:=Tryz.zeroValue90
 t45:=Tryz.underlying127
 a45:=Tryz.isAgg127
 z45:=Tryz.sizeOf127
 v45:=Tryz.zeroValue127
 t46:=Tryz.underlying128
 a46:=Tryz.isAgg128
 z46:=Tryz.sizeOf128
 v46:=Tryz.zeroValue128
 t50:=Tryz.underlying133
 a50:=Tryz.isAgg133
 z50:=Tryz.sizeOf133
 v50:=Tryz.zeroValue133
 t53:=Tryz.underlying136
 a53:=Tryz.isAgg136
 z53:=Tryz.sizeOf136
 v53:=Tryz.zeroValue136
 t55:=Tryz.underlying22
 a55:=Tryz.isAgg22
 z55:=Tryz.sizeOf22
 v55:=Tryz.zeroValue22
 t66:=Tryz.underlying156
 a66:=Tryz.isAgg156
 z66:=Tryz.sizeOf156
 v66:=Tryz.zeroValue156
 t70:=Tryz.underlying160
 a70:=Tryz.isAgg160
 z70:=Tryz.sizeOf160
 v70:=Tryz.zeroValue160
 t76:=Tryz.underlying170
 a76:=Tryz.isAgg170
 z76:=Tryz.sizeOf170
 v76:=Tryz.zeroValue170
 t77:=Tryz.underlying171
 a77:=Tryz.isAgg171
 z77:=Tryz.sizeOf171
 v77:=Tryz.zeroValue171 }
def laysC_ren:Go.Shelf.Ren:=⟨fun|6=>29|15=>44|14=>52|28=>72|29=>73|20=>85|21=>86|22=>87|23=>88|24=>89|25=>90|26=>91|27=>92|46=>111|47=>104|48=>105|49=>112|50=>113|57=>122|n=>n,fun|22=>50|24=>43|25=>93|3=>3|39=>90|0=>0|53=>136|55=>22|4=>4|46=>128|45=>127|50=>133|5=>5|9=>9|66=>156|70=>160|76=>170|77=>171|n=>n,fun|n=>n⟩
theorem laysC:Go.Proofs.SlLaysF0.n6 Tryz.prog laysC_ren:={
 mixed:=by kernel_rfl
 f6:=⟨Tryz.f29.name,by decide,Tryz.func29.trans (congrArg some (by kernel_rfl))⟩
 f14:=⟨Tryz.f52.name,by decide,Tryz.func52.trans (congrArg some (by kernel_rfl))⟩
 f15:=Tryz.func44.trans (congrArg some (by kernel_rfl))
 f20:=⟨Tryz.f85.name,by decide,Tryz.func85.trans (congrArg some (by kernel_rfl))⟩
 f21:=⟨Tryz.f86.name,by decide,Tryz.func86.trans (congrArg some (by kernel_rfl))⟩
 f22:=⟨Tryz.f87.name,by decide,Tryz.func87.trans (congrArg some (by kernel_rfl))⟩
 f23:=⟨Tryz.f88.name,by decide,Tryz.func88.trans (congrArg some (by kernel_rfl))⟩
 f24:=⟨Tryz.f89.name,by decide,Tryz.func89.trans (congrArg some (by kernel_rfl))⟩
 f25:=⟨Tryz.f90.name,by decide,Tryz.func90.trans (congrArg some (by kernel_rfl))⟩
 f26:=⟨Tryz.f91.name,by decide,Tryz.func91.trans (congrArg some (by kernel_rfl))⟩
 f27:=⟨Tryz.f92.name,by decide,Tryz.func92.trans (congrArg some (by kernel_rfl))⟩
 f28:=Tryz.func72.trans (congrArg some (by kernel_rfl))
 f29:=Tryz.func73.trans (congrArg some (by kernel_rfl))
 f46:=⟨Tryz.f111.name,by decide,Tryz.func111.trans (congrArg some (by kernel_rfl))⟩
 f47:=Tryz.func104.trans (congrArg some (by kernel_rfl))
 f48:=Tryz.func105.trans (congrArg some (by kernel_rfl))
 f49:=⟨Tryz.f112.name,by decide,Tryz.func112.trans (congrArg some (by kernel_rfl))⟩
 f50:=⟨Tryz.f113.name,by decide,Tryz.func113.trans (congrArg some (by kernel_rfl))⟩
 f57:=⟨Tryz.f122.name,by decide,Tryz.func122.trans (congrArg some (by kernel_rfl))⟩
 t0:=Tryz.underlying0
 a0:=Tryz.isAgg0
 z0:=Tryz.sizeOf0
 v0:=Tryz.zeroValue0
 t3:=Tryz.underlying3
 a3:=Tryz.isAgg3
 z3:=Tryz.sizeOf3
 v3:=Tryz.zeroValue3
 t4:=Tryz.underlying4
 a4:=Tryz.isAgg4
 z4:=Tryz.sizeOf4
 v4:=Tryz.zeroValue4
 t5:=Tryz.underlying5
 a5:=Tryz.isAgg5
 z5:=Tryz.sizeOf5
 v5:=Tryz.zeroValue5
 t9:=Tryz.underlying9
 a9:=Tryz.isAgg9
 z9:=Tryz.sizeOf9
 v9:=Tryz.zeroValue9
 t22:=Tryz.underlying50
 a22:=Tryz.isAgg50
 z22:=Tryz.sizeOf50
 v22:=Tryz.zeroValue50
 t25:=Tryz.underlying93
 a25:=Tryz.isAgg93
 z25:=Tryz.sizeOf93
 v25:=Tryz.zeroValue93
 t39:=Tryz.underlying90
 a39:=Tryz.isAgg90
 z39:=Tryz.sizeOf90
 v39:=Tryz.zeroValue90
 t45:=Tryz.underlying127
 a45:=Tryz.isAgg127
 z45:=Tryz.sizeOf127
 v45:=Tryz.zeroValue127
 t46:=Tryz.underlying128
 a46:=Tryz.isAgg128
 z46:=Tryz.sizeOf128
 v46:=Tryz.zeroValue128
 t50:=Tryz.underlying133
 a50:=Tryz.isAgg133
 z50:=Tryz.sizeOf133
 v50:=Tryz.zeroValue133
 t53:=Tryz.underlying136
 a53:=Tryz.isAgg136
 z53:=Tryz.sizeOf136
 v53:=Tryz.zeroValue136
 t55:=Tryz.underlying22
 a55:=Tryz.isAgg22
 z55:=Tryz.sizeOf22
 v55:=Tryz.zeroValue22
 t66:=Tryz.underlying156
 a66:=Tryz.isAgg156
 z66:=Tryz.sizeOf156
 v66:=Tryz.zeroValue156
 t70:=Tryz.underlying160
 a70:=Tryz.isAgg160
 z70:=Tryz.sizeOf160
 v70:=Tryz.zeroValue160
 t76:=Tryz.underlying170
 a76:=Tryz.isAgg170
 z76:=Tryz.sizeOf170
 v76:=Tryz.zeroValue170
 t77:=Tryz.underlying171
 a77:=Tryz.isAgg171
 z77:=Tryz.sizeOf171
 v77:=Tryz.zeroValue171 }
def bsL:List Nat:=[24,25,29]
def Bas:CallT:=fun g vs o K=>SortIB 24 g vs o K∨SortFB Tryz.prog 25 3 mvC mvCmp g vs o K∨SortFB Tryz.prog 29 5 cfC ordC g vs o K
theorem bas_i {g:Nat} {vs:List V} {o:O} {K:V→O→Prop} (h:SortIB 24 g vs o K):Bas g vs o K:=.inl h
theorem bas_m {g:Nat} {vs:List V} {o:O} {K:V→O→Prop} (h:SortFB Tryz.prog 25 3 mvC mvCmp g vs o K):Bas g vs o K:=.inr (.inl h)
theorem bas_c {g:Nat} {vs:List V} {o:O} {K:V→O→Prop} (h:SortFB Tryz.prog 29 5 cfC ordC g vs o K):Bas g vs o K:=.inr (.inr h)
theorem basI {g:Nat} {vs:List V} {o:O} {K:V→O→Prop} (h:SortIB 24 g vs o K):Snd Tryz.prog g vs o K :=
 sortI_ok (by kernel_rfl) (fun blk off cap zs w h1 h2 h3=>Any.slices_Sort_int lays189 blk off cap zs w h1 h2 h3) (fun p cap w=>Any.slices_Sort_int_none lays189 p cap w) h
theorem basMT (f:Nat) (cb:Array Value) (blk off cap:Nat) (d:Array Mv) (w:World) (h1:∀ args w,(callFunc f args).run Tryz.prog w=.ok (.enter f args) w) (h2:CmpLays Tryz.prog f cb mvE 3 mvCmp blk off d.size w) (h3:HoldsK mvE 3 w blk off d) (h4:blk < w.heap.size) (h5:d.size < 4611686018427387904) :
  Calls Tryz.prog 25 #[.slice (some ⟨blk,off,none⟩) d.size cap,.func (.func f) #[] cb] w fun e w'=>e=.returned (.tuple #[])∧∃ n os,w'=sortWorldK mvE 3 w blk off n (d.toList.mergeSort fun x y=>!(ltOf mvCmp) y x).toArray os:=by
 have hcon:=AnyQ.slices_SortFunc_total laysM 3 (enc:=mvE) Tryz.isAgg70 Tryz.sizeOf70 (fun _=>rfl) (fun x v hv=>by simp [mvE] at hv;rcases hv with rfl|rfl|rfl<;>rfl) mvCmp swoM f cb blk off cap d w h1 h2 h3 h4 h5 totM;change Calls Tryz.prog 25 _ _ _ at hcon
 exact hcon
theorem basMN (p:Option Addr) (cap:Nat) (fv:Value) (w:World):Calls Tryz.prog 25 #[.slice p 0 cap,fv] w fun e w'=>e=.returned (.tuple #[])∧w'=w:=by
 have hcon:=AnyF.slices_SortFunc_none laysM p cap fv w;change Calls Tryz.prog 25 _ _ _ at hcon
 exact hcon
theorem basM {g:Nat} {vs:List V} {o:O} {K:V→O→Prop} (h:SortFB Tryz.prog 25 3 mvC mvCmp g vs o K):Snd Tryz.prog g vs o K :=
 sortF_ok (P:=Tryz.prog) (g:=25) (k:=3) (α:=Mv) (enc:=mvE) (encV:=mvC) (cf:=mvCmp) (by kernel_rfl) (fun _=>rfl) (fun _=>rfl) (fun x v hv=>by simp [mvE] at hv;rcases hv with rfl|rfl|rfl<;>rfl) mv_rep mv_inj basMT basMN h
theorem basCT (f:Nat) (cb:Array Value) (blk off cap:Nat) (d:Array Cf) (w:World) (h1:∀ args w,(callFunc f args).run Tryz.prog w=.ok (.enter f args) w) (h2:CmpLays Tryz.prog f cb cfE 5 ordC blk off d.size w) (h3:HoldsK cfE 5 w blk off d) (h4:blk < w.heap.size) (h5:d.size < 4611686018427387904) :
  Calls Tryz.prog 29 #[.slice (some ⟨blk,off,none⟩) d.size cap,.func (.func f) #[] cb] w fun e w'=>e=.returned (.tuple #[])∧∃ n os,w'=sortWorldK cfE 5 w blk off n (d.toList.mergeSort fun x y=>!(ltOf ordC) y x).toArray os:=by
 have hcon:=AnyQ.slices_SortFunc_total laysC 5 (enc:=cfE) Tryz.isAgg43 Tryz.sizeOf43 (fun _=>rfl) (fun x v hv=>by simp [cfE] at hv;rcases hv with rfl|rfl|rfl|rfl|rfl<;>rfl) ordC swoC f cb blk off cap d w h1 h2 h3 h4 h5 totC;change Calls Tryz.prog 29 _ _ _ at hcon
 exact hcon
theorem basCN (p:Option Addr) (cap:Nat) (fv:Value) (w:World):Calls Tryz.prog 29 #[.slice p 0 cap,fv] w fun e w'=>e=.returned (.tuple #[])∧w'=w:=by
 have hcon:=AnyF.slices_SortFunc_none laysC p cap fv w;change Calls Tryz.prog 29 _ _ _ at hcon
 exact hcon
theorem basC {g:Nat} {vs:List V} {o:O} {K:V→O→Prop} (h:SortFB Tryz.prog 29 5 cfC ordC g vs o K):Snd Tryz.prog g vs o K :=
 sortF_ok (P:=Tryz.prog) (g:=29) (k:=5) (α:=Cf) (enc:=cfE) (encV:=cfC) (cf:=ordC) (by kernel_rfl) (fun _=>rfl) (fun _=>rfl) (fun x v hv=>by simp [cfE] at hv;rcases hv with rfl|rfl|rfl|rfl|rfl<;>rfl) cf_rep cf_inj basCT basCN h
theorem Bas_ok:∀ g vs o K,Bas g vs o K→Snd Tryz.prog g vs o K:=by
 intro g vs o K h;rcases h with h|h|h
 ·exact basI h
 ·exact basM h
 ·exact basC h
end Go.Proofs.YtkmanhmdppfaiaaGreatDoor
