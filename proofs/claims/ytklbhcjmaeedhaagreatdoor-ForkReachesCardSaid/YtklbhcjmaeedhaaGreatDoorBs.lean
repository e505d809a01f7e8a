import Derived.Test.YtklbhcjmaeedhaaGreatDoorMb
import Derived.Test.YtklbhcjmaeedhaaGreatDoorMc
import Derived.Ground.NamesProg
import Derived.Ground.SlsfProg
import Derived.Test.YtklbhcjmaeedhaaGreatDoorProg
import Derived.Test.YtklbhcjmaeedhaaGreatDoorRows
import Derived.KernelRfl

namespace Go.Proofs.YtklbhcjmaeedhaaGreatDoor
set_option linter.all false
variable {g:Nat} {vs:List V} {o:O} {K:V→O→Prop}
open Go.Shelf Go.Sort
def V7:Go.Shelf.Ren:=⟨fun|189=>25|125=>48|257=>47|128=>75|129=>76|294=>66|295=>67|296=>68|297=>69|298=>70|299=>71|216=>72|300=>73|301=>74|328=>105|329=>106|330=>107|331=>108|332=>109|215=>85|343=>122|n=>n,fun|28=>35|3=>3|46=>88|0=>0|51=>139|53=>22|4=>4|183=>131|182=>130|131=>136|5=>5|9=>9|218=>158|222=>162|228=>172|229=>173|n=>n,fun|n=>n⟩
def Qbm:Go.Proofs.Lays.n189 Tryz.prog V7:={
 mixed:=by kernel_rfl
 f125:=Tryz.func48.trans (congrArg some (by kernel_rfl))
 f128:=Tryz.func75.trans (congrArg some (by kernel_rfl))
 f129:=Tryz.func76.trans (congrArg some (by kernel_rfl))
 f189:=Tryz.func25.trans (congrArg some (by kernel_rfl))
 f215:=Tryz.func85.trans (congrArg some (by kernel_rfl))
 f216:=Tryz.func72.trans (congrArg some (by kernel_rfl))
 f257:=Tryz.func47.trans (congrArg some (by kernel_rfl))
 f294:=Tryz.func66.trans (congrArg some (by kernel_rfl))
 f295:=Tryz.func67.trans (congrArg some (by kernel_rfl))
 f296:=Tryz.func68.trans (congrArg some (by kernel_rfl))
 f297:=Tryz.func69.trans (congrArg some (by kernel_rfl))
 f298:=Tryz.func70.trans (congrArg some (by kernel_rfl))
 f299:=Tryz.func71.trans (congrArg some (by kernel_rfl))
 f300:=Tryz.func73.trans (congrArg some (by kernel_rfl))
 f301:=Tryz.func74.trans (congrArg some (by kernel_rfl))
 f328:=Tryz.func105.trans (congrArg some (by kernel_rfl))
 f329:=Tryz.func106.trans (congrArg some (by kernel_rfl))
 f330:=Tryz.func107.trans (congrArg some (by kernel_rfl))
 f331:=Tryz.func108.trans (congrArg some (by kernel_rfl))
 f332:=Tryz.func109.trans (congrArg some (by kernel_rfl))
 f343:=Tryz.func122.trans (congrArg some (by kernel_rfl))
 t0:=Tryz.underlying0
 a0:=Tryz.isAgg0
 z0:=Tryz.sizeOf0
 v0:=Tryz.zeroValue0
 t3:=Tryz.underlying3
 a3:=Tryz.isAgg3
 z3:=Tryz.sizeOf3
 v3:=Tryz.zeroValue3
 t4:=Tryz.underlying4
 a4:=Tryz.isAgg4
 z4:=Tryz.sizeOf4
 v4:=Tryz.zeroValue4
 t5:=Tryz.underlying5
 a5:=Tryz.isAgg5
 z5:=Tryz.sizeOf5
 v5:=Tryz.zeroValue5
 t9:=Tryz.underlying9
 a9:=Tryz.isAgg9
 z9:=Tryz.sizeOf9
 v9:=Tryz.zeroValue9
 t28:=Tryz.underlying35
 a28:=Tryz.isAgg35
 z28:=Tryz.sizeOf35
 v28:=Tryz.zeroValue35
 t46:=Tryz.underlying88
 a46:=Tryz.isAgg88
 z46:=Tryz.sizeOf88
 v46:=Tryz.zeroValue88
 t51:=Tryz.underlying139
 a51:=Tryz.isAgg139
 z51:=Tryz.sizeOf139
 v51:=Tryz.zeroValue139
 t53:=Tryz.underlying22
 a53:=Tryz.isAgg22
 z53:=Tryz.sizeOf22
 v53:=Tryz.zeroValue22
 t131:=Tryz.underlying136
 a131:=Tryz.isAgg136
 z131:=Tryz.sizeOf136
 v131:=Tryz.zeroValue136
 t182:=Tryz.underlying130
 a182:=Tryz.isAgg130
 z182:=Tryz.sizeOf130
 v182:=Tryz.zeroValue130
 t183:=Tryz.underlying131
 a183:=Tryz.isAgg131
 z183:=Tryz.sizeOf131
 v183:=Tryz.zeroValue131
 t218:=Tryz.underlying158
 a218:=Tryz.isAgg158
 z218:=Tryz.sizeOf158
 v218:=Tryz.zeroValue158
 t222:=Tryz.underlying162
 a222:=Tryz.isAgg162
 z222:=Tryz.sizeOf162
 v222:=Tryz.zeroValue162
 t228:=Tryz.underlying172
 a228:=Tryz.isAgg172
 z228:=Tryz.sizeOf172
 v228:=Tryz.zeroValue172
 t229:=Tryz.underlying173
 a229:=Tryz.isAgg173
 z229:=Tryz.sizeOf173
 v229:=Tryz.zeroValue173 }
def Qbt:Go.Shelf.Ren:=⟨fun|6=>26|15=>48|14=>49|28=>75|29=>76|20=>77|21=>78|22=>79|23=>80|24=>81|25=>82|26=>83|27=>84|46=>110|47=>106|48=>107|49=>111|50=>112|57=>123|n=>n,fun|22=>51|24=>55|25=>87|3=>3|39=>88|0=>0|53=>139|55=>22|4=>4|46=>131|45=>130|50=>136|5=>5|9=>9|66=>158|70=>162|76=>172|77=>173|n=>n,fun|n=>n⟩
def Qlg:Go.Proofs.SlLaysF0.n6 Tryz.prog Qbt:={
 mixed:=by kernel_rfl
 f6:=⟨Tryz.f26.name,by decide,Tryz.func26.trans (congrArg some (by kernel_rfl))⟩
 f14:=⟨Tryz.f49.name,by decide,Tryz.func49.trans (congrArg some (by kernel_rfl))⟩
 f15:=Tryz.func48.trans (congrArg some (by kernel_rfl))
 f20:=⟨Tryz.f77.name,by decide,Tryz.func77.trans (congrArg some (by kernel_rfl))⟩
 f21:=⟨Tryz.f78.name,by decide,Tryz.func78.trans (congrArg some (by kernel_rfl))⟩
 f22:=⟨Tryz.f79.name,by decide,Tryz.func79.trans (congrArg some (by kernel_rfl))⟩
 f23:=⟨Tryz.f80.name,by decide,Tryz.func80.trans (congrArg some (by kernel_rfl))⟩
 f24:=⟨Tryz.f81.name,by decide,Tryz.func81.trans (congrArg some (by kernel_rfl))⟩
 f25:=⟨Tryz.f82.name,by decide,Tryz.func82.trans (congrArg some (by kernel_rfl))⟩
 f26:=⟨Tryz.f83.name,by decide,Tryz.func83.trans (congrArg some (by kernel_rfl))⟩
 f27:=⟨Tryz.f84.name,by decide,Tryz.func84.trans (congrArg some (by kernel_rfl))⟩
 f28:=Tryz.func75.trans (congrArg some (by kernel_rfl))
 f29:=Tryz.func76.trans (congrArg some (by kernel_rfl))
 f46:=⟨Tryz.f110.name,by decide,Tryz.func110.trans (congrArg some (by kernel_rfl))⟩
 f47:=Tryz.func106.trans (congrArg some (by kernel_rfl))
 f48:=Tryz.func107.trans (congrArg some (by kernel_rfl))
 f49:=⟨Tryz.f111.name,by decide,Tryz.func111.trans (congrArg some (by kernel_rfl))⟩
 f50:=⟨Tryz.f112.name,by decide,Tryz.func112.trans (congrArg some (by kernel_rfl))⟩
 f57:=⟨Tryz.f123.name,by decide,Tryz.func123.trans (congrArg some (by kernel_rfl))⟩
 t0:=Tryz.underlying0
 a0:=Tryz.isAgg0
 z0:=Tryz.sizeOf0
 v0:=Tryz.zeroValue0
 t3:=Tryz.underlying3
 a3:=Tryz.isAgg3
 z3:=Tryz.sizeOf3
 v3:=Tryz.zeroValue3
 t4:=Tryz.underlying4
 a4:=Tryz.isAgg4
 z4:=Tryz.sizeOf4
 v4:=Tryz.zeroValue4
 t5:=Tryz.underlying5
 a5:=Tryz.isAgg5
 z5:=Tryz.sizeOf5
 v5:=Tryz.zeroValue5
 t9:=Tryz.underlying9
 a9:=Tryz.isAgg9
 z9:=Tryz.sizeOf9
 v9:=Tryz.zeroValue9
 t22:=Tryz.underlying51
 a22:=Tryz.isAgg51
 z22:=Tryz.sizeOf51
 v22:=Tryz.zeroValue51
 t25:=Tryz.underlying87
 a25:=Tryz.isAgg87
 z25:=Tryz.sizeOf87
 v25:=Tryz.zeroValue87
 t39:=Tryz.underlying88
 a39:=Tryz.isAgg88
 z39:=Tryz.sizeOf88
 v39:=Tryz.zeroValue88
 t45:=Tryz.underlying130
 a45:=Tryz.isAgg130
 z45:=Tryz.sizeOf130
 v45:=Tryz.zeroValue130
 t46:=Tryz.underlying131
 a46:=Tryz.isAgg131
 z46:=Tryz.sizeOf131
 v46:=Tryz.zeroValue131
 t50:=Tryz.underlying136
 a50:=Tryz.isAgg136
 z50:=Tryz.sizeOf136
 v50:=Tryz.zeroValue136
 t53:=Tryz.underlying139
 a53:=Tryz.isAgg139
 z53:=Tryz.sizeOf139
 v53:=Tryz.zeroValue139
 t55:=Tryz.underlying22
 a55:=Tryz.isAgg22
 z55:=Tryz.sizeOf22
 v55:=Tryz.zeroValue22
 t66:=Tryz.underlying158
 a66:=Tryz.isAgg158
 z66:=Tryz.sizeOf158
 v66:=Tryz.zeroValue158
 t70:=Tryz.underlying162
 a70:=Tryz.isAgg162
 z70:=Tryz.sizeOf162
 v70:=Tryz.zeroValue162
 t76:=Tryz.underlying172
 a76:=Tryz.isAgg172
 z76:=Tryz.sizeOf172
 v76:=Tryz.zeroValue172
 t77:=Tryz.underlying173
 a77:=Tryz.isAgg173
 z77:=Tryz.sizeOf173
 v77:=Tryz.zeroValue173 }
def Qb6:Go.Shelf.Ren:=⟨fun|6=>28|15=>48|14=>52|28=>75|29=>76|20=>86|21=>87|22=>88|23=>89|24=>90|25=>91|26=>92|27=>93|46=>113|47=>106|48=>107|49=>114|50=>115|57=>124|n=>n,fun|22=>42|24=>50|25=>91|3=>3|39=>88|0=>0|53=>139|55=>22|4=>4|46=>131|45=>130|50=>136|5=>5|9=>9|66=>158|70=>162|76=>172|77=>173|n=>n,fun|n=>n⟩
def QlB:Go.Proofs.SlLaysF0.n6 Tryz.prog Qb6:={
 mixed:=by kernel_rfl
 f6:=⟨Tryz.f28.name,by decide,Tryz.func28.trans (congrArg some (by kernel_rfl))⟩
 f14:=⟨Tryz.f52.name,by decide,Tryz.func52.trans (congrArg some (by kernel_rfl))⟩
 f15:=Tryz.func48.trans (congrArg some (by kernel_rfl))
 f20:=⟨Tryz.f86.name,by decide,Tryz.func86.trans (congrArg some (by kernel_rfl))⟩
 f21:=⟨Tryz.f87.name,by decide,Tryz.func87.trans (congrArg some (by kernel_rfl))⟩
 f22:=⟨Tryz.f88.name,by decide,Tryz.func88.trans (congrArg some (by kernel_rfl))⟩
 f23:=⟨Tryz.f89.name,by decide,Tryz.func89.trans (congrArg some (by kernel_rfl))⟩
 f24:=⟨Tryz.f90.name,by decide,Tryz.func90.trans (congrArg some (by kernel_rfl))⟩
 f25:=⟨Tryz.f91.name,by decide,Tryz.func91.trans (congrArg some (by kernel_rfl))⟩
 f26:=⟨Tryz.f92.name,by decide,Tryz.func92.trans (congrArg some (by kernel_rfl))⟩
 f27:=⟨Tryz.f93.name,by decide,Tryz.func93.trans (congrArg some (by kernel_rfl))⟩
 f28:=Tryz.func75.trans (congrArg some (by kernel_rfl))
 f29:=Tryz.func76.trans (congrArg some (by kernel_rfl))
 f46:=⟨Tryz.f113.name,by decide,Tryz.func113.trans (congrArg some (by kernel_rfl))⟩
 f47:=Tryz.func106.trans (congrArg some (by kernel_rfl))
 f48:=Tryz.func107.trans (congrArg some (by kernel_rfl))
 f49:=⟨Tryz.f114.name,by decide,Tryz.func114.trans (congrArg some (by kernel_rfl))⟩
 f50:=⟨Tryz.f115.name,by decide,Tryz.func115.trans (congrArg some (by kernel_rfl))⟩
 f57:=⟨Tryz.f124.name,by decide,Tryz.func124.trans (congrArg some (by kernel_rfl))⟩
 t0:=Tryz.underlying0
 a0:=Tryz.isAgg0
 z0:=Tryz.sizeOf0
 v0:=Tryz.zeroValue0
 t3:=Tryz.underlying3
 a3:=Tryz.isAgg3
 z3:=Tryz.sizeOf3
 v3:=Tryz.zeroValue3
 t4:=Tryz.underlying4
 a4:=Tryz.isAgg4
 z4:=Tryz.sizeOf4
 v4:=Tryz.zeroValue4
 t5:=Tryz.underlying5
 a5:=Tryz.isAgg5
 z5:=Tryz.sizeOf5
 v5:=Tryz.zeroValue5
 t9:=Tryz.underlying9
 a9:=Tryz.isAgg9
 z9:=Tryz.sizeOf9
 v9:=Tryz.zeroValue9
 t22:=Tryz.underlying42
 a22:=Tryz.isAgg42
 z22:=Tryz.sizeOf42
 v22:=Tryz.zeroValue42
 t25:=Tryz.underlying91
 a25:=Tryz.isAgg91
 z25:=Tryz.sizeOf91
 v25:=Tryz.zeroValue91
 t39:=Tryz.underlying88
 a39:=Tryz.isAgg88
 z39:=Tryz.sizeOf88
 v39:=Tryz.zeroValue88
 t45:=Tryz.underlying130
 a45:=Tryz.isAgg130
 z45:=Tryz.sizeOf130
 v45:=Tryz.zeroValue130
 t46:=Tryz.underlying131
 a46:=Tryz.isAgg131
 z46:=Tryz.sizeOf131
 v46:=Tryz.zeroValue131
 t50:=Tryz.underlying136
 a50:=Tryz.isAgg136
 z50:=Tryz.sizeOf136
 v50:=Tryz.zeroValue136
 t53:=Tryz.underlying139
 a53:=Tryz.isAgg139
 z53:=Tryz.sizeOf139
 v53:=Tryz.zeroValue139
 t55:=Tryz.underlying22
 a55:=Tryz.isAgg22
 z55:=Tryz.sizeOf22
 v55:=Tryz.zeroValue22
 t66:=Tryz.underlying158
 a66:=Tryz.isAgg158
 z66:=Tryz.sizeOf158
 v66:=Tryz.zeroValue158
 t70:=Tryz.underlying162
 a70:=Tryz.isAgg162
 z70:=Tryz.sizeOf162
 v70:=Tryz.zeroValue162
 t76:=Tryz.underlying172
 a76:=Tryz.isAgg172
 z76:=Tryz.sizeOf172
 v76:=Tryz.zeroValue172
 t77:=Tryz.underlying173
 a77:=Tryz.isAgg173
 z77:=Tryz.sizeOf173
 v77:=Tryz.zeroValue173 }
def bsL:List Nat:=[25,26,28]
def Bas:Qg:=fun g vs o K=>H8 25 g vs o K∨JI Tryz.prog 26 3 mvC ZL g vs o K∨JI Tryz.prog 28 5 cfC ordC g vs o K
def Qjo (h:H8 25 g vs o K):Bas g vs o K:=.inl h
def Qje (h:JI Tryz.prog 26 3 mvC ZL g vs o K):Bas g vs o K:=.inr (.inl h)
def QkL (h:JI Tryz.prog 28 5 cfC ordC g vs o K):Bas g vs o K:=.inr (.inr h)
def basI (h:H8 25 g vs o K):Snd Tryz.prog g vs o K :=
 QeF (by kernel_rfl) (fun blk off cap zs w h1 h2 h3=>Any.slices_Sort_int Qbm blk off cap zs w h1 h2 h3) (fun p cap w=>Any.slices_Sort_int_none Qbm p cap w) h
def Qm6 (f:Nat) (cb:Array Value) (blk off cap:Nat) (d:Array Mv) (w:World) (h1:∀ args w,(callFunc f args).run Tryz.prog w=.ok (.enter f args) w) (h2:CmpLays Tryz.prog f cb mvE 3 ZL blk off d.size w) (h3:HoldsK mvE 3 w blk off d) (h4:blk < w.heap.size) (h5:d.size < 4611686018427387904) :
  Calls Tryz.prog 26 #[.slice (some ⟨blk,off,none⟩) d.size cap,.func (.func f) #[] cb] w fun e w'=>e=.returned (.tuple #[])∧∃ n os,w'=sortWorldK mvE 3 w blk off n (d.toList.mergeSort fun x y=>!(ltOf ZL) y x).toArray os:=by
 have hcon:=AnyQ.slices_SortFunc_total Qlg 3 (enc:=mvE) Tryz.isAgg55 Tryz.sizeOf55 (fun _=>rfl) (fun x v hv=>by simp [mvE] at hv;rcases hv with rfl|rfl|rfl<;>rfl) ZL swoM f cb blk off cap d w h1 h2 h3 h4 h5 totM;change Calls Tryz.prog 26 _ _ _ at hcon
 exact hcon
def QmM (p:Option Addr) (cap:Nat) (fv:Value) (w:World):Calls Tryz.prog 26 #[.slice p 0 cap,fv] w fun e w'=>e=.returned (.tuple #[])∧w'=w:=by
 have hcon:=AnyF.slices_SortFunc_none Qlg p cap fv w;change Calls Tryz.prog 26 _ _ _ at hcon
 exact hcon
def basM (h:JI Tryz.prog 26 3 mvC ZL g vs o K):Snd Tryz.prog g vs o K :=
 DB (P:=Tryz.prog) (g:=26) (k:=3) (α:=Mv) (enc:=mvE) (encV:=mvC) (cf:=ZL) (by kernel_rfl) (fun _=>rfl) (fun _=>rfl) (fun x v hv=>by simp [mvE] at hv;rcases hv with rfl|rfl|rfl<;>rfl) Qli QjK Qm6 QmM h
def Qmw (f:Nat) (cb:Array Value) (blk off cap:Nat) (d:Array Cf) (w:World) (h1:∀ args w,(callFunc f args).run Tryz.prog w=.ok (.enter f args) w) (h2:CmpLays Tryz.prog f cb cfE 5 ordC blk off d.size w) (h3:HoldsK cfE 5 w blk off d) (h4:blk < w.heap.size) (h5:d.size < 4611686018427387904) :
  Calls Tryz.prog 28 #[.slice (some ⟨blk,off,none⟩) d.size cap,.func (.func f) #[] cb] w fun e w'=>e=.returned (.tuple #[])∧∃ n os,w'=sortWorldK cfE 5 w blk off n (d.toList.mergeSort fun x y=>!(ltOf ordC) y x).toArray os:=by
 have hcon:=AnyQ.slices_SortFunc_total QlB 5 (enc:=cfE) Tryz.isAgg50 Tryz.sizeOf50 (fun _=>rfl) (fun x v hv=>by simp [cfE] at hv;rcases hv with rfl|rfl|rfl|rfl|rfl<;>rfl) ordC swoC f cb blk off cap d w h1 h2 h3 h4 h5 totC;change Calls Tryz.prog 28 _ _ _ at hcon
 exact hcon
def Qm2 (p:Option Addr) (cap:Nat) (fv:Value) (w:World):Calls Tryz.prog 28 #[.slice p 0 cap,fv] w fun e w'=>e=.returned (.tuple #[])∧w'=w:=by
 have hcon:=AnyF.slices_SortFunc_none QlB p cap fv w;change Calls Tryz.prog 28 _ _ _ at hcon
 exact hcon
def basC (h:JI Tryz.prog 28 5 cfC ordC g vs o K):Snd Tryz.prog g vs o K :=
 DB (P:=Tryz.prog) (g:=28) (k:=5) (α:=Cf) (enc:=cfE) (encV:=cfC) (cf:=ordC) (by kernel_rfl) (fun _=>rfl) (fun _=>rfl) (fun x v hv=>by simp [cfE] at hv;rcases hv with rfl|rfl|rfl|rfl|rfl<;>rfl) QjL Qks Qmw Qm2 h
def Qdb:∀ g vs o K,Bas g vs o K→Snd Tryz.prog g vs o K:=by
 intro g vs o K h;rcases h with h|h|h
 ·exact basI h
 ·exact basM h
 ·exact basC h
end Go.Proofs.YtklbhcjmaeedhaaGreatDoor
