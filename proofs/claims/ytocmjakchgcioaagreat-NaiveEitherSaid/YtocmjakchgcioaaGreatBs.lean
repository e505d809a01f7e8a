import Derived.Test.YtocmjakchgcioaaGreatMb
import Derived.Test.YtocmjakchgcioaaGreatMn
import Derived.Ground.NamesProg
import Derived.Ground.SlsfProg
import Derived.Test.YtocmjakchgcioaaGreatProg
import Derived.Test.YtocmjakchgcioaaGreatRows
import Derived.KernelRfl

namespace Go.Proofs.YtocmjakchgcioaaGreat
set_option linter.all false
variable {g:Nat} {vs:List V} {o:O} {K:V→O→Prop}
open Go.Shelf Go.Sort
def Dj:Go.Shelf.Ren:=⟨fun|189=>36|125=>62|257=>61|128=>91|129=>92|294=>82|295=>83|296=>84|297=>85|298=>86|299=>87|216=>88|300=>89|301=>90|328=>121|329=>122|330=>123|331=>124|332=>125|215=>70|343=>139|n=>n,fun|28=>35|3=>3|46=>119|0=>0|51=>147|53=>22|4=>4|183=>139|182=>138|131=>144|5=>5|9=>9|218=>165|222=>169|228=>180|229=>181|n=>n,fun|n=>n⟩
def QbL:Go.Proofs.Lays.n189 Tryz.prog Dj:={
 mixed:=by kernel_rfl
 f125:=Tryz.func62.trans (congrArg some (by kernel_rfl))
 f128:=Tryz.func91.trans (congrArg some (by kernel_rfl))
 f129:=Tryz.func92.trans (congrArg some (by kernel_rfl))
 f189:=Tryz.func36.trans (congrArg some (by kernel_rfl))
 f215:=Tryz.func70.trans (congrArg some (by kernel_rfl))
 f216:=Tryz.func88.trans (congrArg some (by kernel_rfl))
 f257:=Tryz.func61.trans (congrArg some (by kernel_rfl))
 f294:=Tryz.func82.trans (congrArg some (by kernel_rfl))
 f295:=Tryz.func83.trans (congrArg some (by kernel_rfl))
 f296:=Tryz.func84.trans (congrArg some (by kernel_rfl))
 f297:=Tryz.func85.trans (congrArg some (by kernel_rfl))
 f298:=Tryz.func86.trans (congrArg some (by kernel_rfl))
 f299:=Tryz.func87.trans (congrArg some (by kernel_rfl))
 f300:=Tryz.func89.trans (congrArg some (by kernel_rfl))
 f301:=Tryz.func90.trans (congrArg some (by kernel_rfl))
 f328:=Tryz.func121.trans (congrArg some (by kernel_rfl))
 f329:=Tryz.func122.trans (congrArg some (by kernel_rfl))
 f330:=Tryz.func123.trans (congrArg some (by kernel_rfl))
 f331:=Tryz.func124.trans (congrArg some (by kernel_rfl))
 f332:=Tryz.func125.trans (congrArg some (by kernel_rfl))
 f343:=Tryz.func139.trans (congrArg some (by kernel_rfl))
 t0:=Tryz.underlying0
 a0:=Tryz.isAgg0
 z0:=Tryz.sizeOf0
 v0:=Tryz.zeroValue0
 t3:=Tryz.underlying3
 a3:=Tryz.isAgg3
 z3:=Tryz.sizeOf3
 v3:=Tryz.zeroValue3
 t4:=Tryz.underlying4
 a4:=Tryz.isAgg4
 z4:=Tryz.sizeOf4
 v4:=Tryz.zeroValue4
 t5:=Tryz.underlying5
 a5:=Tryz.isAgg5
 z5:=Tryz.sizeOf5
 v5:=Tryz.zeroValue5
 t9:=Tryz.underlying9
 a9:=Tryz.isAgg9
 z9:=Tryz.sizeOf9
 v9:=Tryz.zeroValue9
 t28:=Tryz.underlying35
 a28:=Tryz.isAgg35
 z28:=Tryz.sizeOf35
 v28:=Tryz.zeroValue35
 t46:=Tryz.underlying119
 a46:=Tryz.isAgg119
 z46:=Tryz.sizeOf119
 v46:=Tryz.zeroValue119
 t51:=Tryz.underlying147
 a51:=Tryz.isAgg147
 z51:=Tryz.sizeOf147
 v51:=Tryz.zeroValue147
 t53:=Tryz.underlying22
 a53:=Tryz.isAgg22
 z53:=Tryz.sizeOf22
 v53:=Tryz.zeroValue22
 t131:=Tryz.underlying144
 a131:=Tryz.isAgg144
 z131:=Tryz.sizeOf144
 v131:=Tryz.zeroValue144
 t182:=Tryz.underlying138
 a182:=Tryz.isAgg138
 z182:=Tryz.sizeOf138
 v182:=Tryz.zeroValue138
 t183:=Tryz.underlying139
 a183:=Tryz.isAgg139
 z183:=Tryz.sizeOf139
 v183:=Tryz.zeroValue139
 t218:=Tryz.underlying165
 a218:=Tryz.isAgg165
 z218:=Tryz.sizeOf165
 v218:=Tryz.zeroValue165
 t222:=Tryz.underlying169
 a222:=Tryz.isAgg169
 z222:=Tryz.sizeOf169
 v222:=Tryz.zeroValue169
 t228:=Tryz.underlying180
 a228:=Tryz.isAgg180
 z228:=Tryz.sizeOf180
 v228:=Tryz.zeroValue180
 t229:=Tryz.underlying181
 a229:=Tryz.isAgg181
 z229:=Tryz.sizeOf181
 v229:=Tryz.zeroValue181 }
def Qdy:Go.Shelf.Ren:=⟨fun|6=>37|15=>62|14=>63|28=>91|29=>92|20=>93|21=>94|22=>95|23=>96|24=>97|25=>98|26=>99|27=>100|46=>126|47=>122|48=>123|49=>127|50=>128|57=>140|n=>n,fun|22=>73|24=>75|25=>93|3=>3|39=>119|0=>0|53=>147|55=>22|4=>4|46=>139|45=>138|50=>144|5=>5|9=>9|66=>165|70=>169|76=>180|77=>181|n=>n,fun|n=>n⟩
def Qj8:Go.Proofs.SlLaysF0.n6 Tryz.prog Qdy:={
 mixed:=by kernel_rfl
 f6:=⟨Tryz.f37.name,by decide,Tryz.func37.trans (congrArg some (by kernel_rfl))⟩
 f14:=⟨Tryz.f63.name,by decide,Tryz.func63.trans (congrArg some (by kernel_rfl))⟩
 f15:=Tryz.func62.trans (congrArg some (by kernel_rfl))
 f20:=⟨Tryz.f93.name,by decide,Tryz.func93.trans (congrArg some (by kernel_rfl))⟩
 f21:=⟨Tryz.f94.name,by decide,Tryz.func94.trans (congrArg some (by kernel_rfl))⟩
 f22:=⟨Tryz.f95.name,by decide,Tryz.func95.trans (congrArg some (by kernel_rfl))⟩
 f23:=⟨Tryz.f96.name,by decide,Tryz.func96.trans (congrArg some (by kernel_rfl))⟩
 f24:=⟨Tryz.f97.name,by decide,Tryz.func97.trans (congrArg some (by kernel_rfl))⟩
 f25:=⟨Tryz.f98.name,by decide,Tryz.func98.trans (congrArg some (by kernel_rfl))⟩
 f26:=⟨Tryz.f99.name,by decide,Tryz.func99.trans (congrArg some (by kernel_rfl))⟩
 f27:=⟨Tryz.f100.name,by decide,Tryz.func100.trans (congrArg some (by kernel_rfl))⟩
 f28:=Tryz.func91.trans (congrArg some (by kernel_rfl))
 f29:=Tryz.func92.trans (congrArg some (by kernel_rfl))
 f46:=⟨Tryz.f126.name,by decide,Tryz.func126.trans (congrArg some (by kernel_rfl))⟩
 f47:=Tryz.func122.trans (congrArg some (by kernel_rfl))
 f48:=Tryz.func123.trans (congrArg some (by kernel_rfl))
 f49:=⟨Tryz.f127.name,by decide,Tryz.func127.trans (congrArg some (by kernel_rfl))⟩
 f50:=⟨Tryz.f128.name,by decide,Tryz.func128.trans (congrArg some (by kernel_rfl))⟩
 f57:=⟨Tryz.f140.name,by decide,Tryz.func140.trans (congrArg some (by kernel_rfl))⟩
 t0:=Tryz.underlying0
 a0:=Tryz.isAgg0
 z0:=Tryz.sizeOf0
 v0:=Tryz.zeroValue0
 t3:=Tryz.underlying3
 a3:=Tryz.isAgg3
 z3:=Tryz.sizeOf3
 v3:=Tryz.zeroValue3
 t4:=Tryz.underlying4
 a4:=Tryz.isAgg4
 z4:=Tryz.sizeOf4
 v4:=Tryz.zeroValue4
 t5:=Tryz.underlying5
 a5:=Tryz.isAgg5
 z5:=Tryz.sizeOf5
 v5:=Tryz.zeroValue5
 t9:=Tryz.underlying9
 a9:=Tryz.isAgg9
 z9:=Tryz.sizeOf9
 v9:=Tryz.zeroValue9
 t22:=Tryz.underlying73
 a22:=Tryz.isAgg73
 z22:=Tryz.sizeOf73
 v22:=Tryz.zeroValue73
 t25:=Tryz.underlying93
 a25:=Tryz.isAgg93
 z25:=Tryz.sizeOf93
 v25:=Tryz.zeroValue93
 t39:=Tryz.underlying119
 a39:=Tryz.isAgg119
 z39:=Tryz.sizeOf119
 v39:=Tryz.zeroValue119
 t45:=Tryz.underlying138
 a45:=Tryz.isAgg138
 z45:=Tryz.sizeOf138
 v45:=Tryz.zeroValue138
 t46:=Tryz.underlying139
 a46:=Tryz.isAgg139
 z46:=Tryz.sizeOf139
 v46:=Tryz.zeroValue139
 t50:=Tryz.underlying144
 a50:=Tryz.isAgg144
 z50:=Tryz.sizeOf144
 v50:=Tryz.zeroValue144
 t53:=Tryz.underlying147
 a53:=Tryz.isAgg147
 z53:=Tryz.sizeOf147
 v53:=Tryz.zeroValue147
 t55:=Tryz.underlying22
 a55:=Tryz.isAgg22
 z55:=Tryz.sizeOf22
 v55:=Tryz.zeroValue22
 t66:=Tryz.underlying165
 a66:=Tryz.isAgg165
 z66:=Tryz.sizeOf165
 v66:=Tryz.zeroValue165
 t70:=Tryz.underlying169
 a70:=Tryz.isAgg169
 z70:=Tryz.sizeOf169
 v70:=Tryz.zeroValue169
 t76:=Tryz.underlying180
 a76:=Tryz.isAgg180
 z76:=Tryz.sizeOf180
 v76:=Tryz.zeroValue180
 t77:=Tryz.underlying181
 a77:=Tryz.isAgg181
 z77:=Tryz.sizeOf181
 v77:=Tryz.zeroValue181 }
def Qdw:Go.Shelf.Ren:=⟨fun|6=>43|15=>62|14=>69|28=>91|29=>92|20=>103|21=>104|22=>105|23=>106|24=>107|25=>108|26=>109|27=>110|46=>131|47=>122|48=>123|49=>132|50=>133|57=>141|n=>n,fun|22=>42|24=>51|25=>69|3=>3|39=>119|0=>0|53=>147|55=>22|4=>4|46=>139|45=>138|50=>144|5=>5|9=>9|66=>165|70=>169|76=>180|77=>181|n=>n,fun|n=>n⟩
def Ql0:Go.Proofs.SlLaysF0.n6 Tryz.prog Qdw:={
 mixed:=by kernel_rfl
 f6:=⟨Tryz.f43.name,by decide,Tryz.func43.trans (congrArg some (by kernel_rfl))⟩
 f14:=⟨Tryz.f69.name,by decide,Tryz.func69.trans (congrArg some (by kernel_rfl))⟩
 f15:=Tryz.func62.trans (congrArg some (by kernel_rfl))
 f20:=⟨Tryz.f103.name,by decide,Tryz.func103.trans (congrArg some (by kernel_rfl))⟩
 f21:=⟨Tryz.f104.name,by decide,Tryz.func104.trans (congrArg some (by kernel_rfl))⟩
 f22:=⟨Tryz.f105.name,by decide,Tryz.func105.trans (congrArg some (by kernel_rfl))⟩
 f23:=⟨Tryz.f106.name,by decide,Tryz.func106.trans (congrArg some (by kernel_rfl))⟩
 f24:=⟨Tryz.f107.name,by decide,Tryz.func107.trans (congrArg some (by kernel_rfl))⟩
 f25:=⟨Tryz.f108.name,by decide,Tryz.func108.trans (congrArg some (by kernel_rfl))⟩
 f26:=⟨Tryz.f109.name,by decide,Tryz.func109.trans (congrArg some (by kernel_rfl))⟩
 f27:=⟨Tryz.f110.name,by decide,Tryz.func110.trans (congrArg some (by kernel_rfl))⟩
 f28:=Tryz.func91.trans (congrArg some (by kernel_rfl))
 f29:=Tryz.func92.trans (congrArg some (by kernel_rfl))
 f46:=⟨Tryz.f131.name,by decide,Tryz.func131.trans (congrArg some (by kernel_rfl))⟩
 f47:=Tryz.func122.trans (congrArg some (by kernel_rfl))
 f48:=Tryz.func123.trans (congrArg some (by kernel_rfl))
 f49:=⟨Tryz.f132.name,by decide,Tryz.func132.trans (congrArg some (by kernel_rfl))⟩
 f50:=⟨Tryz.f133.name,by decide,Tryz.func133.trans (congrArg some (by kernel_rfl))⟩
 f57:=⟨Tryz.f141.name,by decide,Tryz.func141.trans (congrArg some (by kernel_rfl))⟩
 t0:=Tryz.underlying0
 a0:=Tryz.isAgg0
 z0:=Tryz.sizeOf0
 v0:=Tryz.zeroValue0
 t3:=Tryz.underlying3
 a3:=Tryz.isAgg3
 z3:=Tryz.sizeOf3
 v3:=Tryz.zeroValue3
 t4:=Tryz.underlying4
 a4:=Tryz.isAgg4
 z4:=Tryz.sizeOf4
 v4:=Tryz.zeroValue4
 t5:=Tryz.underlying5
 a5:=Tryz.isAgg5
 z5:=Tryz.sizeOf5
 v5:=Tryz.zeroValue5
 t9:=Tryz.underlying9
 a9:=Tryz.isAgg9
 z9:=Tryz.sizeOf9
 v9:=Tryz.zeroValue9
 t22:=Tryz.underlying42
 a22:=Tryz.isAgg42
 z22:=Tryz.sizeOf42
 v22:=Tryz.zeroValue42
 t25:=Tryz.underlying69
 a25:=Tryz.isAgg69
 z25:=Tryz.sizeOf69
 v25:=Tryz.zeroValue69
 t39:=Tryz.underlying119
 a39:=Tryz.isAgg119
 z39:=Tryz.sizeOf119
 v39:=Tryz.zeroValue119
 t45:=Tryz.underlying138
 a45:=Tryz.isAgg138
 z45:=Tryz.sizeOf138
 v45:=Tryz.zeroValue138
 t46:=Tryz.underlying139
 a46:=Tryz.isAgg139
 z46:=Tryz.sizeOf139
 v46:=Tryz.zeroValue139
 t50:=Tryz.underlying144
 a50:=Tryz.isAgg144
 z50:=Tryz.sizeOf144
 v50:=Tryz.zeroValue144
 t53:=Tryz.underlying147
 a53:=Tryz.isAgg147
 z53:=Tryz.sizeOf147
 v53:=Tryz.zeroValue147
 t55:=Tryz.underlying22
 a55:=Tryz.isAgg22
 z55:=Tryz.sizeOf22
 v55:=Tryz.zeroValue22
 t66:=Tryz.underlying165
 a66:=Tryz.isAgg165
 z66:=Tryz.sizeOf165
 v66:=Tryz.zeroValue165
 t70:=Tryz.underlying169
 a70:=Tryz.isAgg169
 z70:=Tryz.sizeOf169
 v70:=Tryz.zeroValue169
 t76:=Tryz.underlying180
 a76:=Tryz.isAgg180
 z76:=Tryz.sizeOf180
 v76:=Tryz.zeroValue180
 t77:=Tryz.underlying181
 a77:=Tryz.isAgg181
 z77:=Tryz.sizeOf181
 v77:=Tryz.zeroValue181 }
def bsL:List Nat:=[36,37,42,43]
def Bas:Qf:=fun g vs o K=>H9 36 g vs o K∨JX Tryz.prog 37 3 mvC ZY g vs o K∨JX Tryz.prog 43 5 cfC ordC g vs o K∨Qit 42 44 g vs o K
def QkA (h:H9 36 g vs o K):Bas g vs o K:=.inl h
def Qko (h:JX Tryz.prog 37 3 mvC ZY g vs o K):Bas g vs o K:=.inr (.inl h)
def Qmj (h:JX Tryz.prog 43 5 cfC ordC g vs o K):Bas g vs o K:=.inr (.inr (.inl h))
def QmT (h:Qit 42 44 g vs o K):Bas g vs o K:=.inr (.inr (.inr h))
def basI (h:H9 36 g vs o K):Snd Tryz.prog g vs o K :=
 QeS (by kernel_rfl) (fun blk off cap zs w h1 h2 h3=>Any.slices_Sort_int QbL blk off cap zs w h1 h2 h3) (fun p cap w=>Any.slices_Sort_int_none QbL p cap w) h
def Qnz (f:Nat) (cb:Array Value) (blk off cap:Nat) (d:Array Mv) (w:World) (h1:∀ args w,(callFunc f args).run Tryz.prog w=.ok (.enter f args) w) (h2:CmpLays Tryz.prog f cb mvE 3 ZY blk off d.size w) (h3:HoldsK mvE 3 w blk off d) (h4:blk < w.heap.size) (h5:d.size < 4611686018427387904) :
  Calls Tryz.prog 37 #[.slice (some ⟨blk,off,none⟩) d.size cap,.func (.func f) #[] cb] w fun e w'=>e=.returned (.tuple #[])∧∃ n os,w'=sortWorldK mvE 3 w blk off n (d.toList.mergeSort fun x y=>!(ltOf ZY) y x).toArray os:=by
 have hcon:=AnyQ.slices_SortFunc_total Qj8 3 (enc:=mvE) Tryz.isAgg75 Tryz.sizeOf75 (fun _=>rfl) (fun x v hv=>by simp [mvE] at hv;rcases hv with rfl|rfl|rfl<;>rfl) ZY swoM f cb blk off cap d w h1 h2 h3 h4 h5 totM;change Calls Tryz.prog 37 _ _ _ at hcon
 exact hcon
def Qnd (p:Option Addr) (cap:Nat) (fv:Value) (w:World):Calls Tryz.prog 37 #[.slice p 0 cap,fv] w fun e w'=>e=.returned (.tuple #[])∧w'=w:=by
 have hcon:=AnyF.slices_SortFunc_none Qj8 p cap fv w;change Calls Tryz.prog 37 _ _ _ at hcon
 exact hcon
def basM (h:JX Tryz.prog 37 3 mvC ZY g vs o K):Snd Tryz.prog g vs o K :=
 DQ (P:=Tryz.prog) (g:=37) (k:=3) (α:=Mv) (enc:=mvE) (encV:=mvC) (cf:=ZY) (by kernel_rfl) (fun _=>rfl) (fun _=>rfl) (fun x v hv=>by simp [mvE] at hv;rcases hv with rfl|rfl|rfl<;>rfl) Qk5 Qli Qnz Qnd h
def Qnj (f:Nat) (cb:Array Value) (blk off cap:Nat) (d:Array Cf) (w:World) (h1:∀ args w,(callFunc f args).run Tryz.prog w=.ok (.enter f args) w) (h2:CmpLays Tryz.prog f cb cfE 5 ordC blk off d.size w) (h3:HoldsK cfE 5 w blk off d) (h4:blk < w.heap.size) (h5:d.size < 4611686018427387904) :
  Calls Tryz.prog 43 #[.slice (some ⟨blk,off,none⟩) d.size cap,.func (.func f) #[] cb] w fun e w'=>e=.returned (.tuple #[])∧∃ n os,w'=sortWorldK cfE 5 w blk off n (d.toList.mergeSort fun x y=>!(ltOf ordC) y x).toArray os:=by
 have hcon:=AnyQ.slices_SortFunc_total Ql0 5 (enc:=cfE) Tryz.isAgg51 Tryz.sizeOf51 (fun _=>rfl) (fun x v hv=>by simp [cfE] at hv;rcases hv with rfl|rfl|rfl|rfl|rfl<;>rfl) ordC swoC f cb blk off cap d w h1 h2 h3 h4 h5 totC;change Calls Tryz.prog 43 _ _ _ at hcon
 exact hcon
def Qm0 (p:Option Addr) (cap:Nat) (fv:Value) (w:World):Calls Tryz.prog 43 #[.slice p 0 cap,fv] w fun e w'=>e=.returned (.tuple #[])∧w'=w:=by
 have hcon:=AnyF.slices_SortFunc_none Ql0 p cap fv w;change Calls Tryz.prog 43 _ _ _ at hcon
 exact hcon
def basC (h:JX Tryz.prog 43 5 cfC ordC g vs o K):Snd Tryz.prog g vs o K :=
 DQ (P:=Tryz.prog) (g:=43) (k:=5) (α:=Cf) (enc:=cfE) (encV:=cfC) (cf:=ordC) (by kernel_rfl) (fun _=>rfl) (fun _=>rfl) (fun x v hv=>by simp [cfE] at hv;rcases hv with rfl|rfl|rfl|rfl|rfl<;>rfl) Qjo Ql1 Qnj Qm0 h
def Qcl:∀ g vs o K,Bas g vs o K→Snd Tryz.prog g vs o K:=by
 intro g vs o K h;rcases h with h|h|h|h
 ·exact basI h
 ·exact basM h
 ·exact basC h
 ·exact Qjb h
end Go.Proofs.YtocmjakchgcioaaGreat
