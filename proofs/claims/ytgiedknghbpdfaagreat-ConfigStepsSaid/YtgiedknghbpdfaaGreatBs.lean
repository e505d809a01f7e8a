import Derived.Test.YtgiedknghbpdfaaGreatMb
import Derived.Ground.NamesProg
import Derived.Ground.SlsfProg
import Derived.Test.YtgiedknghbpdfaaGreatProg
import Derived.Test.YtgiedknghbpdfaaGreatRows
import Derived.KernelRfl

namespace Go.Proofs.YtgiedknghbpdfaaGreat
set_option linter.all false
open Go.Shelf Go.Sort
def lays189_ren:Go.Shelf.Ren:=⟨fun|189=>51|125=>76|257=>75|128=>98|129=>99|294=>89|295=>90|296=>91|297=>92|298=>93|299=>94|216=>95|300=>96|301=>97|328=>125|329=>126|330=>127|331=>128|332=>129|215=>55|343=>141|n=>n,fun|28=>37|3=>3|46=>67|0=>0|51=>152|53=>22|4=>4|183=>144|182=>143|131=>149|5=>5|9=>9|218=>169|222=>173|228=>181|229=>182|n=>n,fun|n=>n⟩
theorem lays189:Go.Proofs.Lays.n189 Tryz.prog lays189_ren:={
 mixed:=by kernel_rfl
 f125:=Tryz.func76.trans (congrArg some (by kernel_rfl))
 f128:=Tryz.func98.trans (congrArg some (by kernel_rfl))
 f129:=Tryz.func99.trans (congrArg some (by kernel_rfl))
 f189:=Tryz.func51.trans (congrArg some (by kernel_rfl))
 f215:=Tryz.func55.trans (congrArg some (by kernel_rfl))
 f216:=Tryz.func95.trans (congrArg some (by kernel_rfl))
 f257:=Tryz.func75.trans (congrArg some (by kernel_rfl))
 f294:=Tryz.func89.trans (congrArg some (by kernel_rfl))
 f295:=Tryz.func90.trans (congrArg some (by kernel_rfl))
 f296:=Tryz.func91.trans (congrArg some (by kernel_rfl))
 f297:=Tryz.func92.trans (congrArg some (by kernel_rfl))
 f298:=Tryz.func93.trans (congrArg some (by kernel_rfl))
 f299:=Tryz.func94.trans (congrArg some (by kernel_rfl))
 f300:=Tryz.func96.trans (congrArg some (by kernel_rfl))
 f301:=Tryz.func97.trans (congrArg some (by kernel_rfl))
 f328:=Tryz.func125.trans (congrArg some (by kernel_rfl))
 f329:=Tryz.func126.trans (congrArg some (by kernel_rfl))
 f330:=Tryz.func127.trans (congrArg some (by kernel_rfl))
 f331:=Tryz.func128.trans (congrArg some (by kernel_rfl))
 f332:=Tryz.func129.trans (congrArg some (by kernel_rfl))
 f343:=Tryz.func141.trans (congrArg some (by kernel_rfl))
 t0:=Tryz.underlying0
 a0:=Tryz.isAgg0
 z0:=Tryz.sizeOf0
 v0:=Tryz.zeroValue0
 t3:=Tryz.underlying3
 a3:=Tryz.isAgg3
 z3:=Tryz.sizeOf3
 v3:=Tryz.zeroValue3
 t4:=Tryz.underlying4
 a4:=Tryz.isAgg4
 z4:=Tryz.sizeOf4
 v4:=Tryz.zeroValue4
 t5:=Tryz.underlying5
 a5:=Tryz.isAgg5
 z5:=Tryz.sizeOf5
 v5:=Tryz.zeroValue5
 t9:=Tryz.underlying9
 a9:=Tryz.isAgg9
 z9:=Tryz.sizeOf9
 v9:=Tryz.zeroValue9
 t28:=Tryz.underlying37
 a28:=Tryz.isAgg37
 z28:=Tryz.sizeOf37
 v28:=Tryz.zeroValue37
 t46:=Tryz.underlying67
 a46:=Tryz.isAgg67
 z46:=Tryz.sizeOf67
 v46:=Tryz.zeroValue67
 t51:=Tryz.underlying152
 a51:=Tryz.isAgg152
 z51:=Tryz.sizeOf152
 v51:=Tryz.zeroValue152
 t53:=Tryz.underlying22
 a53:=Tryz.isAgg22
 z53:=Tryz.sizeOf22
 v53:=Tryz.zeroValue22
 t131:=Tryz.underlying149
 a131:=Tryz.isAgg149
 z131:=Tryz.sizeOf149
 v131:=Tryz.zeroValue149
 t182:=Tryz.underlying143
 a182:=Tryz.isAgg143
 z182:=Tryz.sizeOf143
 v182:=Tryz.zeroValue143
 t183:=Tryz.underlying144
 a183:=Tryz.isAgg144
 z183:=Tryz.sizeOf144
 v183:=Tryz.zeroValue144
 t218:=Tryz.underlying169
 a218:=Tryz.isAgg169
 z218:=Tryz.sizeOf169
 v218:=Tryz.zeroValue169
 t222:=Tryz.underlying173
 a222:=Tryz.isAgg173
 z222:=Tryz.sizeOf173
 v222:=Tryz.zeroValue173
 t228:=Tryz.underlying181
 a228:=Tryz.isAgg181
 z228:=Tryz.sizeOf181
 v228:=Tryz.zeroValue181
 t229:=Tryz.underlying182
 a229:=Tryz.isAgg182
 z229:=Tryz.sizeOf182
 v229:=Tryz.zeroValue182 }
def laysM_ren:Go.Shelf.Ren:=⟨fun|6=>52|15=>76|14=>77|28=>98|29=>99|20=>100|21=>101|22=>102|23=>103|24=>104|25=>105|26=>106|27=>107|46=>130|47=>126|48=>127|49=>131|50=>132|57=>142|n=>n,fun|22=>58|24=>57|25=>108|3=>3|39=>67|0=>0|53=>152|55=>22|4=>4|46=>144|45=>143|50=>149|5=>5|9=>9|66=>169|70=>173|76=>181|77=>182|n=>n,fun|n=>n⟩
theorem laysM:Go.Proofs.SlLaysF0.n6 Tryz.prog laysM_ren:={
 mixed:=by kernel_rfl
 f6:=⟨Tryz.f52.name,by decide,Tryz.func52.trans (congrArg some (by kernel_rfl))⟩
 f14:=⟨Tryz.f77.name,by decide,Tryz.func77.trans (congrArg some (by kernel_rfl))⟩
 f15:=Tryz.func76.trans (congrArg some (by kernel_rfl))
 f20:=⟨Tryz.f100.name,by decide,Tryz.func100.trans (congrArg some (by kernel_rfl))⟩
 f21:=⟨Tryz.f101.name,by decide,Tryz.func101.trans (congrArg some (by kernel_rfl))⟩
 f22:=⟨Tryz.f102.name,by decide,Tryz.func102.trans (congrArg some (by kernel_rfl))⟩
 f23:=⟨Tryz.f103.name,by decide,Tryz.func103.trans (congrArg some (by kernel_rfl))⟩
 f24:=⟨Tryz.f104.name,by decide,Tryz.func104.trans (congrArg some (by kernel_rfl))⟩
 f25:=⟨Tryz.f105.name,by decide,Tryz.func105.trans (congrArg some (by kernel_rfl))⟩
 f26:=⟨Tryz.f106.name,by decide,Tryz.func106.trans (congrArg some (by kernel_rfl))⟩
 f27:=⟨Tryz.f107.name,by decide,Tryz.func107.trans (congrArg some (by kernel_rfl))⟩
 f28:=Tryz.func98.trans (congrArg some (by kernel_rfl))
 f29:=Tryz.func99.trans (congrArg some (by kernel_rfl))
 f46:=⟨Tryz.f130.name,by decide,Tryz.func130.trans (congrArg some (by kernel_rfl))⟩
 f47:=Tryz.func126.trans (congrArg some (by kernel_rfl))
 f48:=Tryz.func127.trans (congrArg some (by kernel_rfl))
 f49:=⟨Tryz.f131.name,by decide,Tryz.func131.trans (congrArg some (by kernel_rfl))⟩
 f50:=⟨Tryz.f132.name,by decide,Tryz.func132.trans (congrArg some (by kernel_rfl))⟩
 f57:=⟨Tryz.f142.name,by decide,Tryz.func142.trans (congrArg some (by kernel_rfl))⟩
 t0:=Tryz.underlying0
 a0:=Tryz.isAgg0
 z0:=Tryz.sizeOf0
 v0:=Tryz.zeroValue0
 t3:=Tryz.underlying3
 a3:=Tryz.isAgg3
 z3:=Tryz.sizeOf3
 v3:=Tryz.zeroValue3
 t4:=Tryz.underlying4
 a4:=Tryz.isAgg4
 z4:=Tryz.sizeOf4
 v4:=Tryz.zeroValue4
 t5:=Tryz.underlying5
 a5:=Tryz.isAgg5
 z5:=Tryz.sizeOf5
 v5:=Tryz.zeroValue5
 t9:=Tryz.underlying9
 a9:=Tryz.isAgg9
 z9:=Tryz.sizeOf9
 v9:=Tryz.zeroValue9
 t22:=Tryz.underlying58
 a22:=Tryz.isAgg58
 z22:=Tryz.sizeOf58
 v22:=Tryz.zeroValue58
 t25:=Tryz.underlying108
 a25:=Tryz.isAgg108
 z25:=Tryz.sizeOf108
 v25:=Tryz.zeroValue108
 t39:=Tryz.underlying67
 a39:=Tryz.isAgg67
 z39:=Tryz.sizeOf67
 v39:=Tryz.zeroValue67
 t45:=Tryz.underlying143
 a45:=Tryz.isAgg143
 z45:=Tryz.sizeOf143
 v45:=Tryz.zeroValue143
 t46:=Tryz.underlying144
 a46:=Tryz.isAgg144
 z46:=Tryz.sizeOf144
 v46:=Tryz.zeroValue144
 t50:=Tryz.underlying149
 a50:=Tryz.isAgg149
 z50:=Tryz.sizeOf149
 v50:=Tryz.zeroValue149
 t53:=Tryz.underlying152
 a53:=Tryz.isAgg152
 z53:=Tryz.sizeOf152
 v53:=Tryz.zeroValue152
 t55:=Tryz.underlying22
 a55:=Tryz.isAgg22
 z55:=Tryz.sizeOf22
 v55:=Tryz.zeroValue22
 t66:=Tryz.underlying169
 a66:=Tryz.isAgg169
 z66:=Tryz.sizeOf169
 v66:=Tryz.zeroValue169
 t70:=Tryz.underlying173
 a70:=Tryz.isAgg173
 z70:=Tryz.sizeOf173
 v70:=Tryz.zeroValue173
 t76:=Tryz.underlying181
 a76:=Tryz.isAgg181
 z76:=Tryz.sizeOf181
 v76:=Tryz.zeroValue181
 t77:=Tryz.underlying182
 a77:=Tryz.isAgg182
 z77:=Tryz.sizeOf182
 v77:=Tryz.zeroValue182 }
def laysC_ren:Go.Shelf.Ren:=⟨fun|6=>57|15=>76|14=>79|28=>98|29=>99|20=>108|21=>109|22=>110|23=>111|24=>112|25=>113|26=>114|27=>115|46=>133|47=>126|48=>127|49=>134|50=>135|57=>143|n=>n,fun|22=>49|24=>30|25=>47|3=>3|39=>67|0=>0|53=>152|55=>22|4=>4|46=>144|45=>143|50=>149|5=>5|9=>9|66=>169|70=>173|76=>181|77=>182|n=>n,fun|n=>n⟩
theorem laysC:Go.Proofs.SlLaysF0.n6 Tryz.prog laysC_ren:={
 mixed:=by kernel_rfl
 f6:=⟨Tryz.f57.name,by decide,Tryz.func57.trans (congrArg some (by kernel_rfl))⟩
 f14:=⟨Tryz.f79.name,by decide,Tryz.func79.trans (congrArg some (by kernel_rfl))⟩
 f15:=Tryz.func76.trans (congrArg some (by kernel_rfl))
 f20:=⟨Tryz.f108.name,by decide,Tryz.func108.trans (congrArg some (by kernel_rfl))⟩
 f21:=⟨Tryz.f109.name,by decide,Tryz.func109.trans (congrArg some (by kernel_rfl))⟩
 f22:=⟨Tryz.f110.name,by decide,Tryz.func110.trans (congrArg some (by kernel_rfl))⟩
 f23:=⟨Tryz.f111.name,by decide,Tryz.func111.trans (congrArg some (by kernel_rfl))⟩
 f24:=⟨Tryz.f112.name,by decide,Tryz.func112.trans (congrArg some (by kernel_rfl))⟩
 f25:=⟨Tryz.f113.name,by decide,Tryz.func113.trans (congrArg some (by kernel_rfl))⟩
 f26:=⟨Tryz.f114.name,by decide,Tryz.func114.trans (congrArg some (by kernel_rfl))⟩
 f27:=⟨Tryz.f115.name,by decide,Tryz.func115.trans (congrArg some (by kernel_rfl))⟩
 f28:=Tryz.func98.trans (congrArg some (by kernel_rfl))
 f29:=Tryz.func99.trans (congrArg some (by kernel_rfl))
 f46:=⟨Tryz.f133.name,by decide,Tryz.func133.trans (congrArg some (by kernel_rfl))⟩
 f47:=Tryz.func126.trans (congrArg some (by kernel_rfl))
 f48:=Tryz.func127.trans (congrArg some (by kernel_rfl))
 f49:=⟨Tryz.f134.name,by decide,Tryz.func134.trans (congrArg some (by kernel_rfl))⟩
 f50:=⟨Tryz.f135.name,by decide,Tryz.func135.trans (congrArg some (by kernel_rfl))⟩
 f57:=⟨Tryz.f143.name,by decide,Tryz.func143.trans (congrArg some (by kernel_rfl))⟩
 t0:=Tryz.underlying0
 a0:=Tryz.isAgg0
 z0:=Tryz.sizeOf0
 v0:=Tryz.zeroValue0
 t3:=Tryz.underlying3
 a3:=Tryz.isAgg3
 z3:=Tryz.sizeOf3
 v3:=Tryz.zeroValue3
 t4:=Tryz.underlying4
 a4:=Tryz.isAgg4
 z4:=Tryz.sizeOf4
 v4:=Tryz.zeroValue4
 t5:=Tryz.underlying5
 a5:=Tryz.isAgg5
 z5:=Tryz.sizeOf5
 v5:=Tryz.zeroValue5
 t9:=Tryz.underlying9
 a9:=Tryz.isAgg9
 z9:=Tryz.sizeOf9
 v9:=Tryz.zeroValue9
 t22:=Tryz.underlying49
 a22:=Tryz.isAgg49
 z22:=Tryz.sizeOf49
 v22:=Tryz.zeroValue49
 t25:=Tryz.underlying47
 a25:=Tryz.isAgg47
 z25:=Tryz.sizeOf47
 v25:=Tryz.zeroValue47
 t39:=Tryz.underlying67
 a39:=Tryz.isAgg67
 z39:=Tryz.sizeOf67
 v39:=Tryz.zeroValue67
 t45:=Tryz.underlying143
 a45:=Tryz.isAgg143
 z45:=Tryz.sizeOf143
 v45:=Tryz.zeroValue143
 t46:=Tryz.underlying144
 a46:=Tryz.isAgg144
 z46:=Tryz.sizeOf144
 v46:=Tryz.zeroValue144
 t50:=Tryz.underlying149
 a50:=Tryz.isAgg149
 z50:=Tryz.sizeOf149
 v50:=Tryz.zeroValue149
 t53:=Tryz.underlying152
 a53:=Tryz.isAgg152
 z53:=Tryz.sizeOf152
 v53:=Tryz.zeroValue152
 t55:=Tryz.underlying22
 a55:=Tryz.isAgg22
 z55:=Tryz.sizeOf22
 v55:=Tryz.zeroValue22
 t66:=Tryz.underlying169
 a66:=Tryz.isAgg169
 z66:=Tryz.sizeOf169
 v66:=Tryz.zeroValue169
 t70:=Tryz.underlying173
 a70:=Tryz.isAgg173
 z70:=Tryz.sizeOf173
 v70:=Tryz.zeroValue173
 t76:=Tryz.underlying181
 a76:=Tryz.isAgg181
 z76:=Tryz.sizeOf181
 v76:=Tryz.zeroValue181
 t77:=Tryz.underlying182
 a77:=Tryz.isAgg182
 z77:=Tryz.sizeOf182
 v77:=Tryz.zeroValue182 }
def bsL:List Nat:=[51,52,57]
def Bas:CallT:=fun g vs o K=>SortIB 51 g vs o K∨SortFB Tryz.prog 52 3 mvC mvCmp g vs o K∨SortFB Tryz.prog 57 5 cfC ordC g vs o K
theorem bas_i {g:Nat} {vs:List V} {o:O} {K:V→O→Prop} (h:SortIB 51 g vs o K):Bas g vs o K:=.inl h
theorem bas_m {g:Nat} {vs:List V} {o:O} {K:V→O→Prop} (h:SortFB Tryz.prog 52 3 mvC mvCmp g vs o K):Bas g vs o K:=.inr (.inl h)
theorem bas_c {g:Nat} {vs:List V} {o:O} {K:V→O→Prop} (h:SortFB Tryz.prog 57 5 cfC ordC g vs o K):Bas g vs o K:=.inr (.inr h)
theorem basI {g:Nat} {vs:List V} {o:O} {K:V→O→Prop} (h:SortIB 51 g vs o K):Snd Tryz.prog g vs o K :=
 sortI_ok (by kernel_rfl) (fun blk off cap zs w h1 h2 h3=>Any.slices_Sort_int lays189 blk off cap zs w h1 h2 h3) (fun p cap w=>Any.slices_Sort_int_none lays189 p cap w) h
theorem basMT (f:Nat) (cb:Array Value) (blk off cap:Nat) (d:Array Mv) (w:World) (h1:∀ args w,(callFunc f args).run Tryz.prog w=.ok (.enter f args) w) (h2:CmpLays Tryz.prog f cb mvE 3 mvCmp blk off d.size w) (h3:HoldsK mvE 3 w blk off d) (h4:blk < w.heap.size) (h5:d.size < 4611686018427387904) :
  Calls Tryz.prog 52 #[.slice (some ⟨blk,off,none⟩) d.size cap,.func (.func f) #[] cb] w fun e w'=>e=.returned (.tuple #[])∧∃ n os,w'=sortWorldK mvE 3 w blk off n (d.toList.mergeSort fun x y=>!(ltOf mvCmp) y x).toArray os:=by
 have hcon:=AnyQ.slices_SortFunc_total laysM 3 (enc:=mvE) Tryz.isAgg57 Tryz.sizeOf57 (fun _=>rfl) (fun x v hv=>by simp [mvE] at hv;rcases hv with rfl|rfl|rfl<;>rfl) mvCmp swoM f cb blk off cap d w h1 h2 h3 h4 h5 totM
 change Calls Tryz.prog 52 _ _ _ at hcon
 exact hcon
theorem basMN (p:Option Addr) (cap:Nat) (fv:Value) (w:World):Calls Tryz.prog 52 #[.slice p 0 cap,fv] w fun e w'=>e=.returned (.tuple #[])∧w'=w:=by
 have hcon:=AnyF.slices_SortFunc_none laysM p cap fv w
 change Calls Tryz.prog 52 _ _ _ at hcon
 exact hcon
theorem basM {g:Nat} {vs:List V} {o:O} {K:V→O→Prop} (h:SortFB Tryz.prog 52 3 mvC mvCmp g vs o K):Snd Tryz.prog g vs o K :=
 sortF_ok (P:=Tryz.prog) (g:=52) (k:=3) (α:=Mv) (enc:=mvE) (encV:=mvC) (cf:=mvCmp) (by kernel_rfl) (fun _=>rfl) (fun _=>rfl) (fun x v hv=>by simp [mvE] at hv;rcases hv with rfl|rfl|rfl<;>rfl) mv_rep mv_inj basMT basMN h
theorem basCT (f:Nat) (cb:Array Value) (blk off cap:Nat) (d:Array Cf) (w:World) (h1:∀ args w,(callFunc f args).run Tryz.prog w=.ok (.enter f args) w) (h2:CmpLays Tryz.prog f cb cfE 5 ordC blk off d.size w) (h3:HoldsK cfE 5 w blk off d) (h4:blk < w.heap.size) (h5:d.size < 4611686018427387904) :
  Calls Tryz.prog 57 #[.slice (some ⟨blk,off,none⟩) d.size cap,.func (.func f) #[] cb] w fun e w'=>e=.returned (.tuple #[])∧∃ n os,w'=sortWorldK cfE 5 w blk off n (d.toList.mergeSort fun x y=>!(ltOf ordC) y x).toArray os:=by
 have hcon:=AnyQ.slices_SortFunc_total laysC 5 (enc:=cfE) Tryz.isAgg30 Tryz.sizeOf30 (fun _=>rfl) (fun x v hv=>by simp [cfE] at hv;rcases hv with rfl|rfl|rfl|rfl|rfl<;>rfl) ordC swoC f cb blk off cap d w h1 h2 h3 h4 h5 totC
 change Calls Tryz.prog 57 _ _ _ at hcon
 exact hcon
theorem basCN (p:Option Addr) (cap:Nat) (fv:Value) (w:World):Calls Tryz.prog 57 #[.slice p 0 cap,fv] w fun e w'=>e=.returned (.tuple #[])∧w'=w:=by
 have hcon:=AnyF.slices_SortFunc_none laysC p cap fv w
 change Calls Tryz.prog 57 _ _ _ at hcon
 exact hcon
theorem basC {g:Nat} {vs:List V} {o:O} {K:V→O→Prop} (h:SortFB Tryz.prog 57 5 cfC ordC g vs o K):Snd Tryz.prog g vs o K :=
 sortF_ok (P:=Tryz.prog) (g:=57) (k:=5) (α:=Cf) (enc:=cfE) (encV:=cfC) (cf:=ordC) (by kernel_rfl) (fun _=>rfl) (fun _=>rfl) (fun x v hv=>by simp [cfE] at hv;rcases hv with rfl|rfl|rfl|rfl|rfl<;>rfl) cf_rep cf_inj basCT basCN h
theorem Bas_ok:∀ g vs o K,Bas g vs o K→Snd Tryz.prog g vs o K:=by
 intro g vs o K h
 rcases h with h|h|h
 ·exact basI h
 ·exact basM h
 ·exact basC h
end Go.Proofs.YtgiedknghbpdfaaGreat
