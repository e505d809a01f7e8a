import Derived.Test.YtpkijjnlmgdaiaaGreatDoorMb
import Derived.Test.YtpkijjnlmgdaiaaGreatDoorMn
import Derived.Ground.NamesProg
import Derived.Ground.SlsfProg
import Derived.Test.YtpkijjnlmgdaiaaGreatDoorProg
import Derived.Test.YtpkijjnlmgdaiaaGreatDoorRows
import Derived.KernelRfl

namespace Go.Proofs.YtpkijjnlmgdaiaaGreatDoor
set_option linter.all false
variable {g:Nat} {vs:List V} {o:O} {K:V→O→Prop}
open Go.Shelf Go.Sort
def Vn:Go.Shelf.Ren:=⟨fun|189=>43|125=>72|257=>71|128=>112|129=>113|294=>103|295=>104|296=>105|297=>106|298=>107|299=>108|216=>109|300=>110|301=>111|328=>137|329=>138|330=>139|331=>140|332=>141|215=>122|343=>161|n=>n,fun|28=>35|3=>3|46=>114|0=>0|51=>184|53=>22|4=>4|183=>177|182=>176|131=>154|5=>5|9=>9|218=>201|222=>205|228=>220|229=>221|n=>n,fun|n=>n⟩
def Qbn:Go.Proofs.Lays.n189 Tryz.prog Vn:={
 mixed:=by kernel_rfl
 f125:=Tryz.func72.trans (congrArg some (by kernel_rfl))
 f128:=Tryz.func112.trans (congrArg some (by kernel_rfl))
 f129:=Tryz.func113.trans (congrArg some (by kernel_rfl))
 f189:=Tryz.func43.trans (congrArg some (by kernel_rfl))
 f215:=Tryz.func122.trans (congrArg some (by kernel_rfl))
 f216:=Tryz.func109.trans (congrArg some (by kernel_rfl))
 f257:=Tryz.func71.trans (congrArg some (by kernel_rfl))
 f294:=Tryz.func103.trans (congrArg some (by kernel_rfl))
 f295:=Tryz.func104.trans (congrArg some (by kernel_rfl))
 f296:=Tryz.func105.trans (congrArg some (by kernel_rfl))
 f297:=Tryz.func106.trans (congrArg some (by kernel_rfl))
 f298:=Tryz.func107.trans (congrArg some (by kernel_rfl))
 f299:=Tryz.func108.trans (congrArg some (by kernel_rfl))
 f300:=Tryz.func110.trans (congrArg some (by kernel_rfl))
 f301:=Tryz.func111.trans (congrArg some (by kernel_rfl))
 f328:=Tryz.func137.trans (congrArg some (by kernel_rfl))
 f329:=Tryz.func138.trans (congrArg some (by kernel_rfl))
 f330:=Tryz.func139.trans (congrArg some (by kernel_rfl))
 f331:=Tryz.func140.trans (congrArg some (by kernel_rfl))
 f332:=Tryz.func141.trans (congrArg some (by kernel_rfl))
 f343:=Tryz.func161.trans (congrArg some (by kernel_rfl))
 t0:=Tryz.underlying0
 a0:=Tryz.isAgg0
 z0:=Tryz.sizeOf0
 v0:=Tryz.zeroValue0
 t3:=Tryz.underlying3
 a3:=Tryz.isAgg3
 z3:=Tryz.sizeOf3
 v3:=Tryz.zeroValue3
 t4:=Tryz.underlying4
 a4:=Tryz.isAgg4
 z4:=Tryz.sizeOf4
 v4:=Tryz.zeroValue4
 t5:=Tryz.underlying5
 a5:=Tryz.isAgg5
 z5:=Tryz.sizeOf5
 v5:=Tryz.zeroValue5
 t9:=Tryz.underlying9
 a9:=Tryz.isAgg9
 z9:=Tryz.sizeOf9
 v9:=Tryz.zeroValue9
 t28:=Tryz.underlying35
 a28:=Tryz.isAgg35
 z28:=Tryz.sizeOf35
 v28:=Tryz.zeroValue35
 t46:=Tryz.underlying114
 a46:=Tryz.isAgg114
 z46:=Tryz.sizeOf114
 v46:=Tryz.zeroValue114
 t51:=Tryz.underlying184
 a51:=Tryz.isAgg184
 z51:=Tryz.sizeOf184
 v51:=Tryz.zeroValue184
 t53:=Tryz.underlying22
 a53:=Tryz.isAgg22
 z53:=Tryz.sizeOf22
 v53:=Tryz.zeroValue22
 t131:=Tryz.underlying154
 a131:=Tryz.isAgg154
 z131:=Tryz.sizeOf154
 v131:=Tryz.zeroValue154
 t182:=Tryz.underlying176
 a182:=Tryz.isAgg176
 z182:=Tryz.sizeOf176
 v182:=Tryz.zeroValue176
 t183:=Tryz.underlying177
 a183:=Tryz.isAgg177
 z183:=Tryz.sizeOf177
 v183:=Tryz.zeroValue177
 t218:=Tryz.underlying201
 a218:=Tryz.isAgg201
 z218:=Tryz.sizeOf201
 v218:=Tryz.zeroValue201
 t222:=Tryz.underlying205
 a222:=Tryz.isAgg205
 z222:=Tryz.sizeOf205
 v222:=Tryz.zeroValue205
 t228:=Tryz.underlying220
 a228:=Tryz.isAgg220
 z228:=Tryz.sizeOf220
 v228:=Tryz.zeroValue220
 t229:=Tryz.underlying221
 a229:=Tryz.isAgg221
 z229:=Tryz.sizeOf221
 v229:=Tryz.zeroValue221 }
def Qdj:Go.Shelf.Ren:=⟨fun|6=>44|15=>72|14=>73|28=>112|29=>113|20=>114|21=>115|22=>116|23=>117|24=>118|25=>119|26=>120|27=>121|46=>142|47=>138|48=>139|49=>143|50=>144|57=>162|n=>n,fun|22=>109|24=>106|25=>111|3=>3|39=>114|0=>0|53=>184|55=>22|4=>4|46=>177|45=>176|50=>154|5=>5|9=>9|66=>201|70=>205|76=>220|77=>221|n=>n,fun|n=>n⟩
def QkW:Go.Proofs.SlLaysF0.n6 Tryz.prog Qdj:={
 mixed:=by kernel_rfl
 f6:=⟨Tryz.f44.name,by decide,Tryz.func44.trans (congrArg some (by kernel_rfl))⟩
 f14:=⟨Tryz.f73.name,by decide,Tryz.func73.trans (congrArg some (by kernel_rfl))⟩
 f15:=Tryz.func72.trans (congrArg some (by kernel_rfl))
 f20:=⟨Tryz.f114.name,by decide,Tryz.func114.trans (congrArg some (by kernel_rfl))⟩
 f21:=⟨Tryz.f115.name,by decide,Tryz.func115.trans (congrArg some (by kernel_rfl))⟩
 f22:=⟨Tryz.f116.name,by decide,Tryz.func116.trans (congrArg some (by kernel_rfl))⟩
 f23:=⟨Tryz.f117.name,by decide,Tryz.func117.trans (congrArg some (by kernel_rfl))⟩
 f24:=⟨Tryz.f118.name,by decide,Tryz.func118.trans (congrArg some (by kernel_rfl))⟩
 f25:=⟨Tryz.f119.name,by decide,Tryz.func119.trans (congrArg some (by kernel_rfl))⟩
 f26:=⟨Tryz.f120.name,by decide,Tryz.func120.trans (congrArg some (by kernel_rfl))⟩
 f27:=⟨Tryz.f121.name,by decide,Tryz.func121.trans (congrArg some (by kernel_rfl))⟩
 f28:=Tryz.func112.trans (congrArg some (by kernel_rfl))
 f29:=Tryz.func113.trans (congrArg some (by kernel_rfl))
 f46:=⟨Tryz.f142.name,by decide,Tryz.func142.trans (congrArg some (by kernel_rfl))⟩
 f47:=Tryz.func138.trans (congrArg some (by kernel_rfl))
 f48:=Tryz.func139.trans (congrArg some (by kernel_rfl))
 f49:=⟨Tryz.f143.name,by decide,Tryz.func143.trans (congrArg some (by kernel_rfl))⟩
 f50:=⟨Tryz.f144.name,by decide,Tryz.func144.trans (congrArg some (by kernel_rfl))⟩
 f57:=⟨Tryz.f162.name,by decide,Tryz.func162.trans (congrArg some (by kernel_rfl))⟩
 t0:=Tryz.underlying0
 a0:=Tryz.isAgg0
 z0:=Tryz.sizeOf0
 v0:=Tryz.zeroValue0
 t3:=Tryz.underlying3
 a3:=Tryz.isAgg3
 z3:=Tryz.sizeOf3
 v3:=Tryz.zeroValue3
 t4:=Tryz.underlying4
 a4:=Tryz.isAgg4
 z4:=Tryz.sizeOf4
 v4:=Tryz.zeroValue4
 t5:=Tryz.underlying5
 a5:=Tryz.isAgg5
 z5:=Tryz.sizeOf5
 v5:=Tryz.zeroValue5
 t9:=Tryz.underlying9
 a9:=Tryz.isAgg9
 z9:=Tryz.sizeOf9
 v9:=Tryz.zeroValue9
 t22:=Tryz.underlying109
 a22:=Tryz.isAgg109
 z22:=Tryz.sizeOf109
 v22:=Tryz.zeroValue109
 t25:=Tryz.underlying111
 a25:=Tryz.isAgg111
 z25:=Tryz.sizeOf111
 v25:=Tryz.zeroValue111
 t39:=Tryz.underlying114
 a39:=Tryz.isAgg114
 z39:=Tryz.sizeOf114
 v39:=Tryz.zeroValue114
 t45:=Tryz.underlying176
 a45:=Tryz.isAgg176
 z45:=Tryz.sizeOf176
 v45:=Tryz.zeroValue176
 t46:=Tryz.underlying177
 a46:=Tryz.isAgg177
 z46:=Tryz.sizeOf177
 v46:=Tryz.zeroValue177
 t50:=Tryz.underlying154
 a50:=Tryz.isAgg154
 z50:=Tryz.sizeOf154
 v50:=Tryz.zeroValue154
 t53:=Tryz.underlying184
 a53:=Tryz.isAgg184
 z53:=Tryz.sizeOf184
 v53:=Tryz.zeroValue184
 t55:=Tryz.underlying22
 a55:=Tryz.isAgg22
 z55:=Tryz.sizeOf22
 v55:=Tryz.zeroValue22
 t66:=Tryz.underlying201
 a66:=Tryz.isAgg201
 z66:=Tryz.sizeOf201
 v66:=Tryz.zeroValue201
 t70:=Tryz.underlying205
 a70:=Tryz.isAgg205
 z70:=Tryz.sizeOf205
 v70:=Tryz.zeroValue205
 t76:=Tryz.underlying220
 a76:=Tryz.isAgg220
 z76:=Tryz.sizeOf220
 v76:=Tryz.zeroValue220
 t77:=Tryz.underlying221
 a77:=Tryz.isAgg221
 z77:=Tryz.sizeOf221
 v77:=Tryz.zeroValue221 }
def Qcy:Go.Shelf.Ren:=⟨fun|6=>83|15=>72|14=>124|28=>112|29=>113|20=>145|21=>146|22=>147|23=>148|24=>149|25=>150|26=>151|27=>152|46=>163|47=>138|48=>139|49=>164|50=>165|57=>167|n=>n,fun|22=>55|24=>80|25=>92|3=>3|39=>114|0=>0|53=>184|55=>22|4=>4|46=>177|45=>176|50=>154|5=>5|9=>9|66=>201|70=>205|76=>220|77=>221|n=>n,fun|n=>n⟩
def Qkf:Go.Proofs.SlLaysF0.n6 Tryz.prog Qcy:={
 mixed:=by kernel_rfl
 f6:=⟨Tryz.f83.name,by decide,Tryz.func83.trans (congrArg some (by kernel_rfl))⟩
 f14:=⟨Tryz.f124.name,by decide,Tryz.func124.trans (congrArg some (by kernel_rfl))⟩
 f15:=Tryz.func72.trans (congrArg some (by kernel_rfl))
 f20:=⟨Tryz.f145.name,by decide,Tryz.func145.trans (congrArg some (by kernel_rfl))⟩
 f21:=⟨Tryz.f146.name,by decide,Tryz.func146.trans (congrArg some (by kernel_rfl))⟩
 f22:=⟨Tryz.f147.name,by decide,Tryz.func147.trans (congrArg some (by kernel_rfl))⟩
 f23:=⟨Tryz.f148.name,by decide,Tryz.func148.trans (congrArg some (by kernel_rfl))⟩
 f24:=⟨Tryz.f149.name,by decide,Tryz.func149.trans (congrArg some (by kernel_rfl))⟩
 f25:=⟨Tryz.f150.name,by decide,Tryz.func150.trans (congrArg some (by kernel_rfl))⟩
 f26:=⟨Tryz.f151.name,by decide,Tryz.func151.trans (congrArg some (by kernel_rfl))⟩
 f27:=⟨Tryz.f152.name,by decide,Tryz.func152.trans (congrArg some (by kernel_rfl))⟩
 f28:=Tryz.func112.trans (congrArg some (by kernel_rfl))
 f29:=Tryz.func113.trans (congrArg some (by kernel_rfl))
 f46:=⟨Tryz.f163.name,by decide,Tryz.func163.trans (congrArg some (by kernel_rfl))⟩
 f47:=Tryz.func138.trans (congrArg some (by kernel_rfl))
 f48:=Tryz.func139.trans (congrArg some (by kernel_rfl))
 f49:=⟨Tryz.f164.name,by decide,Tryz.func164.trans (congrArg some (by kernel_rfl))⟩
 f50:=⟨Tryz.f165.name,by decide,Tryz.func165.trans (congrArg some (by kernel_rfl))⟩
 f57:=⟨Tryz.f167.name,by decide,Tryz.func167.trans (congrArg some (by kernel_rfl))⟩
 t0:=Tryz.underlying0
 a0:=Tryz.isAgg0
 z0:=Tryz.sizeOf0
 v0:=Tryz.zeroValue0
 t3:=Tryz.underlying3
 a3:=Tryz.isAgg3
 z3:=Tryz.sizeOf3
 v3:=Tryz.zeroValue3
 t4:=Tryz.underlying4
 a4:=Tryz.isAgg4
 z4:=Tryz.sizeOf4
 v4:=Tryz.zeroValue4
 t5:=Tryz.underlying5
 a5:=Tryz.isAgg5
 z5:=Tryz.sizeOf5
 v5:=Tryz.zeroValue5
 t9:=Tryz.underlying9
 a9:=Tryz.isAgg9
 z9:=Tryz.sizeOf9
 v9:=Tryz.zeroValue9
 t22:=Tryz.underlying55
 a22:=Tryz.isAgg55
 z22:=Tryz.sizeOf55
 v22:=Tryz.zeroValue55
 t25:=Tryz.underlying92
 a25:=Tryz.isAgg92
 z25:=Tryz.sizeOf92
 v25:=Tryz.zeroValue92
 t39:=Tryz.underlying114
 a39:=Tryz.isAgg114
 z39:=Tryz.sizeOf114
 v39:=Tryz.zeroValue114
 t45:=Tryz.underlying176
 a45:=Tryz.isAgg176
 z45:=Tryz.sizeOf176
 v45:=Tryz.zeroValue176
 t46:=Tryz.underlying177
 a46:=Tryz.isAgg177
 z46:=Tryz.sizeOf177
 v46:=Tryz.zeroValue177
 t50:=Tryz.underlying154
 a50:=Tryz.isAgg154
 z50:=Tryz.sizeOf154
 v50:=Tryz.zeroValue154
 t53:=Tryz.underlying184
 a53:=Tryz.isAgg184
 z53:=Tryz.sizeOf184
 v53:=Tryz.zeroValue184
 t55:=Tryz.underlying22
 a55:=Tryz.isAgg22
 z55:=Tryz.sizeOf22
 v55:=Tryz.zeroValue22
 t66:=Tryz.underlying201
 a66:=Tryz.isAgg201
 z66:=Tryz.sizeOf201
 v66:=Tryz.zeroValue201
 t70:=Tryz.underlying205
 a70:=Tryz.isAgg205
 z70:=Tryz.sizeOf205
 v70:=Tryz.zeroValue205
 t76:=Tryz.underlying220
 a76:=Tryz.isAgg220
 z76:=Tryz.sizeOf220
 v76:=Tryz.zeroValue220
 t77:=Tryz.underlying221
 a77:=Tryz.isAgg221
 z77:=Tryz.sizeOf221
 v77:=Tryz.zeroValue221 }
def bsL:List Nat:=[43,44,82,83]
def Bas:Qc:=fun g vs o K=>HM 43 g vs o K∨JO Tryz.prog 44 3 mvC ZZ g vs o K∨JO Tryz.prog 83 5 cfC ordC g vs o K∨Qin 82 84 g vs o K
def Qjq (h:HM 43 g vs o K):Bas g vs o K:=.inl h
def Ql4 (h:JO Tryz.prog 44 3 mvC ZZ g vs o K):Bas g vs o K:=.inr (.inl h)
def QkF (h:JO Tryz.prog 83 5 cfC ordC g vs o K):Bas g vs o K:=.inr (.inr (.inl h))
def Qnx (h:Qin 82 84 g vs o K):Bas g vs o K:=.inr (.inr (.inr h))
def basI (h:HM 43 g vs o K):Snd Tryz.prog g vs o K :=
 Qez (by kernel_rfl) (fun blk off cap zs w h1 h2 h3=>Any.slices_Sort_int Qbn blk off cap zs w h1 h2 h3) (fun p cap w=>Any.slices_Sort_int_none Qbn p cap w) h
def Qn9 (f:Nat) (cb:Array Value) (blk off cap:Nat) (d:Array Mv) (w:World) (h1:∀ args w,(callFunc f args).run Tryz.prog w=.ok (.enter f args) w) (h2:CmpLays Tryz.prog f cb mvE 3 ZZ blk off d.size w) (h3:HoldsK mvE 3 w blk off d) (h4:blk < w.heap.size) (h5:d.size < 4611686018427387904) :
  Calls Tryz.prog 44 #[.slice (some ⟨blk,off,none⟩) d.size cap,.func (.func f) #[] cb] w fun e w'=>e=.returned (.tuple #[])∧∃ n os,w'=sortWorldK mvE 3 w blk off n (d.toList.mergeSort fun x y=>!(ltOf ZZ) y x).toArray os:=by
 have hcon:=AnyQ.slices_SortFunc_total QkW 3 (enc:=mvE) Tryz.isAgg106 Tryz.sizeOf106 (fun _=>rfl) (fun x v hv=>by simp [mvE] at hv;rcases hv with rfl|rfl|rfl<;>rfl) ZZ swoM f cb blk off cap d w h1 h2 h3 h4 h5 totM;change Calls Tryz.prog 44 _ _ _ at hcon
 exact hcon
def QnO (p:Option Addr) (cap:Nat) (fv:Value) (w:World):Calls Tryz.prog 44 #[.slice p 0 cap,fv] w fun e w'=>e=.returned (.tuple #[])∧w'=w:=by
 have hcon:=AnyF.slices_SortFunc_none QkW p cap fv w;change Calls Tryz.prog 44 _ _ _ at hcon
 exact hcon
def basM (h:JO Tryz.prog 44 3 mvC ZZ g vs o K):Snd Tryz.prog g vs o K :=
 V8 (P:=Tryz.prog) (g:=44) (k:=3) (α:=Mv) (enc:=mvE) (encV:=mvC) (cf:=ZZ) (by kernel_rfl) (fun _=>rfl) (fun _=>rfl) (fun x v hv=>by simp [mvE] at hv;rcases hv with rfl|rfl|rfl<;>rfl) QlT QkR Qn9 QnO h
def Qm3 (f:Nat) (cb:Array Value) (blk off cap:Nat) (d:Array Cf) (w:World) (h1:∀ args w,(callFunc f args).run Tryz.prog w=.ok (.enter f args) w) (h2:CmpLays Tryz.prog f cb cfE 5 ordC blk off d.size w) (h3:HoldsK cfE 5 w blk off d) (h4:blk < w.heap.size) (h5:d.size < 4611686018427387904) :
  Calls Tryz.prog 83 #[.slice (some ⟨blk,off,none⟩) d.size cap,.func (.func f) #[] cb] w fun e w'=>e=.returned (.tuple #[])∧∃ n os,w'=sortWorldK cfE 5 w blk off n (d.toList.mergeSort fun x y=>!(ltOf ordC) y x).toArray os:=by
 have hcon:=AnyQ.slices_SortFunc_total Qkf 5 (enc:=cfE) Tryz.isAgg80 Tryz.sizeOf80 (fun _=>rfl) (fun x v hv=>by simp [cfE] at hv;rcases hv with rfl|rfl|rfl|rfl|rfl<;>rfl) ordC swoC f cb blk off cap d w h1 h2 h3 h4 h5 totC;change Calls Tryz.prog 83 _ _ _ at hcon
 exact hcon
def Qnr (p:Option Addr) (cap:Nat) (fv:Value) (w:World):Calls Tryz.prog 83 #[.slice p 0 cap,fv] w fun e w'=>e=.returned (.tuple #[])∧w'=w:=by
 have hcon:=AnyF.slices_SortFunc_none Qkf p cap fv w;change Calls Tryz.prog 83 _ _ _ at hcon
 exact hcon
def basC (h:JO Tryz.prog 83 5 cfC ordC g vs o K):Snd Tryz.prog g vs o K :=
 V8 (P:=Tryz.prog) (g:=83) (k:=5) (α:=Cf) (enc:=cfE) (encV:=cfC) (cf:=ordC) (by kernel_rfl) (fun _=>rfl) (fun _=>rfl) (fun x v hv=>by simp [cfE] at hv;rcases hv with rfl|rfl|rfl|rfl|rfl<;>rfl) QlI Qlk Qm3 Qnr h
def QcI:∀ g vs o K,Bas g vs o K→Snd Tryz.prog g vs o K:=by
 intro g vs o K h;rcases h with h|h|h|h
 ·exact basI h
 ·exact basM h
 ·exact basC h
 ·exact Qi0 h
end Go.Proofs.YtpkijjnlmgdaiaaGreatDoor
