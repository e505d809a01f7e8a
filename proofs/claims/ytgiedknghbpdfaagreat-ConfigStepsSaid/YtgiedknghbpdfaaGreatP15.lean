import Derived.Test.YtgiedknghbpdfaaGreatJ3
import Derived.Test.YtgiedknghbpdfaaGreatC14
import Derived.Test.YtgiedknghbpdfaaGreatRows
import Derived.ProofKit

/-
  ConfigSteps is true for every input; each argument reads behind the call as it did. (No condition.)
-/
namespace Go.Proofs.YtgiedknghbpdfaaGreat
set_option linter.all false
open Go.ChangeShapes Go.WideShapes Go.ChangeAt Go.RowKit
theorem isA_byte:isA Tryz.prog 5=false:=by kernel_rfl
theorem csteps_snd (xs:List V) (h:Args Tryz.prog Tryz.f5.params.toList xs):Snd Tryz.prog 5 xs emp (fun v _=>v=.bo true):=by
 rw[Tryz.params5] at h
 obtain⟨v0,as0,n0,h0,rfl,v1,as1,n1,h1,rfl,v2,as2,n2,h2,rfl,rfl⟩:=h
 obtain⟨n,rfl,hn⟩:=isv_node h0
 obtain⟨c,rfl,hc⟩:=isv_config h1
 obtain⟨b,rfl,hb⟩:=isv_int Tryz.underlying5 h2
 simp only[argV,isA_node,isA_config,isA_byte,if_true]
 have h8:=wf_u8 hb
 obtain⟨k,rfl⟩:∃ k:Nat,b=k:=⟨b.toNat,by omega⟩
 exact sound mixed Bas_ok (Call_le F _ _ _ _ _ (fun _ _ h=>fz_bo h) (steps_law n hn c k (by omega)))
def lL:List TypeId:=[4,3,2,22,24,25,27,28,30,5]
set_option maxRecDepth 100000 in
theorem csteps_lifted (os:Os) (started:os.Started) (H:Type) (enc:TypeId × Value→H) :
  ReturnsInHanded {} Tryz.checked os 5 .any (Rows.configStepsSpec.pre6 enc Tryz.prog Tryz.f5 Rows.configStepsRow.domain false) (Rows.configStepsSpec.post enc Tryz.prog Tryz.f5 false true false false):=by
 refine returnsInHanded_of_change (C:=Tryz.checked) own started (by kernel_rfl) Tryz.func5
  (ChangeSpec.witness6 (enc:=enc) (C:=Tryz.checked) false ⟨#[],#[.agg #[.int .i64 0,.int .u64 0,.int .u64 0,.int .u64 0,.int .u64 0,.slice none 0 0,.int .i64 0,.int .i64 0],.agg #[.int .i64 0,.int .i64 0,.int .i64 0,.int .i64 0,.int .i64 0],.int .u8 0],[]⟩ 8 (by kernel_rfl) (by kernel_rfl) (by kernel_rfl) (by kernel_rfl)) ?_
 intro W base args ds gs before hval hW _ _
 exact law_contract (fn:=Tryz.f5) (L:=lL) (tb:=4) (fresh:=true) (handsOn:=false) Tryz.func5 (by kernel_rfl) laidOut mapsRow slicesFull rfl (by rw[Tryz.params5];decide) rfl Tryz.underlying4
  (fun ds hl=>by
   rw[Tryz.params5] at hl
   match ds,hl with
   | [d1,d2,d3],_=>exact⟨rfl,rfl,rfl⟩) hval hW csteps_snd
theorem steps_holds:Rows.ConfigStepsSaid :=
 OpenClaim.holds_of_wide 5 Tryz.f5 rfl rfl rfl rfl rfl rfl rfl ⟨rfl,rfl,rfl,rfl,rfl⟩ rfl rfl rfl rfl rfl (by kernel_rfl) Tryz.func5 (by kernel_rfl)
  (of_decide_eq_true (by kernel_rfl)) (by unfold Func.isWrapper;first|(rw[if_pos (by decide +kernel)];kernel_rfl)|(rw[if_neg (by decide +kernel)];exact⟨rfl,rfl⟩))
  (fun os started H enc _=>csteps_lifted os started H enc)
#print axioms steps_holds
end Go.Proofs.YtgiedknghbpdfaaGreat
