import Derived.Test.YtgiedknghbpdfaaGreatJ3
import Derived.Test.YtgiedknghbpdfaaGreatC11
import Derived.Test.YtgiedknghbpdfaaGreatRows
import Derived.ProofKit

/-
  ConfigMoves is true for every input; each argument reads behind the call as it did. (No condition.)
-/
namespace Go.Proofs.YtgiedknghbpdfaaGreat
set_option linter.all false
open Go.ChangeShapes Go.WideShapes Go.ChangeAt Go.RowKit
theorem cmoves_snd (xs:List V) (h:Args Tryz.prog Tryz.f6.params.toList xs):Snd Tryz.prog 6 xs emp (fun v _=>v=.bo true):=by
 rw [Tryz.params6] at h
 obtain ⟨v0,as0,n0,h0,rfl,v1,as1,n1,h1,rfl,v2,as2,n2,h2,rfl,rfl⟩:=h
 obtain ⟨n,rfl,hn⟩:=isv_node h0
 obtain ⟨c,rfl,hc⟩:=isv_config h1
 obtain ⟨b,rfl⟩:=isv_bool Tryz.underlying4 h2
 simp only [argV,isA_node,isA_config,isA_bool,if_true]
 exact sound mixed Bas_ok (Call_le F _ _ _ _ _ (fun _ _ h=>fz_bo h) (moves_law n hn c b))
def lL:List TypeId:=[4,3,2,22,24,25,27,28,30]
set_option maxRecDepth 100000 in
theorem cmoves_lifted (os:Os) (started:os.Started) (H:Type) (enc:TypeId × Value→H) :
  ReturnsInHanded {} Tryz.checked os 6 .any (Rows.configMovesSpec.pre6 enc Tryz.prog Tryz.f6 Rows.configMovesRow.domain false) (Rows.configMovesSpec.post enc Tryz.prog Tryz.f6 false true false false):=by
 refine returnsInHanded_of_change (C:=Tryz.checked) own started (by kernel_rfl) Tryz.func6
  (ChangeSpec.witness6 (enc:=enc) (C:=Tryz.checked) false ⟨#[],#[.agg #[.int .i64 0,.int .u64 0,.int .u64 0,.int .u64 0,.int .u64 0,.slice none 0 0,.int .i64 0,.int .i64 0],.agg #[.int .i64 0,.int .i64 0,.int .i64 0,.int .i64 0,.int .i64 0],.bool false],[]⟩ 8 (by kernel_rfl) (by kernel_rfl) (by kernel_rfl) (by kernel_rfl)) ?_
 intro W base args ds gs before hval hW _ _
 exact law_contract (fn:=Tryz.f6) (L:=lL) (tb:=4) (fresh:=true) (handsOn:=false) Tryz.func6 (by kernel_rfl) laidOut mapsRow slicesFull rfl (by rw [Tryz.params6];decide) rfl Tryz.underlying4
  (fun ds hl=>by
   rw [Tryz.params6] at hl
   match ds,hl with
   | [d1,d2,d3],_=>exact ⟨rfl,rfl,rfl⟩) hval hW cmoves_snd
theorem moves_holds:Rows.ConfigMovesSaid :=
 OpenClaim.holds_of_wide 6 Tryz.f6 rfl rfl rfl rfl rfl rfl rfl ⟨rfl,rfl,rfl,rfl,rfl⟩ rfl rfl rfl rfl rfl (by kernel_rfl) Tryz.func6 (by kernel_rfl)
  (of_decide_eq_true (by kernel_rfl)) (by unfold Func.isWrapper;first | (rw [if_pos (by decide +kernel)];kernel_rfl) | (rw [if_neg (by decide +kernel)];exact ⟨rfl,rfl⟩))
  (fun os started H enc _=>cmoves_lifted os started H enc)
#print axioms moves_holds
end Go.Proofs.YtgiedknghbpdfaaGreat
