import Derived.Test.YtgiedknghbpdfaaJ2
import Derived.Test.YtgiedknghbpdfaaR17
import Derived.Test.YtgiedknghbpdfaaRows
import Derived.ProofKit

/-
  MovesAll is true for every input; the argument reads behind the call as it did. (No condition.)
-/
namespace Go.Proofs.Ytgiedknghbpdfaa
set_option linter.all false
open Go.ChangeShapes Go.WideShapes Go.ChangeAt Go.RowKit
theorem fz_bo {o:O} {v:V} (h:fz o v=some (.bo true)):v=.bo true:=by
 have h:frz (23+1) o v=some (.bo true):=h;cases v<;>rw[frz] at h;all_goals first
  | exact (map_ne (fun a h=>by cases h) h).elim
  | (cases h;done)
  | (injection h;done)
  | (split at h;exact (map_ne (fun a h=>by cases h) h).elim;cases h)
  | (intros;contradiction)
theorem all_snd (xs:List V) (h:Args Try.prog Try.f5.params.toList xs):Snd Try.prog 5 xs emp (fun v _=>v=.bo true):=by
 rw[Try.params5] at h;obtain⟨v0,as0,n0,h0,rfl,rfl⟩:=h;obtain⟨n,rfl,hn⟩:=isv_node h0;simp only[argV,isA_node,if_true];exact sound mixed Bas_ok (Call_le F _ _ _ _ _ (fun _ _ h=>fz_bo h) (all_law n hn))
def lL:List TypeId:=[4,3,2,22,24,25,27]
set_option maxRecDepth 100000 in
theorem all_lifted (os:Os) (started:os.Started) (H:Type) (enc:TypeId × Value→H) :
  ReturnsInHanded {} Try.checked os 5 .any (Rows.movesAllSpec.pre6 enc Try.prog Try.f5 Rows.movesAllRow.domain false) (Rows.movesAllSpec.post enc Try.prog Try.f5 false true false false):=by
 refine returnsInHanded_of_change (C:=Try.checked) own started (by kernel_rfl) Try.func5
  (ChangeSpec.witness6 (enc:=enc) (C:=Try.checked) false ⟨#[],#[.agg #[.int .i64 0,.int .u64 0,.int .u64 0,.int .u64 0,.int .u64 0,.slice none 0 0,.int .i64 0,.int .i64 0]],[]⟩ 8 (by kernel_rfl) (by kernel_rfl) (by kernel_rfl) (by kernel_rfl)) ?_
 intro W base args ds gs before hval hW _ _;exact law_contract (fn:=Try.f5) (L:=lL) (tb:=4) (fresh:=true) (handsOn:=false) Try.func5 (by kernel_rfl) laidOut mapsRow slicesFull rfl (by rw[Try.params5];decide) rfl Try.underlying4
  (fun ds hl=>by
   rw[Try.params5] at hl
   match ds,hl with
   | [d1],_=>exact⟨rfl,rfl,rfl⟩) hval hW all_snd
theorem all_holds:Rows.MovesAllSaid :=
 OpenClaim.holds_of_wide 5 Try.f5 rfl rfl rfl rfl rfl rfl rfl ⟨rfl,rfl,rfl,rfl,rfl⟩ rfl rfl rfl rfl rfl (by kernel_rfl) Try.func5 (by kernel_rfl)
  (of_decide_eq_true (by kernel_rfl)) (by unfold Func.isWrapper;first|(rw[if_pos (by decide +kernel)];kernel_rfl)|(rw[if_neg (by decide +kernel)];exact⟨rfl,rfl⟩))
  (fun os started H enc _=>all_lifted os started H enc)
#print axioms all_holds
end Go.Proofs.Ytgiedknghbpdfaa
