import Derived.Test.YtocmjakchgcioaaGreatJ5
import Derived.Test.YtocmjakchgcioaaGreatKr
import Derived.Test.YtocmjakchgcioaaGreatRows
import Derived.ProofKit

/-
  NaiveDead is true for every input; each argument reads behind the call as it did. (No condition.)
-/
namespace Go.Proofs.YtocmjakchgcioaaGreat
set_option linter.all false
open Go.ChangeShapes Go.WideShapes Go.ChangeAt Go.RowKit
theorem dead_snd (xs:List V) (h:Args Tryz.prog Tryz.f3.params.toList xs):Snd Tryz.prog 3 xs emp (fun v _=>v=.bo true):=by
 rw[Tryz.params3] at h;obtain⟨v0,as0,n0,h0,rfl,v1,as1,n1,h1,rfl,v2,as2,n2,h2,rfl,rfl⟩:=h;obtain⟨n,rfl,hn⟩:=isv_node h0;obtain⟨w,rfl,hw,_⟩:=isv_wd h1;obtain⟨m,rfl,hm,_⟩:=isv_wd h2;simp only[argV,isA_node,isA_wd,if_true];exact sound mixed Bas_ok (Call_le F _ _ _ _ _ (fun _ _ h=>fz_bo h) (dead_law n hn w m hw hm))
def lL:List TypeId:=[4,3,2,5,22,24,25,27,28]
set_option maxRecDepth 100000 in
theorem dead_lifted (os:Os) (started:os.Started) (H:Type) (enc:TypeId × Value→H) :
  ReturnsInHanded {} Tryz.checked os 3 .any (Rows.naiveDeadSpec.pre6 enc Tryz.prog Tryz.f3 Rows.naiveDeadRow.domain false) (Rows.naiveDeadSpec.post enc Tryz.prog Tryz.f3 false true false false):=by
 refine returnsInHanded_of_change (C:=Tryz.checked) own started (by kernel_rfl) Tryz.func3
  (ChangeSpec.witness6 (enc:=enc) (C:=Tryz.checked) false ⟨#[],#[.agg #[.int .i64 0,.int .u64 0,.int .u64 0,.int .u64 0,.int .u64 0,.slice none 0 0,.int .i64 0,.int .i64 0],.slice none 0 0,.slice none 0 0],[]⟩ 8 (by kernel_rfl) (by kernel_rfl) (by kernel_rfl) (by kernel_rfl)) ?_
 intro W base args ds gs before hval hW _ _;exact law_contract (fn:=Tryz.f3) (L:=lL) (tb:=4) (fresh:=true) (handsOn:=false) Tryz.func3 (by kernel_rfl) laidOut mapsRow slicesFull rfl (by rw[Tryz.params3];decide) rfl Tryz.underlying4
  (fun ds hl=>by
   rw[Tryz.params3] at hl
   match ds,hl with
   | [d1,d2,d3],_=>exact⟨rfl,rfl,rfl⟩) hval hW dead_snd
theorem dead_holds:Rows.NaiveDeadSaid :=
 OpenClaim.holds_of_wide 3 Tryz.f3 rfl rfl rfl rfl rfl rfl rfl ⟨rfl,rfl,rfl,rfl,rfl⟩ rfl rfl rfl rfl rfl (by kernel_rfl) Tryz.func3 (by kernel_rfl)
  (of_decide_eq_true (by kernel_rfl)) (by unfold Func.isWrapper;first|(rw[if_pos (by decide +kernel)];kernel_rfl)|(rw[if_neg (by decide +kernel)];exact⟨rfl,rfl⟩))
  (fun os started H enc _=>dead_lifted os started H enc)
#print axioms dead_holds
end Go.Proofs.YtocmjakchgcioaaGreat
