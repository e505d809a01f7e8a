import Derived.Test.YtocmjakchgcioaaGreatJ5
import Derived.Test.YtocmjakchgcioaaGreatKs
import Derived.Test.YtocmjakchgcioaaGreatRows
import Derived.ProofKit

/-
  NaiveBehind is true for every input; each argument reads behind the call as it did. (No condition.)
-/
namespace Go.Proofs.YtocmjakchgcioaaGreat
set_option linter.all false
open Go.ChangeShapes Go.WideShapes Go.ChangeAt Go.RowKit
def QaN (xs:List V) (h:Args Tryz.prog Tryz.f7.params.toList xs):Snd Tryz.prog 7 xs emp (fun v _=>v=.bo true):=by
 rw[Tryz.params7] at h;obtain⟨v0,as0,n0,h0,rfl,v1,as1,n1,h1,rfl,rfl⟩:=h;obtain⟨n,rfl,hn⟩:=Qd8 h0;obtain⟨w,rfl,hw,_⟩:=Qky h1;simp only[argV,Qep,Qlo,if_true];exact Qhw mixed Qcs (Qa F _ _ _ _ _ (fun _ _ h=>Qmv h) (Qan n hn w hw))
def lL:List TypeId:=[4,3,2,5,22,24,25,27,28]
set_option maxRecDepth 100000 in
def Kb (os:Os) (started:os.Started) (H:Type) (enc:TypeId × Value→H) :
  ReturnsInHanded {} Tryz.checked os 7 .any (Rows.naiveBehindSpec.pre6 enc Tryz.prog Tryz.f7 Rows.naiveBehindRow.domain false) (Rows.naiveBehindSpec.post enc Tryz.prog Tryz.f7 false true false false):=by
 refine returnsInHanded_of_change (C:=Tryz.checked) own started (by kernel_rfl) Tryz.func7
  (ChangeSpec.witness6 (enc:=enc) (C:=Tryz.checked) false ⟨#[],#[.agg #[.int .i64 0,.int .u64 0,.int .u64 0,.int .u64 0,.int .u64 0,.slice none 0 0,.int .i64 0,.int .i64 0],.slice none 0 0],[]⟩ 8 (by kernel_rfl) (by kernel_rfl) (by kernel_rfl) (by kernel_rfl)) ?_
 intro W base args ds gs before hval hW _ _;exact KT (fn:=Tryz.f7) (L:=lL) (tb:=4) (fresh:=true) (handsOn:=false) Tryz.func7 (by kernel_rfl) Qhp Qf2 Qas rfl (by rw[Tryz.params7];decide) rfl Tryz.underlying4
  (fun ds hl=>by
   rw[Tryz.params7] at hl
   match ds,hl with
   | [d1,d2],_=>exact⟨rfl,rfl,rfl⟩) hval hW QaN
theorem behind_holds:Rows.NaiveBehindSaid :=
 OpenClaim.holds_of_wide 7 Tryz.f7 rfl rfl rfl rfl rfl rfl rfl ⟨rfl,rfl,rfl,rfl,rfl⟩ rfl rfl rfl rfl rfl (by kernel_rfl) Tryz.func7 (by kernel_rfl)
  (of_decide_eq_true (by kernel_rfl)) (by unfold Func.isWrapper;first|(rw[if_pos (by decide +kernel)];kernel_rfl)|(rw[if_neg (by decide +kernel)];exact⟨rfl,rfl⟩))
  (fun os started H enc _=>Kb os started H enc)
#print axioms behind_holds
end Go.Proofs.YtocmjakchgcioaaGreat
