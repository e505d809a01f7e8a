import Derived.Test.YtocmjakchgcioaaGreatJ5
import Derived.Test.YtocmjakchgcioaaGreatQ15
import Derived.Test.YtocmjakchgcioaaGreatRows
import Derived.ProofKit

/-
  NaiveEither is true for every input; each argument reads behind the call as it did. (No condition.)
-/
namespace Go.Proofs.YtocmjakchgcioaaGreat
set_option linter.all false
open Go.ChangeShapes Go.WideShapes Go.ChangeAt Go.RowKit
def QbC (xs:List V) (h:Args Tryz.prog Tryz.f4.params.toList xs):Snd Tryz.prog 4 xs emp (fun v _=>v=.bo true):=by
 rw[Tryz.params4] at h;obtain⟨v0,as0,n0,h0,rfl,v1,as1,n1,h1,rfl,v2,as2,n2,h2,rfl,rfl⟩:=h;obtain⟨n,rfl,hn⟩:=Qaj h0;obtain⟨m,rfl,hm⟩:=Qaj h1;obtain⟨w,rfl,hw,_⟩:=QkW h2;simp only[argV,Qft,QlS,if_true];exact QgQ mixed Qcl (Qa F _ _ _ _ _ (fun _ _ h=>Qm1 h) (Qbw n m hn hm w hw))
def lL:List TypeId:=[4,3,2,5,22,24,25,27,28]
set_option maxRecDepth 100000 in
def Hm (os:Os) (started:os.Started) (H:Type) (enc:TypeId × Value→H) :
  ReturnsInHanded {} Tryz.checked os 4 .any (Rows.naiveEitherSpec.pre6 enc Tryz.prog Tryz.f4 Rows.naiveEitherRow.domain false) (Rows.naiveEitherSpec.post enc Tryz.prog Tryz.f4 false true false false):=by
 refine returnsInHanded_of_change (C:=Tryz.checked) own started (by kernel_rfl) Tryz.func4
  (ChangeSpec.witness6 (enc:=enc) (C:=Tryz.checked) false ⟨#[],#[.agg #[.int .i64 0,.int .u64 0,.int .u64 0,.int .u64 0,.int .u64 0,.slice none 0 0,.int .i64 0,.int .i64 0],.agg #[.int .i64 0,.int .u64 0,.int .u64 0,.int .u64 0,.int .u64 0,.slice none 0 0,.int .i64 0,.int .i64 0],.slice none 0 0],[]⟩ 8 (by kernel_rfl) (by kernel_rfl) (by kernel_rfl) (by kernel_rfl)) ?_
 intro W base args ds gs before hval hW _ _;exact H2 (fn:=Tryz.f4) (L:=lL) (tb:=4) (fresh:=true) (handsOn:=false) Tryz.func4 (by kernel_rfl) QiB Qie Qbx rfl (by rw[Tryz.params4];decide) rfl Tryz.underlying4
  (fun ds hl=>by
   rw[Tryz.params4] at hl
   match ds,hl with
   | [d1,d2,d3],_=>exact⟨rfl,rfl,rfl⟩) hval hW QbC
theorem either_holds:Rows.NaiveEitherSaid :=
 OpenClaim.holds_of_wide 4 Tryz.f4 rfl rfl rfl rfl rfl rfl rfl ⟨rfl,rfl,rfl,rfl,rfl⟩ rfl rfl rfl rfl rfl (by kernel_rfl) Tryz.func4 (by kernel_rfl)
  (of_decide_eq_true (by kernel_rfl)) (by unfold Func.isWrapper;first|(rw[if_pos (by decide +kernel)];kernel_rfl)|(rw[if_neg (by decide +kernel)];exact⟨rfl,rfl⟩))
  (fun os started H enc _=>Hm os started H enc)
#print axioms either_holds
end Go.Proofs.YtocmjakchgcioaaGreat
