import Derived.Test.YtocmjakchgcioaaGreatC12

namespace Go.Proofs.YtocmjakchgcioaaGreat
set_option linter.all false
attribute [-go_sem] Qw Qe rfOb V.cells
def rst1 (A:Au) (x:Cf) (b:Nat) (out:List Cf) (m:Mv):List Cf:=match mayF A x m with
 | some y=>if Q2 (stAt A m.to) b=true∧y ∉ out then out++[y] else out
 | none=>out
def rstL (A:Au) (x:Cf) (b:Nat) (ms:List Mv):List Cf:=ms.foldl (rst1 A x b) []
end Go.Proofs.YtocmjakchgcioaaGreat
