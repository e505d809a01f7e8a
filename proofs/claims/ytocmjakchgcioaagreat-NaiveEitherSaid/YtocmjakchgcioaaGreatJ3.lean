import Derived.Test.YtocmjakchgcioaaGreatJ2
import Derived.Test.YtocmjakchgcioaaGreatA6

namespace Go.Proofs.YtocmjakchgcioaaGreat
set_option linter.all false
def Qm1 {o:O} {v:V} (h:fz o v=some (.bo true)):v=.bo true:=by
 have h:frz (23+1) o v=some (.bo true):=h;cases v<;>rw[frz] at h;all_goals first
  | exact (Qac (fun a h=>by cases h) h).elim
  | (cases h;done)
  | (injection h;done)
  | (split at h;exact (Qac (fun a h=>by cases h) h).elim;cases h)
  | (intros;contradiction)
end Go.Proofs.YtocmjakchgcioaaGreat
