import Derived.Test.YtklbhcjmaeedhaaGreatDoorJ2
import Derived.Test.YtklbhcjmaeedhaaGreatDoorA6

namespace Go.Proofs.YtklbhcjmaeedhaaGreatDoor
set_option linter.all false
def QlT {o:O} {v:V} (h:fz o v=some (.bo true)):v=.bo true:=by
 have h:frz (23+1) o v=some (.bo true):=h;cases v<;>rw[frz] at h;all_goals first
  | exact (Qai (fun a h=>by cases h) h).elim
  | (cases h;done)
  | (injection h;done)
  | (split at h;exact (Qai (fun a h=>by cases h) h).elim;cases h)
  | (intros;contradiction)
end Go.Proofs.YtklbhcjmaeedhaaGreatDoor
