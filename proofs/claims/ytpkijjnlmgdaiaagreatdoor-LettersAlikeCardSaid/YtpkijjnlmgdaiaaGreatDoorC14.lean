import Derived.Test.YtpkijjnlmgdaiaaGreatDoorC13

namespace Go.Proofs.YtpkijjnlmgdaiaaGreatDoor
set_option linter.all false
attribute [-go_sem] Qp Qb rfOb V.cells
end Go.Proofs.YtpkijjnlmgdaiaaGreatDoor
