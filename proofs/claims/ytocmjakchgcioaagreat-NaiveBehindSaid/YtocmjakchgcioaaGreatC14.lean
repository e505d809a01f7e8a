import Derived.Test.YtocmjakchgcioaaGreatC13

namespace Go.Proofs.YtocmjakchgcioaaGreat
set_option linter.all false
attribute [-go_sem] Qp Qb rfOb V.cells
end Go.Proofs.YtocmjakchgcioaaGreat
