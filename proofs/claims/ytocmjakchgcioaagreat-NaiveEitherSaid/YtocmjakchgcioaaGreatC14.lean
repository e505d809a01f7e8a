import Derived.Test.YtocmjakchgcioaaGreatC13

namespace Go.Proofs.YtocmjakchgcioaaGreat
set_option linter.all false
attribute [-go_sem] Qw Qe rfOb V.cells
end Go.Proofs.YtocmjakchgcioaaGreat
