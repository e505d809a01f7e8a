import Derived.Test.YtgiedknghbpdfaaDoorC2

namespace Go.Proofs.YtgiedknghbpdfaaDoor
set_option linter.all false
attribute [-go_sem] swpOb renOb rfOb V.cells
end Go.Proofs.YtgiedknghbpdfaaDoor
