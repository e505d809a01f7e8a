import Derived.Test.YtgiedknghbpdfaaDoorDa
import Derived.Test.YtgiedknghbpdfaaDoorIr

namespace Go.Proofs.YtgiedknghbpdfaaDoor
set_option linter.all false
end Go.Proofs.YtgiedknghbpdfaaDoor
