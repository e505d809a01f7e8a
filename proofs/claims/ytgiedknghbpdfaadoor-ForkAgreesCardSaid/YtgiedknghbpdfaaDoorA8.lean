import Derived.Test.YtgiedknghbpdfaaDoorC7
import Derived.Test.YtgiedknghbpdfaaDoorA7
import Derived.Test.YtgiedknghbpdfaaDoorA9

namespace Go.Proofs.YtgiedknghbpdfaaDoor
set_option linter.all false
end Go.Proofs.YtgiedknghbpdfaaDoor
