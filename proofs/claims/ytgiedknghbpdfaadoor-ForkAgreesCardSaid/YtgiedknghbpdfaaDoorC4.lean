import Derived.Test.YtgiedknghbpdfaaDoorC3

namespace Go.Proofs.YtgiedknghbpdfaaDoor
set_option linter.all false
attribute [-go_sem] swpOb renOb rfOb V.cells
def mayV (r:Option Cf):V:=match r with
 | some y=>.tp [.ag (cfC y),.bo true]
 | none=>.tp [.ag (cfC noC),.bo false]
end Go.Proofs.YtgiedknghbpdfaaDoor
