import Derived.Test.YtpkmfoinpdnifaaDoorKc
import Derived.Test.YtpkmfoinpdnifaaDoorA7

namespace Go.Proofs.YtpkmfoinpdnifaaDoor
set_option linter.all false
attribute [-go_sem] swpOb renOb rfOb V.cells
theorem spl_z5 (x:Cf) (a b c d e:V):splice 0 [a,b,c,d,e] (cfC x)=[a,b,c,d,e]:=rfl
attribute [go_sem] spl_z5
end Go.Proofs.YtpkmfoinpdnifaaDoor
