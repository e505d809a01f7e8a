import Derived.Test.YtpkmfoinpdnifaaDoorC7
import Derived.Test.YtpkmfoinpdnifaaDoorA7
import Derived.Test.YtpkmfoinpdnifaaDoorA9

namespace Go.Proofs.YtpkmfoinpdnifaaDoor
set_option linter.all false
end Go.Proofs.YtpkmfoinpdnifaaDoor
