/- The document's UTF-8, walked. It bears no condition. -/
import Derived.Test.YtfhbdddjclodhaaDoorG
import Derived.Test.YtfhbdddjclodhaaDoorE40
import Derived.Test.YtfhbdddjclodhaaDoorO
namespace Go.Proofs.YtfhbdddjclodhaaDoor.E

open Go.Lib
set_option linter.unusedVariables false
set_option linter.unusedSimpArgs false
end Go.Proofs.YtfhbdddjclodhaaDoor.E
