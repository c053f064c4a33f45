/- Are two lists of words the same? -/
import Derived.Test.YthajhlachmgdoaaAe7
import Derived.Test.YthajhlachmgdoaaT
import Derived.KernelRfl
namespace Go.Proofs.Ythajhlachmgdoaa
open Go Go.Ae
set_option maxRecDepth 100000

end Go.Proofs.Ythajhlachmgdoaa
