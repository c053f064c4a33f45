/- Are two lists of numbers the same? -/
import Derived.Test.YtpohfcljfemhlaaAe7
import Derived.Test.YtpohfcljfemhlaaT
import Derived.KernelRfl
namespace Go.Proofs.Ytpohfcljfemhlaa
open Go Go.Ae
set_option maxRecDepth 100000

end Go.Proofs.Ytpohfcljfemhlaa
