/- math/bits.Len64 and Len, by the shelf's template; conditions: the argument is a uint64. -/
import Derived.Test.YtelhnimdfepmdaaProg
import Derived.Lib.Strings
import Derived.Lib.Slices
import Derived.Lib.Small
import Derived.Lib.Walk
import Derived.Lib.BitFns
namespace Go.Proofs.Ytelhnimdfepmdaa
open Go

end Go.Proofs.Ytelhnimdfepmdaa
