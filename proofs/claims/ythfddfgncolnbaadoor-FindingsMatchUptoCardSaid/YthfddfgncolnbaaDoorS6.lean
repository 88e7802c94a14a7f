/- The reference's Stir: what it computes; condition: the array's length. -/
import Derived.Test.YthfddfgncolnbaaDoorS4
namespace Go.Proofs.YthfddfgncolnbaaDoor
open Go Go.RowKit

end Go.Proofs.YthfddfgncolnbaaDoor
