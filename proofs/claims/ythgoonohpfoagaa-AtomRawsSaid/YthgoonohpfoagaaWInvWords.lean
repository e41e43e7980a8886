-- pruned
-- The words of the kit's print, cut by this seat's own program to those that its texts name.
import Derived.Test.YthgoonohpfoagaaWInv
import Derived.Test.YthgoonohpfoagaaWFootNe
namespace Go.Proofs.YthgoonohpfoagaaW.PrintWords
open Go.RowKit
end Go.Proofs.YthgoonohpfoagaaW.PrintWords
namespace Go.Proofs.YthgoonohpfoagaaW.PrintLast
end Go.Proofs.YthgoonohpfoagaaW.PrintLast
