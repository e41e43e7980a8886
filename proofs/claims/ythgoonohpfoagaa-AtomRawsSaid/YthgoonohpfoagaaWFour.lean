-- pruned
-- The words of the kit's print, cut by this seat's own program to those that its texts name.
import Derived.Test.YthgoonohpfoagaaWTab
namespace Go.Proofs.YthgoonohpfoagaaW.PrintLast
end Go.Proofs.YthgoonohpfoagaaW.PrintLast
