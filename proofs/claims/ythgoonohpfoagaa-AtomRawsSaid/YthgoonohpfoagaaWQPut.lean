-- pruned
-- The words of the kit's print, cut by this seat's own program to those that its texts name.
import Derived.Test.YthgoonohpfoagaaWWords
import Derived.Test.YthgoonohpfoagaaWLast
namespace Go.Proofs.YthgoonohpfoagaaW.PrintWords
open Go.RowKit
namespace Kd
end Kd
end Go.Proofs.YthgoonohpfoagaaW.PrintWords
