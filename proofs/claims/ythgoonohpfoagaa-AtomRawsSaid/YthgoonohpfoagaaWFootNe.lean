-- pruned
-- The words of the kit's print, cut by this seat's own program to those that its texts name.
import Derived.Test.YthgoonohpfoagaaWN
namespace Go.Proofs.YthgoonohpfoagaaW.PrintWords
open Go.RowKit
namespace Kd
end Kd
end Go.Proofs.YthgoonohpfoagaaW.PrintWords
