-- pruned
-- laid by the kit's print, and cut down by this work's prune.py: theorems that nothing here names are left out
import Derived.Test.YtolacbnkebbjiaaWN
namespace Go.Proofs.YtolacbnkebbjiaaW.PrintWords
open Go.RowKit
namespace Kd
end Kd
end Go.Proofs.YtolacbnkebbjiaaW.PrintWords
