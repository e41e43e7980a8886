/- What the functions of this seat compute, and that the program's calls come to just that: written by this session's own program out of the translation; no condition. -/
import Derived.Test.YthgoonohpfoagaaX0
import Derived.Test.YthgoonohpfoagaaX1
import Derived.Test.YthgoonohpfoagaaX2
import Derived.Test.YthgoonohpfoagaaX3
import Derived.Test.YthgoonohpfoagaaX4
import Derived.Test.YthgoonohpfoagaaX5
import Derived.Test.YthgoonohpfoagaaX6
import Derived.Test.YthgoonohpfoagaaX7
import Derived.Test.YthgoonohpfoagaaX8
import Derived.Test.YthgoonohpfoagaaX9
import Derived.Test.YthgoonohpfoagaaX10
import Derived.Test.YthgoonohpfoagaaX11
import Derived.Test.YthgoonohpfoagaaX12
import Derived.Test.YthgoonohpfoagaaX13
import Derived.Test.YthgoonohpfoagaaX14
import Derived.Test.YthgoonohpfoagaaX15
import Derived.Test.YthgoonohpfoagaaX16
import Derived.Test.YthgoonohpfoagaaX17
import Derived.Test.YthgoonohpfoagaaX18
import Derived.Test.YthgoonohpfoagaaX19
import Derived.Test.YthgoonohpfoagaaX20
import Derived.Test.YthgoonohpfoagaaX21
import Derived.Test.YthgoonohpfoagaaX22
import Derived.Test.YthgoonohpfoagaaX23
import Derived.Test.YthgoonohpfoagaaX24
import Derived.Test.YthgoonohpfoagaaX25
import Derived.Test.YthgoonohpfoagaaX26
import Derived.Test.YthgoonohpfoagaaX27
import Derived.Test.YthgoonohpfoagaaX28
namespace Go.Proofs.Ythgoonohpfoagaa.X
open Go.RowKit Go.Proofs.YthgoonohpfoagaaW.PrintWords Go.Proofs.YthgoonohpfoagaaW.PrintLast Go.Proofs.YthgoonohpfoagaaW.PrintMore
attribute [local go_sem] max2_int min2_int max_two min_two max_three min_three max_four min_four   -- for this text's walks alone
set_option linter.unusedVariables false
set_option linter.unusedSimpArgs false

end Go.Proofs.Ythgoonohpfoagaa.X
