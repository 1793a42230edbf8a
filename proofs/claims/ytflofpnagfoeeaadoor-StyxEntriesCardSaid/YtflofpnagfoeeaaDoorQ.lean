-- Written by a program of this session out of Lean's print of the translation (wip/myprint.py).
import Derived.Test.YtflofpnagfoeeaaDoorQ0
import Derived.Test.YtflofpnagfoeeaaDoorQ1
import Derived.Test.YtflofpnagfoeeaaDoorQ2
import Derived.Test.YtflofpnagfoeeaaDoorQ3
import Derived.Test.YtflofpnagfoeeaaDoorQ4
import Derived.Test.YtflofpnagfoeeaaDoorQ5
namespace Go.Proofs.YtflofpnagfoeeaaDoor.Q
open Go.RowKit Go.Proofs.YtflofpnagfoeeaaDoorW.PrintWords Go.Proofs.YtflofpnagfoeeaaDoorW.PrintLast Go.Proofs.YtflofpnagfoeeaaDoorW.PrintMore
attribute [local go_sem] max2_int min2_int max_two min_two max_three min_three max_four min_four   -- for this text's walks alone
set_option linter.unusedVariables false
set_option linter.unusedSimpArgs false

end Go.Proofs.YtflofpnagfoeeaaDoor.Q
