import Derived.Test.YtnfcadjckoebkaaEX0
import Derived.Test.YtnfcadjckoebkaaEXRD
import Derived.Test.YtnfcadjckoebkaaEXRB
section
-- Laid by laygen.py (this session's own, in its repo) over the kit's print. Not trusted: Lean checks it.
namespace Go.Proofs.Ytnfcadjckoebkaa.P
open Go.RowKit Go.Proofs.YtnfcadjckoebkaaW.PrintWords Go.Proofs.YtnfcadjckoebkaaW.PrintLast Go.Proofs.YtnfcadjckoebkaaW.PrintMore
attribute [local go_sem] min2_int min_two
set_option linter.unusedVariables false
set_option linter.unusedSimpArgs false

/-! ### symbolonref05_Shapes: function 28 -/

end Go.Proofs.Ytnfcadjckoebkaa.P

end

section
-- Laid by laygen.py (this session's own, in its repo) over the kit's print. Not trusted: Lean checks it.
namespace Go.Proofs.Ytnfcadjckoebkaa.P
open Go.RowKit Go.Proofs.YtnfcadjckoebkaaW.PrintWords Go.Proofs.YtnfcadjckoebkaaW.PrintLast Go.Proofs.YtnfcadjckoebkaaW.PrintMore
attribute [local go_sem] min2_int min_two
set_option linter.unusedVariables false
set_option linter.unusedSimpArgs false

/-! ### symbolonref05_Weights: function 30 -/

/-! ### symbolonref05_Products: function 37 -/

/-! ### symbolonref05_All: function 32 -/

/-! ### symbolonref05_Right: function 35 -/

end Go.Proofs.Ytnfcadjckoebkaa.P

end
