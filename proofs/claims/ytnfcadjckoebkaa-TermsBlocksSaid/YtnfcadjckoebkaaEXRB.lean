import Derived.Test.YtnfcadjckoebkaaEX0
section
-- Laid by laygen.py (this session's own, in its repo) over the kit's print. Not trusted: Lean checks it.
namespace Go.Proofs.Ytnfcadjckoebkaa.P
open Go.RowKit Go.Proofs.YtnfcadjckoebkaaW.PrintWords Go.Proofs.YtnfcadjckoebkaaW.PrintLast Go.Proofs.YtnfcadjckoebkaaW.PrintMore
attribute [local go_sem] min2_int min_two
set_option linter.unusedVariables false
set_option linter.unusedSimpArgs false

/-! ### symbolonref02_Right: function 40 -/

/-! ### symbolonref02_Conv: function 38 -/

/-! ### symbolonref02_Pool: function 39 -/

/-! ### symbolonref02_Size: function 41 -/

end Go.Proofs.Ytnfcadjckoebkaa.P

end

section
-- Laid by laygen.py (this session's own, in its repo) over the kit's print. Not trusted: Lean checks it.
namespace Go.Proofs.Ytnfcadjckoebkaa.P
open Go.RowKit Go.Proofs.YtnfcadjckoebkaaW.PrintWords Go.Proofs.YtnfcadjckoebkaaW.PrintLast Go.Proofs.YtnfcadjckoebkaaW.PrintMore
attribute [local go_sem] min2_int min_two
set_option linter.unusedVariables false
set_option linter.unusedSimpArgs false

/-! ### symbolonref05_out: function 77 -/

/-! ### symbolonref05_weights: function 78 -/

/-! ### symbolonref05_products: function 79 -/

end Go.Proofs.Ytnfcadjckoebkaa.P

end
