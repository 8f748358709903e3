/- Plain facts on layer 5: what the printed functions of the reference and of the program come to, in terms of this session's plain functions. No Go, no memory. -/
import Derived.Test.YtnfcadjckoebkaaBXLE
import Derived.Test.YtnfcadjckoebkaaBX0
import Derived.Test.YtnfcadjckoebkaaBXRD
import Derived.Test.YtnfcadjckoebkaaBXHx
namespace Go.Proofs.Ytnfcadjckoebkaa.P
open Go.RowKit Go.Proofs.YtnfcadjckoebkaaW.PrintWords Go.Proofs.YtnfcadjckoebkaaW.PrintLast Go.Proofs.YtnfcadjckoebkaaW.PrintMore
set_option linter.unusedSimpArgs false
set_option linter.unusedVariables false

theorem head5 : symbolonlaw05_head.f 40 = some true := by decide +kernel
theorem beqz (a : Int) : (a == 0) = decide (a = 0) := by by_cases h : a = 0 <;> simp [h]
theorem w1 {x : Int} (h0 : 0 ≤ x) (h : x ≤ 100000) : wrap64 (x + 1) = x + 1 := by unfold wrap64; omega
end Go.Proofs.Ytnfcadjckoebkaa.P
