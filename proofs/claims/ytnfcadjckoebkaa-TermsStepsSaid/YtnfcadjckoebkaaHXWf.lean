import Derived.Test.YtnfcadjckoebkaaHX0
namespace Go.Proofs.Ytnfcadjckoebkaa.P
theorem wf_u8 {a : Int} (h : (Lit.int .u8 a).wf = true) : 0 ≤ a ∧ a ≤ 255 := by
  simp only [Lit.wf, decide_eq_true_eq, Bool.and_eq_true] at h
  exact h
end Go.Proofs.Ytnfcadjckoebkaa.P
