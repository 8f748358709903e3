/- Plain facts on layer 5, on: shapes, weights, products of whole networks, by the reference and by the program. -/
import Derived.Test.YtnfcadjckoebkaaBXPe
import Derived.Test.YtnfcadjckoebkaaBXHcheckall
namespace Go.Proofs.Ytnfcadjckoebkaa.P
open Go.RowKit Go.Proofs.YtnfcadjckoebkaaW.PrintWords Go.Proofs.YtnfcadjckoebkaaW.PrintLast Go.Proofs.YtnfcadjckoebkaaW.PrintMore
set_option linter.unusedSimpArgs false
set_option linter.unusedVariables false

namespace Sy
end Sy
theorem stepsO_len (l : List S40) : ∀ (s : S23) (st : List S94), Sy.stepsO s l = some st → st.length = l.length := by
  induction l with
  | nil => intro s st h; simp [Sy.stepsO] at h; simp [← h]
  | cons x l ih =>
    intro s st h
    simp only [Sy.stepsO, Option.bind_eq_some_iff, Option.map_eq_some_iff] at h
    obtain ⟨t, ht, r, hr, rfl⟩ := h
    simp [ih t r hr]
/-- What 'all' comes to, case by case. -/
theorem allR_ok {S : S23} {l : List S40} (h : (Sy.allR S l).2 = 0) : Sy.formB S l = true ∧ Sy.rightB S = true ∧ Sy.stepsO S l = some (Sy.allR S l).1 ∧ Sy.sumW (Sy.allR S l).1 ≤ 512 ∧ Sy.sumP (Sy.allR S l).1 ≤ 512 := by
  unfold Sy.allR at h ⊢
  by_cases hf : Sy.formB S l = true
  · rw [if_pos hf] at h ⊢
    by_cases hs : Sy.rightB S = true
    · rw [if_pos hs] at h ⊢
      cases hq : Sy.stepsO S l with
      | none => rw [hq] at h; simp at h
      | some st =>
        rw [hq] at h
        simp only at h ⊢
        by_cases hh : Sy.sumW st ≤ 512 ∧ Sy.sumP st ≤ 512
        · rw [if_pos hh]; exact ⟨hf, hs, rfl, hh⟩
        · rw [if_neg hh] at h; simp at h
    · rw [if_neg hs] at h; simp at h
  · rw [if_neg hf] at h; simp at h
theorem allR_no {S : S23} {l : List S40} (h : (Sy.allR S l).2 ≠ 0) : (Sy.allR S l).1 = [] := by
  unfold Sy.allR at h ⊢
  by_cases hf : Sy.formB S l = true
  · rw [if_pos hf] at h ⊢
    by_cases hs : Sy.rightB S = true
    · rw [if_pos hs] at h ⊢
      cases hq : Sy.stepsO S l with
      | none => rfl
      | some st =>
        rw [hq] at h
        simp only at h ⊢
        by_cases hh : Sy.sumW st ≤ 512 ∧ Sy.sumP st ≤ 512
        · rw [if_pos hh] at h; simp at h
        · rw [if_neg hh]
    · rw [if_neg hs]
  · rw [if_neg hf]
theorem allR_len (S : S23) (l : List S40) : (Sy.allR S l).1.length ≤ 8 := by
  by_cases h : (Sy.allR S l).2 = 0
  · obtain ⟨hf, -, hst, -⟩ := allR_ok h
    rw [stepsO_len l S _ hst]
    simp only [Sy.formB, Bool.and_eq_true, decide_eq_true_eq] at hf
    exact hf.1.1
  · rw [allR_no h]; simp
theorem rd94 (l : List S94) (i : Nat) (h : i < l.length) : rd_T94 l (i : Int) = l[i] := by simp [rd_T94, List.getD, h]
end Go.Proofs.Ytnfcadjckoebkaa.P
