/- Plain facts on layer 6, on: how many terms, their places and weights; the sizes of a layer. -/
import Derived.Test.YtnfcadjckoebkaaEXTp
import Derived.Test.YtnfcadjckoebkaaEXLFs
namespace Go.Proofs.Ytnfcadjckoebkaa.P
open Go.RowKit Go.Proofs.YtnfcadjckoebkaaW.PrintWords Go.Proofs.YtnfcadjckoebkaaW.PrintLast Go.Proofs.YtnfcadjckoebkaaW.PrintMore
set_option linter.unusedSimpArgs false
set_option linter.unusedVariables false

theorem shp_len {S : S23} {l : List S40} (h0 : (Sy.allR S l).2 = 0) : (S :: (Sy.stepsR S l).map (·.f2)).length = l.length + 1 := by
  have := stepsR_len h0
  simp; omega
theorem len8 {S : S23} {l : List S40} (h0 : (Sy.allR S l).2 = 0) : l.length ≤ 8 := by
  have h8 : (Sy.stepsR S l).length ≤ 8 := allR_len S l
  have := stepsR_len h0
  omega
theorem sizes_yes {S : S23} {l : List S40} (h0 : (Sy.allR S l).2 = 0) (i : Nat) (hi : i < l.length) (k : Nat) (hk : 0 < k) : symbolonlaw06_sizes.f k S.f0 S.f1 S.f2 l (i : Int) = some (Sy.sizeI (Sy.shp S l (i : Int)), Sy.sizeI (Sy.shp S l ((i : Int) + 1)), true) := by
  obtain ⟨k, rfl⟩ : ∃ q, k = q + 1 := ⟨k - 1, by omega⟩
  have hl := shp_len h0
  have h8 := len8 h0
  unfold symbolonlaw06_sizes.f h05_Shapes.f
  rw [Option.bind_some, show (Sy.shapesR ⟨S.f0, S.f1, S.f2⟩ l) = Sy.shapesR S l from rfl, shapesR_ok h0, if_pos rfl, if_neg (by omega), decide_eq_false (by omega)]
  simp only [symbolonlaw06_sizes.j0]
  rw [if_neg (by decide), if_pos (by omega), if_pos (by rw [hl]; omega), w1 (by omega) (by omega)]
  unfold h02_Size.f
  simp only [Option.bind_some]
  rw [if_pos (by omega), if_pos (by rw [hl]; omega)]
  rfl
theorem sizes_no {S : S23} {l : List S40} {i : Int} (h : ¬ ((Sy.allR S l).2 = 0 ∧ 0 ≤ i ∧ i < l.length)) (k : Nat) (hk : 0 < k) : symbolonlaw06_sizes.f k S.f0 S.f1 S.f2 l i = some (0, 0, false) := by
  obtain ⟨k, rfl⟩ : ∃ q, k = q + 1 := ⟨k - 1, by omega⟩
  unfold symbolonlaw06_sizes.f h05_Shapes.f
  rw [Option.bind_some, show (Sy.shapesR ⟨S.f0, S.f1, S.f2⟩ l) = Sy.shapesR S l from rfl, shapesR_e]
  by_cases h0 : (Sy.allR S l).2 = 0
  · rw [if_pos h0]
    by_cases h1 : i < 0
    · rw [if_pos h1]; simp only [symbolonlaw06_sizes.j0]; rfl
    · rw [if_neg h1, decide_eq_true (by omega)]; simp only [symbolonlaw06_sizes.j0]; rfl
  · rw [if_neg h0]; simp only [symbolonlaw06_sizes.j0]; rfl
theorem size_mul {t : S23} (ht : Sy.rightB t = true) : Sy.sizeI t = t.f0 * t.f1 * t.f2 := by unfold Sy.sizeI; rw [if_pos ht]
/-- The layer that a byte tells. -/
theorem byte_mod {a : Int} (h : 0 ≤ a ∧ a ≤ 255) : ∃ n : Nat, n < 8 ∧ Int.tmod (wrap64 a) 8 = (n : Int) := by
  have e : wrap64 a = a := by unfold wrap64; omega
  rw [e, Int.tmod_eq_emod_of_nonneg h.1]
  exact ⟨(a % 8).toNat, by omega, by omega⟩
end Go.Proofs.Ytnfcadjckoebkaa.P
