import Derived.Test.YtnfcadjckoebkaaFXTp
import Derived.Test.YtnfcadjckoebkaaFXLFs
namespace Go.Proofs.Ytnfcadjckoebkaa.P
open Go.RowKit Go.Proofs.YtnfcadjckoebkaaW.PrintWords Go.Proofs.YtnfcadjckoebkaaW.PrintLast Go.Proofs.YtnfcadjckoebkaaW.PrintMore
set_option linter.unusedSimpArgs false
set_option linter.unusedVariables false
theorem size_pos' {s : S23} (h : Sy.rightB s = true) : 1 ≤ Sy.sizeI s := by
  unfold Sy.sizeI
  rw [if_pos h]
  obtain ⟨a, b, c, d⟩ := right_bd h
  have h1 : 0 < s.f0 * s.f1 := Int.mul_pos (by omega) (by omega)
  have h2 : 0 < s.f0 * s.f1 * s.f2 := Int.mul_pos h1 (by omega)
  omega
theorem shp_len {S : S23} {l : List S40} (h0 : (Sy.allR S l).2 = 0) : (S :: (Sy.stepsR S l).map (·.f2)).length = l.length + 1 := by
  have := stepsR_len h0
  simp; omega
theorem len8 {S : S23} {l : List S40} (h0 : (Sy.allR S l).2 = 0) : l.length ≤ 8 := by
  have h8 : (Sy.stepsR S l).length ≤ 8 := allR_len S l
  have := stepsR_len h0
  omega
theorem sizes_yes {S : S23} {l : List S40} (h0 : (Sy.allR S l).2 = 0) (i : Nat) (hi : i < l.length) (k : Nat) (hk : 0 < k) : symbolonlaw06_sizes.f k S.f0 S.f1 S.f2 l (i : Int) = some (Sy.sizeI (Sy.shp S l (i : Int)), Sy.sizeI (Sy.shp S l ((i : Int) + 1)), true) := by
  obtain ⟨k, rfl⟩ : ∃ q, k = q + 1 := ⟨k - 1, by omega⟩
  have hl := shp_len h0
  have h8 := len8 h0
  unfold symbolonlaw06_sizes.f h05_Shapes.f
  rw [Option.bind_some, show (Sy.shapesR ⟨S.f0, S.f1, S.f2⟩ l) = Sy.shapesR S l from rfl, shapesR_ok h0, if_pos rfl, if_neg (by omega), decide_eq_false (by omega)]
  simp only [symbolonlaw06_sizes.j0]
  rw [if_neg (by decide), if_pos (by omega), if_pos (by rw [hl]; omega), w1 (by omega) (by omega)]
  unfold h02_Size.f
  simp only [Option.bind_some]
  rw [if_pos (by omega), if_pos (by rw [hl]; omega)]
  rfl
theorem sizes_no {S : S23} {l : List S40} {i : Int} (h : ¬ ((Sy.allR S l).2 = 0 ∧ 0 ≤ i ∧ i < l.length)) (k : Nat) (hk : 0 < k) : symbolonlaw06_sizes.f k S.f0 S.f1 S.f2 l i = some (0, 0, false) := by
  obtain ⟨k, rfl⟩ : ∃ q, k = q + 1 := ⟨k - 1, by omega⟩
  unfold symbolonlaw06_sizes.f h05_Shapes.f
  rw [Option.bind_some, show (Sy.shapesR ⟨S.f0, S.f1, S.f2⟩ l) = Sy.shapesR S l from rfl, shapesR_e]
  by_cases h0 : (Sy.allR S l).2 = 0
  · rw [if_pos h0]
    by_cases h1 : i < 0
    · rw [if_pos h1]; simp only [symbolonlaw06_sizes.j0]; rfl
    · rw [if_neg h1, decide_eq_true (by omega)]; simp only [symbolonlaw06_sizes.j0]; rfl
  · rw [if_neg h0]; simp only [symbolonlaw06_sizes.j0]; rfl
def Sy.lenT (x : S40) (s : S23) : Nat := if x.f0 = 1 then s.f0.toNat * (x.f2.toNat * x.f2.toNat) else if x.f0 = 4 then (Sy.sizeI s).toNat else if x.f0 = 2 then 1 else 0
theorem terms_len (x : S40) (s t : S23) (fr p : Int) : (Sy.termsT x s t fr p).length = Sy.lenT x s := by
  unfold Sy.termsT Sy.lenT
  by_cases k1 : x.f0 = 1
  · rw [if_pos k1, if_pos k1]; unfold Sy.convT; rw [convL_len]
  · rw [if_neg k1, if_neg k1]
    by_cases k4 : x.f0 = 4
    · rw [if_pos k4, if_pos k4]; simp [Sy.denseL]
    · rw [if_neg k4, if_neg k4]
      by_cases k2 : x.f0 = 2
      · rw [if_pos k2, if_pos k2]; rfl
      · rw [if_neg k2, if_neg k2]; rfl
theorem conv_shape {x : S40} {s t : S23} (hq : Sy.outO s x = some t) (k1 : x.f0 = 1) : t.f0 = x.f1 ∧ 1 ≤ x.f2 ∧ x.f2 ≤ s.f1 ∧ x.f2 ≤ s.f2 ∧ 1 ≤ x.f3 ∧ x.f3 ≤ 12 ∧ t.f1 = (s.f1 - x.f2) / x.f3 + 1 ∧ t.f2 = (s.f2 - x.f2) / x.f3 + 1 := by
  unfold Sy.outO at hq
  rw [if_pos k1] at hq
  unfold Sy.convO at hq
  split at hq
  · rename_i hh
    injection hq with hq
    subst hq
    exact ⟨rfl, hh.2.1, hh.2.2.1, hh.2.2.2.1, hh.2.2.2.2.1, hh.2.2.2.2.2.1, rfl, rfl⟩
  · cases hq
theorem dense_shape {x : S40} {s t : S23} (hq : Sy.outO s x = some t) (k4 : x.f0 = 4) : t = ⟨x.f1, 1, 1⟩ ∧ 1 ≤ x.f1 ∧ x.f1 ≤ 8 := by
  unfold Sy.outO at hq
  rw [if_neg (by omega), if_neg (by omega), if_neg (by omega)] at hq
  split at hq
  · rename_i hh
    injection hq with hq
    exact ⟨hq.symm, hh.1, hh.2⟩
  · cases hq
theorem termsR_yes {S : S23} {l : List S40} (h0 : (Sy.allR S l).2 = 0) (i : Nat) (hi : i < l.length) {p : Int} (hp : 0 ≤ p ∧ p < Sy.sizeI (Sy.shp S l ((i : Int) + 1))) :
    Sy.termsR S l (i : Int) p = Sy.termsT (rd_T40 l (i : Int)) (Sy.shp S l (i : Int)) (Sy.shp S l ((i : Int) + 1)) (Sy.frm S l (i : Int)) p := by
  unfold Sy.termsR
  rw [if_pos ⟨h0, by omega, by omega⟩, if_pos hp]
theorem byte_mod {a : Int} (h : 0 ≤ a ∧ a ≤ 255) : ∃ n : Nat, n < 8 ∧ Int.tmod (wrap64 a) 8 = (n : Int) := by
  have e : wrap64 a = a := by unfold wrap64; omega
  rw [e, Int.tmod_eq_emod_of_nonneg h.1]
  exact ⟨(a % 8).toNat, by omega, by omega⟩
end Go.Proofs.Ytnfcadjckoebkaa.P
