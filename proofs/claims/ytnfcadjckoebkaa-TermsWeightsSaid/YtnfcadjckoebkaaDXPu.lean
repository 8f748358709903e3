/- Plain facts on layer 6, on: how many terms, their places and weights; the sizes of a layer. -/
import Derived.Test.YtnfcadjckoebkaaDXTp
import Derived.Test.YtnfcadjckoebkaaDXLFs
namespace Go.Proofs.Ytnfcadjckoebkaa.P
open Go.RowKit Go.Proofs.YtnfcadjckoebkaaW.PrintWords Go.Proofs.YtnfcadjckoebkaaW.PrintLast Go.Proofs.YtnfcadjckoebkaaW.PrintMore
set_option linter.unusedSimpArgs false
set_option linter.unusedVariables false

theorem shp_len {S : S23} {l : List S40} (h0 : (Sy.allR S l).2 = 0) : (S :: (Sy.stepsR S l).map (·.f2)).length = l.length + 1 := by
  have := stepsR_len h0
  simp; omega
theorem len8 {S : S23} {l : List S40} (h0 : (Sy.allR S l).2 = 0) : l.length ≤ 8 := by
  have h8 : (Sy.stepsR S l).length ≤ 8 := allR_len S l
  have := stepsR_len h0
  omega
theorem sizes_yes {S : S23} {l : List S40} (h0 : (Sy.allR S l).2 = 0) (i : Nat) (hi : i < l.length) (k : Nat) (hk : 0 < k) : symbolonlaw06_sizes.f k S.f0 S.f1 S.f2 l (i : Int) = some (Sy.sizeI (Sy.shp S l (i : Int)), Sy.sizeI (Sy.shp S l ((i : Int) + 1)), true) := by
  obtain ⟨k, rfl⟩ : ∃ q, k = q + 1 := ⟨k - 1, by omega⟩
  have hl := shp_len h0
  have h8 := len8 h0
  unfold symbolonlaw06_sizes.f h05_Shapes.f
  rw [Option.bind_some, show (Sy.shapesR ⟨S.f0, S.f1, S.f2⟩ l) = Sy.shapesR S l from rfl, shapesR_ok h0, if_pos rfl, if_neg (by omega), decide_eq_false (by omega)]
  simp only [symbolonlaw06_sizes.j0]
  rw [if_neg (by decide), if_pos (by omega), if_pos (by rw [hl]; omega), w1 (by omega) (by omega)]
  unfold h02_Size.f
  simp only [Option.bind_some]
  rw [if_pos (by omega), if_pos (by rw [hl]; omega)]
  rfl
theorem sizes_no {S : S23} {l : List S40} {i : Int} (h : ¬ ((Sy.allR S l).2 = 0 ∧ 0 ≤ i ∧ i < l.length)) (k : Nat) (hk : 0 < k) : symbolonlaw06_sizes.f k S.f0 S.f1 S.f2 l i = some (0, 0, false) := by
  obtain ⟨k, rfl⟩ : ∃ q, k = q + 1 := ⟨k - 1, by omega⟩
  unfold symbolonlaw06_sizes.f h05_Shapes.f
  rw [Option.bind_some, show (Sy.shapesR ⟨S.f0, S.f1, S.f2⟩ l) = Sy.shapesR S l from rfl, shapesR_e]
  by_cases h0 : (Sy.allR S l).2 = 0
  · rw [if_pos h0]
    by_cases h1 : i < 0
    · rw [if_pos h1]; simp only [symbolonlaw06_sizes.j0]; rfl
    · rw [if_neg h1, decide_eq_true (by omega)]; simp only [symbolonlaw06_sizes.j0]; rfl
  · rw [if_neg h0]; simp only [symbolonlaw06_sizes.j0]; rfl
/-- How many terms each place of a layer has. -/
def Sy.lenT (x : S40) (s : S23) : Nat := if x.f0 = 1 then s.f0.toNat * (x.f2.toNat * x.f2.toNat) else if x.f0 = 4 then (Sy.sizeI s).toNat else if x.f0 = 2 then 1 else 0
theorem terms_len (x : S40) (s t : S23) (fr p : Int) : (Sy.termsT x s t fr p).length = Sy.lenT x s := by
  unfold Sy.termsT Sy.lenT
  by_cases k1 : x.f0 = 1
  · rw [if_pos k1, if_pos k1]; unfold Sy.convT; rw [convL_len]
  · rw [if_neg k1, if_neg k1]
    by_cases k4 : x.f0 = 4
    · rw [if_pos k4, if_pos k4]; simp [Sy.denseL]
    · rw [if_neg k4, if_neg k4]
      by_cases k2 : x.f0 = 2
      · rw [if_pos k2, if_pos k2]; rfl
      · rw [if_neg k2, if_neg k2]; rfl
theorem conv_shape {x : S40} {s t : S23} (hq : Sy.outO s x = some t) (k1 : x.f0 = 1) : t.f0 = x.f1 ∧ 1 ≤ x.f2 ∧ x.f2 ≤ s.f1 ∧ x.f2 ≤ s.f2 ∧ 1 ≤ x.f3 ∧ x.f3 ≤ 12 ∧ t.f1 = (s.f1 - x.f2) / x.f3 + 1 ∧ t.f2 = (s.f2 - x.f2) / x.f3 + 1 := by
  unfold Sy.outO at hq
  rw [if_pos k1] at hq
  unfold Sy.convO at hq
  split at hq
  · rename_i hh
    injection hq with hq
    subst hq
    exact ⟨rfl, hh.2.1, hh.2.2.1, hh.2.2.2.1, hh.2.2.2.2.1, hh.2.2.2.2.2.1, rfl, rfl⟩
  · cases hq
theorem dense_shape {x : S40} {s t : S23} (hq : Sy.outO s x = some t) (k4 : x.f0 = 4) : t = ⟨x.f1, 1, 1⟩ ∧ 1 ≤ x.f1 ∧ x.f1 ≤ 8 := by
  unfold Sy.outO at hq
  rw [if_neg (by omega), if_neg (by omega), if_neg (by omega)] at hq
  split at hq
  · rename_i hh
    injection hq with hq
    exact ⟨hq.symm, hh.1, hh.2⟩
  · cases hq
theorem square_shape {x : S40} {s t : S23} (hq : Sy.outO s x = some t) (k2 : x.f0 = 2) : t = s := by
  unfold Sy.outO at hq
  rw [if_neg (by omega), if_pos k2] at hq
  injection hq with hq
  exact hq.symm
theorem size_mul {t : S23} (ht : Sy.rightB t = true) : Sy.sizeI t = t.f0 * t.f1 * t.f2 := by unfold Sy.sizeI; rw [if_pos ht]
/-- Products are places times terms. -/
theorem prods_len {x : S40} {s t : S23} (hs : Sy.rightB s = true) (hl : Sy.layerB x = true) (hq : Sy.outO s x = some t) : Sy.prods s t x = Sy.sizeI t * (Sy.lenT x s : Int) := by
  have ht := (out_bd hs hq).1
  have hz := size_bd hs
  obtain ⟨⟨a1, a2⟩, -, -, -⟩ := right_bd hs
  unfold Sy.prods Sy.lenT Sy.wts
  rcases layer_kind'' hl with e | e | e | e
  · obtain ⟨t0, z1, -⟩ := conv_shape hq e
    rw [if_pos e, if_pos e, if_pos e, size_mul ht, t0]
    push_cast
    rw [Int.toNat_of_nonneg (by omega), Int.toNat_of_nonneg (by omega)]
    simp only [Int.mul_assoc, Int.mul_comm, Int.mul_left_comm]
  · have := square_shape hq e
    subst this
    rw [if_neg (by omega), if_pos e, if_neg (by omega), if_neg (by omega), if_pos e]
    simp
  · rw [if_neg (by omega), if_neg (by omega), if_pos e, if_neg (by omega), if_neg (by omega), if_neg (by omega)]
    simp
  · obtain ⟨t0, o1, o2⟩ := dense_shape hq e
    subst t0
    rw [if_neg (by omega), if_neg (by omega), if_neg (by omega), if_neg (by omega), if_neg (by omega), if_neg (by omega), if_neg (by omega), if_pos e, size_mul ht, Int.toNat_of_nonneg hz.1]
    simp
theorem sum_mem (st : List S94) (h : ∀ j, j < st.length → 0 ≤ (rd_T94 st (j : Int)).f4) : ∀ n, n ≤ st.length → 0 ≤ Sy.sumP (st.take n) ∧ ∀ j, j < n → (rd_T94 st (j : Int)).f4 ≤ Sy.sumP (st.take n) := by
  intro n
  induction n with
  | zero => intro _; exact ⟨by simp [Sy.sumP], fun j hj => by omega⟩
  | succ n ih =>
    intro hn
    obtain ⟨i1, i2⟩ := ih (by omega)
    have hh := h n (by omega)
    rw [take_snoc' _ n (by omega), sumP_snoc]
    refine ⟨by omega, fun j hj => ?_⟩
    by_cases e : j = n
    · subst e; omega
    · have := i2 j (by omega); omega
/-- A layer's products are within bounds. -/
theorem prods_le {S : S23} {l : List S40} (h0 : (Sy.allR S l).2 = 0) (i : Nat) (hi : i < l.length) : Sy.sizeI (Sy.shp S l ((i : Int) + 1)) * (Sy.lenT (rd_T40 l (i : Int)) (Sy.shp S l (i : Int)) : Int) ≤ 512 := by
  obtain ⟨hl, hs, ht, hq, -, f4, -, -⟩ := lay_ok h0 i hi
  rw [← prods_len hs hl hq, ← f4]
  have hlen := stepsR_len h0
  have := (sum_mem (Sy.stepsR S l) (fun j hj => (step_bd j hj).2.1) _ (Nat.le_refl _)).2 i (by omega)
  rw [List.take_length] at this
  have h5 : Sy.sumP (Sy.stepsR S l) ≤ 512 := (allR_ok h0).2.2.2.2
  omega
/-- The terms of a place that there is. -/
theorem termsR_yes {S : S23} {l : List S40} (h0 : (Sy.allR S l).2 = 0) (i : Nat) (hi : i < l.length) {p : Int} (hp : 0 ≤ p ∧ p < Sy.sizeI (Sy.shp S l ((i : Int) + 1))) :
    Sy.termsR S l (i : Int) p = Sy.termsT (rd_T40 l (i : Int)) (Sy.shp S l (i : Int)) (Sy.shp S l ((i : Int) + 1)) (Sy.frm S l (i : Int)) p := by
  unfold Sy.termsR
  rw [if_pos ⟨h0, by omega, by omega⟩, if_pos hp]
/-- The layer that a byte tells. -/
theorem byte_mod {a : Int} (h : 0 ≤ a ∧ a ≤ 255) : ∃ n : Nat, n < 8 ∧ Int.tmod (wrap64 a) 8 = (n : Int) := by
  have e : wrap64 a = a := by unfold wrap64; omega
  rw [e, Int.tmod_eq_emod_of_nonneg h.1]
  exact ⟨(a % 8).toNat, by omega, by omega⟩
end Go.Proofs.Ytnfcadjckoebkaa.P
