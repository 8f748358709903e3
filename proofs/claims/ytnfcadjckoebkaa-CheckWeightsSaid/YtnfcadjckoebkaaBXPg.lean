/- Plain facts on layer 5, on: weights, products, all of a network, by the reference and by the program. -/
import Derived.Test.YtnfcadjckoebkaaBXPf
namespace Go.Proofs.Ytnfcadjckoebkaa.P
open Go.RowKit Go.Proofs.YtnfcadjckoebkaaW.PrintWords Go.Proofs.YtnfcadjckoebkaaW.PrintLast Go.Proofs.YtnfcadjckoebkaaW.PrintMore
set_option linter.unusedSimpArgs false
set_option linter.unusedVariables false

namespace Sy
def stepsR (S : S23) (l : List S40) : List S94 := (allR S l).1
def weightsR (S : S23) (l : List S40) (i : Int) : Int × Int := if 0 ≤ i ∧ i < (stepsR S l).length then (sumW ((stepsR S l).take i.toNat), (rd_T94 (stepsR S l) i).f3) else (0, 0)
def productsR (S : S23) (l : List S40) (i : Int) : Int := if 0 ≤ i ∧ i < (stepsR S l).length then (rd_T94 (stepsR S l) i).f4 else 0
end Sy
/-- Step j of a chain of steps. -/
theorem steps_at (l : List S40) : ∀ (S : S23) (st : List S94), Sy.rightB S = true → Sy.stepsO S l = some st → ∀ j, j < st.length → ∃ s t, rd_T94 st (j : Int) = Sy.stepOf s t (rd_T40 l (j : Int)) ∧ Sy.outO s (rd_T40 l (j : Int)) = some t ∧ Sy.rightB s = true ∧ rd_T23 (S :: st.map (·.f2)) (j : Int) = s ∧ rd_T23 (S :: st.map (·.f2)) ((j : Int) + 1) = t := by
  induction l with
  | nil =>
    intro S st hS h j hj
    simp [Sy.stepsO] at h
    subst h
    simp at hj
  | cons x l ih =>
    intro S st hS h j hj
    simp only [Sy.stepsO, Option.bind_eq_some_iff, Option.map_eq_some_iff] at h
    obtain ⟨t, ht, r, hr, rfl⟩ := h
    have htR := (out_bd hS ht).1
    cases j with
    | zero => exact ⟨S, t, rfl, ht, hS, rfl, rfl⟩
    | succ j =>
      obtain ⟨s', t', e1, e2, e3, e4, e5⟩ := ih t r htR hr j (by simp at hj; omega)
      have p1 : rd_T94 (Sy.stepOf S t x :: r) (((j + 1 : Nat)) : Int) = rd_T94 r (j : Int) := by simp [rd_T94, List.getD]
      have p2 : rd_T40 (x :: l) (((j + 1 : Nat)) : Int) = rd_T40 l (j : Int) := by simp [rd_T40, List.getD]
      have p3 : rd_T23 (S :: (Sy.stepOf S t x :: r).map (·.f2)) (((j + 1 : Nat)) : Int) = rd_T23 (t :: r.map (·.f2)) (j : Int) := by simp [rd_T23, List.getD, Sy.stepOf]
      have p4 : rd_T23 (S :: (Sy.stepOf S t x :: r).map (·.f2)) ((((j + 1 : Nat)) : Int) + 1) = rd_T23 (t :: r.map (·.f2)) ((j : Int) + 1) := by
        unfold rd_T23
        rw [show (((j + 1 : Nat) : Int) + 1).toNat = j + 1 + 1 by omega, show ((j : Int) + 1).toNat = j + 1 by omega]
        simp [List.getD, Sy.stepOf]
      rw [p1, p2, p3, p4]
      exact ⟨s', t', e1, e2, e3, e4, e5⟩
/-- .. of a network that is right. -/
theorem step_ok {S : S23} {l : List S40} (j : Nat) (hj : j < (Sy.stepsR S l).length) : (Sy.allR S l).2 = 0 ∧ (Sy.stepsR S l).length = l.length ∧ Sy.layerB (rd_T40 l (j : Int)) = true ∧ ∃ s t, rd_T94 (Sy.stepsR S l) (j : Int) = Sy.stepOf s t (rd_T40 l (j : Int)) ∧ Sy.outO s (rd_T40 l (j : Int)) = some t ∧ Sy.rightB s = true ∧ rd_T23 (S :: (Sy.stepsR S l).map (·.f2)) (j : Int) = s ∧ rd_T23 (S :: (Sy.stepsR S l).map (·.f2)) ((j : Int) + 1) = t := by
  have h0 : (Sy.allR S l).2 = 0 := by
    rcases Classical.em ((Sy.allR S l).2 = 0) with h | h
    · exact h
    · have := allR_no h
      unfold Sy.stepsR at hj
      rw [this] at hj
      simp at hj
  obtain ⟨hf, hs, hst, -, -⟩ := allR_ok h0
  have hlen := stepsO_len l S _ hst
  exact ⟨h0, hlen, form_layer S l hf j (by unfold Sy.stepsR at hj; omega), steps_at l S _ hs hst j hj⟩
theorem step_bd {S : S23} {l : List S40} (j : Nat) (hj : j < (Sy.stepsR S l).length) : (0 ≤ (rd_T94 (Sy.stepsR S l) (j : Int)).f3 ∧ (rd_T94 (Sy.stepsR S l) (j : Int)).f3 ≤ 9216) ∧ (0 ≤ (rd_T94 (Sy.stepsR S l) (j : Int)).f4 ∧ (rd_T94 (Sy.stepsR S l) (j : Int)).f4 ≤ 1327104) := by
  obtain ⟨-, -, -, s, t, e, hq, hr, -⟩ := step_ok j hj
  rw [e]
  exact (out_bd hr hq).2
theorem take_snoc' (st : List S94) (i : Nat) (h : i < st.length) : st.take (i + 1) = st.take i ++ [rd_T94 st (i : Int)] := by rw [rd94 st i h, List.take_succ_eq_append_getElem h]
theorem sumW_bd (S : S23) (l : List S40) : ∀ i, i ≤ (Sy.stepsR S l).length → 0 ≤ Sy.sumW ((Sy.stepsR S l).take i) ∧ Sy.sumW ((Sy.stepsR S l).take i) ≤ 9216 * i := by
  intro i
  induction i with
  | zero => intro _; simp [Sy.sumW]
  | succ i ih =>
    intro hi
    have h := ih (by omega)
    have hb := (step_bd i (show i < (Sy.stepsR S l).length by omega)).1
    rw [take_snoc' _ i (by omega), sumW_snoc]
    omega
theorem sumP_bd (S : S23) (l : List S40) : ∀ i, i ≤ (Sy.stepsR S l).length → 0 ≤ Sy.sumP ((Sy.stepsR S l).take i) ∧ Sy.sumP ((Sy.stepsR S l).take i) ≤ 1327104 * i := by
  intro i
  induction i with
  | zero => intro _; simp [Sy.sumP]
  | succ i ih =>
    intro hi
    have h := ih (by omega)
    have hb := (step_bd i (show i < (Sy.stepsR S l).length by omega)).2
    rw [take_snoc' _ i (by omega), sumP_snoc]
    omega
theorem weights_l0 (S : S23) (l : List S40) (a : Int) : ∀ (d i k : Nat), (Sy.stepsR S l).length - i = d → d < k → i ≤ (Sy.stepsR S l).length → (a < 0 ∨ (i : Int) ≤ a) →
    check_Weights.l0 k a (Sy.sumW ((Sy.stepsR S l).take i)) (Sy.stepsR S l) ((Sy.stepsR S l).length : Int) (i : Int) = some (Sy.weightsR S l a) := by
  have h8 : (Sy.stepsR S l).length ≤ 8 := allR_len S l
  intro d
  induction d with
  | zero =>
    intro i k hd hk hi ha
    obtain ⟨k, rfl⟩ : ∃ m, k = m + 1 := ⟨k - 1, by omega⟩
    simp only [check_Weights.l0]
    rw [if_neg (by omega)]
    unfold Sy.weightsR
    rw [if_neg (by omega)]
  | succ d ih =>
    intro i k hd hk hi ha
    obtain ⟨k, rfl⟩ : ∃ m, k = m + 1 := ⟨k - 1, by omega⟩
    simp only [check_Weights.l0]
    rw [if_pos (by omega), if_pos (by omega), if_pos (by omega)]
    by_cases e : (i : Int) = a
    · subst e
      rw [if_pos rfl]
      unfold Sy.weightsR
      rw [if_pos (by omega), Int.toNat_natCast]
    · rw [if_neg e]
      have hb := (step_bd i (show i < (Sy.stepsR S l).length by omega)).1
      have hs := sumW_bd S l i (by omega)
      have e1 : wrap64 (Sy.sumW ((Sy.stepsR S l).take i) + (rd_T94 (Sy.stepsR S l) (i : Int)).f3) = Sy.sumW ((Sy.stepsR S l).take (i + 1)) := by
        rw [take_snoc' _ i (by omega), sumW_snoc]; unfold wrap64; omega
      rw [e1, w1 (by omega) (by omega)]
      exact ih (i + 1) k (by omega) (by omega) (by omega) (by omega)
theorem weights_f (S : S23) (l : List S40) (a : Int) (k : Nat) (hk : 10 < k) : check_Weights.f k S.f0 S.f1 S.f2 l a = some (Sy.weightsR S l a) := by
  unfold check_Weights.f check_all.f
  rw [Option.bind_some]
  have h8 : (Sy.stepsR S l).length ≤ 8 := allR_len S l
  exact weights_l0 S l a _ 0 k rfl (by omega) (by omega) (by omega)
theorem all_l0 (S : S23) (l : List S40) : ∀ (d i k : Nat), (Sy.stepsR S l).length - i = d → d < k → i ≤ (Sy.stepsR S l).length →
    check_All.l0 k (Sy.sumW ((Sy.stepsR S l).take i)) (Sy.sumP ((Sy.stepsR S l).take i)) (Sy.stepsR S l) ((Sy.stepsR S l).length : Int) (i : Int) = some (Sy.sumW (Sy.stepsR S l), Sy.sumP (Sy.stepsR S l)) := by
  have h8 : (Sy.stepsR S l).length ≤ 8 := allR_len S l
  intro d
  induction d with
  | zero =>
    intro i k hd hk hi
    obtain ⟨k, rfl⟩ : ∃ m, k = m + 1 := ⟨k - 1, by omega⟩
    simp only [check_All.l0]
    rw [if_neg (by omega), List.take_of_length_le (by omega)]
  | succ d ih =>
    intro i k hd hk hi
    obtain ⟨k, rfl⟩ : ∃ m, k = m + 1 := ⟨k - 1, by omega⟩
    simp only [check_All.l0]
    rw [if_pos (by omega), if_pos (by omega), if_pos (by omega)]
    have hb := step_bd i (show i < (Sy.stepsR S l).length by omega)
    have hs := sumW_bd S l i (by omega)
    have hp := sumP_bd S l i (by omega)
    have e1 : wrap64 (Sy.sumW ((Sy.stepsR S l).take i) + (rd_T94 (Sy.stepsR S l) (i : Int)).f3) = Sy.sumW ((Sy.stepsR S l).take (i + 1)) := by
      rw [take_snoc' _ i (by omega), sumW_snoc]; unfold wrap64; omega
    have e2 : wrap64 (Sy.sumP ((Sy.stepsR S l).take i) + (rd_T94 (Sy.stepsR S l) (i : Int)).f4) = Sy.sumP ((Sy.stepsR S l).take (i + 1)) := by
      rw [take_snoc' _ i (by omega), sumP_snoc]; unfold wrap64; omega
    rw [e1, e2, w1 (by omega) (by omega)]
    exact ih (i + 1) k (by omega) (by omega) (by omega)
theorem all_f (S : S23) (l : List S40) (k : Nat) (hk : 10 < k) : check_All.f k S.f0 S.f1 S.f2 l = some (Sy.sumW (Sy.stepsR S l), Sy.sumP (Sy.stepsR S l)) := by
  unfold check_All.f check_all.f
  rw [Option.bind_some]
  have h8 : (Sy.stepsR S l).length ≤ 8 := allR_len S l
  exact all_l0 S l _ 0 k rfl (by omega) (by omega)
theorem cright_f (S : S23) (l : List S40) : check_Right.f S.f0 S.f1 S.f2 l = some ((Sy.allR S l).2 == 0) := rfl
theorem cproducts_f (S : S23) (l : List S40) (a : Int) : check_Products.f S.f0 S.f1 S.f2 l a = some (Sy.productsR S l a) := by
  unfold check_Products.f check_all.f Sy.productsR
  rw [Option.bind_some]
  show (if a ≥ 0 then (if a < ((Sy.stepsR S l).length : Int) then (if 0 ≤ a then some (rd_T94 (Sy.stepsR S l) a).f4 else none) else some 0) else some 0) = _
  by_cases h0 : a ≥ 0
  · by_cases h1 : a < ((Sy.stepsR S l).length : Int)
    · rw [if_pos h0, if_pos h1, if_pos h0, if_pos ⟨h0, h1⟩]
    · rw [if_pos h0, if_neg h1, if_neg (fun h => h1 h.2)]
  · rw [if_neg h0, if_neg (fun h => h0 h.1)]
/-! The reference's. -/
theorem stepsR_no {S : S23} {l : List S40} (h : (Sy.allR S l).2 ≠ 0) : Sy.stepsR S l = [] := allR_no h
theorem stepsR_len {S : S23} {l : List S40} (h : (Sy.allR S l).2 = 0) : (Sy.stepsR S l).length = l.length := stepsO_len l S _ (allR_ok h).2.2.1
theorem weightsR_snd {S : S23} {l : List S40} {i : Nat} (h : i < (Sy.stepsR S l).length) : (Sy.weightsR S l (i : Int)).2 = (rd_T94 (Sy.stepsR S l) (i : Int)).f3 := by unfold Sy.weightsR; rw [if_pos (by omega)]
theorem productsR_at {S : S23} {l : List S40} {i : Nat} (h : i < (Sy.stepsR S l).length) : Sy.productsR S l (i : Int) = (rd_T94 (Sy.stepsR S l) (i : Int)).f4 := by unfold Sy.productsR; rw [if_pos (by omega)]
end Go.Proofs.Ytnfcadjckoebkaa.P
