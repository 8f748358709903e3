import Derived.Test.YtnfcadjckoebkaaIXLE
import Derived.Test.YtnfcadjckoebkaaIXREs
import Derived.Test.YtnfcadjckoebkaaIXHx
import Derived.Test.YtnfcadjckoebkaaIXHcheckall
section
namespace Go.Proofs.Ytnfcadjckoebkaa.P
open Go.RowKit Go.Proofs.YtnfcadjckoebkaaW.PrintWords Go.Proofs.YtnfcadjckoebkaaW.PrintLast Go.Proofs.YtnfcadjckoebkaaW.PrintMore
set_option linter.unusedSimpArgs false
set_option linter.unusedVariables false
theorem head5 : symbolonlaw05_head.f 40 = some true := by decide +kernel
theorem w1 {x : Int} (h0 : 0 ≤ x) (h : x ≤ 100000) : wrap64 (x + 1) = x + 1 := by unfold wrap64; omega
end Go.Proofs.Ytnfcadjckoebkaa.P
end
section
namespace Go.Proofs.Ytnfcadjckoebkaa.P
open Go.RowKit Go.Proofs.YtnfcadjckoebkaaW.PrintWords Go.Proofs.YtnfcadjckoebkaaW.PrintLast Go.Proofs.YtnfcadjckoebkaaW.PrintMore
set_option linter.unusedSimpArgs false
set_option linter.unusedVariables false
namespace Sy
def shapesR (S : S23) (l : List S40) : List S23 × Int := if (allR S l).2 = 0 then (S :: (allR S l).1.map (·.f2), 0) else ([], (allR S l).2)
end Sy
theorem stepsO_len (l : List S40) : ∀ (s : S23) (st : List S94), Sy.stepsO s l = some st → st.length = l.length := by
  induction l with
  | nil => intro s st h; simp [Sy.stepsO] at h; simp [← h]
  | cons x l ih =>
    intro s st h
    simp only [Sy.stepsO, Option.bind_eq_some_iff, Option.map_eq_some_iff] at h
    obtain ⟨t, ht, r, hr, rfl⟩ := h
    simp [ih t r hr]
theorem allR_ok {S : S23} {l : List S40} (h : (Sy.allR S l).2 = 0) : Sy.formB S l = true ∧ Sy.rightB S = true ∧ Sy.stepsO S l = some (Sy.allR S l).1 ∧ Sy.sumW (Sy.allR S l).1 ≤ 512 ∧ Sy.sumP (Sy.allR S l).1 ≤ 512 := by
  unfold Sy.allR at h ⊢
  by_cases hf : Sy.formB S l = true
  · rw [if_pos hf] at h ⊢
    by_cases hs : Sy.rightB S = true
    · rw [if_pos hs] at h ⊢
      cases hq : Sy.stepsO S l with
      | none => rw [hq] at h; simp at h
      | some st =>
        rw [hq] at h
        simp only at h ⊢
        by_cases hh : Sy.sumW st ≤ 512 ∧ Sy.sumP st ≤ 512
        · rw [if_pos hh]; exact ⟨hf, hs, rfl, hh⟩
        · rw [if_neg hh] at h; simp at h
    · rw [if_neg hs] at h; simp at h
  · rw [if_neg hf] at h; simp at h
theorem allR_no {S : S23} {l : List S40} (h : (Sy.allR S l).2 ≠ 0) : (Sy.allR S l).1 = [] := by
  unfold Sy.allR at h ⊢
  by_cases hf : Sy.formB S l = true
  · rw [if_pos hf] at h ⊢
    by_cases hs : Sy.rightB S = true
    · rw [if_pos hs] at h ⊢
      cases hq : Sy.stepsO S l with
      | none => rfl
      | some st =>
        rw [hq] at h
        simp only at h ⊢
        by_cases hh : Sy.sumW st ≤ 512 ∧ Sy.sumP st ≤ 512
        · rw [if_pos hh] at h; simp at h
        · rw [if_neg hh]
    · rw [if_neg hs]
  · rw [if_neg hf]
theorem allR_len (S : S23) (l : List S40) : (Sy.allR S l).1.length ≤ 8 := by
  by_cases h : (Sy.allR S l).2 = 0
  · obtain ⟨hf, -, hst, -⟩ := allR_ok h
    rw [stepsO_len l S _ hst]
    simp only [Sy.formB, Bool.and_eq_true, decide_eq_true_eq] at hf
    exact hf.1.1
  · rw [allR_no h]; simp
theorem rd94 (l : List S94) (i : Nat) (h : i < l.length) : rd_T94 l (i : Int) = l[i] := by simp [rd_T94, List.getD, h]
theorem shapes_l0 (st : List S94) (hl : st.length ≤ 8) : ∀ (d i k : Nat) (acc : List S23), st.length - i = d → d < k → i ≤ st.length → acc.length ≤ 1 + i → check_Shapes.l0 k acc st (st.length : Int) (i : Int) = some (acc ++ (st.drop i).map (·.f2), 0) := by
  intro d
  induction d with
  | zero =>
    intro i k acc hd hk hi ha
    obtain ⟨k, rfl⟩ : ∃ m, k = m + 1 := ⟨k - 1, by omega⟩
    simp only [check_Shapes.l0]
    rw [if_neg (by omega), List.drop_of_length_le (by omega)]
    simp
  | succ d ih =>
    intro i k acc hd hk hi ha
    obtain ⟨k, rfl⟩ : ∃ m, k = m + 1 := ⟨k - 1, by omega⟩
    simp only [check_Shapes.l0]
    rw [if_pos (by omega), if_pos (by omega), if_pos (by omega), if_pos (by omega), w1 (by omega) (by omega), rd94 st i (by omega)]
    have e := ih (i + 1) k (acc ++ [st[i].f2]) (by omega) (by omega) (by omega) (by simp; omega)
    rw [show (((i + 1 : Nat)) : Int) = (i : Int) + 1 by omega] at e
    refine e.trans ?_
    rw [List.drop_eq_getElem_cons (show i < st.length by omega), List.map_cons, List.append_assoc]
    rfl
theorem shapes_f (S : S23) (l : List S40) (k : Nat) (hk : 10 < k) : check_Shapes.f k S.f0 S.f1 S.f2 l = some (Sy.shapesR S l) := by
  unfold check_Shapes.f check_all.f Sy.shapesR
  rw [Option.bind_some]
  show (if (Sy.allR S l).2 = 0 then _ else _) = _
  by_cases h : (Sy.allR S l).2 = 0
  · rw [if_pos h, if_pos h]
    have := allR_len S l
    exact shapes_l0 (Sy.allR S l).1 this _ 0 k [⟨S.f0, S.f1, S.f2⟩] rfl (by omega) (by omega) (by simp)
  · rw [if_neg h, if_neg h]
end Go.Proofs.Ytnfcadjckoebkaa.P
end
section
namespace Go.Proofs.Ytnfcadjckoebkaa.P
open Go.RowKit Go.Proofs.YtnfcadjckoebkaaW.PrintWords Go.Proofs.YtnfcadjckoebkaaW.PrintLast Go.Proofs.YtnfcadjckoebkaaW.PrintMore
set_option linter.unusedSimpArgs false
set_option linter.unusedVariables false
namespace Sy
def stepsR (S : S23) (l : List S40) : List S94 := (allR S l).1
end Sy
theorem steps_at (l : List S40) : ∀ (S : S23) (st : List S94), Sy.rightB S = true → Sy.stepsO S l = some st → ∀ j, j < st.length → ∃ s t, rd_T94 st (j : Int) = Sy.stepOf s t (rd_T40 l (j : Int)) ∧ Sy.outO s (rd_T40 l (j : Int)) = some t ∧ Sy.rightB s = true ∧ rd_T23 (S :: st.map (·.f2)) (j : Int) = s ∧ rd_T23 (S :: st.map (·.f2)) ((j : Int) + 1) = t := by
  induction l with
  | nil =>
    intro S st hS h j hj
    simp [Sy.stepsO] at h
    subst h
    simp at hj
  | cons x l ih =>
    intro S st hS h j hj
    simp only [Sy.stepsO, Option.bind_eq_some_iff, Option.map_eq_some_iff] at h
    obtain ⟨t, ht, r, hr, rfl⟩ := h
    have htR := (out_bd hS ht).1
    cases j with
    | zero => exact ⟨S, t, rfl, ht, hS, rfl, rfl⟩
    | succ j =>
      obtain ⟨s', t', e1, e2, e3, e4, e5⟩ := ih t r htR hr j (by simp at hj; omega)
      have p1 : rd_T94 (Sy.stepOf S t x :: r) (((j + 1 : Nat)) : Int) = rd_T94 r (j : Int) := by simp [rd_T94, List.getD]
      have p2 : rd_T40 (x :: l) (((j + 1 : Nat)) : Int) = rd_T40 l (j : Int) := by simp [rd_T40, List.getD]
      have p3 : rd_T23 (S :: (Sy.stepOf S t x :: r).map (·.f2)) (((j + 1 : Nat)) : Int) = rd_T23 (t :: r.map (·.f2)) (j : Int) := by simp [rd_T23, List.getD, Sy.stepOf]
      have p4 : rd_T23 (S :: (Sy.stepOf S t x :: r).map (·.f2)) ((((j + 1 : Nat)) : Int) + 1) = rd_T23 (t :: r.map (·.f2)) ((j : Int) + 1) := by
        unfold rd_T23
        rw [show (((j + 1 : Nat) : Int) + 1).toNat = j + 1 + 1 by omega, show ((j : Int) + 1).toNat = j + 1 by omega]
        simp [List.getD, Sy.stepOf]
      rw [p1, p2, p3, p4]
      exact ⟨s', t', e1, e2, e3, e4, e5⟩
theorem step_ok {S : S23} {l : List S40} (j : Nat) (hj : j < (Sy.stepsR S l).length) : (Sy.allR S l).2 = 0 ∧ (Sy.stepsR S l).length = l.length ∧ Sy.layerB (rd_T40 l (j : Int)) = true ∧ ∃ s t, rd_T94 (Sy.stepsR S l) (j : Int) = Sy.stepOf s t (rd_T40 l (j : Int)) ∧ Sy.outO s (rd_T40 l (j : Int)) = some t ∧ Sy.rightB s = true ∧ rd_T23 (S :: (Sy.stepsR S l).map (·.f2)) (j : Int) = s ∧ rd_T23 (S :: (Sy.stepsR S l).map (·.f2)) ((j : Int) + 1) = t := by
  have h0 : (Sy.allR S l).2 = 0 := by
    rcases Classical.em ((Sy.allR S l).2 = 0) with h | h
    · exact h
    · have := allR_no h
      unfold Sy.stepsR at hj
      rw [this] at hj
      simp at hj
  obtain ⟨hf, hs, hst, -, -⟩ := allR_ok h0
  have hlen := stepsO_len l S _ hst
  exact ⟨h0, hlen, form_layer S l hf j (by unfold Sy.stepsR at hj; omega), steps_at l S _ hs hst j hj⟩
theorem cright_f (S : S23) (l : List S40) : check_Right.f S.f0 S.f1 S.f2 l = some ((Sy.allR S l).2 == 0) := rfl
theorem shapesR_ok {S : S23} {l : List S40} (h : (Sy.allR S l).2 = 0) : Sy.shapesR S l = (S :: (Sy.stepsR S l).map (·.f2), 0) := by unfold Sy.shapesR Sy.stepsR; rw [if_pos h]
theorem shapesR_no {S : S23} {l : List S40} (h : (Sy.allR S l).2 ≠ 0) : Sy.shapesR S l = ([], (Sy.allR S l).2) := by unfold Sy.shapesR; rw [if_neg h]
theorem stepsR_len {S : S23} {l : List S40} (h : (Sy.allR S l).2 = 0) : (Sy.stepsR S l).length = l.length := stepsO_len l S _ (allR_ok h).2.2.1
end Go.Proofs.Ytnfcadjckoebkaa.P
end
