/- Plain facts on layer 5: what the printed functions of the reference and of the program come to, in terms of this session's plain functions. No Go, no memory. -/
import Derived.Test.YtnfcadjckoebkaaAXLE
import Derived.Test.YtnfcadjckoebkaaAXREw
import Derived.Test.YtnfcadjckoebkaaAXHx
namespace Go.Proofs.Ytnfcadjckoebkaa.P
open Go.RowKit Go.Proofs.YtnfcadjckoebkaaW.PrintWords Go.Proofs.YtnfcadjckoebkaaW.PrintLast Go.Proofs.YtnfcadjckoebkaaW.PrintMore
set_option linter.unusedSimpArgs false
set_option linter.unusedVariables false

theorem head5 : symbolonlaw05_head.f 40 = some true := by decide +kernel
theorem rwithin_f (a : Int) : symbolonref04_within.f a = some (Sy.numB a) := by
  unfold symbolonref04_within.f Sy.numB
  by_cases h : a ≥ 0
  · rw [if_pos h]; simp [h]
  · rw [if_neg h]; simp; omega
theorem beqz (a : Int) : (a == 0) = decide (a = 0) := by by_cases h : a = 0 <;> simp [h]
theorem rlayer_f (x : S40) : symbolonref04_layer.f x.f0 x.f1 x.f2 x.f3 = some (Sy.layerB x) := by
  unfold symbolonref04_layer.f Sy.layerB
  simp only [rwithin_f, Option.bind_some]
  by_cases k1 : x.f0 = 1
  · rw [if_pos k1, if_pos k1]
    cases Sy.numB x.f1 <;> cases Sy.numB x.f2 <;> simp
  · rw [if_neg k1, if_neg k1]
    by_cases k2 : x.f0 = 2
    · rw [if_pos k2, if_pos k2]
      by_cases h1 : x.f1 = 0 <;> by_cases h2 : x.f2 = 0 <;> simp [h1, h2, beqz]
    · rw [if_neg k2, if_neg k2]
      by_cases k3 : x.f0 = 3
      · rw [if_pos k3, if_pos k3]
        by_cases h1 : x.f1 = 0 <;> cases Sy.numB x.f2 <;> simp [h1, beqz]
      · rw [if_neg k3, if_neg k3]
        by_cases k4 : x.f0 = 4
        · rw [if_pos k4, if_pos k4]
          cases Sy.numB x.f1 <;> by_cases h2 : x.f2 = 0 <;> simp [h2, beqz]
        · rw [if_neg k4, if_neg k4]
theorem rright_f (s : S23) : symbolonref02_Right.f s.f0 s.f1 s.f2 = some (Sy.rightB s) := by
  unfold symbolonref02_Right.f
  by_cases h : 1 ≤ s.f0 ∧ s.f0 ≤ 8 ∧ 1 ≤ s.f1 ∧ s.f1 ≤ 12 ∧ 1 ≤ s.f2 ∧ s.f2 ≤ 12
  · obtain ⟨h1, h2, h3, h4, h5, h6⟩ := h
    rw [if_pos h1, if_pos h2, if_pos h3, if_pos h4, if_pos h5, if_pos h6, mul3 ⟨h1, h2⟩ ⟨h3, h4⟩ ⟨h5, h6⟩]
    simp [Sy.rightB, h1, h2, h3, h4, h5, h6]
  · have e : Sy.rightB s = false := by unfold Sy.rightB; rw [decide_eq_false_iff_not]; intro hh; exact h ⟨hh.1, hh.2.1, hh.2.2.1, hh.2.2.2.1, hh.2.2.2.2.1, hh.2.2.2.2.2.1⟩
    rw [e]
    repeat' split
    all_goals first | rfl | (exfalso; omega)
theorem rsize_f (s : S23) : symbolonref02_Size.f s.f0 s.f1 s.f2 = some (Sy.sizeI s) := by
  unfold symbolonref02_Size.f Sy.sizeI
  rw [rright_f s]
  simp only [Option.bind_some]
  cases h : Sy.rightB s with
  | true =>
    obtain ⟨a, b, c, d⟩ := right_bd h
    rw [if_pos rfl, if_pos rfl, mul3 a b c]
  | false => rw [if_neg (by decide), if_neg (by decide)]
theorem w1 {x : Int} (h0 : 0 ≤ x) (h : x ≤ 100000) : wrap64 (x + 1) = x + 1 := by unfold wrap64; omega
theorem all_drop (l : List S40) (i : Nat) (h : i < l.length) : (l.drop i).all Sy.layerB = (Sy.layerB (rd_T40 l (i : Int)) && (l.drop (i + 1)).all Sy.layerB) := by
  rw [List.drop_eq_getElem_cons h, rd_get l i h, List.all_cons]
theorem form_l0 (a b c : Int) (l : List S40) (hl : l.length ≤ 8) : ∀ (d : Nat) (i k : Nat), l.length - i = d → d < k → i ≤ l.length → symbolonref04_Form.l0 k (i : Int) a b c l = some ((l.drop i).all Sy.layerB) := by
  intro d
  induction d with
  | zero =>
    intro i k hd hk hi
    obtain ⟨k, rfl⟩ : ∃ m, k = m + 1 := ⟨k - 1, by omega⟩
    simp only [symbolonref04_Form.l0]
    rw [if_neg (by omega), List.drop_of_length_le (by omega)]
    rfl
  | succ d ih =>
    intro i k hd hk hi
    obtain ⟨k, rfl⟩ : ∃ m, k = m + 1 := ⟨k - 1, by omega⟩
    simp only [symbolonref04_Form.l0]
    rw [if_pos (by omega), if_pos (by omega), rlayer_f, Option.bind_some, all_drop l i (by omega)]
    cases Sy.layerB (rd_T40 l (i : Int)) with
    | false => rw [if_neg (by decide)]; rfl
    | true =>
      rw [if_pos rfl, w1 (by omega) (by omega)]
      exact ih (i + 1) k (by omega) (by omega) (by omega)
theorem rform_f (s : S23) (l : List S40) (k : Nat) (hk : 10 < k) : symbolonref04_Form.f k s.f0 s.f1 s.f2 l = some (Sy.formB s l) := by
  unfold symbolonref04_Form.f
  obtain ⟨k, rfl⟩ : ∃ m, k = m + 1 := ⟨k - 1, by omega⟩
  simp only [rwithin_f, Option.bind_some, symbolonref04_Form.j0]
  unfold Sy.formB
  cases Sy.numB s.f0 <;> cases Sy.numB s.f1 <;> cases Sy.numB s.f2 <;> simp
  by_cases hl : l.length ≤ 8
  · rw [if_neg (by omega)]
    show symbolonref04_Form.l0 k ((0 : Nat) : Int) s.f0 s.f1 s.f2 l = _
    rw [form_l0 _ _ _ l hl l.length 0 k (by omega) (by omega) (by omega)]
    simp [hl]
  · rw [if_pos (by omega)]
    simp [hl]
def quad : Option S23 → Int × Int × Int × Bool
  | some t => (t.f0, t.f1, t.f2, true)
  | none => (0, 0, 0, false)
theorem mn_le (a b c : Int) : c > mn a b ↔ c > a ∨ c > b := by unfold mn; split <;> omega
theorem div_wrap {n size step : Int} (h1 : 1 ≤ size) (h2 : size ≤ n) (h3 : n ≤ 12) (h4 : 1 ≤ step) : wrap64 ((wrap64 (Int.tdiv (wrap64 (n - size)) step)) + 1) = (n - size) / step + 1 := by
  have e0 : wrap64 (n - size) = n - size := by unfold wrap64; omega
  have b1 : (n - size) / step ≤ n - size := Int.ediv_le_self _ (by omega)
  have b0 : 0 ≤ (n - size) / step := Int.ediv_nonneg (by omega) (by omega)
  rw [e0, Int.tdiv_eq_ediv_of_nonneg (by omega)]
  generalize (n - size) / step = q at *
  have e1 : wrap64 q = q := by unfold wrap64; omega
  rw [e1]; unfold wrap64; omega
theorem rconv_f (s : S23) (c size step : Int) (k : Nat) (hk : 0 < k) : symbolonref02_Conv.f k s.f0 s.f1 s.f2 c size step = some (quad (Sy.convO s c size step)) := by
  obtain ⟨k, rfl⟩ : ∃ m, k = m + 1 := ⟨k - 1, by omega⟩
  unfold symbolonref02_Conv.f Sy.convO
  rw [rright_f, Option.bind_some]
  simp only [symbolonref02_Conv.j0, mn_le]
  cases hr : Sy.rightB s with
  | false => simp [quad]
  | true =>
    obtain ⟨a1, a2, a3, a4⟩ := right_bd hr
    rw [if_pos rfl]
    by_cases h : 1 ≤ size ∧ size ≤ s.f1 ∧ size ≤ s.f2 ∧ 1 ≤ step ∧ step ≤ 12
    · obtain ⟨h1, h2, h3, h4, h5⟩ := h
      rw [div_wrap h1 h2 (by omega) h4, div_wrap h1 h3 (by omega) h4]
      have n3 : ¬ size < 1 := by omega
      have n4 : ¬ (size > s.f1 ∨ size > s.f2) := by omega
      have n5 : ¬ step < 1 := by omega
      have n6 : ¬ step > 12 := by omega
      have n7 : ¬ step = 0 := by omega
      by_cases hc : 1 ≤ c ∧ c ≤ 8
      · have n1 : ¬ c < 1 := by omega
        have n2 : ¬ c > 8 := by omega
        simp only [n1, n2, n3, n4, n5, n6, n7, if_false, decide_false, Bool.false_eq_true]
        rw [show symbolonref02_Right.f c ((s.f1 - size) / step + 1) ((s.f2 - size) / step + 1) = _ from rright_f ⟨c, (s.f1 - size) / step + 1, (s.f2 - size) / step + 1⟩, Option.bind_some]
        cases hq : Sy.rightB ⟨c, (s.f1 - size) / step + 1, (s.f2 - size) / step + 1⟩ with
        | true => simp [h1, h2, h3, h4, h5, quad]
        | false => simp [quad]
      · have hq : Sy.rightB ⟨c, (s.f1 - size) / step + 1, (s.f2 - size) / step + 1⟩ = false := by
          unfold Sy.rightB; rw [decide_eq_false_iff_not]; simp only; intro hh; omega
        rw [hq]
        by_cases c1 : c < 1
        · simp [c1, quad]
        · have c2 : c > 8 := by omega
          simp [c1, c2, quad]
    · have hN : ¬ (true = true ∧ 1 ≤ size ∧ size ≤ s.f1 ∧ size ≤ s.f2 ∧ 1 ≤ step ∧ step ≤ 12 ∧ Sy.rightB ⟨c, (s.f1 - size) / step + 1, (s.f2 - size) / step + 1⟩ = true) := fun hh => h ⟨hh.2.1, hh.2.2.1, hh.2.2.2.1, hh.2.2.2.2.1, hh.2.2.2.2.2.1⟩
      rw [if_neg hN]
      by_cases c1 : c < 1
      · simp [c1, quad]
      · by_cases c2 : c > 8
        · simp [c1, c2, quad]
        · by_cases c3 : size < 1
          · simp [c1, c2, c3, quad]
          · by_cases c4 : size > s.f1 ∨ size > s.f2
            · simp only [c1, c2, c3, c4, if_false, if_true, quad]
            · by_cases c5 : step < 1
              · simp only [c1, c2, c3, c4, c5, if_false, if_true, quad]
              · have c6 : step > 12 := by omega
                simp only [c1, c2, c3, c4, c5, c6, if_false, if_true, decide_true, quad]
theorem rpool_f (s : S23) (size : Int) : symbolonref02_Pool.f s.f0 s.f1 s.f2 size = some (quad (Sy.poolO s size)) := by
  unfold symbolonref02_Pool.f Sy.poolO
  rw [rright_f, Option.bind_some]
  cases hr : Sy.rightB s with
  | false => simp [quad]
  | true =>
    obtain ⟨a1, a2, a3, a4⟩ := right_bd hr
    rw [if_pos rfl]
    by_cases h : size < 1
    · rw [if_pos h, if_neg (by omega)]; rfl
    · rw [if_neg h, if_neg (by omega), Int.tmod_eq_emod_of_nonneg (by omega), Int.tmod_eq_emod_of_nonneg (by omega), Int.tdiv_eq_ediv_of_nonneg (by omega), Int.tdiv_eq_ediv_of_nonneg (by omega)]
      have b1 : s.f1 / size ≤ s.f1 := Int.ediv_le_self _ (by omega)
      have b0 : 0 ≤ s.f1 / size := Int.ediv_nonneg (by omega) (by omega)
      have b2 : s.f2 / size ≤ s.f2 := Int.ediv_le_self _ (by omega)
      have b3 : 0 ≤ s.f2 / size := Int.ediv_nonneg (by omega) (by omega)
      have e1 : wrap64 (s.f1 / size) = s.f1 / size := by unfold wrap64; omega
      have e2 : wrap64 (s.f2 / size) = s.f2 / size := by unfold wrap64; omega
      rw [e1, e2]
      by_cases h1 : s.f1 % size = 0
      · by_cases h2 : s.f2 % size = 0
        · rw [if_pos h1, if_pos h2, if_pos ⟨rfl, by omega, h1, h2⟩]; rfl
        · rw [if_pos h1, if_neg h2, if_neg (by intro hh; exact h2 hh.2.2.2)]; rfl
      · rw [if_neg h1, if_neg (by intro hh; exact h1 hh.2.2.1)]; rfl
theorem rout_f (s : S23) (x : S40) (k : Nat) (hk : 0 < k) : symbolonref05_out.f k s.f0 s.f1 s.f2 x.f0 x.f1 x.f2 x.f3 = some (quad (Sy.outO s x)) := by
  unfold symbolonref05_out.f Sy.outO
  by_cases k1 : x.f0 = 1
  · rw [if_pos k1, if_pos k1, rconv_f s _ _ _ k hk]; rfl
  · rw [if_neg k1, if_neg k1]
    by_cases k2 : x.f0 = 2
    · rw [if_pos k2, if_pos k2]; rfl
    · rw [if_neg k2, if_neg k2]
      by_cases k3 : x.f0 = 3
      · rw [if_pos k3, if_pos k3, rpool_f]; rfl
      · rw [if_neg k3, if_neg k3]
        by_cases h1 : x.f1 < 1
        · rw [if_pos h1, if_neg (by omega)]; rfl
        · rw [if_neg h1]
          by_cases h2 : x.f1 > 8
          · rw [if_pos h2, if_neg (by omega)]; rfl
          · rw [if_neg h2, if_pos (by omega)]; rfl
theorem rweights_f (s : S23) (x : S40) (hr : Sy.rightB s = true) (hl : Sy.layerB x = true) : symbolonref05_weights.f s.f0 s.f1 s.f2 x.f0 x.f1 x.f2 x.f3 = some (Sy.wts s x) := by
  unfold symbolonref05_weights.f Sy.wts
  obtain ⟨⟨a1, a2⟩, -, -, -⟩ := right_bd hr
  have hs := size_bd hr
  unfold Sy.layerB Sy.numB at hl
  by_cases k1 : x.f0 = 1
  · rw [if_pos k1] at hl
    simp only [Bool.and_eq_true, decide_eq_true_eq] at hl
    obtain ⟨q1, q2, -⟩ := hl
    have m1 := mulB (a := x.f1) (b := s.f0) (A := 999999) (B := 8) q1 (by omega)
    have m2 := mulB (b := x.f2) (B := 999999) m1 q2
    have m3 := mulB (b := x.f2) (B := 999999) m2 q2
    rw [if_pos k1, if_pos k1, wrapB m1 (by decide), wrapB m2 (by decide)]
    have e : wrap64 (x.f1 * s.f0 * x.f2 * x.f2) = x.f1 * s.f0 * x.f2 * x.f2 := by
      generalize x.f1 * s.f0 * x.f2 * x.f2 = z at *
      unfold wrap64; omega
    rw [e]
  · rw [if_neg k1] at hl
    rw [if_neg k1, if_neg k1]
    by_cases k2 : x.f0 = 2
    · rw [if_neg (by omega), if_pos k2]
    · rw [if_neg k2] at hl
      rw [if_neg k2]
      by_cases k3 : x.f0 = 3
      · rw [if_neg (by omega), if_pos k3]
      · rw [if_neg k3] at hl
        rw [if_neg k3]
        by_cases k4 : x.f0 = 4
        · rw [if_pos k4] at hl
          simp only [Bool.and_eq_true, decide_eq_true_eq] at hl
          have m1 := mulB (a := x.f1) (b := Sy.sizeI s) (A := 999999) (B := 128) hl.1 hs
          rw [if_pos k4, rsize_f, Option.bind_some, wrapB m1 (by decide)]
        · rw [if_neg k4] at hl
          cases hl
theorem rproducts_f (s t : S23) (x : S40) (hr : Sy.rightB s = true) (hl : Sy.layerB x = true) (hq : Sy.outO s x = some t) : symbolonref05_products.f s.f0 s.f1 s.f2 t.f0 t.f1 t.f2 x.f0 x.f1 x.f2 x.f3 = some (Sy.prods s t x) := by
  unfold symbolonref05_products.f Sy.prods
  rw [rweights_f s x hr hl]
  simp only [Option.bind_some]
  by_cases k1 : x.f0 = 1
  · have hc : Sy.convO s x.f1 x.f2 x.f3 = some t := by unfold Sy.outO at hq; rw [if_pos k1] at hq; exact hq
    have hw := (conv_w hr hc).2
    rw [if_pos k1, if_pos k1]
    have e : Sy.wts s x = x.f1 * s.f0 * x.f2 * x.f2 := by unfold Sy.wts; rw [if_pos k1]
    rw [e, hw]
  · rw [if_neg k1, if_neg k1]
    by_cases k2 : x.f0 = 2
    · rw [if_neg (by omega), if_pos k2, if_pos k2, rsize_f, Option.bind_some]
    · rw [if_neg k2, if_neg k2]
      by_cases k3 : x.f0 = 3
      · rw [if_neg (by omega), if_pos k3]
      · rw [if_neg k3]
        by_cases k4 : x.f0 = 4
        · rw [if_pos k4]
        · unfold Sy.layerB at hl
          rw [if_neg k1, if_neg k2, if_neg k3, if_neg k4] at hl
          cases hl
end Go.Proofs.Ytnfcadjckoebkaa.P
