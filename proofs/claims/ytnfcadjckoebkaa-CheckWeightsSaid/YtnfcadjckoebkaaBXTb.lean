/- The plain laws of symbolonlaw05.CheckWeights and CheckTurn: whatever comes in, they answer true. -/
import Derived.Test.YtnfcadjckoebkaaBXPg
import Derived.Test.YtnfcadjckoebkaaBXFsymbolonlaw05CheckWeights
namespace Go.Proofs.Ytnfcadjckoebkaa.P
open Go.RowKit Go.Proofs.YtnfcadjckoebkaaW.PrintWords Go.Proofs.YtnfcadjckoebkaaW.PrintLast Go.Proofs.YtnfcadjckoebkaaW.PrintMore
set_option linter.unusedSimpArgs false
set_option linter.unusedVariables false

theorem layer_kind {x : S40} (hl : Sy.layerB x = true) : x.f0 = 1 ∨ x.f0 = 2 ∨ x.f0 = 3 ∨ x.f0 = 4 := by
  unfold Sy.layerB at hl
  by_cases h1 : x.f0 = 1
  · exact .inl h1
  · by_cases h2 : x.f0 = 2
    · exact .inr (.inl h2)
    · by_cases h3 : x.f0 = 3
      · exact .inr (.inr (.inl h3))
      · by_cases h4 : x.f0 = 4
        · exact .inr (.inr (.inr h4))
        · rw [if_neg h1, if_neg h2, if_neg h3, if_neg h4] at hl; cases hl
theorem size_pos {s : S23} (h : Sy.rightB s = true) : 1 ≤ Sy.sizeI s := by
  unfold Sy.sizeI
  rw [if_pos h]
  obtain ⟨a, b, c, d⟩ := right_bd h
  have h1 : 0 < s.f0 * s.f1 := Int.mul_pos (by omega) (by omega)
  have h2 : 0 < s.f0 * s.f1 * s.f2 := Int.mul_pos h1 (by omega)
  omega
/-- A layer that fits: its weights, its products. -/
theorem kind_facts {s t : S23} {x : S40} (hr : Sy.rightB s = true) (hl : Sy.layerB x = true) (hq : Sy.outO s x = some t) :
    0 ≤ Sy.wts s x ∧ Sy.wts s x ≤ Sy.prods s t x ∧ (Sy.wts s x = 0 ↔ x.f0 = 2 ∨ x.f0 = 3) ∧ (Sy.prods s t x = 0 ↔ x.f0 = 3) := by
  have hz := size_pos hr
  obtain ⟨⟨a1, a2⟩, -, -, -⟩ := right_bd hr
  have hw : Sy.wts s x = if x.f0 = 1 then x.f1 * s.f0 * x.f2 * x.f2 else if x.f0 = 2 then 0 else if x.f0 = 3 then 0 else x.f1 * Sy.sizeI s := rfl
  have hp : Sy.prods s t x = if x.f0 = 1 then Sy.wts s x * t.f1 * t.f2 else if x.f0 = 2 then Sy.sizeI s else if x.f0 = 3 then 0 else Sy.wts s x := rfl
  rcases layer_kind hl with e | e | e | e
  · rw [if_pos e] at hw hp
    unfold Sy.outO at hq
    rw [if_pos e] at hq
    obtain ⟨ht, hc, h1, h2⟩ := conv_some hq
    obtain ⟨⟨b1, b2⟩, ⟨b3, b4⟩, ⟨b5, b6⟩, -⟩ := right_bd ht
    rw [hc] at b1 b2
    have m1 : 0 < x.f1 * s.f0 := Int.mul_pos (by omega) (by omega)
    have m2 : 0 < x.f1 * s.f0 * x.f2 := Int.mul_pos m1 (by omega)
    have m3 : 0 < x.f1 * s.f0 * x.f2 * x.f2 := Int.mul_pos m2 (by omega)
    rw [← hw] at m3
    have m4 : Sy.wts s x * 1 ≤ Sy.wts s x * t.f1 := Int.mul_le_mul_of_nonneg_left b3 (by omega)
    have m5 : Sy.wts s x * t.f1 * 1 ≤ Sy.wts s x * t.f1 * t.f2 := Int.mul_le_mul_of_nonneg_left b5 (by omega)
    rw [← hp] at m5
    refine ⟨by omega, by omega, by omega, by omega⟩
  · rw [if_neg (by omega), if_pos e] at hw hp
    refine ⟨by omega, by omega, by omega, by omega⟩
  · rw [if_neg (by omega), if_neg (by omega), if_pos e] at hw hp
    refine ⟨by omega, by omega, by omega, by omega⟩
  · rw [if_neg (by omega), if_neg (by omega), if_neg (by omega)] at hw hp
    unfold Sy.outO at hq
    rw [if_neg (by omega), if_neg (by omega), if_neg (by omega)] at hq
    have ho : 1 ≤ x.f1 ∧ x.f1 ≤ 8 := by
      by_cases h : 1 ≤ x.f1 ∧ x.f1 ≤ 8
      · exact h
      · rw [if_neg h] at hq; cases hq
    have m1 : 0 < x.f1 * Sy.sizeI s := Int.mul_pos (by omega) (by omega)
    rw [← hw] at m1
    refine ⟨by omega, by omega, by omega, by omega⟩

theorem beq3 (a : Int) : (a == 3) = decide (a = 3) := by by_cases h : a = 3 <;> simp [h]
theorem checkWeights_l0 (S : S23) (l : List S40) (h0 : (Sy.allR S l).2 = 0) : ∀ (d i k : Nat), l.length - i = d → d + 12 < k → i ≤ l.length →
    symbolonlaw05_CheckWeights.l0 k true (Sy.sumW (Sy.stepsR S l)) (Sy.sumP (Sy.stepsR S l)) (Sy.sumW ((Sy.stepsR S l).take i)) (Sy.sumP ((Sy.stepsR S l).take i)) (i : Int) S.f0 S.f1 S.f2 l = some true := by
  have h8 : (Sy.stepsR S l).length ≤ 8 := allR_len S l
  have hlen := stepsR_len h0
  obtain ⟨-, -, -, hW, hP⟩ := allR_ok h0
  change Sy.sumW (Sy.stepsR S l) ≤ 512 at hW
  change Sy.sumP (Sy.stepsR S l) ≤ 512 at hP
  intro d
  induction d with
  | zero =>
    intro i k hd hk hi
    obtain ⟨k, rfl⟩ : ∃ m, k = m + 1 := ⟨k - 1, by omega⟩
    simp only [symbolonlaw05_CheckWeights.l0]
    rw [if_neg (by omega), List.take_of_length_le (by omega), if_pos rfl]
    simp only [if_true]
    rw [if_pos hW]
    exact congrArg some (decide_eq_true hP)
  | succ d ih =>
    intro i k hd hk hi
    obtain ⟨k, rfl⟩ : ∃ m, k = m + 1 := ⟨k - 1, by omega⟩
    have hlt : i < (Sy.stepsR S l).length := by omega
    obtain ⟨-, -, hl, s, t, e1, e2, e3, e4, e5⟩ := step_ok (S := S) (l := l) i hlt
    have hb := step_bd i hlt
    have hs := sumW_bd S l i (by omega)
    have hp := sumP_bd S l i (by omega)
    obtain ⟨f1, f2, f3, f4⟩ := kind_facts e3 hl e2
    have g3 : (rd_T94 (Sy.stepsR S l) (i : Int)).f3 = Sy.wts s (rd_T40 l (i : Int)) := by rw [e1]; rfl
    have g4 : (rd_T94 (Sy.stepsR S l) (i : Int)).f4 = Sy.prods s t (rd_T40 l (i : Int)) := by rw [e1]; rfl
    have w3 : wrap64 (Sy.sumW ((Sy.stepsR S l).take i) + (rd_T94 (Sy.stepsR S l) (i : Int)).f3) = Sy.sumW ((Sy.stepsR S l).take (i + 1)) := by
      rw [take_snoc' _ i (by omega), sumW_snoc]; unfold wrap64; omega
    have w4 : wrap64 (Sy.sumP ((Sy.stepsR S l).take i) + (rd_T94 (Sy.stepsR S l) (i : Int)).f4) = Sy.sumP ((Sy.stepsR S l).take (i + 1)) := by
      rw [take_snoc' _ i (by omega), sumP_snoc]; unfold wrap64; omega
    have hwr : (Sy.weightsR S l (i : Int)).1 = Sy.sumW ((Sy.stepsR S l).take i) := by unfold Sy.weightsR; rw [if_pos (by omega), Int.toNat_natCast]
    simp only [symbolonlaw05_CheckWeights.l0]
    rw [if_pos (by omega), weights_f _ _ _ _ (by omega), Option.bind_some, cproducts_f, Option.bind_some, weightsR_snd hlt, productsR_at hlt, hwr, if_pos rfl, if_neg (by omega), if_neg (by omega), if_pos (by omega), w3, w4, w1 (by omega) (by omega), g3, g4]
    have q3 : ((Sy.prods s t (rd_T40 l (i : Int)) == 0) != ((rd_T40 l (i : Int)).f0 == 3)) = false := by
      have hq : decide (Sy.prods s t (rd_T40 l (i : Int)) = 0) = decide ((rd_T40 l (i : Int)).f0 = 3) := decide_eq_decide.mpr f4
      rw [beqz, beq3, hq]
      simp
    by_cases h2 : (rd_T40 l (i : Int)).f0 = 2
    · rw [if_pos h2, if_neg (by rw [f3.mpr (.inl h2)]; simp), if_neg (by rw [q3]; simp)]
      exact ih (i + 1) k (by omega) (by omega) (by omega)
    · have q2 : ((Sy.wts s (rd_T40 l (i : Int)) == 0) != ((rd_T40 l (i : Int)).f0 == 3)) = false := by
        have hq : decide (Sy.wts s (rd_T40 l (i : Int)) = 0) = decide ((rd_T40 l (i : Int)).f0 = 3) := decide_eq_decide.mpr (by rw [f3]; omega)
        rw [beqz, beq3, hq]
        simp
      rw [if_neg h2, if_neg (by rw [q2]; simp), if_neg (by rw [q3]; simp)]
      exact ih (i + 1) k (by omega) (by omega) (by omega)
theorem checkWeights_f (S : S23) (l : List S40) : symbolonlaw05_CheckWeights.f 40 S.f0 S.f1 S.f2 l = some true := by
  unfold symbolonlaw05_CheckWeights.f symbolonlaw04_Great.f
  rw [head5, Option.bind_some, Option.bind_some]
  by_cases h : decide ((l.length : Int) > 60) = true
  · rw [if_pos h]
  · rw [if_neg h, all_f _ _ _ (by omega), Option.bind_some, cright_f, Option.bind_some]
    have h8 : (Sy.stepsR S l).length ≤ 8 := allR_len S l
    by_cases h0 : (Sy.allR S l).2 = 0
    · have hlen := stepsR_len h0
      rw [if_pos (by simp [h0])]
      exact checkWeights_l0 S l h0 l.length 0 40 (by omega) (by omega) (by omega)
    · rw [if_neg (by simp [h0]), weights_f _ _ _ _ (by omega), Option.bind_some, stepsR_no h0, if_pos rfl]
      have e1 : Sy.weightsR S l 0 = (0, 0) := by unfold Sy.weightsR; rw [stepsR_no h0, if_neg (by simp <;> omega)]
      have e2 : Sy.productsR S l 0 = 0 := by unfold Sy.productsR; rw [stepsR_no h0, if_neg (by simp <;> omega)]
      rw [e1, cproducts_f, e2]
      rfl
end Go.Proofs.Ytnfcadjckoebkaa.P
