/- The plain law of symbolonlaw06.TermsCount: whatever comes in, it answers true. -/
import Derived.Test.YtnfcadjckoebkaaCXPv
import Derived.Test.YtnfcadjckoebkaaCXFsymbolonlaw06TermsCount
namespace Go.Proofs.Ytnfcadjckoebkaa.P
open Go.RowKit Go.Proofs.YtnfcadjckoebkaaW.PrintWords Go.Proofs.YtnfcadjckoebkaaW.PrintLast Go.Proofs.YtnfcadjckoebkaaW.PrintMore
set_option linter.unusedSimpArgs false
set_option linter.unusedVariables false

theorem count_l1 (i inn out fr many acc p : Int) (L : List S58) (S : S23) (l : List S40) (hL : L.length ≤ 100000) (hm : 0 ≤ many ∧ many ≤ 100000) (hf : 0 ≤ fr ∧ fr ≤ 100000) (hp : 0 ≤ p ∧ p ≤ 1000)
    (h : ∀ e ∈ L, (0 ≤ e.f0 ∧ e.f0 < inn) ∧ (many = 0 → e.f1 = -1) ∧ (many ≠ 0 → fr ≤ e.f1 ∧ e.f1 < fr + many)) : ∀ (n j k : Nat), L.length - j = n → n < k → j ≤ L.length →
    symbolonlaw06_TermsCount.l1 k true i inn out fr many acc p L (j : Int) S.f0 S.f1 S.f2 l = symbolonlaw06_TermsCount.l0 (k - n - 1) true i inn out fr many acc (p + 1) S.f0 S.f1 S.f2 l := by
  intro n
  induction n with
  | zero =>
    intro j k hn hk hj
    obtain ⟨k, rfl⟩ : ∃ q, k = q + 1 := ⟨k - 1, by omega⟩
    simp only [symbolonlaw06_TermsCount.l1]
    rw [if_neg (by omega), w1 (by omega) (by omega)]
    rfl
  | succ n ih =>
    intro j k hn hk hj
    obtain ⟨k, rfl⟩ : ∃ q, k = q + 1 := ⟨k - 1, by omega⟩
    obtain ⟨g1, g2, g3⟩ := h _ (rd58 L j (by omega))
    have hr := ih (j + 1) k (by omega) (by omega) (by omega)
    have e : k + 1 - (n + 1) - 1 = k - n - 1 := by omega
    have ew : wrap64 (fr + many) = fr + many := by unfold wrap64; omega
    simp only [symbolonlaw06_TermsCount.l1]
    rw [e, if_pos (by omega), if_pos (by omega), if_neg (by omega), if_neg (by omega), w1 (by omega) (by omega), ew]
    by_cases hm0 : many = 0
    · rw [if_pos hm0, if_pos (g2 hm0), if_neg (by omega)]
      exact hr
    · have := g3 hm0
      rw [if_neg hm0, if_pos (by omega), if_neg (by omega), if_neg (by omega)]
      exact hr
theorem count_l0 (S : S23) (l : List S40) (h0 : (Sy.allR S l).2 = 0) (i : Nat) (hi : i < l.length) (m T : Nat) (hm : Sy.sizeI (Sy.shp S l ((i : Int) + 1)) = (m : Int)) (hT : Sy.lenT (rd_T40 l (i : Int)) (Sy.shp S l (i : Int)) = T) (hmT : m * T ≤ 512) (hm8 : m ≤ 128) (hT8 : T ≤ 2000) :
    ∀ (n p k : Nat), m - p = n → n * (T + 2) + 160 < k → p ≤ m →
    symbolonlaw06_TermsCount.l0 k true (i : Int) (Sy.sizeI (Sy.shp S l (i : Int))) (m : Int) (Sy.frm S l (i : Int)) (Sy.wts (Sy.shp S l (i : Int)) (rd_T40 l (i : Int))) ((p * T : Nat) : Int) (p : Int) S.f0 S.f1 S.f2 l = some true := by
  obtain ⟨hl, hs, ht, hq, f3, f4, fr0, fr1⟩ := lay_ok h0 i hi
  have hw := (out_bd hs hq).2.1
  have hlen := stepsR_len h0
  intro n
  induction n with
  | zero =>
    intro p k hn hk hp
    obtain ⟨k, rfl⟩ : ∃ q, k = q + 1 := ⟨k - 1, by omega⟩
    obtain rfl : p = m := by omega
    simp only [symbolonlaw06_TermsCount.l0]
    have e1 : Sy.productsR S l (i : Int) = ((p * T : Nat) : Int) := by
      rw [productsR_at (show i < (Sy.stepsR S l).length by omega), f4, prods_len hs hl hq, hm, hT]; push_cast; rfl
    unfold h05_Products.f
    rw [if_neg (by omega), Option.bind_some, if_pos (show ((p * T : Nat) : Int) = Sy.productsR ⟨S.f0, S.f1, S.f2⟩ l (i : Int) from e1.symm), terms_f _ _ _ _ _ (by omega), Option.bind_some, termsR_out (by rw [hm]; omega)]
    simp only [List.length_nil, if_true]
    rw [terms_f _ _ _ _ _ (by omega), Option.bind_some, termsR_out (by omega)]
    rfl
  | succ n ih =>
    intro p k hn hk hp
    obtain ⟨k, rfl⟩ : ∃ q, k = q + 1 := ⟨k - 1, by omega⟩
    rw [Nat.add_mul, Nat.one_mul] at hk
    have hpp : 0 ≤ (p : Int) ∧ (p : Int) < Sy.sizeI (Sy.shp S l ((i : Int) + 1)) := by rw [hm]; omega
    have hTl : (Sy.termsT (rd_T40 l (i : Int)) (Sy.shp S l (i : Int)) (Sy.shp S l ((i : Int) + 1)) (Sy.frm S l (i : Int)) (p : Int)).length = T := by rw [terms_len, hT]
    have hpT : p * T ≤ m * T := Nat.mul_le_mul_right T hp
    have e : wrap64 (((p * T : Nat) : Int) + (T : Int)) = (((p + 1) * T : Nat) : Int) := by
      rw [Nat.add_mul, Nat.one_mul]; push_cast; unfold wrap64
      have : ((p * T : Nat) : Int) ≤ 512 := by omega
      push_cast at this
      have h2 : 0 ≤ (p : Int) * (T : Int) := Int.mul_nonneg (by omega) (by omega)
      omega
    simp only [symbolonlaw06_TermsCount.l0]
    rw [if_pos (by omega), terms_f _ _ _ _ _ (by omega), Option.bind_some, termsR_yes h0 i hi hpp, hTl, e]
    have := count_l1 (i : Int) (Sy.sizeI (Sy.shp S l (i : Int))) (m : Int) (Sy.frm S l (i : Int)) (Sy.wts (Sy.shp S l (i : Int)) (rd_T40 l (i : Int))) (((p + 1) * T : Nat) : Int) (p : Int) (Sy.termsT (rd_T40 l (i : Int)) (Sy.shp S l (i : Int)) (Sy.shp S l ((i : Int) + 1)) (Sy.frm S l (i : Int)) (p : Int)) S l (by omega) ⟨hw.1, by omega⟩ ⟨fr0, fr1⟩ ⟨by omega, by omega⟩ (fun e he => term_in hs hl hq hpp he) T 0 k (by omega) (by omega) (by omega)
    refine this.trans ?_
    exact ih (p + 1) (k - T - 1) (by omega) (by omega) (by omega)
theorem termsCount_f (S : S23) (l : List S40) (a : Int) (ha : 0 ≤ a ∧ a ≤ 255) : symbolonlaw06_TermsCount.f 2000 S.f0 S.f1 S.f2 l a = some true := by
  obtain ⟨i, hi8, hmod⟩ := byte_mod ha
  unfold symbolonlaw06_TermsCount.f symbolonlaw04_Great.f
  rw [head6, Option.bind_some, Option.bind_some, hmod]
  by_cases hg : decide ((l.length : Int) > 60) = true
  · rw [if_pos hg]
  · rw [if_neg hg]
    by_cases h : (Sy.allR S l).2 = 0 ∧ 0 ≤ (i : Int) ∧ (i : Int) < l.length
    · obtain ⟨h0, -, hi⟩ := h
      have hi : i < l.length := by omega
      obtain ⟨hl, hs, ht, hq, f3, f4, fr0, fr1⟩ := lay_ok h0 i hi
      have hlen := stepsR_len h0
      have hw : Sy.weightsR S l (i : Int) = (Sy.frm S l (i : Int), Sy.wts (Sy.shp S l (i : Int)) (rd_T40 l (i : Int))) := by
        unfold Sy.weightsR Sy.frm; rw [if_pos (by omega), f3]
      rw [sizes_yes h0 i hi _ (by omega), Option.bind_some, if_pos rfl]
      unfold h05_Weights.f
      rw [Option.bind_some, show Sy.weightsR ⟨S.f0, S.f1, S.f2⟩ l (i : Int) = Sy.weightsR S l (i : Int) from rfl, hw]
      have hz := size_bd ht
      obtain ⟨m, hm⟩ := Int.eq_ofNat_of_zero_le hz.1
      have hpl := prods_le h0 i hi
      rw [hm] at hpl ⊢
      have hmT : m * Sy.lenT (rd_T40 l (i : Int)) (Sy.shp S l (i : Int)) ≤ 512 := by rw [← Int.natCast_mul] at hpl; omega
      have hm1 : 1 ≤ m := by have := size_pos' ht; omega
      have hT : Sy.lenT (rd_T40 l (i : Int)) (Sy.shp S l (i : Int)) ≤ 512 := Nat.le_trans (Nat.le_mul_of_pos_left _ hm1) hmT
      have := count_l0 S l h0 i hi m _ hm rfl hmT (by omega) (by omega) m 0 2000 (by omega) (by rw [Nat.mul_add]; omega) (by omega)
      rw [Nat.zero_mul] at this
      exact this
    · rw [sizes_no h _ (by omega), Option.bind_some, if_neg (by decide), if_pos rfl, terms_f _ _ _ _ _ (by omega), Option.bind_some, termsR_no h]
      rfl
end Go.Proofs.Ytnfcadjckoebkaa.P
