/- The plain law of symbolonlaw06.TermsWeights: whatever comes in, it answers true. -/
import Derived.Test.YtnfcadjckoebkaaDXPv
import Derived.Test.YtnfcadjckoebkaaDXPw
import Derived.Test.YtnfcadjckoebkaaDXFsymbolonlaw06TermsWeights
namespace Go.Proofs.Ytnfcadjckoebkaa.P
open Go.RowKit Go.Proofs.YtnfcadjckoebkaaW.PrintWords Go.Proofs.YtnfcadjckoebkaaW.PrintLast Go.Proofs.YtnfcadjckoebkaaW.PrintMore
set_option linter.unusedSimpArgs false
set_option linter.unusedVariables false

/-- How often the weight was met among the first j terms. -/
def metJ (d : Int) (j : Nat) : Int := if 0 ≤ d ∧ d < (j : Int) then 1 else 0
theorem metJ_succ (d : Int) (j : Nat) : metJ d (j + 1) = metJ d j + (if d = (j : Int) then 1 else 0) := by
  unfold metJ
  by_cases h : d = (j : Int)
  · rw [if_pos (show 0 ≤ d ∧ d < ((j + 1 : Nat) : Int) by omega), if_neg (show ¬ (0 ≤ d ∧ d < (j : Int)) by omega), if_pos h]; rfl
  · rw [if_neg h, Int.add_zero]
    by_cases h2 : 0 ≤ d ∧ d < (j : Int)
    · rw [if_pos h2, if_pos (show 0 ≤ d ∧ d < ((j + 1 : Nat) : Int) by omega)]
    · rw [if_neg h2, if_neg (show ¬ (0 ≤ d ∧ d < ((j + 1 : Nat) : Int)) by omega)]
theorem metJ_bd (d : Int) (j : Nat) : 0 ≤ metJ d j ∧ metJ d j ≤ 1 := by unfold metJ; split <;> omega
theorem weights_l1 (i out which base met p : Int) (sh : List S23) (L : List S58) (S : S23) (l : List S40) (hL : L.length ≤ 100000) (hp : 0 ≤ p ∧ p ≤ 1000) (hmet : 0 ≤ met ∧ met ≤ 1000)
    (h : ∀ j, j < L.length → (rd_T58 L (j : Int)).f1 = base + (j : Int)) : ∀ (n j k : Nat), L.length - j = n → n < k → j ≤ L.length →
    symbolonlaw06_TermsWeights.l1 k true i out which sh met p L (metJ (which - base) j) (j : Int) S.f0 S.f1 S.f2 l = symbolonlaw06_TermsWeights.l0 (k - n - 1) true i out which sh (met + metJ (which - base) L.length) (p + 1) S.f0 S.f1 S.f2 l := by
  intro n
  induction n with
  | zero =>
    intro j k hn hk hj
    obtain ⟨k, rfl⟩ : ∃ q, k = q + 1 := ⟨k - 1, by omega⟩
    obtain rfl : j = L.length := by omega
    have hb := metJ_bd (which - base) L.length
    simp only [symbolonlaw06_TermsWeights.l1]
    rw [if_neg (by omega), if_neg (by omega), w1 (by omega) (by omega), show wrap64 (met + metJ (which - base) L.length) = met + metJ (which - base) L.length by unfold wrap64; omega]
    rfl
  | succ n ih =>
    intro j k hn hk hj
    obtain ⟨k, rfl⟩ : ∃ q, k = q + 1 := ⟨k - 1, by omega⟩
    have hb := metJ_bd (which - base) j
    have hr := ih (j + 1) k (by omega) (by omega) (by omega)
    have e : k + 1 - (n + 1) - 1 = k - n - 1 := by omega
    rw [metJ_succ] at hr
    simp only [symbolonlaw06_TermsWeights.l1]
    rw [e, if_pos (by omega), if_pos (by omega), w1 (x := (j : Int)) (by omega) (by omega), h j (by omega)]
    by_cases hd : which - base = (j : Int)
    · rw [if_pos hd] at hr
      rw [if_pos (by omega), w1 (by omega) (by omega)]
      exact hr
    · rw [if_neg hd, Int.add_zero] at hr
      rw [if_neg (by omega)]
      exact hr
/-- How often, among the first p places. -/
def metP (o hw p : Nat) : Nat := min (p - o * hw) hw
theorem metP_succ (o hw p : Nat) (h : 0 < hw) : metP o hw (p + 1) = metP o hw p + if p / hw = o then 1 else 0 := by
  unfold metP
  by_cases e : p / hw = o
  · rw [if_pos e]
    have h1 := Nat.div_add_mod p hw
    have h2 := Nat.mod_lt p h
    rw [e, Nat.mul_comm] at h1
    omega
  · rw [if_neg e, Nat.add_zero]
    rcases Nat.lt_or_ge p (o * hw) with h1 | h1
    · omega
    · have h2 : o ≤ p / hw := (Nat.le_div_iff_mul_le h).2 h1
      have h3 : (o + 1) * hw ≤ p := (Nat.le_div_iff_mul_le h).1 (by omega)
      rw [Nat.add_mul, Nat.one_mul] at h3
      omega
theorem weights_l0_ (S : S23) (l : List S40) (h0 : (Sy.allR S l).2 = 0) (i : Nat) (hi : i < l.length) (hk : (rd_T40 l (i : Int)).f0 = 1 ∨ (rd_T40 l (i : Int)).f0 = 4) (H W C T o r : Nat)
    (hH : (Sy.shp S l ((i : Int) + 1)).f1 = (H : Int)) (hW : (Sy.shp S l ((i : Int) + 1)).f2 = (W : Int)) (hC : (Sy.shp S l ((i : Int) + 1)).f0 = (C : Int)) (hT : Sy.lenT (rd_T40 l (i : Int)) (Sy.shp S l (i : Int)) = T) (ho : o < C) (hr : r < T) (hT8 : T ≤ 600) (hm8 : C * (H * W) ≤ 128) (which : Int) (hw : which = Sy.frm S l (i : Int) + (o : Int) * (T : Int) + (r : Int)) :
    ∀ (n p k : Nat), C * (H * W) - p = n → n * (T + 2) + 160 < k → p ≤ C * (H * W) →
    symbolonlaw06_TermsWeights.l0 k true (i : Int) ((C * (H * W) : Nat) : Int) which (S :: (Sy.stepsR S l).map (·.f2)) ((metP o (H * W) p : Nat) : Int) (p : Int) S.f0 S.f1 S.f2 l = some true := by
  obtain ⟨hl, hs, ht, hq, f3, f4, fr0, fr1⟩ := lay_ok h0 i hi
  have hsz : Sy.sizeI (Sy.shp S l ((i : Int) + 1)) = ((C * (H * W) : Nat) : Int) := by rw [size_mul ht, hH, hW, hC]; push_cast; rw [Int.mul_assoc]
  obtain ⟨⟨c1, c2⟩, ⟨b1, b2⟩, ⟨d1, d2⟩, -⟩ := right_bd ht
  have hl8 := len8 h0
  have hsl := shp_len h0
  have hHW : 0 < H * W := Nat.mul_pos (by omega) (by omega)
  intro n
  induction n with
  | zero =>
    intro p k hn hk2 hp
    obtain ⟨k, rfl⟩ : ∃ q, k = q + 1 := ⟨k - 1, by omega⟩
    obtain rfl : p = C * (H * W) := by omega
    simp only [symbolonlaw06_TermsWeights.l0]
    rw [if_neg (by omega), w1 (by omega) (by omega)]
    simp only [if_true, if_pos (show (0 : Int) ≤ (i : Int) + 1 by omega), if_pos (show ((i : Int) + 1) < ((S :: (Sy.stepsR S l).map (·.f2)).length : Int) by rw [hsl]; omega)]
    have e1 : metP o (H * W) (C * (H * W)) = H * W := by
      unfold metP
      have : (o + 1) * (H * W) ≤ C * (H * W) := Nat.mul_le_mul_right _ ho
      rw [Nat.add_mul, Nat.one_mul] at this
      omega
    have e2 : rd_T23 (S :: (Sy.stepsR S l).map (·.f2)) ((i : Int) + 1) = Sy.shp S l ((i : Int) + 1) := rfl
    have hb : H * W ≤ 144 := by have := Nat.mul_le_mul (show H ≤ 12 by omega) (show W ≤ 12 by omega); omega
    have e3 : wrap64 ((H : Int) * (W : Int)) = ((H * W : Nat) : Int) := by push_cast; unfold wrap64; rw [← Int.natCast_mul]; omega
    rw [e1, e2, hH, hW, e3, beq_self_eq_true]
  | succ n ih =>
    intro p k hn hk2 hp
    obtain ⟨k, rfl⟩ : ∃ q, k = q + 1 := ⟨k - 1, by omega⟩
    rw [Nat.add_mul, Nat.one_mul] at hk2
    have hpp : 0 ≤ (p : Int) ∧ (p : Int) < Sy.sizeI (Sy.shp S l ((i : Int) + 1)) := by rw [hsz]; omega
    have hTl : (Sy.termsT (rd_T40 l (i : Int)) (Sy.shp S l (i : Int)) (Sy.shp S l ((i : Int) + 1)) (Sy.frm S l (i : Int)) (p : Int)).length = T := by rw [terms_len, hT]
    have hch : (p : Int) / (Sy.shp S l ((i : Int) + 1)).f2 / (Sy.shp S l ((i : Int) + 1)).f1 = ((p / (H * W) : Nat) : Int) := by
      rw [hH, hW, Nat.mul_comm H W, ← Nat.div_div_eq_div_mul]; rfl
    have hmb : metP o (H * W) p ≤ 144 := by
      unfold metP
      have := Nat.mul_le_mul (show H ≤ 12 by omega) (show W ≤ 12 by omega)
      omega
    simp only [symbolonlaw06_TermsWeights.l0]
    rw [if_pos (by omega), terms_f _ _ _ _ _ (by omega), Option.bind_some, termsR_yes h0 i hi hpp]
    have hL : ∀ j, j < (Sy.termsT (rd_T40 l (i : Int)) (Sy.shp S l (i : Int)) (Sy.shp S l ((i : Int) + 1)) (Sy.frm S l (i : Int)) (p : Int)).length → (rd_T58 (Sy.termsT (rd_T40 l (i : Int)) (Sy.shp S l (i : Int)) (Sy.shp S l ((i : Int) + 1)) (Sy.frm S l (i : Int)) (p : Int)) (j : Int)).f1 = (Sy.frm S l (i : Int) + ((p / (H * W) : Nat) : Int) * (T : Int)) + (j : Int) := by
      intro j hj
      rw [term_w hs hl hq hpp hk j (by rw [hT, ← hTl]; exact hj), hch, hT]
    have := weights_l1 (i : Int) ((C * (H * W) : Nat) : Int) which (Sy.frm S l (i : Int) + ((p / (H * W) : Nat) : Int) * (T : Int)) ((metP o (H * W) p : Nat) : Int) (p : Int) (S :: (Sy.stepsR S l).map (·.f2)) _ S l (by omega) ⟨by omega, by omega⟩ ⟨by omega, by omega⟩ hL T 0 k (by omega) (by omega) (by omega)
    have e0 : metJ (which - (Sy.frm S l (i : Int) + ((p / (H * W) : Nat) : Int) * (T : Int))) 0 = 0 := by unfold metJ; rw [if_neg (by omega)]
    rw [e0] at this
    refine this.trans ?_
    have e2 : ((metP o (H * W) p : Nat) : Int) + metJ (which - (Sy.frm S l (i : Int) + ((p / (H * W) : Nat) : Int) * (T : Int))) (Sy.termsT (rd_T40 l (i : Int)) (Sy.shp S l (i : Int)) (Sy.shp S l ((i : Int) + 1)) (Sy.frm S l (i : Int)) (p : Int)).length = ((metP o (H * W) (p + 1) : Nat) : Int) := by
      rw [metP_succ _ _ _ hHW, hTl, hw]
      unfold metJ
      by_cases e : p / (H * W) = o
      · rw [if_pos e, e, if_pos (by omega)]; rfl
      · rw [if_neg e, if_neg]
        · rfl
        · rcases Nat.lt_or_gt_of_ne e with h | h
          · have : (p / (H * W) + 1) * T ≤ o * T := Nat.mul_le_mul_right T h
            rw [Nat.add_mul, Nat.one_mul] at this
            have : ((p / (H * W) * T : Nat) : Int) + (T : Int) ≤ ((o * T : Nat) : Int) := by omega
            push_cast at this
            omega
          · have : (o + 1) * T ≤ p / (H * W) * T := Nat.mul_le_mul_right T h
            rw [Nat.add_mul, Nat.one_mul] at this
            have : ((o * T : Nat) : Int) + (T : Int) ≤ ((p / (H * W) * T : Nat) : Int) := by omega
            push_cast at this
            omega
    rw [e2]
    exact ih (p + 1) (k - T - 1) (by omega) (by omega) (by omega)
theorem wts_len {x : S40} {s t : S23} (hs : Sy.rightB s = true) (hl : Sy.layerB x = true) (hq : Sy.outO s x = some t) (hk : x.f0 = 1 ∨ x.f0 = 4) : Sy.wts s x = t.f0 * (Sy.lenT x s : Int) := by
  have hz := size_bd hs
  obtain ⟨⟨a1, a2⟩, -, -, -⟩ := right_bd hs
  unfold Sy.wts Sy.lenT
  rcases hk with e | e
  · obtain ⟨t0, z1, -⟩ := conv_shape hq e
    rw [if_pos e, if_pos e, t0]
    push_cast
    rw [Int.toNat_of_nonneg (by omega), Int.toNat_of_nonneg (by omega)]
    simp only [Int.mul_assoc]
  · obtain ⟨t0, o1, o2⟩ := dense_shape hq e
    subst t0
    rw [if_neg (by omega), if_neg (by omega), if_neg (by omega), if_neg (by omega), if_pos e, Int.toNat_of_nonneg hz.1]
theorem termsWeights_f (S : S23) (l : List S40) (a : Int) (ha : 0 ≤ a ∧ a ≤ 255) (b : Int) (hb : 0 ≤ b ∧ b ≤ 65535) : symbolonlaw06_TermsWeights.f 2000 S.f0 S.f1 S.f2 l a b = some true := by
  obtain ⟨i, hi8, hmod⟩ := byte_mod ha
  unfold symbolonlaw06_TermsWeights.f symbolonlaw04_Great.f
  rw [head6, Option.bind_some, Option.bind_some, hmod]
  by_cases hg : decide ((l.length : Int) > 60) = true
  · rw [if_pos hg]
  · rw [if_neg hg]
    by_cases h : (Sy.allR S l).2 = 0 ∧ 0 ≤ (i : Int) ∧ (i : Int) < l.length
    · obtain ⟨h0, -, hi⟩ := h
      have hi : i < l.length := by omega
      obtain ⟨hl, hs, ht, hq, f3, f4, fr0, fr1⟩ := lay_ok h0 i hi
      have hlen := stepsR_len h0
      have hw : Sy.weightsR S l (i : Int) = (Sy.frm S l (i : Int), Sy.wts (Sy.shp S l (i : Int)) (rd_T40 l (i : Int))) := by
        unfold Sy.weightsR Sy.frm; rw [if_pos (by omega), f3]
      rw [sizes_yes h0 i hi _ (by omega), Option.bind_some, if_pos rfl]
      unfold h05_Weights.f h05_Shapes.f
      rw [Option.bind_some, show Sy.weightsR ⟨S.f0, S.f1, S.f2⟩ l (i : Int) = Sy.weightsR S l (i : Int) from rfl, hw, Option.bind_some, show Sy.shapesR ⟨S.f0, S.f1, S.f2⟩ l = Sy.shapesR S l from rfl, shapesR_ok h0]
      by_cases hm0 : Sy.wts (Sy.shp S l (i : Int)) (rd_T40 l (i : Int)) = 0
      · rw [if_pos hm0]
      · rw [if_neg hm0]
        have hk : (rd_T40 l (i : Int)).f0 = 1 ∨ (rd_T40 l (i : Int)).f0 = 4 := by
          rcases layer_kind'' hl with e | e | e | e
          · exact .inl e
          · exfalso; apply hm0; unfold Sy.wts; rw [if_neg (by omega), if_pos e]
          · exfalso; apply hm0; unfold Sy.wts; rw [if_neg (by omega), if_neg (by omega), if_pos e]
          · exact .inr e
        have hwl := wts_len hs hl hq hk
        have hpl := prods_le h0 i hi
        obtain ⟨⟨c1, c2⟩, ⟨b1, b2⟩, ⟨d1, d2⟩, d3⟩ := right_bd ht
        obtain ⟨C, hC⟩ := Int.eq_ofNat_of_zero_le (show 0 ≤ (Sy.shp S l ((i : Int) + 1)).f0 by omega)
        obtain ⟨H, hH⟩ := Int.eq_ofNat_of_zero_le (show 0 ≤ (Sy.shp S l ((i : Int) + 1)).f1 by omega)
        obtain ⟨W, hW⟩ := Int.eq_ofNat_of_zero_le (show 0 ≤ (Sy.shp S l ((i : Int) + 1)).f2 by omega)
        obtain ⟨T, hT⟩ : ∃ T, Sy.lenT (rd_T40 l (i : Int)) (Sy.shp S l (i : Int)) = T := ⟨_, rfl⟩
        rw [hT, hC, ← Int.natCast_mul] at hwl
        have hsz : Sy.sizeI (Sy.shp S l ((i : Int) + 1)) = ((C * (H * W) : Nat) : Int) := by rw [size_mul ht, hH, hW, hC]; push_cast; rw [Int.mul_assoc]
        rw [hsz, hT, ← Int.natCast_mul] at hpl
        have hHW : 1 ≤ H * W := Nat.mul_pos (by omega) (by omega)
        have hm8 : C * (H * W) ≤ 128 := by have := (size_bd ht).2; rw [hsz] at this; omega
        have hpl2 : C * (H * W) * T ≤ 512 := by omega
        have hT8 : T ≤ 512 := Nat.le_trans (Nat.le_mul_of_pos_left _ (Nat.mul_pos (by omega) hHW)) hpl2
        have hCT : 0 < C * T := by rcases Nat.eq_zero_or_pos (C * T) with h | h <;> omega
        have hT0 : 0 < T := Nat.pos_of_mul_pos_left hCT
        have hCT2 : C * T ≤ 8 * 512 := Nat.mul_le_mul (by omega) hT8
        have eb : wrap64 b = b := by unfold wrap64; omega
        have eq : Int.tmod b ((C * T : Nat) : Int) = ((b.toNat % (C * T) : Nat) : Int) := by
          rw [Int.tmod_eq_emod_of_nonneg hb.1]
          obtain ⟨bn, rfl⟩ := Int.eq_ofNat_of_zero_le hb.1
          rfl
        have hqlt : b.toNat % (C * T) < C * T := Nat.mod_lt _ hCT
        generalize b.toNat % (C * T) = q at *
        have hdm := Nat.div_add_mod q T
        have ho : q / T < C := Nat.div_lt_of_lt_mul (by rw [Nat.mul_comm]; exact hqlt)
        have hr := Nat.mod_lt q hT0
        have hwh : wrap64 (Sy.frm S l (i : Int) + (q : Int)) = Sy.frm S l (i : Int) + ((q / T : Nat) : Int) * (T : Int) + ((q % T : Nat) : Int) := by
          have e : (q : Int) = ((q / T : Nat) : Int) * (T : Int) + ((q % T : Nat) : Int) := by
            have := congrArg (Nat.cast : Nat → Int) hdm
            rw [Int.natCast_add, Int.natCast_mul, Int.mul_comm] at this
            exact this.symm
          rw [Int.add_assoc, ← e]
          unfold wrap64; omega
        have := weights_l0_ S l h0 i hi hk H W C T (q / T) (q % T) hH hW hC hT ho hr (by omega) hm8 _ hwh (C * (H * W)) 0 2000 (by omega) (by rw [Nat.mul_add]; omega) (by omega)
        rw [show metP (q / T) (H * W) 0 = 0 by unfold metP; omega] at this
        simp only [hwl, eb, eq, hsz]
        exact this
    · rw [sizes_no h _ (by omega), Option.bind_some, if_neg (by decide)]
end Go.Proofs.Ytnfcadjckoebkaa.P
