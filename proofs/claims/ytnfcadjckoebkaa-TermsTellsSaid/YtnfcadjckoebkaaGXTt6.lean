import Derived.Test.YtnfcadjckoebkaaGXTt5
namespace Go.Proofs.Ytnfcadjckoebkaa.P
open Go.RowKit Go.Proofs.YtnfcadjckoebkaaW.PrintWords Go.Proofs.YtnfcadjckoebkaaW.PrintLast Go.Proofs.YtnfcadjckoebkaaW.PrintMore
set_option linter.unusedSimpArgs false
set_option linter.unusedVariables false
theorem conv6_t {x : S40} {s t : S23} {fr p : Int} (hs : Sy.rightB s = true) (hl : Sy.layerB x = true) (hq : Sy.outO s x = some t) (k1 : x.f0 = 1) (hfr : 0 ≤ fr ∧ fr ≤ 100000) (hp : 0 ≤ p ∧ p < Sy.sizeI t) (k : Nat) (hk : 1700 < k) :
    symbolonref06_conv.f k s.f0 s.f1 s.f2 t.f0 t.f1 t.f2 x.f0 x.f1 x.f2 x.f3 fr p = some (Sy.convT x s t fr p) := by
  have ht := (out_bd hs hq).1
  obtain ⟨⟨a1, a2⟩, ⟨b1, b2⟩, ⟨c1, c2⟩, -⟩ := right_bd hs
  obtain ⟨⟨t1', t2'⟩, -, -, -⟩ := right_bd ht
  obtain ⟨t0, z1, z2, z3, p1, p2, t1, t2⟩ := conv_shape hq k1
  obtain ⟨⟨o1, o2⟩, ⟨y1, y2⟩, ⟨x1, x2⟩⟩ := of_bd ht hp.1 hp.2
  have hy := fit_le p1 t1 y2 y1
  have hx := fit_le p1 t2 x2 x1
  obtain ⟨pn, rfl⟩ := Int.eq_ofNat_of_zero_le hp.1
  unfold symbolonref06_conv.f Sy.convT
  rw [of2_at ht pn hp.2 k hk, Option.bind_some]
  dsimp only
  generalize (pn : Int) / t.f2 / t.f1 = oo at *
  generalize (pn : Int) / t.f2 % t.f1 = yy at *
  generalize (pn : Int) % t.f2 = xx at *
  obtain ⟨sz, hsz⟩ := Int.eq_ofNat_of_zero_le (show 0 ≤ x.f2 by omega)
  obtain ⟨sp, hsp⟩ := Int.eq_ofNat_of_zero_le (show 0 ≤ x.f3 by omega)
  obtain ⟨o, rfl⟩ := Int.eq_ofNat_of_zero_le o1
  obtain ⟨y, rfl⟩ := Int.eq_ofNat_of_zero_le y1
  obtain ⟨xc, rfl⟩ := Int.eq_ofNat_of_zero_le x1
  obtain ⟨C, hC⟩ := Int.eq_ofNat_of_zero_le (show 0 ≤ s.f0 by omega)
  obtain ⟨H, hH⟩ := Int.eq_ofNat_of_zero_le (show 0 ≤ s.f1 by omega)
  obtain ⟨W, hW⟩ := Int.eq_ofNat_of_zero_le (show 0 ≤ s.f2 by omega)
  rw [hsz, hsp, hH] at hy
  rw [hsz, hsp, hW] at hx
  have hy' : y * sp + sz ≤ H := by exact_mod_cast hy
  have hx' : xc * sp + sz ≤ W := by exact_mod_cast hx
  have := conv6_f s x.f0 x.f1 C H W sz sp o y xc fr hs hC hH hW (by omega) (by omega) (by omega) hfr (by omega) (by omega) hy' hx' k hk
  have e : s.f0.toNat = C := by rw [hC]; rfl
  rw [hsz, hsp, e]
  exact this
theorem dense6_l0 (m : Nat) (fr p : Int) (hm : m ≤ 128) (hfr : 0 ≤ fr ∧ fr ≤ 100000) (hp : 0 ≤ p ∧ p ≤ 128) : ∀ (n i k : Nat), m - i = n → n < k → i ≤ m →
    symbolonref06_Terms.l0 k p fr (Sy.denseL m fr p i) (m : Int) (i : Int) = some (Sy.denseL m fr p m) := by
  have hpm := mulB (a := p) (b := (m : Int)) (A := 128) (B := 128) hp ⟨by omega, by omega⟩
  intro n
  induction n with
  | zero =>
    intro i k hd hk hi
    obtain ⟨k, rfl⟩ : ∃ q, k = q + 1 := ⟨k - 1, by omega⟩
    obtain rfl : i = m := by omega
    simp only [symbolonref06_Terms.l0]
    rw [if_neg (by omega)]
  | succ n ih =>
    intro i k hd hk hi
    obtain ⟨k, rfl⟩ : ∃ q, k = q + 1 := ⟨k - 1, by omega⟩
    have hl : (Sy.denseL m fr p i).length = i := by simp [Sy.denseL]
    have e : wrap64 (wrap64 (fr + wrap64 (p * (m : Int))) + (i : Int)) = fr + p * (m : Int) + (i : Int) := by
      rw [wrapB hpm (by decide)]; unfold wrap64; omega
    have e2 : Sy.denseL m fr p i ++ [(⟨(i : Int), fr + p * (m : Int) + (i : Int)⟩ : S58)] = Sy.denseL m fr p (i + 1) := by simp [Sy.denseL, List.range_succ]
    simp only [symbolonref06_Terms.l0]
    rw [if_pos (by omega), if_pos (by omega), e, e2, w1 (by omega) (by omega)]
    exact ih (i + 1) k (by omega) (by omega) (by omega)
theorem weights_at {S : S23} {l : List S40} (h0 : (Sy.allR S l).2 = 0) (i : Nat) (hi : i < l.length) : h05_Weights.f S.f0 S.f1 S.f2 l (i : Int) = some (Sy.frm S l (i : Int), Sy.wts (Sy.shp S l (i : Int)) (rd_T40 l (i : Int))) := by
  have f3 := (lay_ok h0 i hi).2.2.2.2.1
  have hlen := stepsR_len h0
  unfold h05_Weights.f
  rw [show Sy.weightsR ⟨S.f0, S.f1, S.f2⟩ l (i : Int) = Sy.weightsR S l (i : Int) from rfl]
  unfold Sy.weightsR Sy.frm
  rw [if_pos (by omega), f3]
theorem terms6_f (S : S23) (l : List S40) (i p : Int) (hl64 : l.length ≤ 1000) (k : Nat) (hk : 1800 < k) : symbolonref06_Terms.f k S.f0 S.f1 S.f2 l i p = some (Sy.termsR S l i p) := by
  obtain ⟨k, rfl⟩ : ∃ q, k = q + 1 := ⟨k - 1, by omega⟩
  unfold symbolonref06_Terms.f h05_Shapes.f
  rw [Option.bind_some, show Sy.shapesR ⟨S.f0, S.f1, S.f2⟩ l = Sy.shapesR S l from rfl]
  by_cases h : (Sy.allR S l).2 = 0 ∧ 0 ≤ i ∧ i < l.length
  · obtain ⟨h0, hi0, hi1⟩ := h
    obtain ⟨n, rfl⟩ := Int.eq_ofNat_of_zero_le hi0
    have hi : n < l.length := by omega
    obtain ⟨hl, hs, ht, hq, -, -, fr0, fr1⟩ := lay_ok h0 n hi
    have hsl := shp_len h0
    have h8 := len8 h0
    have er : rd_T23 (S :: (Sy.stepsR S l).map (·.f2)) ((n : Int) + 1) = Sy.shp S l ((n : Int) + 1) := rfl
    have er0 : rd_T23 (S :: (Sy.stepsR S l).map (·.f2)) (n : Int) = Sy.shp S l (n : Int) := rfl
    rw [shapesR_ok h0, if_pos rfl, if_neg (by omega), if_neg (by omega)]
    by_cases hp0 : p < 0
    · rw [if_pos hp0, termsR_out (by omega)]
      simp only [symbolonref06_Terms.j0]
      rfl
    · rw [if_neg hp0, w1 (by omega) (by omega), if_pos (by omega), if_pos (by rw [hsl]; omega), er]
      unfold h02_Size.f
      rw [Option.bind_some, show Sy.sizeI ⟨(Sy.shp S l ((n : Int) + 1)).f0, (Sy.shp S l ((n : Int) + 1)).f1, (Sy.shp S l ((n : Int) + 1)).f2⟩ = Sy.sizeI (Sy.shp S l ((n : Int) + 1)) from rfl]
      by_cases hp1 : p ≥ Sy.sizeI (Sy.shp S l ((n : Int) + 1))
      · rw [decide_eq_true hp1, termsR_out (by omega)]
        simp only [symbolonref06_Terms.j0]
        rfl
      · have hpp : 0 ≤ p ∧ p < Sy.sizeI (Sy.shp S l ((n : Int) + 1)) := by omega
        rw [decide_eq_false hp1, termsR_yes h0 n hi hpp]
        simp only [symbolonref06_Terms.j0]
        rw [if_neg (by decide), weights_at h0 n hi, Option.bind_some, if_pos (by omega), if_pos (by omega)]
        unfold Sy.termsT
        by_cases k1 : (rd_T40 l (n : Int)).f0 = 1
        · rw [if_pos k1, if_pos k1, if_pos (by rw [hsl]; omega), w1 (by omega) (by omega), if_pos (by omega), if_pos (by rw [hsl]; omega), er, er0, conv6_t hs hl hq k1 ⟨fr0, fr1⟩ hpp k (by omega)]
          rfl
        · rw [if_neg k1, if_neg k1]
          by_cases k2 : (rd_T40 l (n : Int)).f0 = 2
          · rw [if_pos k2, if_neg (by omega), if_pos k2]
          · rw [if_neg k2]
            by_cases k3 : (rd_T40 l (n : Int)).f0 = 3
            · rw [if_pos k3, if_neg (by omega), if_neg k2]
            · have k4 : (rd_T40 l (n : Int)).f0 = 4 := by rcases layer_kind'' hl with e | e | e | e <;> omega
              have hz := size_bd hs
              have hzt := size_bd ht
              rw [if_neg k3, if_pos k4, if_pos (by rw [hsl]; omega), er0]
              unfold h02_Size.f
              rw [Option.bind_some, show Sy.sizeI ⟨(Sy.shp S l (n : Int)).f0, (Sy.shp S l (n : Int)).f1, (Sy.shp S l (n : Int)).f2⟩ = Sy.sizeI (Sy.shp S l (n : Int)) from rfl]
              obtain ⟨m, hm⟩ := Int.eq_ofNat_of_zero_le hz.1
              rw [hm]
              exact dense6_l0 m _ p (by omega) ⟨fr0, fr1⟩ ⟨by omega, by omega⟩ m 0 k (by omega) (by omega) (by omega)
  · rw [termsR_no h, shapesR_e]
    by_cases h0 : (Sy.allR S l).2 = 0
    · rw [if_pos h0]
      by_cases hi0 : i < 0
      · rw [if_pos hi0]
        simp only [symbolonref06_Terms.j0]
        rfl
      · rw [if_neg hi0, if_pos (by omega)]
        simp only [symbolonref06_Terms.j0]
        rfl
    · rw [if_neg h0]
      simp only [symbolonref06_Terms.j0]
      rfl
theorem sameTerms_l (xs : List S58) (hx : xs.length ≤ 1000) : ∀ (n i k : Nat), xs.length - i = n → n < k → i ≤ xs.length → symbolonref06_SameTerms.l0 k xs xs (i : Int) = some true := by
  intro n
  induction n with
  | zero =>
    intro i k hn hk hi
    obtain ⟨k, rfl⟩ : ∃ q, k = q + 1 := ⟨k - 1, by omega⟩
    simp only [symbolonref06_SameTerms.l0]
    rw [if_neg (by omega)]
  | succ n ih =>
    intro i k hn hk hi
    obtain ⟨k, rfl⟩ : ∃ q, k = q + 1 := ⟨k - 1, by omega⟩
    simp only [symbolonref06_SameTerms.l0, beq_self_eq_true, Bool.not_true, Bool.or_false]
    rw [if_pos (by omega), if_pos (by omega), if_pos (by omega), if_neg (by decide), w1 (by omega) (by omega)]
    exact ih (i + 1) k (by omega) (by omega) (by omega)
theorem sameTerms_f (xs : List S58) (hx : xs.length ≤ 1000) (k : Nat) (hk : 1000 < k) : symbolonref06_SameTerms.f k xs xs = some true := by
  unfold symbolonref06_SameTerms.f
  rw [if_pos rfl]
  exact sameTerms_l xs hx xs.length 0 k (by omega) (by omega) (by omega)
theorem sameInts_l (xs : List Int) (hx : xs.length ≤ 1000) : ∀ (n i k : Nat), xs.length - i = n → n < k → i ≤ xs.length → symbolonref06_SameInts.l0 k xs xs (i : Int) = some true := by
  intro n
  induction n with
  | zero =>
    intro i k hn hk hi
    obtain ⟨k, rfl⟩ : ∃ q, k = q + 1 := ⟨k - 1, by omega⟩
    simp only [symbolonref06_SameInts.l0]
    rw [if_neg (by omega)]
  | succ n ih =>
    intro i k hn hk hi
    obtain ⟨k, rfl⟩ : ∃ q, k = q + 1 := ⟨k - 1, by omega⟩
    simp only [symbolonref06_SameInts.l0]
    rw [if_pos (by omega), if_pos (by omega), if_pos (by omega), if_pos trivial, w1 (by omega) (by omega)]
    exact ih (i + 1) k (by omega) (by omega) (by omega)
theorem sameInts_f (xs : List Int) (hx : xs.length ≤ 1000) (k : Nat) (hk : 1000 < k) : symbolonref06_SameInts.f k xs xs = some true := by
  unfold symbolonref06_SameInts.f
  rw [if_pos rfl]
  exact sameInts_l xs hx xs.length 0 k (by omega) (by omega) (by omega)
end Go.Proofs.Ytnfcadjckoebkaa.P
