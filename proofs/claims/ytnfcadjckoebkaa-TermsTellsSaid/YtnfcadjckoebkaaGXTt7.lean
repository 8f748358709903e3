import Derived.Test.YtnfcadjckoebkaaGXTt6
import Derived.Test.YtnfcadjckoebkaaGXTt3
namespace Go.Proofs.Ytnfcadjckoebkaa.P
open Go.RowKit Go.Proofs.YtnfcadjckoebkaaW.PrintWords Go.Proofs.YtnfcadjckoebkaaW.PrintLast Go.Proofs.YtnfcadjckoebkaaW.PrintMore
set_option linter.unusedSimpArgs false
set_option linter.unusedVariables false
theorem partL_succ (s : S23) (z c y x n : Nat) : Sy.partL s z c y x (n + 1) = Sy.partL s z c y x n ++ [Sy.atI s (c : Int) ((y * z + n / z : Nat) : Int) ((x * z + n % z : Nat) : Int)] := by simp [Sy.partL, List.range_succ]
theorem partL_len (s : S23) (z c y x n : Nat) : (Sy.partL s z c y x n).length = n := by simp [Sy.partL]
section
variable (s : S23) (i : Int) (SH : List S23) (C H W z o y x : Nat) (hs : Sy.rightB s = true) (hSH : rd_T23 SH i = s) (hi0 : 0 ≤ i) (hi1 : i < (SH.length : Int)) (h0 : s.f0 = (C : Int)) (h1 : s.f1 = (H : Int)) (h2 : s.f2 = (W : Int)) (hW : W ≤ 12) (hH : H ≤ 12) (ho : o < C) (hz12 : z ≤ 12) (hy : y * z + z ≤ H) (hx : x * z + z ≤ W)
include hs hSH hi0 hi1 h0 h1 h2 hW hH ho hz12 hy hx
theorem parts6_col (q b : Nat) (R : Option (List Int)) (hq : q < z) (hR : ∀ k, b < k → symbolonref06_Parts.l0 k i SH (o : Int) (y : Int) (x : Int) true (Sy.partL s z o y x ((q + 1) * z)) (z : Int) ((q : Int) + 1) = R) :
      ∀ (n r k : Nat), z - r = n → b + n + 1 < k → r ≤ z → symbolonref06_Parts.l1 k i SH (o : Int) (y : Int) (x : Int) true (Sy.partL s z o y x (q * z + r)) (z : Int) (q : Int) (r : Int) = R := by
  intro n
  have hqz : (q + 1) * z ≤ z * z := Nat.mul_le_mul_right z hq
  have hzz : z * z ≤ 144 := Nat.mul_le_mul hz12 hz12
  rw [Nat.add_mul, Nat.one_mul] at hqz
  induction n with
  | zero =>
    intro r k hn hk hr
    obtain ⟨k, rfl⟩ : ∃ m, k = m + 1 := ⟨k - 1, Nat.eq_add_of_sub_eq (Nat.le_trans (Nat.le_add_left 1 _) (Nat.le_of_lt hk)) rfl⟩
    have hr' : r = z := Nat.le_antisymm hr (Nat.le_of_sub_eq_zero hn)
    subst hr'
    simp only [symbolonref06_Parts.l1]
    rw [if_neg (Int.lt_irrefl _), w1 (Int.natCast_nonneg _) (by clear hk hR hqz hzz hy hx; omega)]
    have := hR k (by clear hR hqz hzz hy hx; omega)
    rw [Nat.add_mul, Nat.one_mul] at this
    exact this
  | succ n ih =>
    intro r k hn hk hr
    obtain ⟨k, rfl⟩ : ∃ m, k = m + 1 := ⟨k - 1, by clear hR hqz hzz hy hx ih; omega⟩
    have hr' : r < z := by clear hR hqz hzz hy hx ih hk; omega
    have m1 : y * z + q < H := Nat.lt_of_lt_of_le (Nat.add_lt_add_left hq _) hy
    have m2 : x * z + r < W := Nat.lt_of_lt_of_le (Nat.add_lt_add_left hr' _) hx
    have b1 : y * z + q ≤ 1000000 := Nat.le_trans (Nat.le_of_lt m1) (Nat.le_trans hH (by decide))
    have b2 : x * z + r ≤ 1000000 := Nat.le_trans (Nat.le_of_lt m2) (Nat.le_trans hW (by decide))
    have ey : wrap64 ((wrap64 ((y : Int) * (z : Int))) + (q : Int)) = ((y * z + q : Nat) : Int) := by rw [wr_mul _ _ (Nat.le_trans (Nat.le_add_right _ _) b1), wr_add _ _ b1]
    have ex : wrap64 ((wrap64 ((x : Int) * (z : Int))) + (r : Int)) = ((x * z + r : Nat) : Int) := by rw [wr_mul _ _ (Nat.le_trans (Nat.le_add_right _ _) b2), wr_add _ _ b2]
    have hl : (Sy.partL s z o y x (q * z + r)).length < 17592186044416 := by
      rw [partL_len]
      have : q * z + r ≤ 144 := Nat.le_trans (Nat.add_le_add_left hr _) (Nat.le_trans hqz hzz)
      exact Nat.lt_of_le_of_lt this (by decide)
    have en : Sy.partL s z o y x (q * z + r) ++ [(((o * H + (y * z + q)) * W + (x * z + r) : Nat) : Int)] = Sy.partL s z o y x (q * z + (r + 1)) := by
      obtain ⟨d1, d2⟩ := dmod q r z hr'
      rw [show q * z + (r + 1) = q * z + r + 1 from rfl, partL_succ, d1, d2]
      unfold Sy.atI
      rw [h1, h2]
      push_cast
      rfl
    simp only [symbolonref06_Parts.l1]
    rw [if_pos (Int.ofNat_lt.2 hr'), if_pos hi0, if_pos hi1, hSH, ey, ex, at2_f s C H W o _ _ hs h0 h1 h2 ho m1 m2, Option.bind_some, if_pos hl, en, w1 (x := (r : Int)) (Int.natCast_nonneg _) (by clear hR hqz hzz hy hx ih hk m1 m2 b1 b2 ey ex hl en; omega)]
    exact ih (r + 1) k (by clear hR hqz hzz hy hx ih hk m1 m2 b1 b2 ey ex hl en; omega) (by clear hR hqz hzz hy hx ih m1 m2 b1 b2 ey ex hl en; omega) hr'
theorem parts6_row : ∀ (n q k : Nat), z - q = n → n * (z + 3) + 3 < k → q ≤ z → symbolonref06_Parts.l0 k i SH (o : Int) (y : Int) (x : Int) true (Sy.partL s z o y x (q * z)) (z : Int) (q : Int) = some (Sy.partL s z o y x (z * z)) := by
  intro n
  induction n with
  | zero =>
    intro q k hn hk hq
    obtain ⟨k, rfl⟩ : ∃ m, k = m + 2 := ⟨k - 2, by clear hy hx; omega⟩
    have hq' : q = z := Nat.le_antisymm hq (Nat.le_of_sub_eq_zero hn)
    subst hq'
    simp only [symbolonref06_Parts.l0, symbolonref06_Parts.j2]
    rw [if_neg (Int.lt_irrefl _), if_neg (by decide)]
  | succ n ih =>
    intro q k hn hk hq
    obtain ⟨k, rfl⟩ : ∃ m, k = m + 2 := ⟨k - 2, by clear hy hx ih; omega⟩
    rw [Nat.add_mul, Nat.one_mul] at hk
    have hq' : q < z := by clear hy hx ih hk; omega
    simp only [symbolonref06_Parts.l0, symbolonref06_Parts.j2]
    rw [if_pos (Int.ofNat_lt.2 hq'), if_pos trivial]
    generalize hB : n * (z + 3) + 3 = B at *
    have hk2 : B + z + 1 < k := by clear ih hy hx; omega
    exact parts6_col s i SH C H W z o y x hs hSH hi0 hi1 h0 h1 h2 hW hH ho hz12 hy hx q B _ hq' (fun k hk => ih (q + 1) k (by clear ih hB hk2 hy hx; omega) hk hq') z 0 k (Nat.sub_zero _) hk2 (Nat.zero_le _)
end
theorem parts6_f (S : S23) (l : List S40) (i p : Int) (k : Nat) (hk : 1800 < k) : symbolonref06_Parts.f k S.f0 S.f1 S.f2 l i p = some (Sy.partsR S l i p) := by
  obtain ⟨k, rfl⟩ : ∃ q, k = q + 1 := ⟨k - 1, by omega⟩
  unfold symbolonref06_Parts.f h05_Shapes.f
  rw [Option.bind_some, show Sy.shapesR ⟨S.f0, S.f1, S.f2⟩ l = Sy.shapesR S l from rfl]
  unfold Sy.partsR
  by_cases h : (Sy.allR S l).2 = 0 ∧ 0 ≤ i ∧ i < l.length
  · rw [if_pos h]
    obtain ⟨h0, hi0, hi1⟩ := h
    obtain ⟨n, rfl⟩ := Int.eq_ofNat_of_zero_le hi0
    have hi : n < l.length := by omega
    obtain ⟨hl, hs, ht, hq, -, -, fr0, fr1⟩ := lay_ok h0 n hi
    have hsl := shp_len h0
    have h8 := len8 h0
    have er : rd_T23 (S :: (Sy.stepsR S l).map (·.f2)) ((n : Int) + 1) = Sy.shp S l ((n : Int) + 1) := rfl
    have er0 : rd_T23 (S :: (Sy.stepsR S l).map (·.f2)) (n : Int) = Sy.shp S l (n : Int) := rfl
    rw [shapesR_ok h0, if_pos rfl, if_neg (by omega), if_neg (by omega), if_pos (by omega), if_pos (by omega)]
    by_cases k3 : (rd_T40 l (n : Int)).f0 = 3
    · have e3 : ((rd_T40 l (n : Int)).f0 != 3) = false := by rw [k3]; rfl
      rw [e3]
      simp only [symbolonref06_Parts.j0]
      rw [if_neg (by decide), w1 (by omega) (by omega), if_pos (by omega), if_pos (by rw [hsl]; omega), er]
      by_cases hp : 0 ≤ p ∧ p < Sy.sizeI (Sy.shp S l ((n : Int) + 1))
      · obtain ⟨pn, rfl⟩ := Int.eq_ofNat_of_zero_le hp.1
        rw [if_pos ⟨k3, hp⟩, of2_at ht pn hp.2 k (by omega), Option.bind_some, if_pos (by omega), if_pos (by omega)]
        dsimp only
        obtain ⟨C, h, w, z, g⟩ := pool_n hs hq k3
        obtain ⟨⟨o1, o2⟩, ⟨y1, y2⟩, ⟨x1, x2⟩⟩ := of_bd ht hp.1 hp.2
        obtain ⟨⟨a1, a2⟩, ⟨b1, b2⟩, ⟨c1, c2⟩, -⟩ := right_bd hs
        unfold Sy.partsT
        have ez : (rd_T40 l (n : Int)).f2.toNat = z := by rw [g.x2]; rfl
        rw [ez, g.x2]
        rw [g.t2, g.t1] at o1 o2 y1 y2
        rw [g.t2] at x1 x2
        rw [g.t0] at o2
        rw [g.t2, g.t1]
        generalize (pn : Int) / (w : Int) / (h : Int) = oo at *
        generalize (pn : Int) / (w : Int) % (h : Int) = yy at *
        generalize (pn : Int) % (w : Int) = xx at *
        obtain ⟨o, rfl⟩ := Int.eq_ofNat_of_zero_le o1
        obtain ⟨y, rfl⟩ := Int.eq_ofNat_of_zero_le y1
        obtain ⟨xc, rfl⟩ := Int.eq_ofNat_of_zero_le x1
        have hy : y * z + z ≤ h * z := by
          have := Nat.mul_le_mul_right z (show y + 1 ≤ h by omega)
          rw [Nat.add_mul, Nat.one_mul] at this
          exact this
        have hx : xc * z + z ≤ w * z := by
          have := Nat.mul_le_mul_right z (show xc + 1 ≤ w by omega)
          rw [Nat.add_mul, Nat.one_mul] at this
          exact this
        have hH : h * z ≤ 12 := by have := g.s1; omega
        have hW : w * z ≤ 12 := by have := g.s2; omega
        have hzz : z * (z + 3) ≤ 180 := Nat.mul_le_mul g.z12 (Nat.add_le_add_right g.z12 3)
        have := parts6_row (Sy.shp S l (n : Int)) (n : Int) (S :: (Sy.stepsR S l).map (·.f2)) C (h * z) (w * z) z o y xc hs er0 (by omega) (by rw [hsl]; omega) g.s0 g.s1 g.s2 hW hH (by omega) g.z12 hy hx z 0 k (Nat.sub_zero _) (by clear hy hx hH hW; omega) (Nat.zero_le _)
        rw [Nat.zero_mul] at this
        exact this
      · rw [if_neg (fun hh => hp hh.2), of2_no ht p hp k (by omega), Option.bind_some, if_pos (by omega), if_pos (by omega)]
        obtain ⟨k, rfl⟩ : ∃ q, k = q + 2 := ⟨k - 2, by omega⟩
        simp only [symbolonref06_Parts.l0, symbolonref06_Parts.j2]
        by_cases hc : (0 : Int) < (rd_T40 l (n : Int)).f2
        · rw [if_pos hc, if_neg (by decide)]
        · rw [if_neg hc, if_neg (by decide)]
    · have e3 : ((rd_T40 l (n : Int)).f0 != 3) = true := by rw [bne_iff_ne]; exact k3
      rw [e3, if_neg (fun hh => k3 hh.1)]
      simp only [symbolonref06_Parts.j0]
      rfl
  · rw [if_neg h, shapesR_e]
    by_cases h0 : (Sy.allR S l).2 = 0
    · rw [if_pos h0]
      by_cases hi0 : i < 0
      · rw [if_pos hi0]
        simp only [symbolonref06_Parts.j0]
        rfl
      · rw [if_neg hi0, if_pos (by omega)]
        simp only [symbolonref06_Parts.j0]
        rfl
    · rw [if_neg h0]
      simp only [symbolonref06_Parts.j0]
      rfl
theorem termsR_len (S : S23) (l : List S40) (i p : Int) : (Sy.termsR S l i p).length ≤ 1000 := by
  unfold Sy.termsR
  by_cases h : (Sy.allR S l).2 = 0 ∧ 0 ≤ i ∧ i < l.length
  · rw [if_pos h]
    obtain ⟨h0, hi0, hi1⟩ := h
    obtain ⟨n, rfl⟩ := Int.eq_ofNat_of_zero_le hi0
    obtain ⟨hl, hs, ht, hq, -⟩ := lay_ok h0 n (by omega)
    split
    · rw [terms_len]; have := lenT_le hs hl hq; omega
    · decide
  · rw [if_neg h]; decide
theorem partsR_len (S : S23) (l : List S40) (i p : Int) : (Sy.partsR S l i p).length ≤ 1000 := by
  unfold Sy.partsR
  by_cases h : (Sy.allR S l).2 = 0 ∧ 0 ≤ i ∧ i < l.length
  · rw [if_pos h]
    obtain ⟨h0, hi0, hi1⟩ := h
    obtain ⟨n, rfl⟩ := Int.eq_ofNat_of_zero_le hi0
    obtain ⟨hl, hs, ht, hq, -⟩ := lay_ok h0 n (by omega)
    split
    · rename_i hh
      obtain ⟨C, h, w, z, g⟩ := pool_n hs hq hh.1
      rw [partsT_len, g.x2, Int.toNat_natCast]
      have := Nat.mul_le_mul g.z12 g.z12
      omega
    · decide
  · rw [if_neg h]; decide
theorem termsTells_f (S : S23) (l : List S40) (i p : Int) : symbolonlaw06_TermsTells.f 4000 S.f0 S.f1 S.f2 l i p = some true := by
  unfold symbolonlaw06_TermsTells.f symbolonlaw04_Great.f
  rw [show (4000 : Nat) = 2000 + 2000 from rfl, head6_, Option.bind_some, Option.bind_some]
  by_cases hg : decide ((l.length : Int) > 60) = true
  · rw [if_pos hg]
  · rw [if_neg hg, if_pos rfl]
    have hl : l.length ≤ 60 := by rw [decide_eq_true_eq] at hg; omega
    rw [terms_f _ _ _ _ _ (by omega), Option.bind_some, terms6_f _ _ _ _ (by omega) _ (by omega), Option.bind_some, sameTerms_f _ (termsR_len _ _ _ _) _ (by omega), Option.bind_some, if_pos rfl]
    unfold terms_Parts.f
    rw [Option.bind_some, parts6_f _ _ _ _ _ (by omega), Option.bind_some, show Sy.partsR ⟨S.f0, S.f1, S.f2⟩ l i p = Sy.partsR S l i p from rfl, sameInts_f _ (partsR_len _ _ _ _) _ (by omega)]
    rfl
end Go.Proofs.Ytnfcadjckoebkaa.P
