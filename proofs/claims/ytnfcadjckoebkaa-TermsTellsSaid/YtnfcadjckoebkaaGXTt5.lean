import Derived.Test.YtnfcadjckoebkaaGXTt4
import Derived.Test.YtnfcadjckoebkaaGXFsymbolonlaw06TermsTells
namespace Go.Proofs.Ytnfcadjckoebkaa.P
open Go.RowKit Go.Proofs.YtnfcadjckoebkaaW.PrintWords Go.Proofs.YtnfcadjckoebkaaW.PrintLast Go.Proofs.YtnfcadjckoebkaaW.PrintMore
set_option linter.unusedSimpArgs false
set_option linter.unusedVariables false
theorem of2_no {s : S23} (hs : Sy.rightB s = true) (p : Int) (hp : ¬ (0 ≤ p ∧ p < Sy.sizeI s)) (k : Nat) (hk : 1700 < k) : symbolonref02_Of.f k s.f0 s.f1 s.f2 p = some (0, 0, 0, false) := by
  obtain ⟨⟨a1, a2⟩, ⟨b1, b2⟩, ⟨c1, c2⟩, -⟩ := right_bd hs
  obtain ⟨C, h0⟩ := Int.eq_ofNat_of_zero_le (show 0 ≤ s.f0 by omega)
  obtain ⟨H, h1⟩ := Int.eq_ofNat_of_zero_le (show 0 ≤ s.f1 by omega)
  obtain ⟨W, h2⟩ := Int.eq_ofNat_of_zero_le (show 0 ≤ s.f2 by omega)
  have col : ∀ (c y b : Nat) (R : Option (Int × Int × Int × Bool)), c < C → y < H → (∀ k, b < k → symbolonref02_Of.l1 k p (c : Int) ((y : Int) + 1) s.f0 s.f1 s.f2 = R) →
      ∀ (n x k : Nat), W - x = n → b + n + 1 < k → x ≤ W → symbolonref02_Of.l2 k p (c : Int) (y : Int) (x : Int) s.f0 s.f1 s.f2 = R := by
    intro c y b R hc hy hR n
    induction n with
    | zero =>
      intro x k hn hk hx
      obtain ⟨k, rfl⟩ : ∃ m, k = m + 1 := ⟨k - 1, by omega⟩
      simp only [symbolonref02_Of.l2]
      rw [if_neg (by omega), w1 (by omega) (by omega)]
      exact hR k (by omega)
    | succ n ih =>
      intro x k hn hk hx
      obtain ⟨k, rfl⟩ : ∃ m, k = m + 1 := ⟨k - 1, by omega⟩
      simp only [symbolonref02_Of.l2]
      have hx' : x < W := by omega
      have hb := atI_bd (s := s) (c := (c : Int)) (y := (y : Int)) (x := (x : Int)) hs ⟨by omega, by omega⟩ ⟨by omega, by omega⟩ ⟨by omega, by omega⟩
      have he : Sy.atI s (c : Int) (y : Int) (x : Int) = (((c * H + y) * W + x : Nat) : Int) := by unfold Sy.atI; rw [h1, h2]; push_cast; rfl
      rw [he] at hb
      rw [if_pos (by omega), at2_f s C H W c y x hs h0 h1 h2 hc hy hx', Option.bind_some, if_neg (by intro h; rw [← h] at hp; exact hp hb), w1 (by omega) (by omega)]
      exact ih (x + 1) k (by omega) (by omega) (by omega)
  have row : ∀ (c b : Nat) (R : Option (Int × Int × Int × Bool)), c < C → (∀ k, b < k → symbolonref02_Of.l0 k p ((c : Int) + 1) s.f0 s.f1 s.f2 = R) →
      ∀ (n y k : Nat), H - y = n → b + n * (W + 2) + 1 < k → y ≤ H → symbolonref02_Of.l1 k p (c : Int) (y : Int) s.f0 s.f1 s.f2 = R := by
    intro c b R hc hR n
    induction n with
    | zero =>
      intro y k hn hk hy
      obtain ⟨k, rfl⟩ : ∃ m, k = m + 1 := ⟨k - 1, by omega⟩
      simp only [symbolonref02_Of.l1]
      rw [if_neg (by omega), w1 (by omega) (by omega)]
      exact hR k (by omega)
    | succ n ih =>
      intro y k hn hk hy
      obtain ⟨k, rfl⟩ : ∃ m, k = m + 1 := ⟨k - 1, by omega⟩
      rw [Nat.add_mul, Nat.one_mul] at hk
      simp only [symbolonref02_Of.l1]
      rw [if_pos (by omega)]
      generalize hB : b + n * (W + 2) + 1 = B at *
      exact col c y B R hc (by omega) (fun k hk => ih (y + 1) k (by omega) (by omega) (by omega)) W 0 k (by omega) (by omega) (by omega)
  have chan : ∀ (n c k : Nat), C - c = n → n * (H * (W + 2) + 4) + 4 < k → c ≤ C → symbolonref02_Of.l0 k p (c : Int) s.f0 s.f1 s.f2 = some (0, 0, 0, false) := by
    intro n
    induction n with
    | zero =>
      intro c k hn hk hc
      obtain ⟨k, rfl⟩ : ∃ m, k = m + 2 := ⟨k - 2, by omega⟩
      simp only [symbolonref02_Of.l0, symbolonref02_Of.j1]
      rw [if_neg (by omega), if_neg (by decide)]
    | succ n ih =>
      intro c k hn hk hc
      obtain ⟨k, rfl⟩ : ∃ m, k = m + 2 := ⟨k - 2, by omega⟩
      rw [Nat.add_mul, Nat.one_mul] at hk
      simp only [symbolonref02_Of.l0, symbolonref02_Of.j1]
      unfold h02_Right.f
      rw [if_pos (by omega), Option.bind_some, show Sy.rightB ⟨s.f0, s.f1, s.f2⟩ = true from hs, if_pos rfl]
      generalize hB : n * (H * (W + 2) + 4) + 4 = B at *
      exact row c B _ (by omega) (fun k hk => ih (c + 1) k (by omega) (by omega) (by omega)) H 0 k (by omega) (by omega) (by omega)
  have g1 : H * (W + 2) ≤ 12 * 14 := Nat.mul_le_mul (by omega) (by omega)
  have g2 : C * (H * (W + 2) + 4) ≤ 8 * 172 := Nat.mul_le_mul (by omega) (by omega)
  unfold symbolonref02_Of.f
  exact chan C 0 k (by omega) (by omega) (by omega)
def Sy.convP (s : S23) (sz sp : Nat) (fr : Int) (o y x c n : Nat) : List S58 := Sy.convL s sz sp fr o y x c ++ (List.range n).map (Sy.convW s sz sp fr o y x c)
theorem convP_succ (s : S23) (sz sp : Nat) (fr : Int) (o y x c n : Nat) : Sy.convP s sz sp fr o y x c (n + 1) = Sy.convP s sz sp fr o y x c n ++ [Sy.convW s sz sp fr o y x c n] := by simp [Sy.convP, List.range_succ]
theorem convP_next (s : S23) (sz sp : Nat) (fr : Int) (o y x c : Nat) : Sy.convP s sz sp fr o y x c (sz * sz) = Sy.convP s sz sp fr o y x (c + 1) 0 := by
  simp only [Sy.convP, convL_succ, List.range_zero, List.map_nil, List.append_nil]; rfl
theorem convP_len (s : S23) (sz sp : Nat) (fr : Int) (o y x c n : Nat) : (Sy.convP s sz sp fr o y x c n).length = c * (sz * sz) + n := by simp [Sy.convP, convL_len]
theorem dmod (a b n : Nat) (h : b < n) : (a * n + b) / n = a ∧ (a * n + b) % n = b := by
  have h0 : 0 < n := by omega
  constructor
  · rw [Nat.add_comm, Nat.add_mul_div_right _ _ h0, Nat.div_eq_of_lt h, Nat.zero_add]
  · rw [Nat.add_comm, Nat.add_mul_mod_self_right, Nat.mod_eq_of_lt h]
theorem wrN (n : Nat) (h : n ≤ 1000000) : wrap64 (n : Int) = (n : Int) := by unfold wrap64; omega
theorem wr_add (a b : Nat) (h : a + b ≤ 1000000) : wrap64 ((a : Int) + (b : Int)) = ((a + b : Nat) : Int) := by unfold wrap64; omega
theorem wr_mul (a b : Nat) (h : a * b ≤ 1000000) : wrap64 ((a : Int) * (b : Int)) = ((a * b : Nat) : Int) := by
  rw [← Int.natCast_mul]; exact wrN _ h
theorem wr_fr (fr : Int) (n r : Nat) (hfr : 0 ≤ fr ∧ fr ≤ 100000) (h : n + r ≤ 1000000) : wrap64 (wrap64 (fr + (n : Int)) + (r : Int)) = fr + ((n + r : Nat) : Int) := by unfold wrap64; omega
theorem conv_entry (s : S23) (C H W sz sp o y x : Nat) (fr : Int) (h0 : s.f0 = (C : Int)) (h1 : s.f1 = (H : Int)) (h2 : s.f2 = (W : Int)) (hC : C ≤ 8) (hfr : 0 ≤ fr ∧ fr ≤ 100000) (ho : o ≤ 8) (hs12 : sz ≤ 12) (c q r : Nat) (hc : c < C) (hq : q < sz) (hr : r < sz) :
    (⟨(((c * H + (y * sp + q)) * W + (x * sp + r) : Nat) : Int), wrap64 ((wrap64 (fr + (wrap64 ((wrap64 ((wrap64 ((wrap64 ((wrap64 ((o : Int) * s.f0)) + (c : Int))) * (sz : Int))) + (q : Int))) * (sz : Int))))) + (r : Int))⟩ : S58) = Sy.convW s sz sp fr o y x c (q * sz + r) := by
  obtain ⟨d1, d2⟩ := dmod q r sz hr
  unfold Sy.convW Sy.atI
  rw [d1, d2, h0, h1, h2]
  have m1 : o * C ≤ 64 := Nat.mul_le_mul ho hC
  have m1' : o * C + c ≤ 72 := Nat.add_le_add m1 (Nat.le_trans (Nat.le_of_lt hc) hC)
  have m2 : (o * C + c) * sz ≤ 864 := Nat.mul_le_mul m1' hs12
  have m2' : (o * C + c) * sz + q ≤ 876 := Nat.add_le_add m2 (Nat.le_trans (Nat.le_of_lt hq) hs12)
  have m3 : ((o * C + c) * sz + q) * sz ≤ 10512 := Nat.mul_le_mul m2' hs12
  have m3' : ((o * C + c) * sz + q) * sz + r ≤ 10524 := Nat.add_le_add m3 (Nat.le_trans (Nat.le_of_lt hr) hs12)
  rw [wr_mul o C (Nat.le_trans m1 (by decide)), wr_add (o * C) c (Nat.le_trans m1' (by decide)), wr_mul (o * C + c) sz (Nat.le_trans m2 (by decide)), wr_add ((o * C + c) * sz) q (Nat.le_trans m2' (by decide)), wr_mul ((o * C + c) * sz + q) sz (Nat.le_trans m3 (by decide)), wr_fr fr _ r hfr (Nat.le_trans m3' (by decide)), Nat.add_mul _ q sz]
  push_cast
  simp only [Int.add_assoc]
section
variable (s : S23) (kd ot : Int) (C H W sz sp o y x : Nat) (fr : Int) (hs : Sy.rightB s = true) (h0 : s.f0 = (C : Int)) (h1 : s.f1 = (H : Int)) (h2 : s.f2 = (W : Int)) (hC : C ≤ 8) (hW : W ≤ 12) (hH : H ≤ 12) (hfr : 0 ≤ fr ∧ fr ≤ 100000) (ho : o ≤ 8) (hs12 : sz ≤ 12) (hy : y * sp + sz ≤ H) (hx : x * sp + sz ≤ W)
include hs h0 h1 h2 hC hW hH hfr ho hs12 hy hx
theorem conv6_col (c q b : Nat) (R : Option (List S58)) (hc : c < C) (hq : q < sz) (hR : ∀ k, b < k → symbolonref06_conv.l1 k fr (o : Int) (y : Int) (x : Int) true (Sy.convP s sz sp fr o y x c ((q + 1) * sz)) (c : Int) ((q : Int) + 1) s.f0 s.f1 s.f2 kd ot (sz : Int) (sp : Int) = R) :
      ∀ (n r k : Nat), sz - r = n → b + n + 1 < k → r ≤ sz → symbolonref06_conv.l2 k fr (o : Int) (y : Int) (x : Int) true (Sy.convP s sz sp fr o y x c (q * sz + r)) (c : Int) (q : Int) (r : Int) s.f0 s.f1 s.f2 kd ot (sz : Int) (sp : Int) = R := by
  intro n
  have hqz : (q + 1) * sz ≤ sz * sz := Nat.mul_le_mul_right sz hq
  have hzz : sz * sz ≤ 144 := Nat.mul_le_mul hs12 hs12
  have hcz : c * (sz * sz) ≤ 1152 := Nat.mul_le_mul (Nat.le_trans (Nat.le_of_lt hc) hC) hzz
  rw [Nat.add_mul, Nat.one_mul] at hqz
  induction n with
  | zero =>
    intro r k hn hk hr
    obtain ⟨k, rfl⟩ : ∃ m, k = m + 1 := ⟨k - 1, Nat.eq_add_of_sub_eq (Nat.le_trans (Nat.le_add_left 1 _) (Nat.le_of_lt hk)) rfl⟩
    have hr' : r = sz := Nat.le_antisymm hr (Nat.le_of_sub_eq_zero hn)
    subst hr'
    simp only [symbolonref06_conv.l2]
    rw [if_neg (Int.lt_irrefl _), w1 (Int.natCast_nonneg _) (by clear hk hR hqz hzz hcz hy hx; omega)]
    have := hR k (by clear hR hqz hzz hcz hy hx; omega)
    rw [Nat.add_mul, Nat.one_mul] at this
    exact this
  | succ n ih =>
    intro r k hn hk hr
    obtain ⟨k, rfl⟩ : ∃ m, k = m + 1 := ⟨k - 1, by clear hR hqz hzz hcz hy hx ih; omega⟩
    have hr' : r < sz := by clear hR hqz hzz hcz hy hx ih hk; omega
    have m1 : y * sp + q < H := Nat.lt_of_lt_of_le (Nat.add_lt_add_left hq _) hy
    have m2 : x * sp + r < W := Nat.lt_of_lt_of_le (Nat.add_lt_add_left hr' _) hx
    have b1 : y * sp + q ≤ 1000000 := Nat.le_trans (Nat.le_of_lt m1) (Nat.le_trans hH (by decide))
    have b2 : x * sp + r ≤ 1000000 := Nat.le_trans (Nat.le_of_lt m2) (Nat.le_trans hW (by decide))
    have ey : wrap64 ((wrap64 ((y : Int) * (sp : Int))) + (q : Int)) = ((y * sp + q : Nat) : Int) := by rw [wr_mul _ _ (Nat.le_trans (Nat.le_add_right _ _) b1), wr_add _ _ b1]
    have ex : wrap64 ((wrap64 ((x : Int) * (sp : Int))) + (r : Int)) = ((x * sp + r : Nat) : Int) := by rw [wr_mul _ _ (Nat.le_trans (Nat.le_add_right _ _) b2), wr_add _ _ b2]
    have hl : (Sy.convP s sz sp fr o y x c (q * sz + r)).length < 8796093022208 := by
      rw [convP_len]
      have : c * (sz * sz) + (q * sz + r) ≤ 1152 + 144 := Nat.add_le_add hcz (Nat.le_trans (Nat.add_le_add_left hr _) (Nat.le_trans hqz hzz))
      exact Nat.lt_of_le_of_lt this (by decide)
    simp only [symbolonref06_conv.l2]
    rw [if_pos (Int.ofNat_lt.2 hr'), ey, ex, at2_f s C H W c _ _ hs h0 h1 h2 hc m1 m2, Option.bind_some, if_pos hl, conv_entry s C H W sz sp o y x fr h0 h1 h2 hC hfr ho hs12 c q r hc hq hr', ← convP_succ, w1 (x := (r : Int)) (Int.natCast_nonneg _) (by clear hR hqz hzz hcz hy hx ih hk m1 m2 b1 b2 ey ex hl; omega)]
    exact ih (r + 1) k (by clear hR hqz hzz hcz hy hx ih hk m1 m2 b1 b2 ey ex hl; omega) (by clear hR hqz hzz hcz hy hx ih m1 m2 b1 b2 ey ex hl; omega) hr'
theorem conv6_row (c b : Nat) (R : Option (List S58)) (hc : c < C) (hR : ∀ k, b < k → symbolonref06_conv.l0 k fr (o : Int) (y : Int) (x : Int) true (Sy.convP s sz sp fr o y x (c + 1) 0) ((c : Int) + 1) s.f0 s.f1 s.f2 kd ot (sz : Int) (sp : Int) = R) :
      ∀ (n q k : Nat), sz - q = n → b + n * (sz + 2) + 1 < k → q ≤ sz → symbolonref06_conv.l1 k fr (o : Int) (y : Int) (x : Int) true (Sy.convP s sz sp fr o y x c (q * sz)) (c : Int) (q : Int) s.f0 s.f1 s.f2 kd ot (sz : Int) (sp : Int) = R := by
  intro n
  induction n with
  | zero =>
    intro q k hn hk hq
    obtain ⟨k, rfl⟩ : ∃ m, k = m + 1 := ⟨k - 1, by clear hR hy hx; omega⟩
    have hq' : q = sz := Nat.le_antisymm hq (Nat.le_of_sub_eq_zero hn)
    subst hq'
    simp only [symbolonref06_conv.l1]
    rw [if_neg (Int.lt_irrefl _), w1 (Int.natCast_nonneg _) (by clear hk hR hy hx; omega), convP_next]
    exact hR k (by clear hR hy hx; omega)
  | succ n ih =>
    intro q k hn hk hq
    obtain ⟨k, rfl⟩ : ∃ m, k = m + 1 := ⟨k - 1, by clear hR hy hx ih; omega⟩
    rw [Nat.add_mul, Nat.one_mul] at hk
    have hq' : q < sz := by clear hR hy hx ih hk; omega
    simp only [symbolonref06_conv.l1]
    rw [if_pos (Int.ofNat_lt.2 hq')]
    generalize hB : b + n * (sz + 2) + 1 = B at *
    have hk2 : B + sz + 1 < k := by clear ih; omega
    exact conv6_col s kd ot C H W sz sp o y x fr hs h0 h1 h2 hC hW hH hfr ho hs12 hy hx c q B R hc hq' (fun k hk => ih (q + 1) k (by clear ih hB hk2 hy hx; omega) hk hq') sz 0 k (Nat.sub_zero _) hk2 (Nat.zero_le _)
theorem conv6_chan : ∀ (n c k : Nat), C - c = n → n * (sz * (sz + 2) + 4) + 4 < k → c ≤ C → symbolonref06_conv.l0 k fr (o : Int) (y : Int) (x : Int) true (Sy.convP s sz sp fr o y x c 0) (c : Int) s.f0 s.f1 s.f2 kd ot (sz : Int) (sp : Int) = some (Sy.convL s sz sp fr o y x C) := by
  intro n
  induction n with
  | zero =>
    intro c k hn hk hc
    obtain ⟨k, rfl⟩ : ∃ m, k = m + 2 := ⟨k - 2, by clear hy hx; omega⟩
    have hc' : c = C := Nat.le_antisymm hc (Nat.le_of_sub_eq_zero hn)
    subst hc'
    simp only [symbolonref06_conv.l0, symbolonref06_conv.j1]
    rw [if_neg (by rw [h0]; exact Int.lt_irrefl _), if_neg (by decide)]
    simp [Sy.convP]
  | succ n ih =>
    intro c k hn hk hc
    obtain ⟨k, rfl⟩ : ∃ m, k = m + 2 := ⟨k - 2, by clear hy hx ih; omega⟩
    rw [Nat.add_mul, Nat.one_mul] at hk
    have hc' : c < C := by clear hy hx ih hk; omega
    simp only [symbolonref06_conv.l0, symbolonref06_conv.j1]
    rw [if_pos (by rw [h0]; exact Int.ofNat_lt.2 hc'), if_pos trivial]
    generalize hB : n * (sz * (sz + 2) + 4) + 4 = B at *
    have hk2 : B + sz * (sz + 2) + 1 < k := by clear ih hy hx; omega
    have := conv6_row s kd ot C H W sz sp o y x fr hs h0 h1 h2 hC hW hH hfr ho hs12 hy hx c B _ hc' (fun k hk => ih (c + 1) k (by clear ih hB hk2 hy hx; omega) hk hc') sz 0 k (Nat.sub_zero _) hk2 (Nat.zero_le _)
    rw [Nat.zero_mul] at this
    exact this
theorem conv6_f (k : Nat) (hk : 1700 < k) : symbolonref06_conv.l0 k fr (o : Int) (y : Int) (x : Int) true [] 0 s.f0 s.f1 s.f2 kd ot (sz : Int) (sp : Int) = some (Sy.convL s sz sp fr o y x C) := by
  have g1 : sz * (sz + 2) ≤ 168 := Nat.mul_le_mul hs12 (Nat.add_le_add_right hs12 2)
  have g2 : C * (sz * (sz + 2) + 4) ≤ 8 * 172 := Nat.mul_le_mul hC (Nat.add_le_add_right g1 4)
  exact conv6_chan s kd ot C H W sz sp o y x fr hs h0 h1 h2 hC hW hH hfr ho hs12 hy hx C 0 k (Nat.sub_zero _) (Nat.lt_of_le_of_lt (Nat.add_le_add_right g2 4) (Nat.lt_trans (by decide) hk)) (Nat.zero_le _)
end
end Go.Proofs.Ytnfcadjckoebkaa.P
