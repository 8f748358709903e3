import Derived.Test.YtnfcadjckoebkaaHXPv
import Derived.Test.YtnfcadjckoebkaaHXPw
import Derived.Test.YtnfcadjckoebkaaHXFsymbolonlaw06TermsApart
namespace Go.Proofs.Ytnfcadjckoebkaa.P
open Go.RowKit Go.Proofs.YtnfcadjckoebkaaW.PrintWords Go.Proofs.YtnfcadjckoebkaaW.PrintLast Go.Proofs.YtnfcadjckoebkaaW.PrintMore
set_option linter.unusedSimpArgs false
set_option linter.unusedVariables false
theorem head6_ (n : Nat) : symbolonlaw06_head.f (2000 + n) = some true := by
  induction n with
  | zero => exact head6
  | succ n ih => exact symbolonlaw06_head.mono (2000 + n) _ ih
theorem dm_inj {a b c d n : Nat} (hb : b < n) (hd : d < n) (h : a * n + b = c * n + d) : a = c ∧ b = d := by
  rcases Nat.lt_trichotomy a c with g | g | g
  · have := Nat.mul_le_mul_right n (show a + 1 ≤ c by omega)
    rw [Nat.add_mul, Nat.one_mul] at this
    omega
  · subst g; omega
  · have := Nat.mul_le_mul_right n (show c + 1 ≤ a by omega)
    rw [Nat.add_mul, Nat.one_mul] at this
    omega
theorem at2_f (s : S23) (C H W c y x : Nat) (hs : Sy.rightB s = true) (h0 : s.f0 = (C : Int)) (h1 : s.f1 = (H : Int)) (h2 : s.f2 = (W : Int)) (hc : c < C) (hy : y < H) (hx : x < W) :
    symbolonref02_At.f s.f0 s.f1 s.f2 (c : Int) (y : Int) (x : Int) = some (((c * H + y) * W + x : Nat) : Int) := by
  obtain ⟨⟨a1, a2⟩, ⟨b1, b2⟩, ⟨c1, c2⟩, -⟩ := right_bd hs
  unfold symbolonref02_At.f h02_Right.f
  rw [Option.bind_some, show Sy.rightB ⟨s.f0, s.f1, s.f2⟩ = true from hs, if_pos rfl, if_neg (by omega), if_neg (by omega), if_neg (by omega), if_neg (by omega), if_neg (by omega), if_neg (by omega), h1, h2]
  have m1 : c * H ≤ 8 * 12 := Nat.mul_le_mul (by omega) (by omega)
  have m2 : (c * H + y) * W ≤ 108 * 12 := Nat.mul_le_mul (by omega) (by omega)
  rw [show wrap64 ((c : Int) * (H : Int)) = ((c * H : Nat) : Int) by rw [← Int.natCast_mul]; unfold wrap64; omega, show wrap64 (((c * H : Nat) : Int) + (y : Int)) = ((c * H + y : Nat) : Int) by unfold wrap64; omega, show wrap64 (((c * H + y : Nat) : Int) * (W : Int)) = (((c * H + y) * W : Nat) : Int) by rw [← Int.natCast_mul]; unfold wrap64; omega, show wrap64 ((((c * H + y) * W : Nat) : Int) + (x : Int)) = (((c * H + y) * W + x : Nat) : Int) by unfold wrap64; omega]
theorem of2_f (s : S23) (C H W o r q p : Nat) (hs : Sy.rightB s = true) (h0 : s.f0 = (C : Int)) (h1 : s.f1 = (H : Int)) (h2 : s.f2 = (W : Int)) (ho : o < C) (hr : r < H) (hq : q < W) (hp : p = (o * H + r) * W + q) (k : Nat) (hk : 1700 < k) :
    symbolonref02_Of.f k s.f0 s.f1 s.f2 (p : Int) = some ((o : Int), (r : Int), (q : Int), true) := by
  obtain ⟨⟨a1, a2⟩, ⟨b1, b2⟩, ⟨c1, c2⟩, -⟩ := right_bd hs
  have hit : ∀ (n x k : Nat), q - x = n → n < k → x ≤ q → symbolonref02_Of.l2 k (p : Int) (o : Int) (r : Int) (x : Int) s.f0 s.f1 s.f2 = some ((o : Int), (r : Int), (q : Int), true) := by
    intro n
    induction n with
    | zero =>
      intro x k hn hk hx
      obtain ⟨k, rfl⟩ : ∃ m, k = m + 1 := ⟨k - 1, by omega⟩
      obtain rfl : x = q := by omega
      simp only [symbolonref02_Of.l2]
      rw [if_pos (by omega), at2_f s C H W o r x hs h0 h1 h2 ho hr hq, Option.bind_some, ← hp, if_pos rfl]
    | succ n ih =>
      intro x k hn hk hx
      obtain ⟨k, rfl⟩ : ∃ m, k = m + 1 := ⟨k - 1, by omega⟩
      simp only [symbolonref02_Of.l2]
      rw [if_pos (by omega), at2_f s C H W o r x hs h0 h1 h2 ho hr (by omega), Option.bind_some, if_neg (by omega), w1 (by omega) (by omega)]
      exact ih (x + 1) k (by omega) (by omega) (by omega)
  have miss : ∀ (c y b : Nat) (R : Option (Int × Int × Int × Bool)), c < C → y < H → ¬ (c = o ∧ y = r) → (∀ k, b < k → symbolonref02_Of.l1 k (p : Int) (c : Int) ((y : Int) + 1) s.f0 s.f1 s.f2 = R) →
      ∀ (n x k : Nat), W - x = n → b + n + 1 < k → x ≤ W → symbolonref02_Of.l2 k (p : Int) (c : Int) (y : Int) (x : Int) s.f0 s.f1 s.f2 = R := by
    intro c y b R hc hy hne hR n
    induction n with
    | zero =>
      intro x k hn hk hx
      obtain ⟨k, rfl⟩ : ∃ m, k = m + 1 := ⟨k - 1, by omega⟩
      simp only [symbolonref02_Of.l2]
      rw [if_neg (by omega), w1 (by omega) (by omega)]
      exact hR k (by omega)
    | succ n ih =>
      intro x k hn hk hx
      obtain ⟨k, rfl⟩ : ∃ m, k = m + 1 := ⟨k - 1, by omega⟩
      simp only [symbolonref02_Of.l2]
      have hx' : x < W := by omega
      have hpn : (c * H + y) * W + x ≠ p := by
        intro h
        rw [hp] at h
        obtain ⟨e1, -⟩ := dm_inj hx' hq h
        obtain ⟨e2, e3⟩ := dm_inj hy hr e1
        exact hne ⟨e2, e3⟩
      rw [if_pos (by omega), at2_f s C H W c y x hs h0 h1 h2 hc hy hx', Option.bind_some, if_neg (by omega), w1 (by omega) (by omega)]
      exact ih (x + 1) k (by omega) (by omega) (by omega)
  have rowhit : ∀ (n y k : Nat), r - y = n → n * (W + 2) + W + 1 < k → y ≤ r → symbolonref02_Of.l1 k (p : Int) (o : Int) (y : Int) s.f0 s.f1 s.f2 = some ((o : Int), (r : Int), (q : Int), true) := by
    intro n
    induction n with
    | zero =>
      intro y k hn hk hy
      obtain ⟨k, rfl⟩ : ∃ m, k = m + 1 := ⟨k - 1, by omega⟩
      obtain rfl : y = r := by omega
      simp only [symbolonref02_Of.l1]
      rw [if_pos (by omega)]
      exact hit q 0 k (by omega) (by omega) (by omega)
    | succ n ih =>
      intro y k hn hk hy
      obtain ⟨k, rfl⟩ : ∃ m, k = m + 1 := ⟨k - 1, by omega⟩
      rw [Nat.add_mul, Nat.one_mul] at hk
      simp only [symbolonref02_Of.l1]
      rw [if_pos (by omega)]
      generalize hB : n * (W + 2) + W + 1 = B at *
      exact miss o y B _ ho (by omega) (by omega) (fun k hk => ih (y + 1) k (by omega) (by omega) (by omega)) W 0 k (by omega) (by omega) (by omega)
  have rowmiss : ∀ (c b : Nat) (R : Option (Int × Int × Int × Bool)), c < C → c ≠ o → (∀ k, b < k → symbolonref02_Of.l0 k (p : Int) ((c : Int) + 1) s.f0 s.f1 s.f2 = R) →
      ∀ (n y k : Nat), H - y = n → b + n * (W + 2) + 1 < k → y ≤ H → symbolonref02_Of.l1 k (p : Int) (c : Int) (y : Int) s.f0 s.f1 s.f2 = R := by
    intro c b R hc hne hR n
    induction n with
    | zero =>
      intro y k hn hk hy
      obtain ⟨k, rfl⟩ : ∃ m, k = m + 1 := ⟨k - 1, by omega⟩
      simp only [symbolonref02_Of.l1]
      rw [if_neg (by omega), w1 (by omega) (by omega)]
      exact hR k (by omega)
    | succ n ih =>
      intro y k hn hk hy
      obtain ⟨k, rfl⟩ : ∃ m, k = m + 1 := ⟨k - 1, by omega⟩
      rw [Nat.add_mul, Nat.one_mul] at hk
      simp only [symbolonref02_Of.l1]
      rw [if_pos (by omega)]
      generalize hB : b + n * (W + 2) + 1 = B at *
      exact miss c y B R hc (by omega) (by omega) (fun k hk => ih (y + 1) k (by omega) (by omega) (by omega)) W 0 k (by omega) (by omega) (by omega)
  have chan : ∀ (n c k : Nat), o - c = n → n * (H * (W + 2) + 4) + (H * (W + 2) + W + 4) < k → c ≤ o → symbolonref02_Of.l0 k (p : Int) (c : Int) s.f0 s.f1 s.f2 = some ((o : Int), (r : Int), (q : Int), true) := by
    intro n
    induction n with
    | zero =>
      intro c k hn hk hc
      obtain ⟨k, rfl⟩ : ∃ m, k = m + 2 := ⟨k - 2, by omega⟩
      obtain rfl : c = o := by omega
      have hh : r * (W + 2) ≤ H * (W + 2) := Nat.mul_le_mul_right _ (by omega)
      simp only [symbolonref02_Of.l0, symbolonref02_Of.j1]
      unfold h02_Right.f
      rw [if_pos (by omega), Option.bind_some, show Sy.rightB ⟨s.f0, s.f1, s.f2⟩ = true from hs, if_pos rfl]
      exact rowhit r 0 k (by omega) (by omega) (by omega)
    | succ n ih =>
      intro c k hn hk hc
      obtain ⟨k, rfl⟩ : ∃ m, k = m + 2 := ⟨k - 2, by omega⟩
      rw [Nat.add_mul, Nat.one_mul] at hk
      simp only [symbolonref02_Of.l0, symbolonref02_Of.j1]
      unfold h02_Right.f
      rw [if_pos (by omega), Option.bind_some, show Sy.rightB ⟨s.f0, s.f1, s.f2⟩ = true from hs, if_pos rfl]
      generalize hB : n * (H * (W + 2) + 4) + (H * (W + 2) + W + 4) = B at *
      exact rowmiss c B _ (by omega) (by omega) (fun k hk => ih (c + 1) k (by omega) (by omega) (by omega)) H 0 k (by omega) (by omega) (by omega)
  have g1 : H * (W + 2) ≤ 12 * 14 := Nat.mul_le_mul (by omega) (by omega)
  have g2 : o * (H * (W + 2) + 4) ≤ 7 * 172 := Nat.mul_le_mul (by omega) (by omega)
  unfold symbolonref02_Of.f
  exact chan o 0 k (by omega) (by omega) (by omega)
theorem lenT_le {x : S40} {s t : S23} (hs : Sy.rightB s = true) (hl : Sy.layerB x = true) (hq : Sy.outO s x = some t) : Sy.lenT x s ≤ 128 := by
  have hz := size_bd hs
  obtain ⟨⟨a1, a2⟩, ⟨a3, a4⟩, ⟨a5, a6⟩, a7⟩ := right_bd hs
  unfold Sy.lenT
  rcases layer_kind'' hl with k | k | k | k
  · obtain ⟨t0, z1, z2, z3, -⟩ := conv_shape hq k
    rw [if_pos k]
    have e : s.f0.toNat * (x.f2.toNat * x.f2.toNat) ≤ s.f0.toNat * (s.f1.toNat * s.f2.toNat) := Nat.mul_le_mul_left _ (Nat.mul_le_mul (by omega) (by omega))
    have e2 : ((s.f0.toNat * (s.f1.toNat * s.f2.toNat) : Nat) : Int) = s.f0 * s.f1 * s.f2 := by
      push_cast; rw [Int.toNat_of_nonneg (by omega), Int.toNat_of_nonneg (by omega), Int.toNat_of_nonneg (by omega), Int.mul_assoc]
    omega
  · rw [if_neg (by omega), if_neg (by omega), if_pos k]; omega
  · rw [if_neg (by omega), if_neg (by omega), if_neg (by omega)]; omega
  · rw [if_neg (by omega), if_pos k]; omega
theorem of2_at {s : S23} (hs : Sy.rightB s = true) (p : Nat) (hp : (p : Int) < Sy.sizeI s) (k : Nat) (hk : 1700 < k) : symbolonref02_Of.f k s.f0 s.f1 s.f2 (p : Int) = some ((p : Int) / s.f2 / s.f1, (p : Int) / s.f2 % s.f1, (p : Int) % s.f2, true) := by
  obtain ⟨⟨a1, a2⟩, ⟨b1, b2⟩, ⟨c1, c2⟩, -⟩ := right_bd hs
  obtain ⟨⟨o1, o2⟩, ⟨y1, y2⟩, ⟨x1, x2⟩⟩ := of_bd hs (by omega) hp
  obtain ⟨C, hC⟩ := Int.eq_ofNat_of_zero_le (show 0 ≤ s.f0 by omega)
  obtain ⟨H, hH⟩ := Int.eq_ofNat_of_zero_le (show 0 ≤ s.f1 by omega)
  obtain ⟨W, hW⟩ := Int.eq_ofNat_of_zero_le (show 0 ≤ s.f2 by omega)
  rw [hH, hW] at o1 o2 y1 y2
  rw [hW] at x1 x2
  rw [hC] at o2
  have e1 : (p : Int) / (W : Int) / (H : Int) = ((p / W / H : Nat) : Int) := rfl
  have e2 : (p : Int) / (W : Int) % (H : Int) = ((p / W % H : Nat) : Int) := rfl
  have e3 : (p : Int) % (W : Int) = ((p % W : Nat) : Int) := rfl
  have := of2_f s C H W (p / W / H) (p / W % H) (p % W) p hs hC hH hW (by omega) (by omega) (by omega) (by
    have d1 := Nat.div_add_mod p W
    have d2 := Nat.div_add_mod (p / W) H
    rw [Nat.mul_comm] at d1 d2
    rw [d2, d1]) k hk
  rw [this, hH, hW]
  rfl
end Go.Proofs.Ytnfcadjckoebkaa.P
