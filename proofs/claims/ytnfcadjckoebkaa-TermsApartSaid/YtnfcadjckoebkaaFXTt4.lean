import Derived.Test.YtnfcadjckoebkaaFXPv
import Derived.Test.YtnfcadjckoebkaaFXPw
import Derived.Test.YtnfcadjckoebkaaFXFsymbolonlaw06TermsApart
namespace Go.Proofs.Ytnfcadjckoebkaa.P
open Go.RowKit Go.Proofs.YtnfcadjckoebkaaW.PrintWords Go.Proofs.YtnfcadjckoebkaaW.PrintLast Go.Proofs.YtnfcadjckoebkaaW.PrintMore
set_option linter.unusedSimpArgs false
set_option linter.unusedVariables false
theorem head6_ (n : Nat) : symbolonlaw06_head.f (2000 + n) = some true := by
  induction n with
  | zero => exact head6
  | succ n ih => exact symbolonlaw06_head.mono (2000 + n) _ ih
theorem dm_inj {a b c d n : Nat} (hb : b < n) (hd : d < n) (h : a * n + b = c * n + d) : a = c ∧ b = d := by
  rcases Nat.lt_trichotomy a c with g | g | g
  · have := Nat.mul_le_mul_right n (show a + 1 ≤ c by omega)
    rw [Nat.add_mul, Nat.one_mul] at this
    omega
  · subst g; omega
  · have := Nat.mul_le_mul_right n (show c + 1 ≤ a by omega)
    rw [Nat.add_mul, Nat.one_mul] at this
    omega
theorem at2_f (s : S23) (C H W c y x : Nat) (hs : Sy.rightB s = true) (h0 : s.f0 = (C : Int)) (h1 : s.f1 = (H : Int)) (h2 : s.f2 = (W : Int)) (hc : c < C) (hy : y < H) (hx : x < W) :
    symbolonref02_At.f s.f0 s.f1 s.f2 (c : Int) (y : Int) (x : Int) = some (((c * H + y) * W + x : Nat) : Int) := by
  obtain ⟨⟨a1, a2⟩, ⟨b1, b2⟩, ⟨c1, c2⟩, -⟩ := right_bd hs
  unfold symbolonref02_At.f h02_Right.f
  rw [Option.bind_some, show Sy.rightB ⟨s.f0, s.f1, s.f2⟩ = true from hs, if_pos rfl, if_neg (by omega), if_neg (by omega), if_neg (by omega), if_neg (by omega), if_neg (by omega), if_neg (by omega), h1, h2]
  have m1 : c * H ≤ 8 * 12 := Nat.mul_le_mul (by omega) (by omega)
  have m2 : (c * H + y) * W ≤ 108 * 12 := Nat.mul_le_mul (by omega) (by omega)
  rw [show wrap64 ((c : Int) * (H : Int)) = ((c * H : Nat) : Int) by rw [← Int.natCast_mul]; unfold wrap64; omega, show wrap64 (((c * H : Nat) : Int) + (y : Int)) = ((c * H + y : Nat) : Int) by unfold wrap64; omega, show wrap64 (((c * H + y : Nat) : Int) * (W : Int)) = (((c * H + y) * W : Nat) : Int) by rw [← Int.natCast_mul]; unfold wrap64; omega, show wrap64 ((((c * H + y) * W : Nat) : Int) + (x : Int)) = (((c * H + y) * W + x : Nat) : Int) by unfold wrap64; omega]
theorem of2_f (s : S23) (C H W o r q p : Nat) (hs : Sy.rightB s = true) (h0 : s.f0 = (C : Int)) (h1 : s.f1 = (H : Int)) (h2 : s.f2 = (W : Int)) (ho : o < C) (hr : r < H) (hq : q < W) (hp : p = (o * H + r) * W + q) (k : Nat) (hk : 1700 < k) :
    symbolonref02_Of.f k s.f0 s.f1 s.f2 (p : Int) = some ((o : Int), (r : Int), (q : Int), true) := by
  obtain ⟨⟨a1, a2⟩, ⟨b1, b2⟩, ⟨c1, c2⟩, -⟩ := right_bd hs
  have hit : ∀ (n x k : Nat), q - x = n → n < k → x ≤ q → symbolonref02_Of.l2 k (p : Int) (o : Int) (r : Int) (x : Int) s.f0 s.f1 s.f2 = some ((o : Int), (r : Int), (q : Int), true) := by
    intro n
    induction n with
    | zero =>
      intro x k hn hk hx
      obtain ⟨k, rfl⟩ : ∃ m, k = m + 1 := ⟨k - 1, by omega⟩
      obtain rfl : x = q := by omega
      simp only [symbolonref02_Of.l2]
      rw [if_pos (by omega), at2_f s C H W o r x hs h0 h1 h2 ho hr hq, Option.bind_some, ← hp, if_pos rfl]
    | succ n ih =>
      intro x k hn hk hx
      obtain ⟨k, rfl⟩ : ∃ m, k = m + 1 := ⟨k - 1, by omega⟩
      simp only [symbolonref02_Of.l2]
      rw [if_pos (by omega), at2_f s C H W o r x hs h0 h1 h2 ho hr (by omega), Option.bind_some, if_neg (by omega), w1 (by omega) (by omega)]
      exact ih (x + 1) k (by omega) (by omega) (by omega)
  have miss : ∀ (c y b : Nat) (R : Option (Int × Int × Int × Bool)), c < C → y < H → ¬ (c = o ∧ y = r) → (∀ k, b < k → symbolonref02_Of.l1 k (p : Int) (c : Int) ((y : Int) + 1) s.f0 s.f1 s.f2 = R) →
      ∀ (n x k : Nat), W - x = n → b + n + 1 < k → x ≤ W → symbolonref02_Of.l2 k (p : Int) (c : Int) (y : Int) (x : Int) s.f0 s.f1 s.f2 = R := by
    intro c y b R hc hy hne hR n
    induction n with
    | zero =>
      intro x k hn hk hx
      obtain ⟨k, rfl⟩ : ∃ m, k = m + 1 := ⟨k - 1, by omega⟩
      simp only [symbolonref02_Of.l2]
      rw [if_neg (by omega), w1 (by omega) (by omega)]
      exact hR k (by omega)
    | succ n ih =>
      intro x k hn hk hx
      obtain ⟨k, rfl⟩ : ∃ m, k = m + 1 := ⟨k - 1, by omega⟩
      simp only [symbolonref02_Of.l2]
      have hx' : x < W := by omega
      have hpn : (c * H + y) * W + x ≠ p := by
        intro h
        rw [hp] at h
        obtain ⟨e1, -⟩ := dm_inj hx' hq h
        obtain ⟨e2, e3⟩ := dm_inj hy hr e1
        exact hne ⟨e2, e3⟩
      rw [if_pos (by omega), at2_f s C H W c y x hs h0 h1 h2 hc hy hx', Option.bind_some, if_neg (by omega), w1 (by omega) (by omega)]
      exact ih (x + 1) k (by omega) (by omega) (by omega)
  have rowhit : ∀ (n y k : Nat), r - y = n → n * (W + 2) + W + 1 < k → y ≤ r → symbolonref02_Of.l1 k (p : Int) (o : Int) (y : Int) s.f0 s.f1 s.f2 = some ((o : Int), (r : Int), (q : Int), true) := by
    intro n
    induction n with
    | zero =>
      intro y k hn hk hy
      obtain ⟨k, rfl⟩ : ∃ m, k = m + 1 := ⟨k - 1, by omega⟩
      obtain rfl : y = r := by omega
      simp only [symbolonref02_Of.l1]
      rw [if_pos (by omega)]
      exact hit q 0 k (by omega) (by omega) (by omega)
    | succ n ih =>
      intro y k hn hk hy
      obtain ⟨k, rfl⟩ : ∃ m, k = m + 1 := ⟨k - 1, by omega⟩
      rw [Nat.add_mul, Nat.one_mul] at hk
      simp only [symbolonref02_Of.l1]
      rw [if_pos (by omega)]
      generalize hB : n * (W + 2) + W + 1 = B at *
      exact miss o y B _ ho (by omega) (by omega) (fun k hk => ih (y + 1) k (by omega) (by omega) (by omega)) W 0 k (by omega) (by omega) (by omega)
  have rowmiss : ∀ (c b : Nat) (R : Option (Int × Int × Int × Bool)), c < C → c ≠ o → (∀ k, b < k → symbolonref02_Of.l0 k (p : Int) ((c : Int) + 1) s.f0 s.f1 s.f2 = R) →
      ∀ (n y k : Nat), H - y = n → b + n * (W + 2) + 1 < k → y ≤ H → symbolonref02_Of.l1 k (p : Int) (c : Int) (y : Int) s.f0 s.f1 s.f2 = R := by
    intro c b R hc hne hR n
    induction n with
    | zero =>
      intro y k hn hk hy
      obtain ⟨k, rfl⟩ : ∃ m, k = m + 1 := ⟨k - 1, by omega⟩
      simp only [symbolonref02_Of.l1]
      rw [if_neg (by omega), w1 (by omega) (by omega)]
      exact hR k (by omega)
    | succ n ih =>
      intro y k hn hk hy
      obtain ⟨k, rfl⟩ : ∃ m, k = m + 1 := ⟨k - 1, by omega⟩
      rw [Nat.add_mul, Nat.one_mul] at hk
      simp only [symbolonref02_Of.l1]
      rw [if_pos (by omega)]
      generalize hB : b + n * (W + 2) + 1 = B at *
      exact miss c y B R hc (by omega) (by omega) (fun k hk => ih (y + 1) k (by omega) (by omega) (by omega)) W 0 k (by omega) (by omega) (by omega)
  have chan : ∀ (n c k : Nat), o - c = n → n * (H * (W + 2) + 4) + (H * (W + 2) + W + 4) < k → c ≤ o → symbolonref02_Of.l0 k (p : Int) (c : Int) s.f0 s.f1 s.f2 = some ((o : Int), (r : Int), (q : Int), true) := by
    intro n
    induction n with
    | zero =>
      intro c k hn hk hc
      obtain ⟨k, rfl⟩ : ∃ m, k = m + 2 := ⟨k - 2, by omega⟩
      obtain rfl : c = o := by omega
      have hh : r * (W + 2) ≤ H * (W + 2) := Nat.mul_le_mul_right _ (by omega)
      simp only [symbolonref02_Of.l0, symbolonref02_Of.j1]
      unfold h02_Right.f
      rw [if_pos (by omega), Option.bind_some, show Sy.rightB ⟨s.f0, s.f1, s.f2⟩ = true from hs, if_pos rfl]
      exact rowhit r 0 k (by omega) (by omega) (by omega)
    | succ n ih =>
      intro c k hn hk hc
      obtain ⟨k, rfl⟩ : ∃ m, k = m + 2 := ⟨k - 2, by omega⟩
      rw [Nat.add_mul, Nat.one_mul] at hk
      simp only [symbolonref02_Of.l0, symbolonref02_Of.j1]
      unfold h02_Right.f
      rw [if_pos (by omega), Option.bind_some, show Sy.rightB ⟨s.f0, s.f1, s.f2⟩ = true from hs, if_pos rfl]
      generalize hB : n * (H * (W + 2) + 4) + (H * (W + 2) + W + 4) = B at *
      exact rowmiss c B _ (by omega) (by omega) (fun k hk => ih (c + 1) k (by omega) (by omega) (by omega)) H 0 k (by omega) (by omega) (by omega)
  have g1 : H * (W + 2) ≤ 12 * 14 := Nat.mul_le_mul (by omega) (by omega)
  have g2 : o * (H * (W + 2) + 4) ≤ 7 * 172 := Nat.mul_le_mul (by omega) (by omega)
  unfold symbolonref02_Of.f
  exact chan o 0 k (by omega) (by omega) (by omega)
theorem lenT_le {x : S40} {s t : S23} (hs : Sy.rightB s = true) (hl : Sy.layerB x = true) (hq : Sy.outO s x = some t) : Sy.lenT x s ≤ 128 := by
  have hz := size_bd hs
  obtain ⟨⟨a1, a2⟩, ⟨a3, a4⟩, ⟨a5, a6⟩, a7⟩ := right_bd hs
  unfold Sy.lenT
  rcases layer_kind'' hl with k | k | k | k
  · obtain ⟨t0, z1, z2, z3, -⟩ := conv_shape hq k
    rw [if_pos k]
    have e : s.f0.toNat * (x.f2.toNat * x.f2.toNat) ≤ s.f0.toNat * (s.f1.toNat * s.f2.toNat) := Nat.mul_le_mul_left _ (Nat.mul_le_mul (by omega) (by omega))
    have e2 : ((s.f0.toNat * (s.f1.toNat * s.f2.toNat) : Nat) : Int) = s.f0 * s.f1 * s.f2 := by
      push_cast; rw [Int.toNat_of_nonneg (by omega), Int.toNat_of_nonneg (by omega), Int.toNat_of_nonneg (by omega), Int.mul_assoc]
    omega
  · rw [if_neg (by omega), if_neg (by omega), if_pos k]; omega
  · rw [if_neg (by omega), if_neg (by omega), if_neg (by omega)]; omega
  · rw [if_neg (by omega), if_pos k]; omega
theorem term_x {x : S40} {s t : S23} {fr p : Int} (hs : Sy.rightB s = true) (hl : Sy.layerB x = true) (hq : Sy.outO s x = some t) (hp : 0 ≤ p ∧ p < Sy.sizeI t) (i j : Nat) (hi : i < Sy.lenT x s) (hj : j < Sy.lenT x s)
    (h : (rd_T58 (Sy.termsT x s t fr p) (i : Int)).f0 = (rd_T58 (Sy.termsT x s t fr p) (j : Int)).f0) : i = j := by
  have ht := (out_bd hs hq).1
  have hz := size_bd hs
  obtain ⟨⟨a1, a2⟩, ⟨a3, a4⟩, ⟨a5, a6⟩, -⟩ := right_bd hs
  rw [rd58_get _ _ (by rw [terms_len]; exact hi), rd58_get _ _ (by rw [terms_len]; exact hj)] at h
  rcases layer_kind'' hl with k | k | k | k
  · obtain ⟨t0, z1, z2, z3, p1, p2, t1, t2⟩ := conv_shape hq k
    obtain ⟨⟨o1, o2⟩, ⟨y1, y2⟩, ⟨x1, x2⟩⟩ := of_bd ht hp.1 hp.2
    have e : Sy.termsT x s t fr p = Sy.convT x s t fr p := by unfold Sy.termsT; rw [if_pos k]
    have hy := fit_le p1 t1 y2 y1
    have hx := fit_le p1 t2 x2 x1
    simp only [e] at h
    unfold Sy.convT at h
    rw [conv_get, conv_get] at h
    unfold Sy.convW Sy.atI at h
    dsimp only at h
    generalize p / t.f2 / t.f1 = oo at *
    generalize p / t.f2 % t.f1 = yy at *
    generalize p % t.f2 = xx at *
    obtain ⟨sz, hsz⟩ := Int.eq_ofNat_of_zero_le (show 0 ≤ x.f2 by omega)
    obtain ⟨sp, hsp⟩ := Int.eq_ofNat_of_zero_le (show 0 ≤ x.f3 by omega)
    obtain ⟨y, rfl⟩ := Int.eq_ofNat_of_zero_le y1
    obtain ⟨xc, rfl⟩ := Int.eq_ofNat_of_zero_le x1
    obtain ⟨H, hH⟩ := Int.eq_ofNat_of_zero_le (show 0 ≤ s.f1 by omega)
    obtain ⟨W, hW⟩ := Int.eq_ofNat_of_zero_le (show 0 ≤ s.f2 by omega)
    rw [hsz, hsp, hH, hW] at h
    rw [hsp, hsz] at hy hx
    rw [hsz] at z1
    simp only [Int.toNat_natCast] at h
    have hz0 : 0 < sz := by omega
    have hzz : 0 < sz * sz := Nat.mul_pos hz0 hz0
    have bd : ∀ k, k < sz * sz → k / sz < sz ∧ k % sz < sz := fun k hk => ⟨Nat.div_lt_of_lt_mul hk, Nat.mod_lt _ hz0⟩
    obtain ⟨i1, i2⟩ := bd (i % (sz * sz)) (Nat.mod_lt _ hzz)
    obtain ⟨j1, j2⟩ := bd (j % (sz * sz)) (Nat.mod_lt _ hzz)
    have hy' : y * sp + sz ≤ H := by rw [hH] at hy; exact_mod_cast hy
    have hx' : xc * sp + sz ≤ W := by rw [hW] at hx; exact_mod_cast hx
    have h' : (i / (sz * sz) * H + (y * sp + i % (sz * sz) / sz)) * W + (xc * sp + i % (sz * sz) % sz) = (j / (sz * sz) * H + (y * sp + j % (sz * sz) / sz)) * W + (xc * sp + j % (sz * sz) % sz) := by exact_mod_cast h
    obtain ⟨e1, e2⟩ := dm_inj (by omega) (by omega) h'
    obtain ⟨e3, e4⟩ := dm_inj (by omega) (by omega) e1
    have q1 := Nat.div_add_mod i (sz * sz)
    have q2 := Nat.div_add_mod j (sz * sz)
    have q3 := Nat.div_add_mod (i % (sz * sz)) sz
    have q4 := Nat.div_add_mod (j % (sz * sz)) sz
    have e5 : i % (sz * sz) / sz = j % (sz * sz) / sz := by omega
    have e6 : i % (sz * sz) % sz = j % (sz * sz) % sz := by omega
    rw [e5, e6, q4] at q3
    rw [e3, ← q3, q2] at q1
    exact q1.symm
  · have hT : Sy.lenT x s = 1 := by unfold Sy.lenT; rw [if_neg (by omega), if_neg (by omega), if_pos k]
    omega
  · have hT : Sy.lenT x s = 0 := by unfold Sy.lenT; rw [if_neg (by omega), if_neg (by omega), if_neg (by omega)]
    omega
  · have e : Sy.termsT x s t fr p = Sy.denseL (Sy.sizeI s).toNat fr p (Sy.sizeI s).toNat := by unfold Sy.termsT; rw [if_neg (by omega), if_pos k]
    simp only [e] at h
    simp [Sy.denseL] at h
    exact_mod_cast h
theorem term_w0 {x : S40} {s t : S23} {fr p : Int} (hl : Sy.layerB x = true) (hk : ¬ (x.f0 = 1 ∨ x.f0 = 4)) (j : Nat) (hj : j < Sy.lenT x s) : (rd_T58 (Sy.termsT x s t fr p) (j : Int)).f1 = -1 ∧ Sy.lenT x s = 1 := by
  rcases layer_kind'' hl with k | k | k | k
  · exact absurd (.inl k) hk
  · have hT : Sy.lenT x s = 1 := by unfold Sy.lenT; rw [if_neg (by omega), if_neg (by omega), if_pos k]
    rw [hT] at hj
    obtain rfl : j = 0 := by omega
    refine ⟨?_, hT⟩
    unfold Sy.termsT
    rw [if_neg (by omega), if_neg (by omega), if_pos k]
    rfl
  · have hT : Sy.lenT x s = 0 := by unfold Sy.lenT; rw [if_neg (by omega), if_neg (by omega), if_neg (by omega)]
    omega
  · exact absurd (.inr k) hk
theorem apart_l1 (a2 a3 i m : Int) (T j1 : Nat) (L : List S58) (S : S23) (l : List S40) (hL : L.length = T) (hT : T ≤ 128) (hj1 : j1 < T) (hX : ∀ a b : Nat, a < T → b < T → (rd_T58 L (a : Int)).f0 = (rd_T58 L (b : Int)).f0 → a = b) (hW : ∀ a b : Nat, a < T → b < T → (rd_T58 L (a : Int)).f1 = (rd_T58 L (b : Int)).f1 → a = b) :
    ∀ (n j k : Nat), j1 - j = n → n < k → j ≤ j1 →
    symbolonlaw06_TermsApart.l1 k a2 a3 true i m L (j1 : Int) (j : Int) S.f0 S.f1 S.f2 l = symbolonlaw06_TermsApart.l0 (k - n - 1) a2 a3 true i m L ((j1 : Int) + 1) S.f0 S.f1 S.f2 l := by
  intro n
  induction n with
  | zero =>
    intro j k hn hk hj
    obtain ⟨k, rfl⟩ : ∃ q, k = q + 1 := ⟨k - 1, by omega⟩
    obtain rfl : j = j1 := by omega
    simp only [symbolonlaw06_TermsApart.l1]
    rw [if_neg (by omega), w1 (by omega) (by omega)]
    rfl
  | succ n ih =>
    intro j k hn hk hj
    obtain ⟨k, rfl⟩ : ∃ q, k = q + 1 := ⟨k - 1, by omega⟩
    have hr := ih (j + 1) k (by omega) (by omega) (by omega)
    have e : k + 1 - (n + 1) - 1 = k - n - 1 := by omega
    have nx : ¬ (rd_T58 L (j1 : Int)).f0 = (rd_T58 L (j : Int)).f0 := fun h => by have := hX j1 j hj1 (by omega) h; omega
    have nw : ¬ (rd_T58 L (j1 : Int)).f1 = (rd_T58 L (j : Int)).f1 := fun h => by have := hW j1 j hj1 (by omega) h; omega
    simp only [symbolonlaw06_TermsApart.l1]
    rw [e, if_pos (by omega), if_pos (by omega), if_pos (by omega), if_pos (by omega), if_pos (by omega), if_neg nx, if_neg nw, w1 (x := (j : Int)) (by omega) (by omega)]
    exact hr
theorem apart_l2 (L M : List S58) (a b : Int) (T : Nat) (hL : L.length = T) (hM : M.length = T) (hT : T ≤ 128) (h1 : a = b → ∀ j : Nat, j < T → (rd_T58 L (j : Int)).f1 = (rd_T58 M (j : Int)).f1)
    (h2 : a ≠ b → ∀ j : Nat, j < T → (rd_T58 L (j : Int)).f1 = (rd_T58 M (j : Int)).f1 → (rd_T58 L (j : Int)).f1 < 0) : ∀ (n j k : Nat), T - j = n → n < k → j ≤ T → symbolonlaw06_TermsApart.l2 k true L M a b (j : Int) = some true := by
  intro n
  induction n with
  | zero =>
    intro j k hn hk hj
    obtain ⟨k, rfl⟩ : ∃ q, k = q + 1 := ⟨k - 1, by omega⟩
    simp only [symbolonlaw06_TermsApart.l2]
    rw [if_neg (by omega)]
  | succ n ih =>
    intro j k hn hk hj
    obtain ⟨k, rfl⟩ : ∃ q, k = q + 1 := ⟨k - 1, by omega⟩
    have hr := ih (j + 1) k (by omega) (by omega) (by omega)
    simp only [symbolonlaw06_TermsApart.l2]
    rw [if_pos (by omega), w1 (x := (j : Int)) (by omega) (by omega)]
    by_cases e : a = b
    · rw [if_pos e, if_pos (by omega), if_pos (by omega), if_pos (h1 e j (by omega))]
      exact hr
    · rw [if_neg e, if_pos (by omega), if_pos (by omega)]
      by_cases e2 : (rd_T58 L (j : Int)).f1 = (rd_T58 M (j : Int)).f1
      · have := h2 e j (by omega) e2
        rw [if_pos e2, if_neg (by omega)]
        exact hr
      · rw [if_neg e2]
        exact hr
theorem of2_at {s : S23} (hs : Sy.rightB s = true) (p : Nat) (hp : (p : Int) < Sy.sizeI s) (k : Nat) (hk : 1700 < k) : symbolonref02_Of.f k s.f0 s.f1 s.f2 (p : Int) = some ((p : Int) / s.f2 / s.f1, (p : Int) / s.f2 % s.f1, (p : Int) % s.f2, true) := by
  obtain ⟨⟨a1, a2⟩, ⟨b1, b2⟩, ⟨c1, c2⟩, -⟩ := right_bd hs
  obtain ⟨⟨o1, o2⟩, ⟨y1, y2⟩, ⟨x1, x2⟩⟩ := of_bd hs (by omega) hp
  obtain ⟨C, hC⟩ := Int.eq_ofNat_of_zero_le (show 0 ≤ s.f0 by omega)
  obtain ⟨H, hH⟩ := Int.eq_ofNat_of_zero_le (show 0 ≤ s.f1 by omega)
  obtain ⟨W, hW⟩ := Int.eq_ofNat_of_zero_le (show 0 ≤ s.f2 by omega)
  rw [hH, hW] at o1 o2 y1 y2
  rw [hW] at x1 x2
  rw [hC] at o2
  have e1 : (p : Int) / (W : Int) / (H : Int) = ((p / W / H : Nat) : Int) := rfl
  have e2 : (p : Int) / (W : Int) % (H : Int) = ((p / W % H : Nat) : Int) := rfl
  have e3 : (p : Int) % (W : Int) = ((p % W : Nat) : Int) := rfl
  have := of2_f s C H W (p / W / H) (p / W % H) (p % W) p hs hC hH hW (by omega) (by omega) (by omega) (by
    have d1 := Nat.div_add_mod p W
    have d2 := Nat.div_add_mod (p / W) H
    rw [Nat.mul_comm] at d1 d2
    rw [d2, d1]) k hk
  rw [this, hH, hW]
  rfl
theorem apart_end (S : S23) (l : List S40) (h0 : (Sy.allR S l).2 = 0) (i : Nat) (hi : i < l.length) (T m p q : Nat) (hT : Sy.lenT (rd_T40 l (i : Int)) (Sy.shp S l (i : Int)) = T) (hm : Sy.sizeI (Sy.shp S l ((i : Int) + 1)) = (m : Int)) (hp : p < m) (hq' : q < m) (k : Nat) (hk : 1700 < k) (a2 a3 : Int) (e2 : Int.tmod (wrap64 a2) (m : Int) = (p : Int)) (e3 : Int.tmod (wrap64 a3) (m : Int) = (q : Int)) :
    symbolonlaw06_TermsApart.l0 (k + 1) a2 a3 true (i : Int) (m : Int) (Sy.termsT (rd_T40 l (i : Int)) (Sy.shp S l (i : Int)) (Sy.shp S l ((i : Int) + 1)) (Sy.frm S l (i : Int)) (p : Int)) (T : Int) S.f0 S.f1 S.f2 l = some true := by
  obtain ⟨hl, hs, ht, hq, f3, f4, fr0, fr1⟩ := lay_ok h0 i hi
  have hTl := lenT_le hs hl hq
  rw [hT] at hTl
  have hsl := shp_len h0
  have h8 := len8 h0
  have hpp : 0 ≤ (p : Int) ∧ (p : Int) < Sy.sizeI (Sy.shp S l ((i : Int) + 1)) := by rw [hm]; omega
  have hqq : 0 ≤ (q : Int) ∧ (q : Int) < Sy.sizeI (Sy.shp S l ((i : Int) + 1)) := by rw [hm]; omega
  have er : rd_T23 (S :: (Sy.stepsR S l).map (·.f2)) ((i : Int) + 1) = Sy.shp S l ((i : Int) + 1) := rfl
  simp only [symbolonlaw06_TermsApart.l0]
  rw [if_neg (by rw [terms_len, hT]; omega), if_neg (by omega), e3, terms_f _ _ _ _ _ (by omega), Option.bind_some, termsR_yes h0 i hi hqq]
  unfold h05_Shapes.f
  rw [Option.bind_some, show Sy.shapesR ⟨S.f0, S.f1, S.f2⟩ l = Sy.shapesR S l from rfl, shapesR_ok h0, w1 (by omega) (by omega), if_pos (by omega), if_pos (by rw [hsl]; omega), er, e2, of2_at ht p hpp.2 k hk, Option.bind_some, of2_at ht q hqq.2 k hk, Option.bind_some, if_pos (by rw [terms_len, terms_len])]
  refine apart_l2 _ _ _ _ T (by rw [terms_len, hT]) (by rw [terms_len, hT]) hTl ?_ ?_ T 0 k (Nat.sub_zero _) (by omega) (by omega)
  · intro e j hj
    dsimp only at e
    by_cases hk : (rd_T40 l (i : Int)).f0 = 1 ∨ (rd_T40 l (i : Int)).f0 = 4
    · rw [term_w hs hl hq hpp hk j (by rw [hT]; exact hj), term_w hs hl hq hqq hk j (by rw [hT]; exact hj), e]
    · rw [(term_w0 hl hk j (by rw [hT]; exact hj)).1, (term_w0 hl hk j (by rw [hT]; exact hj)).1]
  · intro e j hj he
    dsimp only at e
    by_cases hk : (rd_T40 l (i : Int)).f0 = 1 ∨ (rd_T40 l (i : Int)).f0 = 4
    · exfalso
      rw [term_w hs hl hq hpp hk j (by rw [hT]; exact hj), term_w hs hl hq hqq hk j (by rw [hT]; exact hj), hT] at he
      apply e
      have h2 : (p : Int) / (Sy.shp S l ((i : Int) + 1)).f2 / (Sy.shp S l ((i : Int) + 1)).f1 * (T : Int) = (q : Int) / (Sy.shp S l ((i : Int) + 1)).f2 / (Sy.shp S l ((i : Int) + 1)).f1 * (T : Int) := by omega
      exact Int.eq_of_mul_eq_mul_right (by omega) h2
    · rw [(term_w0 hl hk j (by rw [hT]; exact hj)).1]; omega
theorem apart_l0 (S : S23) (l : List S40) (h0 : (Sy.allR S l).2 = 0) (i : Nat) (hi : i < l.length) (T m p q : Nat) (hT : Sy.lenT (rd_T40 l (i : Int)) (Sy.shp S l (i : Int)) = T) (hm : Sy.sizeI (Sy.shp S l ((i : Int) + 1)) = (m : Int)) (hp : p < m) (hq' : q < m) (a2 a3 : Int) (e2 : Int.tmod (wrap64 a2) (m : Int) = (p : Int)) (e3 : Int.tmod (wrap64 a3) (m : Int) = (q : Int)) :
    ∀ (n j k : Nat), T - j = n → n * 200 + 1800 < k → j ≤ T → symbolonlaw06_TermsApart.l0 k a2 a3 true (i : Int) (m : Int) (Sy.termsT (rd_T40 l (i : Int)) (Sy.shp S l (i : Int)) (Sy.shp S l ((i : Int) + 1)) (Sy.frm S l (i : Int)) (p : Int)) (j : Int) S.f0 S.f1 S.f2 l = some true := by
  obtain ⟨hl, hs, ht, hq, f3, f4, fr0, fr1⟩ := lay_ok h0 i hi
  have hTl := lenT_le hs hl hq
  rw [hT] at hTl
  have hpp : 0 ≤ (p : Int) ∧ (p : Int) < Sy.sizeI (Sy.shp S l ((i : Int) + 1)) := by rw [hm]; omega
  have hLl : (Sy.termsT (rd_T40 l (i : Int)) (Sy.shp S l (i : Int)) (Sy.shp S l ((i : Int) + 1)) (Sy.frm S l (i : Int)) (p : Int)).length = T := by rw [terms_len, hT]
  intro n
  induction n with
  | zero =>
    intro j k hn hk hj
    obtain ⟨k, rfl⟩ : ∃ q, k = q + 1 := ⟨k - 1, by omega⟩
    obtain rfl : j = T := by omega
    exact apart_end S l h0 i hi j m p q hT hm hp hq' k (by omega) a2 a3 e2 e3
  | succ n ih =>
    intro j k hn hk hj
    obtain ⟨k, rfl⟩ : ∃ q, k = q + 1 := ⟨k - 1, by omega⟩
    simp only [symbolonlaw06_TermsApart.l0]
    rw [if_pos (by rw [hLl]; omega)]
    have := apart_l1 a2 a3 (i : Int) (m : Int) T j _ S l hLl hTl (by omega) (fun a b ha hb h => term_x hs hl hq hpp a b (by rw [hT]; exact ha) (by rw [hT]; exact hb) h) (fun a b ha hb h => by
      by_cases hk : (rd_T40 l (i : Int)).f0 = 1 ∨ (rd_T40 l (i : Int)).f0 = 4
      · rw [term_w hs hl hq hpp hk a (by rw [hT]; exact ha), term_w hs hl hq hpp hk b (by rw [hT]; exact hb)] at h
        omega
      · have := (term_w0 (s := Sy.shp S l (i : Int)) (t := Sy.shp S l ((i : Int) + 1)) (fr := Sy.frm S l (i : Int)) (p := (p : Int)) hl hk a (by rw [hT]; exact ha)).2
        omega) j 0 k (by omega) (by omega) (by omega)
    refine this.trans ?_
    exact ih (j + 1) (k - j - 1) (by omega) (by omega) (by omega)
theorem termsApart_f (S : S23) (l : List S40) (a : Int) (ha : 0 ≤ a ∧ a ≤ 255) (b : Int) (hb : 0 ≤ b ∧ b ≤ 255) (c : Int) (hc : 0 ≤ c ∧ c ≤ 255) : symbolonlaw06_TermsApart.f 32000 S.f0 S.f1 S.f2 l a b c = some true := by
  obtain ⟨i, hi8, hmod⟩ := byte_mod ha
  unfold symbolonlaw06_TermsApart.f symbolonlaw04_Great.f
  rw [show (32000 : Nat) = 2000 + 30000 from rfl, head6_, Option.bind_some, Option.bind_some, hmod]
  by_cases hg : decide ((l.length : Int) > 60) = true
  · rw [if_pos hg]
  · rw [if_neg hg]
    by_cases h : (Sy.allR S l).2 = 0 ∧ 0 ≤ (i : Int) ∧ (i : Int) < l.length
    · obtain ⟨h0, -, hi⟩ := h
      have hi : i < l.length := by omega
      obtain ⟨hl, hs, ht, hq, f3, f4, fr0, fr1⟩ := lay_ok h0 i hi
      have hz := size_bd ht
      have hz1 := size_pos' ht
      obtain ⟨m, hm⟩ := Int.eq_ofNat_of_zero_le hz.1
      have em : ∀ x : Int, 0 ≤ x ∧ x ≤ 255 → ∃ p : Nat, p < m ∧ Int.tmod (wrap64 x) (m : Int) = (p : Int) := by
        intro x hx
        have e : wrap64 x = x := by unfold wrap64; omega
        rw [e, Int.tmod_eq_emod_of_nonneg hx.1]
        have g1 := Int.emod_nonneg x (show (m : Int) ≠ 0 by omega)
        have g2 := Int.emod_lt_of_pos x (show 0 < (m : Int) by omega)
        exact ⟨(x % (m : Int)).toNat, by omega, by omega⟩
      obtain ⟨p, hp, ep⟩ := em b hb
      obtain ⟨q, hq', eq⟩ := em c hc
      have hTl := lenT_le hs hl hq
      have hpp : 0 ≤ (p : Int) ∧ (p : Int) < Sy.sizeI (Sy.shp S l ((i : Int) + 1)) := by rw [hm]; omega
      rw [sizes_yes h0 i hi _ (by omega), Option.bind_some, if_pos rfl]
      dsimp only
      rw [hm, if_neg (by omega), ep, terms_f _ _ _ _ _ (by omega), Option.bind_some, termsR_yes h0 i hi hpp]
      exact apart_l0 S l h0 i hi _ m p q rfl hm hp hq' b c ep eq (Sy.lenT (rd_T40 l (i : Int)) (Sy.shp S l (i : Int))) 0 (2000 + 30000) (by omega) (by omega) (by omega)
    · rw [sizes_no h _ (by omega), Option.bind_some, if_neg (by decide)]
end Go.Proofs.Ytnfcadjckoebkaa.P
