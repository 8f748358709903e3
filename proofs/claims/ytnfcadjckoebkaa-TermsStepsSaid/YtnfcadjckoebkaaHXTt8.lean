import Derived.Test.YtnfcadjckoebkaaHXTt4
import Derived.Test.YtnfcadjckoebkaaHXFsymbolonlaw06TermsSteps
namespace Go.Proofs.Ytnfcadjckoebkaa.P
open Go.RowKit Go.Proofs.YtnfcadjckoebkaaW.PrintWords Go.Proofs.YtnfcadjckoebkaaW.PrintLast Go.Proofs.YtnfcadjckoebkaaW.PrintMore
set_option linter.unusedSimpArgs false
set_option linter.unusedVariables false
theorem next_place {t : S23} (ht : Sy.rightB t = true) (p : Nat) (hp : (p : Int) < Sy.sizeI t) (hx : (p : Int) % t.f2 + 1 < t.f2) :
    ((p + 1 : Nat) : Int) / t.f2 = (p : Int) / t.f2 ∧ ((p + 1 : Nat) : Int) % t.f2 = (p : Int) % t.f2 + 1 ∧ ((p + 1 : Nat) : Int) < Sy.sizeI t := by
  obtain ⟨⟨a1, a2⟩, ⟨b1, b2⟩, ⟨c1, c2⟩, -⟩ := right_bd ht
  obtain ⟨C, hC⟩ := Int.eq_ofNat_of_zero_le (show 0 ≤ t.f0 by omega)
  obtain ⟨H, hH⟩ := Int.eq_ofNat_of_zero_le (show 0 ≤ t.f1 by omega)
  obtain ⟨W, hW⟩ := Int.eq_ofNat_of_zero_le (show 0 ≤ t.f2 by omega)
  rw [size_mul ht, hC, hH, hW] at hp ⊢
  rw [hW] at hx
  have hx' : p % W + 1 < W := by exact_mod_cast hx
  have hp' : p < C * H * W := by exact_mod_cast hp
  have hd := Nat.div_add_mod p W
  rw [Nat.mul_comm] at hd
  have e0 : p / W * W + (p % W + 1) = p + 1 := by rw [← Nat.add_assoc, hd]
  have e1 : (p + 1) / W = p / W := by
    rw [← e0, Nat.add_comm, Nat.add_mul_div_right _ _ (by omega), Nat.div_eq_of_lt hx', Nat.zero_add]
  have e2 : (p + 1) % W = p % W + 1 := by
    rw [← e0, Nat.add_comm, Nat.add_mul_mod_self_right, Nat.mod_eq_of_lt hx']
  have e3 : p + 1 < C * H * W := by
    have h1 : p / W < C * H := Nat.div_lt_of_lt_mul (by rw [Nat.mul_comm]; exact hp')
    have h2 : (p / W + 1) * W ≤ C * H * W := Nat.mul_le_mul_right W h1
    rw [Nat.add_mul, Nat.one_mul] at h2
    omega
  exact ⟨by exact_mod_cast e1, by exact_mod_cast e2, by exact_mod_cast e3⟩
theorem term_step {x : S40} {s t : S23} {fr : Int} (hs : Sy.rightB s = true) (hl : Sy.layerB x = true) (hq : Sy.outO s x = some t) (p : Nat) (hp : (p : Int) < Sy.sizeI t) (hx : (p : Int) % t.f2 + 1 < t.f2) (hk : x.f0 = 1) (j : Nat) (hj : j < Sy.lenT x s) :
    (rd_T58 (Sy.termsT x s t fr ((p + 1 : Nat) : Int)) (j : Int)).f0 = (rd_T58 (Sy.termsT x s t fr (p : Int)) (j : Int)).f0 + x.f3 ∧ (rd_T58 (Sy.termsT x s t fr ((p + 1 : Nat) : Int)) (j : Int)).f1 = (rd_T58 (Sy.termsT x s t fr (p : Int)) (j : Int)).f1 := by
  have ht := (out_bd hs hq).1
  obtain ⟨n1, n2, n3⟩ := next_place ht p hp hx
  constructor
  · obtain ⟨t0, z1, z2, z3, p1, p2, t1, t2⟩ := conv_shape hq hk
    obtain ⟨⟨o1, o2⟩, ⟨y1, y2⟩, ⟨x1, x2⟩⟩ := of_bd ht (show (0 : Int) ≤ (p : Int) by omega) hp
    rw [rd58_get _ _ (by rw [terms_len]; exact hj), rd58_get _ _ (by rw [terms_len]; exact hj)]
    have e : ∀ p : Int, Sy.termsT x s t fr p = Sy.convT x s t fr p := fun p => by unfold Sy.termsT; rw [if_pos hk]
    simp only [e]
    unfold Sy.convT
    rw [conv_get, conv_get]
    unfold Sy.convW Sy.atI
    dsimp only
    rw [n1, n2]
    generalize (p : Int) / t.f2 / t.f1 = oo at *
    generalize (p : Int) / t.f2 % t.f1 = yy at *
    generalize (p : Int) % t.f2 = xx at *
    obtain ⟨sp, hsp⟩ := Int.eq_ofNat_of_zero_le (show 0 ≤ x.f3 by omega)
    obtain ⟨xc, rfl⟩ := Int.eq_ofNat_of_zero_le x1
    rw [hsp, show ((xc : Int) + 1).toNat = xc + 1 by omega]
    simp only [Int.toNat_natCast, Nat.add_mul, Nat.one_mul]
    push_cast
    simp only [Int.add_assoc, Int.add_comm, Int.add_left_comm]
  · rw [term_w hs hl hq ⟨by omega, n3⟩ (.inl hk) j hj, term_w hs hl hq ⟨by omega, hp⟩ (.inl hk) j hj, n1]
theorem steps_l0 (S : S23) (l : List S40) (i : Nat) (hi : i < l.length) (L M : List S58) (T : Nat) (hL : L.length = T) (hM : M.length = T) (hT : T ≤ 128) (hb : 0 ≤ (rd_T40 l (i : Int)).f3 ∧ (rd_T40 l (i : Int)).f3 ≤ 1000) (hx : ∀ j : Nat, j < T → 0 ≤ (rd_T58 L (j : Int)).f0 ∧ (rd_T58 L (j : Int)).f0 ≤ 1000)
    (h : ∀ j : Nat, j < T → (rd_T58 M (j : Int)).f0 = (rd_T58 L (j : Int)).f0 + (rd_T40 l (i : Int)).f3 ∧ (rd_T58 M (j : Int)).f1 = (rd_T58 L (j : Int)).f1) : ∀ (n j k : Nat), T - j = n → n < k → j ≤ T →
    symbolonlaw06_TermsSteps.l0 k true (i : Int) L M (j : Int) S.f0 S.f1 S.f2 l = some true := by
  intro n
  induction n with
  | zero =>
    intro j k hn hk hj
    obtain ⟨k, rfl⟩ : ∃ q, k = q + 1 := ⟨k - 1, by omega⟩
    simp only [symbolonlaw06_TermsSteps.l0]
    rw [if_neg (by omega)]
  | succ n ih =>
    intro j k hn hk hj
    obtain ⟨k, rfl⟩ : ∃ q, k = q + 1 := ⟨k - 1, by omega⟩
    obtain ⟨h1, h2⟩ := h j (by omega)
    have hxj := hx j (by omega)
    have e : wrap64 ((rd_T58 L (j : Int)).f0 + (rd_T40 l (i : Int)).f3) = (rd_T58 L (j : Int)).f0 + (rd_T40 l (i : Int)).f3 := by unfold wrap64; omega
    simp only [symbolonlaw06_TermsSteps.l0]
    rw [if_pos (by omega), if_pos (by omega), if_pos (by omega), if_pos (by omega), if_pos (by omega), e, if_pos h1, if_pos h2, w1 (x := (j : Int)) (by omega) (by omega)]
    exact ih (j + 1) k (by omega) (by omega) (by omega)
theorem termsSteps_f (S : S23) (l : List S40) (a : Int) (ha : 0 ≤ a ∧ a ≤ 255) (b : Int) (hb : 0 ≤ b ∧ b ≤ 255) : symbolonlaw06_TermsSteps.f 4000 S.f0 S.f1 S.f2 l a b = some true := by
  obtain ⟨i, hi8, hmod⟩ := byte_mod ha
  unfold symbolonlaw06_TermsSteps.f symbolonlaw04_Great.f
  rw [show (4000 : Nat) = 2000 + 2000 from rfl, head6_, Option.bind_some, Option.bind_some, hmod]
  by_cases hg : decide ((l.length : Int) > 60) = true
  · rw [if_pos hg]
  · rw [if_neg hg]
    by_cases h : (Sy.allR S l).2 = 0 ∧ 0 ≤ (i : Int) ∧ (i : Int) < l.length
    · obtain ⟨h0, -, hi⟩ := h
      have hi : i < l.length := by omega
      obtain ⟨hl, hs, ht, hq, f3, f4, fr0, fr1⟩ := lay_ok h0 i hi
      have hz := size_bd ht
      have hz1 := size_pos' ht
      have hsl := shp_len h0
      have h8 := len8 h0
      rw [sizes_yes h0 i hi _ (by omega), Option.bind_some, if_pos rfl, if_pos (by omega), if_pos (by omega)]
      dsimp only
      generalize hK : 2000 + 1999 = K
      have hK' : 2000 + 2000 = K + 1 := by omega
      rw [hK']
      by_cases hk : (rd_T40 l (i : Int)).f0 = 1
      · have e1 : ((rd_T40 l (i : Int)).f0 != 1) = false := by rw [hk]; rfl
        rw [e1]
        simp only [symbolonlaw06_TermsSteps.j0]
        obtain ⟨m, hm⟩ := Int.eq_ofNat_of_zero_le hz.1
        have ep : ∃ p : Nat, p < m ∧ Int.tmod (wrap64 b) (m : Int) = (p : Int) := by
          have e : wrap64 b = b := by unfold wrap64; omega
          rw [e, Int.tmod_eq_emod_of_nonneg hb.1]
          have g1 := Int.emod_nonneg b (show (m : Int) ≠ 0 by omega)
          have g2 := Int.emod_lt_of_pos b (show 0 < (m : Int) by omega)
          exact ⟨(b % (m : Int)).toNat, by omega, by omega⟩
        obtain ⟨p, hp, ep⟩ := ep
        have hps : (p : Int) < Sy.sizeI (Sy.shp S l ((i : Int) + 1)) := by rw [hm]; omega
        have er : rd_T23 (S :: (Sy.stepsR S l).map (·.f2)) ((i : Int) + 1) = Sy.shp S l ((i : Int) + 1) := rfl
        unfold h05_Shapes.f
        rw [if_neg (by decide), Option.bind_some, show Sy.shapesR ⟨S.f0, S.f1, S.f2⟩ l = Sy.shapesR S l from rfl, shapesR_ok h0, hm, if_neg (by omega), w1 (x := (i : Int)) (by omega) (by omega), if_pos (by omega), if_pos (by rw [hsl]; omega), er, ep, of2_at ht p hps K (by omega), Option.bind_some]
        dsimp only
        obtain ⟨⟨a1, a2⟩, ⟨b1, b2⟩, ⟨c1, c2⟩, -⟩ := right_bd ht
        obtain ⟨-, -, ⟨x1, x2⟩⟩ := of_bd ht (show (0 : Int) ≤ (p : Int) by omega) hps
        rw [w1 (x := (p : Int) % (Sy.shp S l ((i : Int) + 1)).f2) (by omega) (by omega), w1 (x := (p : Int)) (by omega) (by omega)]
        by_cases hx : (p : Int) % (Sy.shp S l ((i : Int) + 1)).f2 + 1 ≥ (Sy.shp S l ((i : Int) + 1)).f2
        · rw [if_pos hx]
        · have hx' : (p : Int) % (Sy.shp S l ((i : Int) + 1)).f2 + 1 < (Sy.shp S l ((i : Int) + 1)).f2 := by omega
          obtain ⟨n1, n2, n3⟩ := next_place ht p hps hx'
          rw [if_neg hx, terms_f _ _ _ _ _ (by omega), Option.bind_some, terms_f _ _ _ _ _ (by omega), Option.bind_some, termsR_yes h0 i hi ⟨by omega, hps⟩, show (p : Int) + 1 = ((p + 1 : Nat) : Int) from rfl, termsR_yes h0 i hi ⟨by omega, n3⟩, if_pos (by rw [terms_len, terms_len])]
          obtain ⟨t0, z1, z2, z3, p1, p2, -, -⟩ := conv_shape hq hk
          have hzs := size_bd hs
          refine steps_l0 S l i hi _ _ (Sy.lenT (rd_T40 l (i : Int)) (Sy.shp S l (i : Int))) (terms_len _ _ _ _ _) (terms_len _ _ _ _ _) (lenT_le hs hl hq) ⟨by omega, by omega⟩ ?_ ?_ _ 0 K rfl ?_ (Nat.zero_le _)
          · intro j hj
            have := (term_in (fr := Sy.frm S l (i : Int)) hs hl hq ⟨by omega, hps⟩ (rd58 _ j (by rw [terms_len]; exact hj))).1
            omega
          · intro j hj
            exact term_step hs hl hq p hps hx' hk j hj
          · have := lenT_le hs hl hq
            omega
      · have e1 : ((rd_T40 l (i : Int)).f0 != 1) = true := by rw [bne_iff_ne]; exact hk
        rw [e1]
        simp only [symbolonlaw06_TermsSteps.j0]
        rfl
    · rw [sizes_no h _ (by omega), Option.bind_some, if_neg (by decide)]
      simp only [show 2000 + 2000 = 3999 + 1 from rfl, symbolonlaw06_TermsSteps.j0]
      rfl
end Go.Proofs.Ytnfcadjckoebkaa.P
