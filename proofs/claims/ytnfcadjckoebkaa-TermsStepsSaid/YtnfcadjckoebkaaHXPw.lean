import Derived.Test.YtnfcadjckoebkaaHXPu
namespace Go.Proofs.Ytnfcadjckoebkaa.P
open Go.RowKit Go.Proofs.YtnfcadjckoebkaaW.PrintWords Go.Proofs.YtnfcadjckoebkaaW.PrintLast Go.Proofs.YtnfcadjckoebkaaW.PrintMore
set_option linter.unusedSimpArgs false
set_option linter.unusedVariables false
theorem rd58_get (xs : List S58) (j : Nat) (h : j < xs.length) : rd_T58 xs (j : Int) = xs[j] := by simp [rd_T58, List.getD, h]
theorem flat_get {α : Type} (f : Nat → List α) (m : Nat) (hf : ∀ c, (f c).length = m) : ∀ (n j : Nat) (hj : j < ((List.range n).flatMap f).length), ∃ (h : j % m < (f (j / m)).length), ((List.range n).flatMap f)[j] = (f (j / m))[j % m] := by
  intro n
  induction n with
  | zero => intro j hj; simp at hj
  | succ n ih =>
    intro j hj
    have e : (List.range (n + 1)).flatMap f = (List.range n).flatMap f ++ f n := by simp [List.range_succ]
    have hl : ((List.range n).flatMap f).length = n * m := by
      clear ih hj e
      induction n with
      | zero => simp
      | succ n ih => rw [show (List.range (n + 1)).flatMap f = (List.range n).flatMap f ++ f n by simp [List.range_succ], List.length_append, ih, hf, Nat.succ_mul]
    by_cases h : j < n * m
    · obtain ⟨h1, h2⟩ := ih j (by omega)
      refine ⟨h1, ?_⟩
      rw [← h2]
      simp only [e]
      rw [List.getElem_append_left (by omega)]
    · simp only [e, List.length_append, hl, hf] at hj
      have hm : 0 < m := by omega
      have q1 : j / m = n := by
        rw [Nat.div_eq_iff hm]
        constructor
        · omega
        · omega
      have q2 : j % m = j - n * m := by
        have := Nat.div_add_mod j m
        rw [q1, Nat.mul_comm] at this
        omega
      refine ⟨by rw [hf]; exact Nat.mod_lt _ hm, ?_⟩
      simp only [e]
      rw [List.getElem_append_right (by omega)]
      simp only [hl, q1, q2]
theorem conv_get (s : S23) (sz sp : Nat) (fr : Int) (o y x n j : Nat) (hj : j < (Sy.convL s sz sp fr o y x n).length) : (Sy.convL s sz sp fr o y x n)[j] = Sy.convW s sz sp fr o y x (j / (sz * sz)) (j % (sz * sz)) := by
  obtain ⟨h1, h2⟩ := flat_get (Sy.convC s sz sp fr o y x) (sz * sz) (fun c => by simp [Sy.convC]) n j hj
  show ((List.range n).flatMap (Sy.convC s sz sp fr o y x))[j]'hj = _
  rw [h2]
  simp [Sy.convC]
theorem term_w {x : S40} {s t : S23} {fr p : Int} (hs : Sy.rightB s = true) (hl : Sy.layerB x = true) (hq : Sy.outO s x = some t) (hp : 0 ≤ p ∧ p < Sy.sizeI t) (hk : x.f0 = 1 ∨ x.f0 = 4) (j : Nat) (hj : j < Sy.lenT x s) :
    (rd_T58 (Sy.termsT x s t fr p) (j : Int)).f1 = fr + p / t.f2 / t.f1 * (Sy.lenT x s : Int) + (j : Int) := by
  have ht := (out_bd hs hq).1
  have hz := size_bd hs
  obtain ⟨⟨a1, a2⟩, ⟨a3, a4⟩, ⟨a5, a6⟩, -⟩ := right_bd hs
  rw [rd58_get _ _ (by rw [terms_len]; exact hj)]
  rcases hk with k | k
  · obtain ⟨t0, z1, z2, z3, p1, p2, t1, t2⟩ := conv_shape hq k
    obtain ⟨⟨o1, o2⟩, ⟨y1, y2⟩, ⟨x1, x2⟩⟩ := of_bd ht hp.1 hp.2
    have e : Sy.termsT x s t fr p = Sy.convT x s t fr p := by unfold Sy.termsT; rw [if_pos k]
    have hT : Sy.lenT x s = s.f0.toNat * (x.f2.toNat * x.f2.toNat) := by unfold Sy.lenT; rw [if_pos k]
    simp only [e]
    unfold Sy.convT
    rw [conv_get, hT]
    unfold Sy.convW
    dsimp only
    rw [Int.toNat_of_nonneg o1]
    generalize p / t.f2 / t.f1 = o at *
    obtain ⟨n, hn⟩ := Int.eq_ofNat_of_zero_le (show 0 ≤ s.f0 by omega)
    obtain ⟨sz, hsz⟩ := Int.eq_ofNat_of_zero_le (show 0 ≤ x.f2 by omega)
    rw [hn, hsz]
    simp only [Int.toNat_natCast]
    have h1 := Nat.div_add_mod j (sz * sz)
    have h2 : (j : Int) = (sz : Int) * (sz : Int) * ((j / (sz * sz) : Nat) : Int) + ((j % (sz * sz) : Nat) : Int) := by
      have := congrArg (Nat.cast : Nat → Int) h1
      rw [Int.natCast_add, Int.natCast_mul, Int.natCast_mul] at this
      exact this.symm
    generalize j / (sz * sz) = c at *
    generalize j % (sz * sz) = r at *
    rw [h2]
    push_cast
    rw [Int.add_mul, Int.add_mul]
    simp only [Int.mul_assoc, Int.mul_comm, Int.mul_left_comm, Int.add_assoc]
  · obtain ⟨t0, o1, o2⟩ := dense_shape hq k
    have e : Sy.termsT x s t fr p = Sy.denseL (Sy.sizeI s).toNat fr p (Sy.sizeI s).toNat := by unfold Sy.termsT; rw [if_neg (by omega), if_pos k]
    have hT : Sy.lenT x s = (Sy.sizeI s).toNat := by unfold Sy.lenT; rw [if_neg (by omega), if_pos k]
    have hTi : (Sy.lenT x s : Int) = Sy.sizeI s := by rw [hT, Int.toNat_of_nonneg hz.1]
    simp only [e]
    rw [hTi]
    subst t0
    simp [Sy.denseL, Int.toNat_of_nonneg hz.1, Int.max_eq_left hz.1]
end Go.Proofs.Ytnfcadjckoebkaa.P
