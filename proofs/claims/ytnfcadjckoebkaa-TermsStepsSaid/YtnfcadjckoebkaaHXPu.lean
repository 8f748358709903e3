import Derived.Test.YtnfcadjckoebkaaHXTp
import Derived.Test.YtnfcadjckoebkaaHXLFs
namespace Go.Proofs.Ytnfcadjckoebkaa.P
open Go.RowKit Go.Proofs.YtnfcadjckoebkaaW.PrintWords Go.Proofs.YtnfcadjckoebkaaW.PrintLast Go.Proofs.YtnfcadjckoebkaaW.PrintMore
set_option linter.unusedSimpArgs false
set_option linter.unusedVariables false
theorem size_pos' {s : S23} (h : Sy.rightB s = true) : 1 ≤ Sy.sizeI s := by
  unfold Sy.sizeI
  rw [if_pos h]
  obtain ⟨a, b, c, d⟩ := right_bd h
  have h1 : 0 < s.f0 * s.f1 := Int.mul_pos (by omega) (by omega)
  have h2 : 0 < s.f0 * s.f1 * s.f2 := Int.mul_pos h1 (by omega)
  omega
theorem shp_len {S : S23} {l : List S40} (h0 : (Sy.allR S l).2 = 0) : (S :: (Sy.stepsR S l).map (·.f2)).length = l.length + 1 := by
  have := stepsR_len h0
  simp; omega
theorem len8 {S : S23} {l : List S40} (h0 : (Sy.allR S l).2 = 0) : l.length ≤ 8 := by
  have h8 : (Sy.stepsR S l).length ≤ 8 := allR_len S l
  have := stepsR_len h0
  omega
theorem sizes_yes {S : S23} {l : List S40} (h0 : (Sy.allR S l).2 = 0) (i : Nat) (hi : i < l.length) (k : Nat) (hk : 0 < k) : symbolonlaw06_sizes.f k S.f0 S.f1 S.f2 l (i : Int) = some (Sy.sizeI (Sy.shp S l (i : Int)), Sy.sizeI (Sy.shp S l ((i : Int) + 1)), true) := by
  obtain ⟨k, rfl⟩ : ∃ q, k = q + 1 := ⟨k - 1, by omega⟩
  have hl := shp_len h0
  have h8 := len8 h0
  unfold symbolonlaw06_sizes.f h05_Shapes.f
  rw [Option.bind_some, show (Sy.shapesR ⟨S.f0, S.f1, S.f2⟩ l) = Sy.shapesR S l from rfl, shapesR_ok h0, if_pos rfl, if_neg (by omega), decide_eq_false (by omega)]
  simp only [symbolonlaw06_sizes.j0]
  rw [if_neg (by decide), if_pos (by omega), if_pos (by rw [hl]; omega), w1 (by omega) (by omega)]
  unfold h02_Size.f
  simp only [Option.bind_some]
  rw [if_pos (by omega), if_pos (by rw [hl]; omega)]
  rfl
theorem sizes_no {S : S23} {l : List S40} {i : Int} (h : ¬ ((Sy.allR S l).2 = 0 ∧ 0 ≤ i ∧ i < l.length)) (k : Nat) (hk : 0 < k) : symbolonlaw06_sizes.f k S.f0 S.f1 S.f2 l i = some (0, 0, false) := by
  obtain ⟨k, rfl⟩ : ∃ q, k = q + 1 := ⟨k - 1, by omega⟩
  unfold symbolonlaw06_sizes.f h05_Shapes.f
  rw [Option.bind_some, show (Sy.shapesR ⟨S.f0, S.f1, S.f2⟩ l) = Sy.shapesR S l from rfl, shapesR_e]
  by_cases h0 : (Sy.allR S l).2 = 0
  · rw [if_pos h0]
    by_cases h1 : i < 0
    · rw [if_pos h1]; simp only [symbolonlaw06_sizes.j0]; rfl
    · rw [if_neg h1, decide_eq_true (by omega)]; simp only [symbolonlaw06_sizes.j0]; rfl
  · rw [if_neg h0]; simp only [symbolonlaw06_sizes.j0]; rfl
def Sy.lenT (x : S40) (s : S23) : Nat := if x.f0 = 1 then s.f0.toNat * (x.f2.toNat * x.f2.toNat) else if x.f0 = 4 then (Sy.sizeI s).toNat else if x.f0 = 2 then 1 else 0
theorem terms_len (x : S40) (s t : S23) (fr p : Int) : (Sy.termsT x s t fr p).length = Sy.lenT x s := by
  unfold Sy.termsT Sy.lenT
  by_cases k1 : x.f0 = 1
  · rw [if_pos k1, if_pos k1]; unfold Sy.convT; rw [convL_len]
  · rw [if_neg k1, if_neg k1]
    by_cases k4 : x.f0 = 4
    · rw [if_pos k4, if_pos k4]; simp [Sy.denseL]
    · rw [if_neg k4, if_neg k4]
      by_cases k2 : x.f0 = 2
      · rw [if_pos k2, if_pos k2]; rfl
      · rw [if_neg k2, if_neg k2]; rfl
theorem conv_shape {x : S40} {s t : S23} (hq : Sy.outO s x = some t) (k1 : x.f0 = 1) : t.f0 = x.f1 ∧ 1 ≤ x.f2 ∧ x.f2 ≤ s.f1 ∧ x.f2 ≤ s.f2 ∧ 1 ≤ x.f3 ∧ x.f3 ≤ 12 ∧ t.f1 = (s.f1 - x.f2) / x.f3 + 1 ∧ t.f2 = (s.f2 - x.f2) / x.f3 + 1 := by
  unfold Sy.outO at hq
  rw [if_pos k1] at hq
  unfold Sy.convO at hq
  split at hq
  · rename_i hh
    injection hq with hq
    subst hq
    exact ⟨rfl, hh.2.1, hh.2.2.1, hh.2.2.2.1, hh.2.2.2.2.1, hh.2.2.2.2.2.1, rfl, rfl⟩
  · cases hq
theorem dense_shape {x : S40} {s t : S23} (hq : Sy.outO s x = some t) (k4 : x.f0 = 4) : t = ⟨x.f1, 1, 1⟩ ∧ 1 ≤ x.f1 ∧ x.f1 ≤ 8 := by
  unfold Sy.outO at hq
  rw [if_neg (by omega), if_neg (by omega), if_neg (by omega)] at hq
  split at hq
  · rename_i hh
    injection hq with hq
    exact ⟨hq.symm, hh.1, hh.2⟩
  · cases hq
theorem square_shape {x : S40} {s t : S23} (hq : Sy.outO s x = some t) (k2 : x.f0 = 2) : t = s := by
  unfold Sy.outO at hq
  rw [if_neg (by omega), if_pos k2] at hq
  injection hq with hq
  exact hq.symm
theorem size_mul {t : S23} (ht : Sy.rightB t = true) : Sy.sizeI t = t.f0 * t.f1 * t.f2 := by unfold Sy.sizeI; rw [if_pos ht]
theorem conv_mem {s : S23} {sz sp : Nat} {fr : Int} {o y x n : Nat} {e : S58} (h : e ∈ Sy.convL s sz sp fr o y x n) : ∃ c k, c < n ∧ k < sz * sz ∧ e = Sy.convW s sz sp fr o y x c k := by
  simp only [Sy.convL, Sy.convC, List.mem_flatMap, List.mem_map, List.mem_range] at h
  obtain ⟨c, hc, k, hk, rfl⟩ := h
  exact ⟨c, k, hc, hk, rfl⟩
theorem term_in {x : S40} {s t : S23} {fr p : Int} (hs : Sy.rightB s = true) (hl : Sy.layerB x = true) (hq : Sy.outO s x = some t) (hp : 0 ≤ p ∧ p < Sy.sizeI t) {e : S58} (he : e ∈ Sy.termsT x s t fr p) :
    (0 ≤ e.f0 ∧ e.f0 < Sy.sizeI s) ∧ (Sy.wts s x = 0 → e.f1 = -1) ∧ (Sy.wts s x ≠ 0 → fr ≤ e.f1 ∧ e.f1 < fr + Sy.wts s x) := by
  have ht := (out_bd hs hq).1
  have hz := size_bd hs
  obtain ⟨⟨a1, a2⟩, ⟨a3, a4⟩, ⟨a5, a6⟩, -⟩ := right_bd hs
  have hw : Sy.wts s x = if x.f0 = 1 then x.f1 * s.f0 * x.f2 * x.f2 else if x.f0 = 2 then 0 else if x.f0 = 3 then 0 else x.f1 * Sy.sizeI s := rfl
  unfold Sy.termsT at he
  rcases layer_kind'' hl with k | k | k | k
  · obtain ⟨t0, z1, z2, z3, p1, p2, t1, t2⟩ := conv_shape hq k
    rw [if_pos k] at he hw
    obtain ⟨c, j, hc, hj, rfl⟩ := conv_mem he
    obtain ⟨⟨o1, o2⟩, ⟨y1, y2⟩, ⟨x1, x2⟩⟩ := of_bd ht hp.1 hp.2
    have hy := fit_le p1 t1 y2 y1
    have hx := fit_le p1 t2 x2 x1
    generalize p / t.f2 / t.f1 = oo at *
    generalize p / t.f2 % t.f1 = yy at *
    generalize p % t.f2 = xx at *
    obtain ⟨sz, hsz⟩ := Int.eq_ofNat_of_zero_le (show 0 ≤ x.f2 by omega)
    obtain ⟨sp, hsp⟩ := Int.eq_ofNat_of_zero_le (show 0 ≤ x.f3 by omega)
    obtain ⟨o, rfl⟩ := Int.eq_ofNat_of_zero_le o1
    obtain ⟨y, rfl⟩ := Int.eq_ofNat_of_zero_le y1
    obtain ⟨xc, rfl⟩ := Int.eq_ofNat_of_zero_le x1
    obtain ⟨n, hn⟩ := Int.eq_ofNat_of_zero_le (show 0 ≤ s.f0 by omega)
    have eW : Sy.convW s x.f2.toNat x.f3.toNat fr (o : Int).toNat (y : Int).toNat (xc : Int).toNat c j = Sy.convW s sz sp fr o y xc c j := by rw [hsz, hsp]; rfl
    rw [eW]
    rw [hsz] at hj hy hx z1 z2 z3 hw
    rw [hsp] at hy hx p1 p2
    rw [hn] at hc hw
    simp only [Int.toNat_natCast] at hc hj
    have hq' : j / sz < sz := Nat.div_lt_of_lt_mul hj
    have hr : j % sz < sz := Nat.mod_lt _ (by omega)
    have g := (fun (q r : Nat) (h1 : q < sz) (h2 : r < sz) => atI_bd (s := s) (c := (c : Int)) (y := ((y * sp + q : Nat) : Int)) (x := ((xc * sp + r : Nat) : Int)) hs ⟨by omega, by omega⟩ ⟨by omega, by push_cast; omega⟩ ⟨by omega, by push_cast; omega⟩) (j / sz) (j % sz) hq' hr
    have m : (((o * n + c) * (sz * sz) + j : Nat) : Int) < x.f1 * (n : Int) * (sz : Int) * (sz : Int) := by
      have ho : o < x.f1.toNat := by omega
      have q1 : o * n + c + 1 ≤ x.f1.toNat * n := by
        have := Nat.mul_le_mul_right n (show o + 1 ≤ x.f1.toNat by omega)
        rw [Nat.add_mul, Nat.one_mul] at this
        omega
      have q2 : (o * n + c + 1) * (sz * sz) ≤ x.f1.toNat * n * (sz * sz) := Nat.mul_le_mul_right _ q1
      rw [Nat.add_mul (o * n + c) 1, Nat.one_mul] at q2
      have q3 : (o * n + c) * (sz * sz) + j < x.f1.toNat * n * (sz * sz) := by omega
      have q4 : x.f1 * (n : Int) * (sz : Int) * (sz : Int) = ((x.f1.toNat * n * (sz * sz) : Nat) : Int) := by
        push_cast
        rw [Int.toNat_of_nonneg (by omega)]
        simp only [Int.mul_assoc]
      rw [q4]
      exact_mod_cast q3
    have e2 : ((o : Int) * s.f0 + (c : Int)) * (sz : Int) * (sz : Int) + (j : Int) = (((o * n + c) * (sz * sz) + j : Nat) : Int) := by
      rw [hn]; push_cast; simp only [Int.mul_assoc]
    have e3 : (Sy.convW s sz sp fr o y xc c j).f1 = fr + (((o * n + c) * (sz * sz) + j : Nat) : Int) := by
      rw [← e2]; unfold Sy.convW; simp only [Int.add_assoc]
    refine ⟨g, fun h => ?_, fun _ => ?_⟩
    · rw [hw] at h; omega
    · rw [e3, hw]; omega
  · have := square_shape hq k
    subst this
    rw [if_neg (by omega), if_neg (by omega), if_pos k] at he
    rw [if_neg (by omega), if_pos k] at hw
    simp only [List.mem_singleton] at he
    subst he
    exact ⟨hp, fun _ => rfl, fun h => absurd hw h⟩
  · rw [if_neg (by omega), if_neg (by omega), if_neg (by omega)] at he
    cases he
  · obtain ⟨t0, o1, o2⟩ := dense_shape hq k
    rw [if_neg (by omega), if_pos k] at he
    rw [if_neg (by omega), if_neg (by omega), if_neg (by omega)] at hw
    rw [size_mul ht, t0] at hp
    simp only [Int.mul_one] at hp
    obtain ⟨m, hm⟩ := Int.eq_ofNat_of_zero_le hz.1
    rw [hm] at he hw ⊢
    simp only [Int.toNat_natCast, Sy.denseL, List.mem_map, List.mem_range] at he
    obtain ⟨j, hj, rfl⟩ := he
    have q1 : (p + 1) * (m : Int) ≤ x.f1 * (m : Int) := Int.mul_le_mul_of_nonneg_right (by omega) (by omega)
    rw [Int.add_mul, Int.one_mul] at q1
    have q2 : 0 ≤ p * (m : Int) := Int.mul_nonneg hp.1 (by omega)
    refine ⟨⟨by dsimp only; omega, by dsimp only; omega⟩, fun h => ?_, fun _ => ⟨by dsimp only; omega, by dsimp only; rw [hw]; omega⟩⟩
    rw [hw] at h; omega
theorem termsR_yes {S : S23} {l : List S40} (h0 : (Sy.allR S l).2 = 0) (i : Nat) (hi : i < l.length) {p : Int} (hp : 0 ≤ p ∧ p < Sy.sizeI (Sy.shp S l ((i : Int) + 1))) :
    Sy.termsR S l (i : Int) p = Sy.termsT (rd_T40 l (i : Int)) (Sy.shp S l (i : Int)) (Sy.shp S l ((i : Int) + 1)) (Sy.frm S l (i : Int)) p := by
  unfold Sy.termsR
  rw [if_pos ⟨h0, by omega, by omega⟩, if_pos hp]
theorem byte_mod {a : Int} (h : 0 ≤ a ∧ a ≤ 255) : ∃ n : Nat, n < 8 ∧ Int.tmod (wrap64 a) 8 = (n : Int) := by
  have e : wrap64 a = a := by unfold wrap64; omega
  rw [e, Int.tmod_eq_emod_of_nonneg h.1]
  exact ⟨(a % 8).toNat, by omega, by omega⟩
theorem rd58 (xs : List S58) (j : Nat) (h : j < xs.length) : rd_T58 xs (j : Int) ∈ xs := by
  have e : rd_T58 xs (j : Int) = xs[j] := by simp [rd_T58, List.getD, h]
  rw [e]
  exact List.getElem_mem h
end Go.Proofs.Ytnfcadjckoebkaa.P
