import Derived.Test.YtnfcadjckoebkaaGXPv
import Derived.Test.YtnfcadjckoebkaaGXFsymbolonlaw06TermsBlocks
namespace Go.Proofs.Ytnfcadjckoebkaa.P
open Go.RowKit Go.Proofs.YtnfcadjckoebkaaW.PrintWords Go.Proofs.YtnfcadjckoebkaaW.PrintLast Go.Proofs.YtnfcadjckoebkaaW.PrintMore
set_option linter.unusedSimpArgs false
set_option linter.unusedVariables false
structure PoolN (x : S40) (s t : S23) (C h w z : Nat) : Prop where
  x2 : x.f2 = (z : Int)
  z1 : 0 < z
  z12 : z ≤ 12
  w1 : 0 < w
  h1 : 0 < h
  s0 : s.f0 = (C : Int)
  s1 : s.f1 = ((h * z : Nat) : Int)
  s2 : s.f2 = ((w * z : Nat) : Int)
  t0 : t.f0 = (C : Int)
  t1 : t.f1 = (h : Int)
  t2 : t.f2 = (w : Int)
theorem pool_n {x : S40} {s t : S23} (hs : Sy.rightB s = true) (hq : Sy.outO s x = some t) (k3 : x.f0 = 3) : ∃ C h w z, PoolN x s t C h w z := by
  have ht := (out_bd hs hq).1
  have hp : Sy.poolO s x.f2 = some t := by unfold Sy.outO at hq; rw [if_neg (by omega), if_neg (by omega), if_pos k3] at hq; exact hq
  obtain ⟨z1, z2, t0, t1, t2⟩ := pool_some hp
  have z3 : s.f2 % x.f2 = 0 := by
    unfold Sy.poolO at hp
    split at hp
    · rename_i hh; exact hh.2.2.2
    · cases hp
  obtain ⟨⟨a1, a2⟩, ⟨b1, b2⟩, ⟨c1, c2⟩, -⟩ := right_bd ht
  obtain ⟨⟨s1, s2⟩, ⟨s3, s4⟩, ⟨s5, s6⟩, -⟩ := right_bd hs
  have hle : x.f2 ≤ s.f1 := Int.le_of_dvd (by omega) (Int.dvd_of_emod_eq_zero z2)
  have e1 : s.f1 = t.f1 * x.f2 := by rw [t1]; exact (Int.ediv_mul_cancel (Int.dvd_of_emod_eq_zero z2)).symm
  have e2 : s.f2 = t.f2 * x.f2 := by rw [t2]; exact (Int.ediv_mul_cancel (Int.dvd_of_emod_eq_zero z3)).symm
  obtain ⟨z, hz⟩ := Int.eq_ofNat_of_zero_le (show 0 ≤ x.f2 by omega)
  obtain ⟨h, hh⟩ := Int.eq_ofNat_of_zero_le (show 0 ≤ t.f1 by omega)
  obtain ⟨w, hw⟩ := Int.eq_ofNat_of_zero_le (show 0 ≤ t.f2 by omega)
  obtain ⟨C, hC⟩ := Int.eq_ofNat_of_zero_le (show 0 ≤ s.f0 by omega)
  exact ⟨C, h, w, z, ⟨hz, by omega, by omega, by omega, by omega, hC, by rw [e1, hh, hz]; push_cast; rfl, by rw [e2, hw, hz]; push_cast; rfl, by rw [t0, hC], hh, hw⟩⟩
theorem partsT_len (x : S40) (s t : S23) (p : Int) : (Sy.partsT x s t p).length = x.f2.toNat * x.f2.toNat := by simp [Sy.partsT, Sy.partL]
end Go.Proofs.Ytnfcadjckoebkaa.P
