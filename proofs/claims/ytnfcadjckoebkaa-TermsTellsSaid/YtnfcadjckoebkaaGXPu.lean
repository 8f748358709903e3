import Derived.Test.YtnfcadjckoebkaaGXTp
import Derived.Test.YtnfcadjckoebkaaGXLFs
namespace Go.Proofs.Ytnfcadjckoebkaa.P
open Go.RowKit Go.Proofs.YtnfcadjckoebkaaW.PrintWords Go.Proofs.YtnfcadjckoebkaaW.PrintLast Go.Proofs.YtnfcadjckoebkaaW.PrintMore
set_option linter.unusedSimpArgs false
set_option linter.unusedVariables false
theorem shp_len {S : S23} {l : List S40} (h0 : (Sy.allR S l).2 = 0) : (S :: (Sy.stepsR S l).map (·.f2)).length = l.length + 1 := by
  have := stepsR_len h0
  simp; omega
theorem len8 {S : S23} {l : List S40} (h0 : (Sy.allR S l).2 = 0) : l.length ≤ 8 := by
  have h8 : (Sy.stepsR S l).length ≤ 8 := allR_len S l
  have := stepsR_len h0
  omega
def Sy.lenT (x : S40) (s : S23) : Nat := if x.f0 = 1 then s.f0.toNat * (x.f2.toNat * x.f2.toNat) else if x.f0 = 4 then (Sy.sizeI s).toNat else if x.f0 = 2 then 1 else 0
theorem terms_len (x : S40) (s t : S23) (fr p : Int) : (Sy.termsT x s t fr p).length = Sy.lenT x s := by
  unfold Sy.termsT Sy.lenT
  by_cases k1 : x.f0 = 1
  · rw [if_pos k1, if_pos k1]; unfold Sy.convT; rw [convL_len]
  · rw [if_neg k1, if_neg k1]
    by_cases k4 : x.f0 = 4
    · rw [if_pos k4, if_pos k4]; simp [Sy.denseL]
    · rw [if_neg k4, if_neg k4]
      by_cases k2 : x.f0 = 2
      · rw [if_pos k2, if_pos k2]; rfl
      · rw [if_neg k2, if_neg k2]; rfl
theorem conv_shape {x : S40} {s t : S23} (hq : Sy.outO s x = some t) (k1 : x.f0 = 1) : t.f0 = x.f1 ∧ 1 ≤ x.f2 ∧ x.f2 ≤ s.f1 ∧ x.f2 ≤ s.f2 ∧ 1 ≤ x.f3 ∧ x.f3 ≤ 12 ∧ t.f1 = (s.f1 - x.f2) / x.f3 + 1 ∧ t.f2 = (s.f2 - x.f2) / x.f3 + 1 := by
  unfold Sy.outO at hq
  rw [if_pos k1] at hq
  unfold Sy.convO at hq
  split at hq
  · rename_i hh
    injection hq with hq
    subst hq
    exact ⟨rfl, hh.2.1, hh.2.2.1, hh.2.2.2.1, hh.2.2.2.2.1, hh.2.2.2.2.2.1, rfl, rfl⟩
  · cases hq
theorem termsR_yes {S : S23} {l : List S40} (h0 : (Sy.allR S l).2 = 0) (i : Nat) (hi : i < l.length) {p : Int} (hp : 0 ≤ p ∧ p < Sy.sizeI (Sy.shp S l ((i : Int) + 1))) :
    Sy.termsR S l (i : Int) p = Sy.termsT (rd_T40 l (i : Int)) (Sy.shp S l (i : Int)) (Sy.shp S l ((i : Int) + 1)) (Sy.frm S l (i : Int)) p := by
  unfold Sy.termsR
  rw [if_pos ⟨h0, by omega, by omega⟩, if_pos hp]
theorem termsR_out {S : S23} {l : List S40} {i p : Int} (hp : ¬ (0 ≤ p ∧ p < Sy.sizeI (Sy.shp S l (i + 1)))) : Sy.termsR S l i p = [] := by
  unfold Sy.termsR
  rw [if_neg hp, ite_self]
theorem termsR_no {S : S23} {l : List S40} {i p : Int} (h : ¬ ((Sy.allR S l).2 = 0 ∧ 0 ≤ i ∧ i < l.length)) : Sy.termsR S l i p = [] := by
  unfold Sy.termsR
  rw [if_neg h]
end Go.Proofs.Ytnfcadjckoebkaa.P
