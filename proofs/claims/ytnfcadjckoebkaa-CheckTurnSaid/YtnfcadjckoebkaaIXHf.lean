import Derived.Test.YtnfcadjckoebkaaIXSp
import Derived.Test.YtnfcadjckoebkaaIXHw
import Derived.WalkLawsBesides
import Derived.Lib.Hide
import Derived.LoopTactic
namespace Go.Proofs.Ytnfcadjckoebkaa.P
open Go.RowKit Go.Proofs.YtnfcadjckoebkaaW.PrintWords Go.Proofs.YtnfcadjckoebkaaW.PrintLast Go.Proofs.YtnfcadjckoebkaaW.PrintMore
theorem dwithin_nil (most : Int) (w : World) : Calls Try.prog 113 #[.int .i64 most, .slice none 0 0] w fun e w' => e = .returned (.bool true) ∧ w' = w := by
  go_enter Try.func113, Try.ntmps113
  go_wp2
  refine wp_loop_rounds 1 ?_
  rw [rounds_succ]
  go_wp2
  go_ret
  exact ⟨rfl, rfl⟩
def inB (most : Int) (n : Nat) (v : Nat → Int) : Bool := decide (∀ i, i < n → 0 ≤ v i ∧ v i ≤ most)
theorem dwithin_calls (most : Int) (b n : Nat) (p : Nat → Addr) (v : Nat → Int) (w : World) (hn : n ≤ 3)
    (hc : ∀ i, i < n → w.cell? ⟨b, i, none⟩ = some (.pointer (some (p i)))) (hv : ∀ i, i < n → w.cell? (p i) = some (.int .i64 (v i))) :
    Calls Try.prog 113 #[.int .i64 most, .slice (some ⟨b, 0, none⟩) n n] w fun e w' => e = .returned (.bool (inB most n v)) ∧ w' = w := by
  have HC := Lib.hid hc
  have HV := Lib.hid hv
  clear hc hv
  go_enter Try.func113, Try.ntmps113
  go_wp2
  go_loop [6, 9] (fun _ i => ∃ k : Nat, i = .int .i64 k ∧ k ≤ n ∧ Aside0 (∀ i, i < k → 0 ≤ v i ∧ v i ≤ most)) (fun _ i => n - (intOf i).toNat)
  case atStart => exact ⟨0, rfl, Nat.zero_le _, ⟨fun i hi => absurd hi (Nat.not_lt_zero _)⟩⟩
  case round =>
    obtain ⟨k, rfl, hk, HK⟩ := hrel
    by_cases hlt : k < n
    · have c1 := HC.out k hlt
      have c2 := HV.out k hlt
      by_cases h0 : v k < 0
      · have E : inB most n v = false := by unfold inB; rw [decide_eq_false_iff_not]; intro h; have := h k hlt; omega
        have HE := Lib.hid E
        clear E
        go_wp2
        go_ret
        exact ⟨by rw [HE.out]; rfl, rfl⟩
      · by_cases h1 : most < v k
        · have E : inB most n v = false := by unfold inB; rw [decide_eq_false_iff_not]; intro h; have := h k hlt; omega
          have HE := Lib.hid E
          clear E
          go_wp2
          go_ret
          exact ⟨by rw [HE.out]; rfl, rfl⟩
        · go_wp2
          go_round
          case rel => exact ⟨k + 1, by go_num, by omega, ⟨fun i hi => by
            by_cases e : i = k
            · subst e; omega
            · exact HK.out i (by omega)⟩⟩
          case measure => simp [intOf]; omega
    · have E : inB most n v = true := by unfold inB; rw [decide_eq_true_eq]; intro i hi; exact HK.out i (by omega)
      have HE := Lib.hid E
      clear E
      go_wp2
      go_ret
      exact ⟨by rw [HE.out]; rfl, rfl⟩
end Go.Proofs.Ytnfcadjckoebkaa.P
