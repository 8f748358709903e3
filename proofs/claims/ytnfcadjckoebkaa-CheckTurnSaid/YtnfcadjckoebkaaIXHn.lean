import Derived.Test.YtnfcadjckoebkaaIXHf
import Derived.RegionTactic
import Derived.Deep.DeepCutAuto
import Derived.Deep.RegionHeld3
namespace Go.Proofs.Ytnfcadjckoebkaa.P
open Go.RowKit Go.Proofs.YtnfcadjckoebkaaW.PrintWords Go.Proofs.YtnfcadjckoebkaaW.PrintLast Go.Proofs.YtnfcadjckoebkaaW.PrintMore
attribute [local go_sem] cell_alloc_drewN frozen_alloc_drewN set_alloc_drewN set_drewN
def PRow (w : World) (base L : Nat) (V : Value) (offs : List Nat) : Prop :=
  (V = .slice none 0 0 ∧ offs = []) ∨ ∃ b, base ≤ b ∧ V = .slice (some ⟨b, 0, none⟩) offs.length offs.length ∧ ∀ i, i < offs.length → w.cell? ⟨b, i, none⟩ = some (.pointer (some ⟨L, offs.getD i 0, none⟩))
def NumPost (w : World) (L : Nat) (word : ByteArray) (has no : List Nat) (e : Ending) (w' : World) : Prop :=
  ∃ H N, e = .returned (.tuple #[.string word, H, N]) ∧ Below w.heap.size w w' ∧ PRow w' w.heap.size L H has ∧ PRow w' w.heap.size L N no
theorem numbers_conv (L : Nat) (w : World) (h0 : w.cell? ⟨L, 0, none⟩ = some (.int .i64 1)) :
    Calls Try.prog 114 #[.agg #[.pointer (some ⟨L, 0, none⟩)]] w (NumPost w L (⟨#[99, 111, 110, 118]⟩ : ByteArray) [1, 2, 3] []) := by
  have hs := World.block_lt_of_cell? w _ h0
  go_enter Try.func114, Try.ntmps114
  go_wp2
  go_region
  go_wp2
  go_ret3
  exact ⟨_, _, rfl, by with_reducible repeat (first | exact Below.refl _ _ | apply below_alloc | apply pw_below_drewN | apply below_drew1), (.inr ⟨w.heap.size + 1, by omega, rfl, fun i hi => by
      have hi : i < 3 := hi
      match i, hi with
      | 0, _ => simp [go_sem]
      | 1, _ => simp [go_sem]
      | 2, _ => simp [go_sem]⟩), (.inl ⟨rfl, rfl⟩)⟩
theorem numbers_square (L : Nat) (w : World) (h0 : w.cell? ⟨L, 0, none⟩ = some (.int .i64 2)) :
    Calls Try.prog 114 #[.agg #[.pointer (some ⟨L, 0, none⟩)]] w (NumPost w L (⟨#[115, 113, 117, 97, 114, 101]⟩ : ByteArray) [] [1, 2, 3]) := by
  have hs := World.block_lt_of_cell? w _ h0
  go_enter Try.func114, Try.ntmps114
  go_wp2
  go_region
  go_wp2
  go_ret3
  exact ⟨_, _, rfl, by with_reducible repeat (first | exact Below.refl _ _ | apply below_alloc | apply pw_below_drewN | apply below_drew1), (.inl ⟨rfl, rfl⟩), (.inr ⟨w.heap.size + 1, by omega, rfl, fun i hi => by
      have hi : i < 3 := hi
      match i, hi with
      | 0, _ => simp [go_sem]
      | 1, _ => simp [go_sem]
      | 2, _ => simp [go_sem]⟩)⟩
theorem numbers_pool (L : Nat) (w : World) (h0 : w.cell? ⟨L, 0, none⟩ = some (.int .i64 3)) :
    Calls Try.prog 114 #[.agg #[.pointer (some ⟨L, 0, none⟩)]] w (NumPost w L (⟨#[112, 111, 111, 108]⟩ : ByteArray) [2] [1, 3]) := by
  have hs := World.block_lt_of_cell? w _ h0
  go_enter Try.func114, Try.ntmps114
  go_wp2
  go_region
  all_goals
    go_wp2
    go_ret3
    refine ⟨_, _, rfl, ?_, .inr ⟨_, ?_, rfl, fun i hi => ?_⟩, .inr ⟨_, ?_, rfl, fun i hi => ?_⟩⟩
    · with_reducible repeat (first | exact Below.refl _ _ | apply below_alloc | apply pw_below_drewN | apply below_drew1)
    · omega
    · have hi : i < 1 := hi
      match i, hi with
      | 0, _ => simp [go_sem]
    · omega
    · have hi : i < 2 := hi
      match i, hi with
      | 0, _ => simp [go_sem]
      | 1, _ => simp [go_sem]
theorem numbers_dense (L : Nat) (w : World) (h0 : w.cell? ⟨L, 0, none⟩ = some (.int .i64 4)) :
    Calls Try.prog 114 #[.agg #[.pointer (some ⟨L, 0, none⟩)]] w (NumPost w L (⟨#[100, 101, 110, 115, 101]⟩ : ByteArray) [1] [2, 3]) := by
  have hs := World.block_lt_of_cell? w _ h0
  go_enter Try.func114, Try.ntmps114
  go_wp2
  go_region
  all_goals
    go_wp2
    go_ret3
    refine ⟨_, _, rfl, ?_, .inr ⟨_, ?_, rfl, fun i hi => ?_⟩, .inr ⟨_, ?_, rfl, fun i hi => ?_⟩⟩
    · with_reducible repeat (first | exact Below.refl _ _ | apply below_alloc | apply pw_below_drewN | apply below_drew1)
    · omega
    · have hi : i < 1 := hi
      match i, hi with
      | 0, _ => simp [go_sem]
    · omega
    · have hi : i < 2 := hi
      match i, hi with
      | 0, _ => simp [go_sem]
      | 1, _ => simp [go_sem]
theorem numbers_none (L : Nat) (w : World) (k : Int) (h0 : w.cell? ⟨L, 0, none⟩ = some (.int .i64 k)) (k1 : (k == 1) = false) (k2 : (k == 2) = false) (k3 : (k == 3) = false) (k4 : (k == 4) = false) :
    Calls Try.prog 114 #[.agg #[.pointer (some ⟨L, 0, none⟩)]] w (NumPost w L (⟨#[]⟩ : ByteArray) [] []) := by
  have hs := World.block_lt_of_cell? w _ h0
  go_enter Try.func114, Try.ntmps114
  go_wp2
  go_ret3
  exact ⟨_, _, rfl, by with_reducible repeat (first | exact Below.refl _ _ | apply below_alloc | apply pw_below_drewN | apply below_drew1), (.inl ⟨rfl, rfl⟩), (.inl ⟨rfl, rfl⟩)⟩
end Go.Proofs.Ytnfcadjckoebkaa.P
