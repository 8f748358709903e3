import Derived.Test.YtnfcadjckoebkaaIXHx
import Derived.Defers
import Derived.Recover
import Derived.RegionTactic
import Derived.Lib.Hide
namespace Go.Proofs.Ytnfcadjckoebkaa.P
open Go.RowKit Go.Proofs.YtnfcadjckoebkaaW.PrintWords Go.Proofs.YtnfcadjckoebkaaW.PrintLast Go.Proofs.YtnfcadjckoebkaaW.PrintMore
set_option linter.unusedSimpArgs false
set_option linter.unusedVariables false
theorem bodyPostS_ret {P : Program} {fn : Func} {c₀ : Frame} {cs : List Frame} {R : Ending → FrameMode → World → Prop} {a : Act} {u' : FrameMode} {w : World} (hd : a.defers = []) (hr : (results fn a.tmps).run P w = .ok (.tuple #[]) w) (h : R (.returned (.tuple #[])) u' w) : bodyPostS P fn c₀ cs R .normal a ({ c₀ with mode := u' } :: cs) w := ⟨hd, u', rfl, _, hr, h⟩
set_option maxHeartbeats 1000000 in
theorem catch_idle (a b : Nat) (w : World) :
    CallsD Try.prog 100 #[.pointer (some ⟨a, 0, none⟩), .pointer (some ⟨b, 0, none⟩)] .returning w fun e u' w' => e = .returned (.tuple #[]) ∧ u' = .returning ∧ Below w.heap.size w w' := by
  refine callsD_of_wpS Try.func100 rfl fun c₀ cs hu => ?_
  have hta : ∀ (W : World), (Instr.typeAssert .nilIface 20 126 true).run Try.prog W = .ok (.tuple #[.agg #[.int .i64 0], .bool false]) W := fun W => by kernel_rfl
  apply wpS_seq
  apply wpS_region
  simp [wpOpsS, go_sem, recoverD, hu, Try.ntmps100, Exit.thenS, hta]
  apply wpS_seq
  apply wpS_region
  simp [wpOpsS, go_sem, Exit.thenS]
  refine wpS_cond (t := false) (by simp [Act.eval, Array.replicate]) ?_
  simp only [Bool.false_eq_true, if_false]
  refine wpS_of_wp (wp_skip ?_)
  have e : (c₀ :: cs) = ({ c₀ with mode := .returning } :: cs) := by rw [← hu]
  rw [e]
  exact bodyPostS_ret rfl (by simp [results, Try.results100]) ⟨rfl, rfl, below_alloc (Below.refl _ _) _⟩
set_option maxHeartbeats 1000000 in
theorem catch_panicking (a b : Nat) (v : Value) (x n : Int) (older : List PanicEntry) (w : World) (hab : a ≠ b) (h0 : w.heap[a]? = some (.cells #[v] 90 (0, 0))) (h1 : w.heap[b]? = some (.cells #[.int .i64 n] 30 (0, 0))) :
    CallsD Try.prog 100 #[.pointer (some ⟨a, 0, none⟩), .pointer (some ⟨b, 0, none⟩)] (.panicking ({ v := .iface 126 (.agg #[.int .i64 x]), recovered := false } :: older)) w fun e u' w' =>
      e = .returned (.tuple #[]) ∧ u' = .panicking ({ v := .iface 126 (.agg #[.int .i64 x]), recovered := true } :: older) ∧ w'.heap[a]? = some (.cells #[.slice none 0 0] 90 (0, 0)) ∧ w'.heap[b]? = some (.cells #[.int .i64 x] 30 (0, 0)) ∧ (∀ base w0, Below base w0 w → base ≤ a → base ≤ b → Below base w0 w') := by
  refine callsD_of_wpS Try.func100 rfl fun c₀ cs hu => ?_
  have hta : ∀ (W : World), (Instr.typeAssert (.iface 126 (.agg #[.int .i64 x])) 20 126 true).run Try.prog W = .ok (.tuple #[.agg #[.int .i64 x], .bool true]) W := fun W => by kernel_rfl
  simp only [Try.ntmps100, List.size_toArray, List.length_cons, List.length_nil, Nat.reduceAdd, Nat.reduceSub, Array.replicate_succ, Array.replicate_zero, List.push_toArray, List.append_toArray, List.nil_append, List.cons_append]
  apply wpS_seq
  apply wpS_region
  simp [wpOpsS, go_sem, recoverD, hu, Try.ntmps100, Exit.thenS, hta]
  apply wpS_seq
  apply wpS_region
  simp [wpOpsS, go_sem, Exit.thenS]
  refine wpS_cond (t := true) (by simp [Act.eval, Array.replicate]) ?_
  simp only [if_true]
  refine wpS_of_wp ?_
  have A1 := Aside0.mk (blk_alloc h0 (.cells #[.int .i64 x] 126))
  have B1 := Aside0.mk (blk_alloc h1 (.cells #[.int .i64 x] 126))
  have Z1 := Aside0.mk (blk_new w (.cells #[.int .i64 x] 126))
  have L1 : Aside0 (∀ base w0, Below base w0 w → base ≤ a → base ≤ b → Below base w0 (w.alloc (.cells #[.int .i64 x] 126))) := ⟨fun base w0 h ha hb => h.alloc (by have := blk_lt h0; omega) _⟩
  have na : a ≠ w.heap.size := by have := blk_lt h0; omega
  have nb : b ≠ w.heap.size := by have := blk_lt h1; omega
  generalize w.alloc (.cells #[.int .i64 x] 126) = W at *
  have za : W.cell? ⟨a, 0, none⟩ = some v := (blk_cell A1.out 0).trans rfl
  have fa : W.frozen? ⟨a, 0, none⟩ = false := blk_frozen A1.out 0
  have zb : W.cell? ⟨b, 0, none⟩ = some (.int .i64 n) := (blk_cell B1.out 0).trans rfl
  have fb : W.frozen? ⟨b, 0, none⟩ = false := blk_frozen B1.out 0
  have zx : W.cell? ⟨w.heap.size, 0, none⟩ = some (.int .i64 x) := (blk_cell Z1.out 0).trans rfl
  clear h0 h1 hta hu
  have hQ : ∀ (a' : Act) (w' : World), a'.defers = [] → w'.heap[a]? = some (.cells #[.slice none 0 0] 90 (0, 0)) → w'.heap[b]? = some (.cells #[.int .i64 x] 30 (0, 0)) → (∀ base w0, Below base w0 w → base ≤ a → base ≤ b → Below base w0 w') → bodyPostS Try.prog Try.f100 c₀ cs (fun e u' w' => e = .returned (.tuple #[]) ∧ u' = .panicking ({ v := .iface 126 (.agg #[.int .i64 x]), recovered := true } :: older) ∧ w'.heap[a]? = some (.cells #[.slice none 0 0] 90 (0, 0)) ∧ w'.heap[b]? = some (.cells #[.int .i64 x] 30 (0, 0)) ∧ (∀ base w0, Below base w0 w → base ≤ a → base ≤ b → Below base w0 w')) .normal a' ({ c₀ with mode := .panicking ({ v := .iface 126 (.agg #[.int .i64 x]), recovered := true } :: older) } :: cs) w' :=
    fun a' w' hd h1 h2 h3 => bodyPostS_ret hd (by simp [results, Try.results100]) ⟨rfl, rfl, h1, h2, h3⟩
  have HQ := Lib.hid hQ
  clear hQ
  refine Code.wp_mono (Q := fun e a' w' => e = .normal ∧ a'.defers = [] ∧ w'.heap[a]? = some (.cells #[.slice none 0 0] 90 (0, 0)) ∧ w'.heap[b]? = some (.cells #[.int .i64 x] 30 (0, 0)) ∧ (∀ base w0, Below base w0 w → base ≤ a → base ≤ b → Below base w0 w')) (fun e a' w' ⟨he, h1, h2, h3, h4⟩ => by subst he; exact HQ.out a' w' h1 h2 h3 h4) ?_
  clear HQ
  (try simp only [List.setIfInBounds_toArray, List.set_cons_zero, List.set_cons_succ])
  go_region
  all_goals
    exact ⟨rfl, rfl, blk_drew (blk_far (blk_put A1.out 0 _ rfl) (by simpa using hab) _), blk_drew (blk_put (blk_far B1.out (by simpa using fun e => hab e.symm) _) 0 _ rfl), fun base w0 h ha hb => below_drew1 (((L1.out base w0 h ha hb).setCell ha _).setCell hb _)⟩
end Go.Proofs.Ytnfcadjckoebkaa.P
