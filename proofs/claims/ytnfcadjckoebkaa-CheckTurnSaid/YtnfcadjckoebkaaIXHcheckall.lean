import Derived.Test.YtnfcadjckoebkaaIXHa
namespace Go.Proofs.Ytnfcadjckoebkaa.P
open Go.RowKit Go.Proofs.YtnfcadjckoebkaaW.PrintWords Go.Proofs.YtnfcadjckoebkaaW.PrintLast Go.Proofs.YtnfcadjckoebkaaW.PrintMore
set_option linter.unusedSimpArgs false
set_option linter.unusedVariables false
attribute [local go_sem] cell_alloc_drewN frozen_alloc_drewN set_alloc_drewN set_drewN
set_option maxHeartbeats 4000000 in
theorem all_noright (a0 a1 a2 : Int) (A : Option Addr) (c : Nat) (l : List S40) (w : World) (hr : Kd.C k40 w A l.length l) (hf : Sy.formB ⟨a0, a1, a2⟩ l = true) (hs : Sy.rightB ⟨a0, a1, a2⟩ = false) :
    Calls Try.prog 76 #[.agg #[.int .i64 a0, .int .i64 a1, .int .i64 a2, .slice A l.length c]] w (AllPost w ([], 1)) := by
  have hmf : ∀ (fn : Fn) (first cap : Array Value) (w : World), (Instr.makeFunc fn first cap).run Try.prog w = .ok (.func fn first cap) w := fun _ _ _ _ => rfl
  have HR := Aside0.mk hr
  have HF := Aside0.mk hf
  have HS := Aside0.mk hs
  clear hr hf hs
  go_enter_defers Try.func76, Try.ntmps76
  go_wp2_with fail
  refine (form_calls a0 a1 a2 A c l _ ?_).mono ?_
  · exact Kd.C_below HR.out (by with_reducible repeat (first | exact Below.refl _ _ | apply below_alloc))
  rw [HF.out]
  rintro e w2 ⟨rfl, hb⟩
  have B2 := Aside0.mk (below_step (below_alloc (below_alloc (below_alloc (Below.refl w.heap.size w) (.cells #[.int .i64 a0, .int .i64 a1, .int .i64 a2, .slice A l.length c] 26)) (.cells #[.slice none 0 0] 90)) (.cells #[.int .i64 0] 30)) hb)
  have N2 := Aside0.mk (blk_below (blk_alloc (blk_alloc (blk_new w (.cells #[.int .i64 a0, .int .i64 a1, .int .i64 a2, .slice A l.length c] 26)) (.cells #[.slice none 0 0] 90)) (.cells #[.int .i64 0] 30)) hb)
  have O2 := Aside0.mk (blk_below (blk_alloc (blk_new1 w (.cells #[.int .i64 a0, .int .i64 a1, .int .i64 a2, .slice A l.length c] 26) (.cells #[.slice none 0 0] 90)) (.cells #[.int .i64 0] 30)) hb)
  have E2 := Aside0.mk (blk_below (blk_new2 w (.cells #[.int .i64 a0, .int .i64 a1, .int .i64 a2, .slice A l.length c] 26) (.cells #[.slice none 0 0] 90) (.cells #[.int .i64 0] 30)) hb)
  clear hb
  go_wp2_with fail
  refine (must_yes 12 _).mono ?_
  rintro e w3 ⟨rfl, rfl⟩
  have n0 : w3.cell? ⟨w.heap.size, 0, none⟩ = some (.int .i64 a0) := (blk_cell N2.out 0).trans rfl
  have n1 : w3.cell? ⟨w.heap.size, 1, none⟩ = some (.int .i64 a1) := (blk_cell N2.out 1).trans rfl
  have n2 : w3.cell? ⟨w.heap.size, 2, none⟩ = some (.int .i64 a2) := (blk_cell N2.out 2).trans rfl
  go_wp2_with fail
  refine (right_any _ _ _ false HS.out _).mono ?_
  rintro e w4 ⟨rfl, hb⟩
  have B4 := Aside0.mk (below_step B2.out hb)
  have O4 := Aside0.mk (blk_below O2.out hb)
  have E4 := Aside0.mk (blk_below E2.out hb)
  clear hb B2 N2 O2 E2 n0 n1 n2
  go_wp2_with fail
  refine (must_no 1 _).mono ?_
  rintro e w5 ⟨rfl, rfl⟩
  exact door_panic 1 _ _ w (.slice none 0 0) 0 rfl rfl O4.out E4.out B4.out
set_option maxHeartbeats 4000000 in
theorem all_nil (a0 a1 a2 : Int) (c : Nat) (w : World) (hf : Sy.formB ⟨a0, a1, a2⟩ [] = true) (hs : Sy.rightB ⟨a0, a1, a2⟩ = true) :
    Calls Try.prog 76 #[.agg #[.int .i64 a0, .int .i64 a1, .int .i64 a2, .slice none 0 c]] w (AllPost w ([], 0)) := by
  have hmf : ∀ (fn : Fn) (first cap : Array Value) (w : World), (Instr.makeFunc fn first cap).run Try.prog w = .ok (.func fn first cap) w := fun _ _ _ _ => rfl
  have HF := Aside0.mk hf
  have HS := Aside0.mk hs
  clear hf hs
  go_enter_defers Try.func76, Try.ntmps76
  go_wp2_with fail
  refine (form_calls a0 a1 a2 none c [] _ ?_).mono ?_
  · exact Kd.C_nil _ _
  rw [HF.out]
  rintro e w2 ⟨rfl, hb⟩
  have B2 := Aside0.mk (below_step (below_alloc (below_alloc (below_alloc (Below.refl w.heap.size w) (.cells #[.int .i64 a0, .int .i64 a1, .int .i64 a2, .slice none 0 c] 26)) (.cells #[.slice none 0 0] 90)) (.cells #[.int .i64 0] 30)) hb)
  have N2 := Aside0.mk (blk_below (blk_alloc (blk_alloc (blk_new w (.cells #[.int .i64 a0, .int .i64 a1, .int .i64 a2, .slice none 0 c] 26)) (.cells #[.slice none 0 0] 90)) (.cells #[.int .i64 0] 30)) hb)
  have O2 := Aside0.mk (blk_below (blk_alloc (blk_new1 w (.cells #[.int .i64 a0, .int .i64 a1, .int .i64 a2, .slice none 0 c] 26) (.cells #[.slice none 0 0] 90)) (.cells #[.int .i64 0] 30)) hb)
  have E2 := Aside0.mk (blk_below (blk_new2 w (.cells #[.int .i64 a0, .int .i64 a1, .int .i64 a2, .slice none 0 c] 26) (.cells #[.slice none 0 0] 90) (.cells #[.int .i64 0] 30)) hb)
  clear hb
  go_wp2_with fail
  refine (must_yes 12 _).mono ?_
  rintro e w3 ⟨rfl, rfl⟩
  have n0 : w3.cell? ⟨w.heap.size, 0, none⟩ = some (.int .i64 a0) := (blk_cell N2.out 0).trans rfl
  have n1 : w3.cell? ⟨w.heap.size, 1, none⟩ = some (.int .i64 a1) := (blk_cell N2.out 1).trans rfl
  have n2 : w3.cell? ⟨w.heap.size, 2, none⟩ = some (.int .i64 a2) := (blk_cell N2.out 2).trans rfl
  go_wp2_with fail
  refine (right_any _ _ _ true HS.out _).mono ?_
  rintro e w4 ⟨rfl, hb⟩
  have B4 := Aside0.mk (below_step B2.out hb)
  have N4 := Aside0.mk (blk_below N2.out hb)
  have O4 := Aside0.mk (blk_below O2.out hb)
  have E4 := Aside0.mk (blk_below E2.out hb)
  clear hb B2 N2 O2 E2 n0 n1 n2
  go_wp2_with fail
  refine (must_yes 1 _).mono ?_
  rintro e w5 ⟨rfl, rfl⟩
  have n0 : w5.cell? ⟨w.heap.size, 0, none⟩ = some (.int .i64 a0) := (blk_cell N4.out 0).trans rfl
  have n1 : w5.cell? ⟨w.heap.size, 1, none⟩ = some (.int .i64 a1) := (blk_cell N4.out 1).trans rfl
  have n2 : w5.cell? ⟨w.heap.size, 2, none⟩ = some (.int .i64 a2) := (blk_cell N4.out 2).trans rfl
  have n3 : w5.cell? ⟨w.heap.size, 3, none⟩ = some (.slice none 0 c) := (blk_cell N4.out 3).trans rfl
  have G5 : w.heap.size < w5.heap.size := blk_lt N4.out
  go_wp2_with fail
  clear n0 n1 n2 n3 N4
  have B5 := Aside0.mk (below_alloc B4.out (.cells #[.int .i64 a0, .int .i64 a1, .int .i64 a2] 23))
  have O5 := Aside0.mk (blk_alloc O4.out (.cells #[.int .i64 a0, .int .i64 a1, .int .i64 a2] 23))
  have E5 := Aside0.mk (blk_alloc E4.out (.cells #[.int .i64 a0, .int .i64 a1, .int .i64 a2] 23))
  have I5 := Aside0.mk (blk_new w5 (.cells #[.int .i64 a0, .int .i64 a1, .int .i64 a2] 23))
  generalize w5.alloc (.cells #[.int .i64 a0, .int .i64 a1, .int .i64 a2] 23) = W at *
  generalize w5.heap.size = g at *
  refine wp_loop_rounds 1 ?_
  rw [rounds_succ]
  go_wp2_with fail
  refine (must_yes 5 _).mono ?_
  rintro e w6 ⟨rfl, rfl⟩
  have o1 : w6.cell? ⟨w.heap.size + 1, 0, none⟩ = some (.slice none 0 0) := (blk_cell O5.out 0).trans rfl
  have oz1 : w6.frozen? ⟨w.heap.size + 1, 0, none⟩ = false := blk_frozen O5.out 0
  have e1 : w6.cell? ⟨w.heap.size + 1 + 1, 0, none⟩ = some (.int .i64 0) := (blk_cell E5.out 0).trans rfl
  have ez1 : w6.frozen? ⟨w.heap.size + 1 + 1, 0, none⟩ = false := blk_frozen E5.out 0
  go_wp2_with fail
  have heo : w.heap.size + 1 + 1 ≠ w.heap.size + 1 := by omega
  have hoe : w.heap.size + 1 ≠ w.heap.size + 1 + 1 := by omega
  have fo := far_set (blk_set O5.out 0 (.slice none 0 0)) hoe 0 (.int .i64 0)
  have fe := blk_set (far_set E5.out heo 0 (.slice none 0 0)) 0 (.int .i64 0)
  simp only [List.setIfInBounds_toArray, List.set_cons_zero, List.set_cons_succ] at fo fe
  exact door_return [] _ _ w _ rfl rfl fo fe (Kd.R_nil _ _ _ _ _) (below_set (below_set B5.out (by omega)) (by omega))
theorem all_calls (a0 a1 a2 : Int) (A : Option Addr) (c : Nat) (l : List S40) (w : World) (hr : Kd.C k40 w A l.length l) :
    Calls Try.prog 76 #[.agg #[.int .i64 a0, .int .i64 a1, .int .i64 a2, .slice A l.length c]] w (AllPost w (Sy.allR ⟨a0, a1, a2⟩ l)) := by
  cases hf : Sy.formB ⟨a0, a1, a2⟩ l with
  | false =>
    have e : Sy.allR ⟨a0, a1, a2⟩ l = ([], 12) := by unfold Sy.allR; rw [if_neg (by rw [hf]; decide)]
    rw [e]
    exact all_noform a0 a1 a2 A c l w hr hf
  | true =>
    cases hs : Sy.rightB ⟨a0, a1, a2⟩ with
    | false =>
      have e : Sy.allR ⟨a0, a1, a2⟩ l = ([], 1) := by unfold Sy.allR; rw [if_pos hf, if_neg (by rw [hs]; decide)]
      rw [e]
      exact all_noright a0 a1 a2 A c l w hr hf hs
    | true =>
      cases A with
      | some ad => exact all_loop a0 a1 a2 ad c l w hr hf hs _ rfl
      | none =>
        have h0 : l.length = 0 := by
          rcases Nat.eq_zero_or_pos l.length with h | h
          · exact h
          · obtain ⟨ad, e, _⟩ := hr.2.2 h
            cases e
        obtain rfl := List.eq_nil_of_length_eq_zero h0
        have e : Sy.allR ⟨a0, a1, a2⟩ [] = ([], 0) := by
          unfold Sy.allR
          rw [if_pos hf, if_pos hs]
          simp [Sy.stepsO, Sy.sumW, Sy.sumP]
        rw [e]
        exact all_nil a0 a1 a2 c w hf hs
def check_all.f (a0_0 : Int) (a0_1 : Int) (a0_2 : Int) (l0_3 : List (S40)) : Option ((List (S94)) × Int) := some (Sy.allR ⟨a0_0, a0_1, a0_2⟩ l0_3)
theorem check_all.calls (a0_0 : Int) (a0_1 : Int) (a0_2 : Int) (A0_3 : Option Addr) (c0_3 : Nat) (l0_3 : List (S40)) (r1 : List (S94)) (r2 : Int) (w : World) (hr0_3 : Kd.C k40 w A0_3 l0_3.length l0_3) (hc0_3 : l0_3.length ≤ c0_3) (h : check_all.f a0_0 a0_1 a0_2 l0_3 = some (r1, r2)) :
    Calls Try.prog 76 #[.agg #[.int .i64 a0_0, .int .i64 a0_1, .int .i64 a0_2, .slice A0_3 l0_3.length c0_3]] w fun e w' => ∃ v0_ : Value, e = .returned (.tuple #[v0_, .int .i64 r2]) ∧ Kd.R k94 94 w' w.heap.size (fun _ => True) v0_ r1 ∧ Below w.heap.size w w' := by
  have e : Sy.allR ⟨a0_0, a0_1, a0_2⟩ l0_3 = (r1, r2) := Option.some.inj h
  have hh := all_calls a0_0 a0_1 a0_2 A0_3 c0_3 l0_3 w hr0_3
  rw [e] at hh
  exact hh
end Go.Proofs.Ytnfcadjckoebkaa.P
