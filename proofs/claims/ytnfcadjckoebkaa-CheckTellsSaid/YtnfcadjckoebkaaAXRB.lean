-- Laid by laygen.py (this session's own, in its repo) over the kit's print. Not trusted: Lean checks it.
import Derived.Test.YtnfcadjckoebkaaAX0
namespace Go.Proofs.Ytnfcadjckoebkaa.P
open Go.RowKit Go.Proofs.YtnfcadjckoebkaaW.PrintWords Go.Proofs.YtnfcadjckoebkaaW.PrintLast Go.Proofs.YtnfcadjckoebkaaW.PrintMore
attribute [local go_sem] min2_int min_two -- for this text's walks alone
set_option linter.unusedVariables false
set_option linter.unusedSimpArgs false

/-! ### symbolonref02_Right: function 40 -/
def symbolonref02_Right.f (a0_0 : Int) (a0_1 : Int) (a0_2 : Int) : Option (Bool) := if a0_0 ≥ 1 then (if a0_0 ≤ 8 then (if a0_1 ≥ 1 then (if a0_1 ≤ 12 then (if a0_2 ≥ 1 then (if a0_2 ≤ 12 then (some (decide ((wrap64 ((wrap64 (a0_0 * a0_1)) * a0_2)) ≤ 128))) else (some false)) else (some false)) else (some false)) else (some false)) else (some false)) else (some false)
set_option maxHeartbeats 8000000 in
set_option maxRecDepth 100000 in
theorem symbolonref02_Right.calls (a0_0 : Int) (a0_1 : Int) (a0_2 : Int) (r : Bool) (w : World) (h : symbolonref02_Right.f a0_0 a0_1 a0_2 = some r) :
    Calls Try.prog 40 #[.agg #[.int .i64 a0_0, .int .i64 a0_1, .int .i64 a0_2]] w fun e w' => e = .returned (.bool r) ∧ Below w.heap.size w w' := by
  have hu23 := Try.underlying23
  have HB := Aside0.mk (Below.refl w.heap.size w)
  have H : (if a0_0 ≥ 1 then (if a0_0 ≤ 8 then (if a0_1 ≥ 1 then (if a0_1 ≤ 12 then (if a0_2 ≥ 1 then (if a0_2 ≤ 12 then (some (decide ((wrap64 ((wrap64 (a0_0 * a0_1)) * a0_2)) ≤ 128))) else (some false)) else (some false)) else (some false)) else (some false)) else (some false)) else (some false)) = some r := h
  clear h
  by_cases c2 : a0_0 ≥ 1
  · rw [if_pos c2] at H
    have c2b0 : decide (1 ≤ a0_0) = true := decide_eq_true c2
    clear c2
    by_cases c3 : a0_0 ≤ 8
    · rw [if_pos c3] at H
      have c3b0 : decide (a0_0 ≤ 8) = true := decide_eq_true c3
      clear c3
      by_cases c4 : a0_1 ≥ 1
      · rw [if_pos c4] at H
        have c4b0 : decide (1 ≤ a0_1) = true := decide_eq_true c4
        clear c4
        by_cases c5 : a0_1 ≤ 12
        · rw [if_pos c5] at H
          have c5b0 : decide (a0_1 ≤ 12) = true := decide_eq_true c5
          clear c5
          by_cases c6 : a0_2 ≥ 1
          · rw [if_pos c6] at H
            have c6b0 : decide (1 ≤ a0_2) = true := decide_eq_true c6
            clear c6
            by_cases c7 : a0_2 ≤ 12
            · rw [if_pos c7] at H
              have c7b0 : decide (a0_2 ≤ 12) = true := decide_eq_true c7
              clear c7
              obtain rfl := Option.some.inj H
              go_enter Try.func40, Try.ntmps40
              go_wp2_with (first | ((with_reducible refine gate_dst (N := 1) rfl ?_); refine box_event ?hg (N := 1) ?hd (cs := #[.int .i64 a0_0, .int .i64 a0_1, .int .i64 a0_2]) (t := 23) ?hr ?_; (case hd => rfl); (case hg => rfl); (case hr => first | (go_simp; done) | (go_simp; rfl)); intro gb215 hg w8 hbox hb; have n0_ := Aside0.mk (below_step (by repeat (first | (with_reducible first | exact HB.out | apply below_alloc | apply pw_below_drewN | apply below_drew1) | exact HB.out)) hb); have n1_ := Aside0.mk (hbox); have n2_ := Aside0.mk ((by rw [hg]; exact (below_size (by repeat (first | (with_reducible first | exact HB.out | apply below_alloc | apply pw_below_drewN | apply below_drew1) | exact HB.out))) : w.heap.size ≤ gb215)); have n3_ := Aside0.mk ((by rw [hg]; exact (below_size (by repeat (first | (with_reducible first | exact HB.out | apply below_alloc | apply pw_below_drewN | apply below_drew1) | exact HB.out))) : w.heap.size ≤ gb215)); clear HB; have HB := n0_; have BK215 := n1_; have GW215 := n2_; have GE215 := n3_; clear n0_ n1_ n2_ n3_; clear hb hbox hg; have hcz9_0 : w8.cell? ⟨gb215, 0, none⟩ = some (.int .i64 a0_0) := (blk_cell BK215.out 0).trans rfl; have hcz9_1 : w8.cell? ⟨gb215, 1, none⟩ = some (.int .i64 a0_1) := (blk_cell BK215.out 1).trans rfl; have hcz9_2 : w8.cell? ⟨gb215, 2, none⟩ = some (.int .i64 a0_2) := (blk_cell BK215.out 2).trans rfl; have hfz9_0 := blk_frozen BK215.out 0; have hfz9_1 := blk_frozen BK215.out 1; have hfz9_2 := blk_frozen BK215.out 2))
              go_ret
              exact ⟨by first | rfl | (simp [errW_none, errW_some] <;> rfl) | (simp [*, errW_none, errW_some] <;> rfl), by repeat (first | (with_reducible first | exact HB.out | apply below_alloc | apply pw_below_drewN | apply below_drew1 | refine below_set ?_ GE215.out) | exact HB.out)⟩
            · rw [if_neg c7] at H
              have c7b0 : decide (a0_2 ≤ 12) = false := decide_eq_false c7
              clear c7
              obtain rfl := Option.some.inj H
              go_enter Try.func40, Try.ntmps40
              go_wp2_with (first | ((with_reducible refine gate_dst (N := 1) rfl ?_); refine box_event ?hg (N := 1) ?hd (cs := #[.int .i64 a0_0, .int .i64 a0_1, .int .i64 a0_2]) (t := 23) ?hr ?_; (case hd => rfl); (case hg => rfl); (case hr => first | (go_simp; done) | (go_simp; rfl)); intro gb215 hg w10 hbox hb; have n0_ := Aside0.mk (below_step (by repeat (first | (with_reducible first | exact HB.out | apply below_alloc | apply pw_below_drewN | apply below_drew1) | exact HB.out)) hb); have n1_ := Aside0.mk (hbox); have n2_ := Aside0.mk ((by rw [hg]; exact (below_size (by repeat (first | (with_reducible first | exact HB.out | apply below_alloc | apply pw_below_drewN | apply below_drew1) | exact HB.out))) : w.heap.size ≤ gb215)); have n3_ := Aside0.mk ((by rw [hg]; exact (below_size (by repeat (first | (with_reducible first | exact HB.out | apply below_alloc | apply pw_below_drewN | apply below_drew1) | exact HB.out))) : w.heap.size ≤ gb215)); clear HB; have HB := n0_; have BK215 := n1_; have GW215 := n2_; have GE215 := n3_; clear n0_ n1_ n2_ n3_; clear hb hbox hg; have hcz11_0 : w10.cell? ⟨gb215, 0, none⟩ = some (.int .i64 a0_0) := (blk_cell BK215.out 0).trans rfl; have hcz11_1 : w10.cell? ⟨gb215, 1, none⟩ = some (.int .i64 a0_1) := (blk_cell BK215.out 1).trans rfl; have hcz11_2 : w10.cell? ⟨gb215, 2, none⟩ = some (.int .i64 a0_2) := (blk_cell BK215.out 2).trans rfl; have hfz11_0 := blk_frozen BK215.out 0; have hfz11_1 := blk_frozen BK215.out 1; have hfz11_2 := blk_frozen BK215.out 2))
              go_ret
              exact ⟨by first | rfl | (simp [errW_none, errW_some] <;> rfl) | (simp [*, errW_none, errW_some] <;> rfl), by repeat (first | (with_reducible first | exact HB.out | apply below_alloc | apply pw_below_drewN | apply below_drew1 | refine below_set ?_ GE215.out) | exact HB.out)⟩
          · rw [if_neg c6] at H
            have c6b0 : decide (1 ≤ a0_2) = false := decide_eq_false c6
            clear c6
            obtain rfl := Option.some.inj H
            go_enter Try.func40, Try.ntmps40
            go_wp2_with (first | ((with_reducible refine gate_dst (N := 1) rfl ?_); refine box_event ?hg (N := 1) ?hd (cs := #[.int .i64 a0_0, .int .i64 a0_1, .int .i64 a0_2]) (t := 23) ?hr ?_; (case hd => rfl); (case hg => rfl); (case hr => first | (go_simp; done) | (go_simp; rfl)); intro gb215 hg w12 hbox hb; have n0_ := Aside0.mk (below_step (by repeat (first | (with_reducible first | exact HB.out | apply below_alloc | apply pw_below_drewN | apply below_drew1) | exact HB.out)) hb); have n1_ := Aside0.mk (hbox); have n2_ := Aside0.mk ((by rw [hg]; exact (below_size (by repeat (first | (with_reducible first | exact HB.out | apply below_alloc | apply pw_below_drewN | apply below_drew1) | exact HB.out))) : w.heap.size ≤ gb215)); have n3_ := Aside0.mk ((by rw [hg]; exact (below_size (by repeat (first | (with_reducible first | exact HB.out | apply below_alloc | apply pw_below_drewN | apply below_drew1) | exact HB.out))) : w.heap.size ≤ gb215)); clear HB; have HB := n0_; have BK215 := n1_; have GW215 := n2_; have GE215 := n3_; clear n0_ n1_ n2_ n3_; clear hb hbox hg; have hcz13_0 : w12.cell? ⟨gb215, 0, none⟩ = some (.int .i64 a0_0) := (blk_cell BK215.out 0).trans rfl; have hcz13_1 : w12.cell? ⟨gb215, 1, none⟩ = some (.int .i64 a0_1) := (blk_cell BK215.out 1).trans rfl; have hcz13_2 : w12.cell? ⟨gb215, 2, none⟩ = some (.int .i64 a0_2) := (blk_cell BK215.out 2).trans rfl; have hfz13_0 := blk_frozen BK215.out 0; have hfz13_1 := blk_frozen BK215.out 1; have hfz13_2 := blk_frozen BK215.out 2))
            go_ret
            exact ⟨by first | rfl | (simp [errW_none, errW_some] <;> rfl) | (simp [*, errW_none, errW_some] <;> rfl), by repeat (first | (with_reducible first | exact HB.out | apply below_alloc | apply pw_below_drewN | apply below_drew1 | refine below_set ?_ GE215.out) | exact HB.out)⟩
        · rw [if_neg c5] at H
          have c5b0 : decide (a0_1 ≤ 12) = false := decide_eq_false c5
          clear c5
          obtain rfl := Option.some.inj H
          go_enter Try.func40, Try.ntmps40
          go_wp2_with (first | ((with_reducible refine gate_dst (N := 1) rfl ?_); refine box_event ?hg (N := 1) ?hd (cs := #[.int .i64 a0_0, .int .i64 a0_1, .int .i64 a0_2]) (t := 23) ?hr ?_; (case hd => rfl); (case hg => rfl); (case hr => first | (go_simp; done) | (go_simp; rfl)); intro gb215 hg w14 hbox hb; have n0_ := Aside0.mk (below_step (by repeat (first | (with_reducible first | exact HB.out | apply below_alloc | apply pw_below_drewN | apply below_drew1) | exact HB.out)) hb); have n1_ := Aside0.mk (hbox); have n2_ := Aside0.mk ((by rw [hg]; exact (below_size (by repeat (first | (with_reducible first | exact HB.out | apply below_alloc | apply pw_below_drewN | apply below_drew1) | exact HB.out))) : w.heap.size ≤ gb215)); have n3_ := Aside0.mk ((by rw [hg]; exact (below_size (by repeat (first | (with_reducible first | exact HB.out | apply below_alloc | apply pw_below_drewN | apply below_drew1) | exact HB.out))) : w.heap.size ≤ gb215)); clear HB; have HB := n0_; have BK215 := n1_; have GW215 := n2_; have GE215 := n3_; clear n0_ n1_ n2_ n3_; clear hb hbox hg; have hcz15_0 : w14.cell? ⟨gb215, 0, none⟩ = some (.int .i64 a0_0) := (blk_cell BK215.out 0).trans rfl; have hcz15_1 : w14.cell? ⟨gb215, 1, none⟩ = some (.int .i64 a0_1) := (blk_cell BK215.out 1).trans rfl; have hcz15_2 : w14.cell? ⟨gb215, 2, none⟩ = some (.int .i64 a0_2) := (blk_cell BK215.out 2).trans rfl; have hfz15_0 := blk_frozen BK215.out 0; have hfz15_1 := blk_frozen BK215.out 1; have hfz15_2 := blk_frozen BK215.out 2))
          go_ret
          exact ⟨by first | rfl | (simp [errW_none, errW_some] <;> rfl) | (simp [*, errW_none, errW_some] <;> rfl), by repeat (first | (with_reducible first | exact HB.out | apply below_alloc | apply pw_below_drewN | apply below_drew1 | refine below_set ?_ GE215.out) | exact HB.out)⟩
      · rw [if_neg c4] at H
        have c4b0 : decide (1 ≤ a0_1) = false := decide_eq_false c4
        clear c4
        obtain rfl := Option.some.inj H
        go_enter Try.func40, Try.ntmps40
        go_wp2_with (first | ((with_reducible refine gate_dst (N := 1) rfl ?_); refine box_event ?hg (N := 1) ?hd (cs := #[.int .i64 a0_0, .int .i64 a0_1, .int .i64 a0_2]) (t := 23) ?hr ?_; (case hd => rfl); (case hg => rfl); (case hr => first | (go_simp; done) | (go_simp; rfl)); intro gb215 hg w16 hbox hb; have n0_ := Aside0.mk (below_step (by repeat (first | (with_reducible first | exact HB.out | apply below_alloc | apply pw_below_drewN | apply below_drew1) | exact HB.out)) hb); have n1_ := Aside0.mk (hbox); have n2_ := Aside0.mk ((by rw [hg]; exact (below_size (by repeat (first | (with_reducible first | exact HB.out | apply below_alloc | apply pw_below_drewN | apply below_drew1) | exact HB.out))) : w.heap.size ≤ gb215)); have n3_ := Aside0.mk ((by rw [hg]; exact (below_size (by repeat (first | (with_reducible first | exact HB.out | apply below_alloc | apply pw_below_drewN | apply below_drew1) | exact HB.out))) : w.heap.size ≤ gb215)); clear HB; have HB := n0_; have BK215 := n1_; have GW215 := n2_; have GE215 := n3_; clear n0_ n1_ n2_ n3_; clear hb hbox hg; have hcz17_0 : w16.cell? ⟨gb215, 0, none⟩ = some (.int .i64 a0_0) := (blk_cell BK215.out 0).trans rfl; have hcz17_1 : w16.cell? ⟨gb215, 1, none⟩ = some (.int .i64 a0_1) := (blk_cell BK215.out 1).trans rfl; have hcz17_2 : w16.cell? ⟨gb215, 2, none⟩ = some (.int .i64 a0_2) := (blk_cell BK215.out 2).trans rfl; have hfz17_0 := blk_frozen BK215.out 0; have hfz17_1 := blk_frozen BK215.out 1; have hfz17_2 := blk_frozen BK215.out 2))
        go_ret
        exact ⟨by first | rfl | (simp [errW_none, errW_some] <;> rfl) | (simp [*, errW_none, errW_some] <;> rfl), by repeat (first | (with_reducible first | exact HB.out | apply below_alloc | apply pw_below_drewN | apply below_drew1 | refine below_set ?_ GE215.out) | exact HB.out)⟩
    · rw [if_neg c3] at H
      have c3b0 : decide (a0_0 ≤ 8) = false := decide_eq_false c3
      clear c3
      obtain rfl := Option.some.inj H
      go_enter Try.func40, Try.ntmps40
      go_wp2_with (first | ((with_reducible refine gate_dst (N := 1) rfl ?_); refine box_event ?hg (N := 1) ?hd (cs := #[.int .i64 a0_0, .int .i64 a0_1, .int .i64 a0_2]) (t := 23) ?hr ?_; (case hd => rfl); (case hg => rfl); (case hr => first | (go_simp; done) | (go_simp; rfl)); intro gb215 hg w18 hbox hb; have n0_ := Aside0.mk (below_step (by repeat (first | (with_reducible first | exact HB.out | apply below_alloc | apply pw_below_drewN | apply below_drew1) | exact HB.out)) hb); have n1_ := Aside0.mk (hbox); have n2_ := Aside0.mk ((by rw [hg]; exact (below_size (by repeat (first | (with_reducible first | exact HB.out | apply below_alloc | apply pw_below_drewN | apply below_drew1) | exact HB.out))) : w.heap.size ≤ gb215)); have n3_ := Aside0.mk ((by rw [hg]; exact (below_size (by repeat (first | (with_reducible first | exact HB.out | apply below_alloc | apply pw_below_drewN | apply below_drew1) | exact HB.out))) : w.heap.size ≤ gb215)); clear HB; have HB := n0_; have BK215 := n1_; have GW215 := n2_; have GE215 := n3_; clear n0_ n1_ n2_ n3_; clear hb hbox hg; have hcz19_0 : w18.cell? ⟨gb215, 0, none⟩ = some (.int .i64 a0_0) := (blk_cell BK215.out 0).trans rfl; have hcz19_1 : w18.cell? ⟨gb215, 1, none⟩ = some (.int .i64 a0_1) := (blk_cell BK215.out 1).trans rfl; have hcz19_2 : w18.cell? ⟨gb215, 2, none⟩ = some (.int .i64 a0_2) := (blk_cell BK215.out 2).trans rfl; have hfz19_0 := blk_frozen BK215.out 0; have hfz19_1 := blk_frozen BK215.out 1; have hfz19_2 := blk_frozen BK215.out 2))
      go_ret
      exact ⟨by first | rfl | (simp [errW_none, errW_some] <;> rfl) | (simp [*, errW_none, errW_some] <;> rfl), by repeat (first | (with_reducible first | exact HB.out | apply below_alloc | apply pw_below_drewN | apply below_drew1 | refine below_set ?_ GE215.out) | exact HB.out)⟩
  · rw [if_neg c2] at H
    have c2b0 : decide (1 ≤ a0_0) = false := decide_eq_false c2
    clear c2
    obtain rfl := Option.some.inj H
    go_enter Try.func40, Try.ntmps40
    go_wp2_with (first | ((with_reducible refine gate_dst (N := 1) rfl ?_); refine box_event ?hg (N := 1) ?hd (cs := #[.int .i64 a0_0, .int .i64 a0_1, .int .i64 a0_2]) (t := 23) ?hr ?_; (case hd => rfl); (case hg => rfl); (case hr => first | (go_simp; done) | (go_simp; rfl)); intro gb215 hg w20 hbox hb; have n0_ := Aside0.mk (below_step (by repeat (first | (with_reducible first | exact HB.out | apply below_alloc | apply pw_below_drewN | apply below_drew1) | exact HB.out)) hb); have n1_ := Aside0.mk (hbox); have n2_ := Aside0.mk ((by rw [hg]; exact (below_size (by repeat (first | (with_reducible first | exact HB.out | apply below_alloc | apply pw_below_drewN | apply below_drew1) | exact HB.out))) : w.heap.size ≤ gb215)); have n3_ := Aside0.mk ((by rw [hg]; exact (below_size (by repeat (first | (with_reducible first | exact HB.out | apply below_alloc | apply pw_below_drewN | apply below_drew1) | exact HB.out))) : w.heap.size ≤ gb215)); clear HB; have HB := n0_; have BK215 := n1_; have GW215 := n2_; have GE215 := n3_; clear n0_ n1_ n2_ n3_; clear hb hbox hg; have hcz21_0 : w20.cell? ⟨gb215, 0, none⟩ = some (.int .i64 a0_0) := (blk_cell BK215.out 0).trans rfl; have hcz21_1 : w20.cell? ⟨gb215, 1, none⟩ = some (.int .i64 a0_1) := (blk_cell BK215.out 1).trans rfl; have hcz21_2 : w20.cell? ⟨gb215, 2, none⟩ = some (.int .i64 a0_2) := (blk_cell BK215.out 2).trans rfl; have hfz21_0 := blk_frozen BK215.out 0; have hfz21_1 := blk_frozen BK215.out 1; have hfz21_2 := blk_frozen BK215.out 2))
    go_ret
    exact ⟨by first | rfl | (simp [errW_none, errW_some] <;> rfl) | (simp [*, errW_none, errW_some] <;> rfl), by repeat (first | (with_reducible first | exact HB.out | apply below_alloc | apply pw_below_drewN | apply below_drew1 | refine below_set ?_ GE215.out) | exact HB.out)⟩

/-! ### symbolonref02_Conv: function 38 -/
def symbolonref02_Conv.j0 : Nat → Int → Int → Int → Bool → Int → Int → Int → Option (Int × Int × Int × Bool)
  | 0, _, _, _, _, _, _, _ => none
  | k + 1, x1, x2, x3, x42, x229000, x229001, x229002 => if x42 = true then (some (0, 0, 0, false)) else (if x3 = 0 then (none) else ((symbolonref02_Right.f x1 (wrap64 ((wrap64 (Int.tdiv (wrap64 (x229001 - x2)) x3)) + 1)) (wrap64 ((wrap64 (Int.tdiv (wrap64 (x229002 - x2)) x3)) + 1))).bind fun t232 => (if t232 = true then (some (x1, wrap64 ((wrap64 (Int.tdiv (wrap64 (x229001 - x2)) x3)) + 1), wrap64 ((wrap64 (Int.tdiv (wrap64 (x229002 - x2)) x3)) + 1), true)) else (some (0, 0, 0, false)))))
def symbolonref02_Conv.f (k : Nat) (a0_0 : Int) (a0_1 : Int) (a0_2 : Int) (a1 : Int) (a2 : Int) (a3 : Int) : Option (Int × Int × Int × Bool) := (symbolonref02_Right.f a0_0 a0_1 a0_2).bind fun t230 => (if t230 = true then (if a1 < 1 then (symbolonref02_Conv.j0 k a1 a2 a3 true a0_0 a0_1 a0_2) else (if a1 > 8 then (symbolonref02_Conv.j0 k a1 a2 a3 true a0_0 a0_1 a0_2) else (if a2 < 1 then (symbolonref02_Conv.j0 k a1 a2 a3 true a0_0 a0_1 a0_2) else (if a2 > (mn a0_1 a0_2) then (symbolonref02_Conv.j0 k a1 a2 a3 true a0_0 a0_1 a0_2) else (if a3 < 1 then (symbolonref02_Conv.j0 k a1 a2 a3 true a0_0 a0_1 a0_2) else (symbolonref02_Conv.j0 k a1 a2 a3 (decide (a3 > 12)) a0_0 a0_1 a0_2)))))) else (symbolonref02_Conv.j0 k a1 a2 a3 true a0_0 a0_1 a0_2))
def symbolonref02_Conv.T3 : Bool × List (List Nat × List Nat) := (true, [([], []), ([], []), ([1], [1]), ([], []), ([2, 3], [2, 3]), ([], []), ([4, 5], [4, 5]), ([6], [6]), ([], []), ([8], [8]), ([], []), ([9, 10], [9, 10]), ([], []), ([11, 12], [11, 12]), ([13], [13]), ([0, 7, 14], [0, 7, 14]), ([], []), ([16, 15, 0, 1, 2, 3, 4, 5, 6, 7, 8, 9, 10, 11, 12, 13, 14, 15, 16], [15, 16])])
def symbolonref02_Conv.B3 : List Nat := [0, 0, 2, 0, 14, 0, 62, 126, 0, 256, 0, 1792, 0, 7936, 16128, 32767, 0, 131071]
theorem symbolonref02_Conv.tab3 : rtab .any (opsOf Try.f38 3) = symbolonref02_Conv.T3 := by kernel_rfl
theorem symbolonref02_Conv.bits3 : waitsOk symbolonref02_Conv.T3.2 symbolonref02_Conv.B3 = true := by kernel_rfl
set_option maxHeartbeats 8000000 in
set_option maxRecDepth 100000 in
theorem symbolonref02_Conv.calls (k : Nat) (a0_0 : Int) (a0_1 : Int) (a0_2 : Int) (a1 : Int) (a2 : Int) (a3 : Int) (r1 : Int) (r2 : Int) (r3 : Int) (r4 : Bool) (w : World) (h : symbolonref02_Conv.f k a0_0 a0_1 a0_2 a1 a2 a3 = some (r1, r2, r3, r4)) :
    Calls Try.prog 38 #[.agg #[.int .i64 a0_0, .int .i64 a0_1, .int .i64 a0_2], .int .i64 a1, .int .i64 a2, .int .i64 a3] w fun e w' => e = .returned (.tuple #[.agg #[.int .i64 r1, .int .i64 r2, .int .i64 r3], .bool r4]) ∧ Below w.heap.size w w' := by
  have hu23 := Try.underlying23
  have HB := Aside0.mk (Below.refl w.heap.size w)
  have H : ((symbolonref02_Right.f a0_0 a0_1 a0_2).bind fun t230 => (if t230 = true then (if a1 < 1 then (symbolonref02_Conv.j0 k a1 a2 a3 true a0_0 a0_1 a0_2) else (if a1 > 8 then (symbolonref02_Conv.j0 k a1 a2 a3 true a0_0 a0_1 a0_2) else (if a2 < 1 then (symbolonref02_Conv.j0 k a1 a2 a3 true a0_0 a0_1 a0_2) else (if a2 > (mn a0_1 a0_2) then (symbolonref02_Conv.j0 k a1 a2 a3 true a0_0 a0_1 a0_2) else (if a3 < 1 then (symbolonref02_Conv.j0 k a1 a2 a3 true a0_0 a0_1 a0_2) else (symbolonref02_Conv.j0 k a1 a2 a3 (decide (a3 > 12)) a0_0 a0_1 a0_2)))))) else (symbolonref02_Conv.j0 k a1 a2 a3 true a0_0 a0_1 a0_2))) = some (r1, r2, r3, r4) := h
  clear h
  have HC5 := Aside0.mk H
  clear H
  go_enter Try.func38, Try.ntmps38
  go_upto_region 1 with (first | ((with_reducible refine gate_dst (N := 4) rfl ?_); (try (refine gate_guard (by rfl) ?_; dsimp only)); refine box_event ?hg (N := 4) ?hd (cs := #[.int .i64 a0_0, .int .i64 a0_1, .int .i64 a0_2]) (t := 23) ?hr ?_; (case hd => rfl); (case hg => rfl); (case hr => first | (go_simp; done) | (go_simp; rfl)); intro gb228 hg w6 hbox hb; have n0_ := Aside0.mk (below_step (by repeat (first | (with_reducible first | exact HB.out | apply below_alloc | apply pw_below_drewN | apply below_drew1) | exact HB.out)) hb); have n1_ := Aside0.mk (hbox); have n2_ := Aside0.mk ((by rw [hg]; exact (below_size (by repeat (first | (with_reducible first | exact HB.out | apply below_alloc | apply pw_below_drewN | apply below_drew1) | exact HB.out))) : w.heap.size ≤ gb228)); have n3_ := Aside0.mk ((by rw [hg]; exact (below_size (by repeat (first | (with_reducible first | exact HB.out | apply below_alloc | apply pw_below_drewN | apply below_drew1) | exact HB.out))) : w.heap.size ≤ gb228)); clear HB; have HB := n0_; have BK228 := n1_; have GW228 := n2_; have GE228 := n3_; clear n0_ n1_ n2_ n3_; clear hb hbox hg) | ((with_reducible refine gate_dst (N := 8) rfl ?_); (try (refine gate_guard (by rfl) ?_; dsimp only)); refine box_event ?hg (N := 8) ?hd (cs := #[.int .i64 0, .int .i64 0, .int .i64 0]) (t := 23) ?hr ?_; (case hd => rfl); (case hg => rfl); (case hr => first | (go_simp; done) | (go_simp; rfl)); intro gb229 hg w7 hbox hb; have n0_ := Aside0.mk (blk_below (g := gb228) (o := .cells #[.int .i64 a0_0, .int .i64 a0_1, .int .i64 a0_2] 23 (0, 0)) (by (with_reducible repeat (first | refine blk_drewN ?_ _ | refine blk_drew ?_ | refine blk_alloc ?_ _)); exact BK228.out) hb); have n1_ := Aside0.mk (below_step (by repeat (first | (with_reducible first | exact HB.out | apply below_alloc | apply pw_below_drewN | apply below_drew1 | refine below_set ?_ GE228.out) | exact HB.out)) hb); have n2_ := Aside0.mk (hbox); have n3_ := Aside0.mk ((by rw [hg]; exact (below_size (by repeat (first | (with_reducible first | exact HB.out | apply below_alloc | apply pw_below_drewN | apply below_drew1 | refine below_set ?_ GE228.out) | exact HB.out))) : w.heap.size ≤ gb229)); have n4_ := Aside0.mk ((by rw [hg]; exact (below_size (by repeat (first | (with_reducible first | exact HB.out | apply below_alloc | apply pw_below_drewN | apply below_drew1 | refine below_set ?_ GE228.out) | exact HB.out))) : w.heap.size ≤ gb229)); have n5_ := Aside0.mk ((by rw [hg]; exact Nat.ne_of_lt (blk_lt (g := gb228) (o := .cells #[.int .i64 a0_0, .int .i64 a0_1, .int .i64 a0_2] 23 (0, 0)) (by (with_reducible repeat (first | refine blk_drewN ?_ _ | refine blk_drew ?_ | refine blk_alloc ?_ _)); exact BK228.out)) : gb228 ≠ gb229)); have n6_ := Aside0.mk ((by rw [hg]; exact Nat.ne_of_gt (blk_lt (g := gb228) (o := .cells #[.int .i64 a0_0, .int .i64 a0_1, .int .i64 a0_2] 23 (0, 0)) (by (with_reducible repeat (first | refine blk_drewN ?_ _ | refine blk_drew ?_ | refine blk_alloc ?_ _)); exact BK228.out)) : gb229 ≠ gb228)); clear BK228; clear HB; have BK228 := n0_; have HB := n1_; have BK229 := n2_; have GW229 := n3_; have GE229 := n4_; have NB228_229 := n5_; have NB229_228 := n6_; clear n0_ n1_ n2_ n3_ n4_ n5_ n6_; clear hb hbox hg))
  (try simp only [Act.put, List.setIfInBounds_toArray, List.set_cons_zero, List.set_cons_succ])
  go_cut [42] (fun v42 wc => ∃ (kq : Nat) (x42_4 : Bool), v42 = .bool x42_4 ∧ Aside0 (symbolonref02_Conv.j0 kq a1 a2 a3 x42_4 a0_0 a0_1 a0_2 = some (r1, r2, r3, r4)) ∧ Aside0 (kq ≤ k) ∧ Aside0 (wc.heap[gb228]? = some (.cells #[.int .i64 a0_0, .int .i64 a0_1, .int .i64 a0_2] 23 (0, 0))) ∧ Aside0 (wc.heap[gb229]? = some (.cells #[.int .i64 0, .int .i64 0, .int .i64 0] 23 (0, 0))) ∧ Aside0 (Below w.heap.size w wc))
  case first =>
    have H := HC5.out
    clear HC5
    replace H := Option.bind_eq_some_iff.mp H
    obtain ⟨t230, A80, H⟩ := H
    replace H : (if t230 = true then (if a1 < 1 then (symbolonref02_Conv.j0 k a1 a2 a3 true a0_0 a0_1 a0_2) else (if a1 > 8 then (symbolonref02_Conv.j0 k a1 a2 a3 true a0_0 a0_1 a0_2) else (if a2 < 1 then (symbolonref02_Conv.j0 k a1 a2 a3 true a0_0 a0_1 a0_2) else (if a2 > (mn a0_1 a0_2) then (symbolonref02_Conv.j0 k a1 a2 a3 true a0_0 a0_1 a0_2) else (if a3 < 1 then (symbolonref02_Conv.j0 k a1 a2 a3 true a0_0 a0_1 a0_2) else (symbolonref02_Conv.j0 k a1 a2 a3 (decide (a3 > 12)) a0_0 a0_1 a0_2)))))) else (symbolonref02_Conv.j0 k a1 a2 a3 true a0_0 a0_1 a0_2)) = some (r1, r2, r3, r4) := H
    have A8 := Aside0.mk A80
    clear A80
    by_cases c9 : t230 = true
    · subst c9
      have H1 : (if a1 < 1 then (symbolonref02_Conv.j0 k a1 a2 a3 true a0_0 a0_1 a0_2) else (if a1 > 8 then (symbolonref02_Conv.j0 k a1 a2 a3 true a0_0 a0_1 a0_2) else (if a2 < 1 then (symbolonref02_Conv.j0 k a1 a2 a3 true a0_0 a0_1 a0_2) else (if a2 > (mn a0_1 a0_2) then (symbolonref02_Conv.j0 k a1 a2 a3 true a0_0 a0_1 a0_2) else (if a3 < 1 then (symbolonref02_Conv.j0 k a1 a2 a3 true a0_0 a0_1 a0_2) else (symbolonref02_Conv.j0 k a1 a2 a3 (decide (a3 > 12)) a0_0 a0_1 a0_2)))))) = some (r1, r2, r3, r4) := by rw [if_pos rfl] at H; exact H
      clear H
      have H := H1
      clear H1
      by_cases c10 : a1 < 1
      · rw [if_pos c10] at H
        have c10b0 : decide (a1 < 1) = true := decide_eq_true c10
        clear c10
        (first | rw [c10b0] | (simp only [i64_w, i32_w]; rw [c10b0]) | skip)
        have H' := Aside0.mk H
        clear H
        have hnb11 := NB228_229.out
        have hnc11 := NB229_228.out
        have hcz12_0 : w7.cell? ⟨gb228, 0, none⟩ = some (.int .i64 a0_0) := (blk_cell BK228.out 0).trans rfl
        have hcz12_1 : w7.cell? ⟨gb228, 1, none⟩ = some (.int .i64 a0_1) := (blk_cell BK228.out 1).trans rfl
        have hcz12_2 : w7.cell? ⟨gb228, 2, none⟩ = some (.int .i64 a0_2) := (blk_cell BK228.out 2).trans rfl
        have hfz12_0 := blk_frozen BK228.out 0
        have hfz12_1 := blk_frozen BK228.out 1
        have hfz12_2 := blk_frozen BK228.out 2
        go_wp2_with (first | ((with_reducible refine gate_callee (f := 40) rfl ?_); refine goesL_ (some 12) rfl rfl Try.func40 (by kernel_rfl) rfl #[.agg #[.int .i64 a0_0, .int .i64 a0_1, .int .i64 a0_2]] rfl (by (try simp only [List.map_toArray, List.map_cons, List.map_nil]); first | done | rfl | (simp only [List.length_drop, List.length_take]; rfl)) ?_; (with_reducible refine (symbolonref02_Right.calls a0_0 a0_1 a0_2 true _ A8.out).mono ?_); rintro e w13 ⟨rfl, hb⟩; refine ⟨_, rfl, ?_⟩; have n0_ := Aside0.mk (blk_below (g := gb228) (o := .cells #[.int .i64 a0_0, .int .i64 a0_1, .int .i64 a0_2] 23 (0, 0)) (by (with_reducible repeat (first | refine blk_drewN ?_ _ | refine blk_drew ?_ | refine blk_alloc ?_ _)); exact BK228.out) hb); have n1_ := Aside0.mk (blk_below (g := gb229) (o := .cells #[.int .i64 0, .int .i64 0, .int .i64 0] 23 (0, 0)) (by (with_reducible repeat (first | refine blk_drewN ?_ _ | refine blk_drew ?_ | refine blk_alloc ?_ _)); exact BK229.out) hb); have n2_ := Aside0.mk (below_step (by repeat (first | (with_reducible first | exact HB.out | apply below_alloc | apply pw_below_drewN | apply below_drew1 | refine below_set ?_ GE228.out | refine below_set ?_ GE229.out) | exact HB.out)) hb); clear BK228; clear BK229; clear HB; have BK228 := n0_; have BK229 := n1_; have HB := n2_; clear n0_ n1_ n2_; (try clear hb); (try clear hb2); (try clear hk); (try clear hi)))
        go_meet
        case rel => exact ⟨_, (true), (by first | rfl | (simp; done) | (simp [*]; done)), H', ⟨by first | omega | exact Nat.le_refl _⟩, ⟨by (with_reducible repeat (first | refine blk_drewN ?_ _ | refine blk_drew ?_ | refine blk_alloc ?_ _)); exact BK228.out⟩, ⟨by (with_reducible repeat (first | refine blk_drewN ?_ _ | refine blk_drew ?_ | refine blk_alloc ?_ _)); exact BK229.out⟩, ⟨by repeat (first | (with_reducible first | exact HB.out | apply below_alloc | apply pw_below_drewN | apply below_drew1 | refine below_set ?_ GE228.out | refine below_set ?_ GE229.out) | exact HB.out)⟩⟩
      · rw [if_neg c10] at H
        have c10b0 : decide (a1 < 1) = false := decide_eq_false c10
        clear c10
        (first | rw [c10b0] | (simp only [i64_w, i32_w]; rw [c10b0]) | skip)
        by_cases c14 : a1 > 8
        · rw [if_pos c14] at H
          have c14b0 : decide (8 < a1) = true := decide_eq_true c14
          clear c14
          have H' := Aside0.mk H
          clear H
          have hnb15 := NB228_229.out
          have hnc15 := NB229_228.out
          have hcz16_0 : w7.cell? ⟨gb228, 0, none⟩ = some (.int .i64 a0_0) := (blk_cell BK228.out 0).trans rfl
          have hcz16_1 : w7.cell? ⟨gb228, 1, none⟩ = some (.int .i64 a0_1) := (blk_cell BK228.out 1).trans rfl
          have hcz16_2 : w7.cell? ⟨gb228, 2, none⟩ = some (.int .i64 a0_2) := (blk_cell BK228.out 2).trans rfl
          have hfz16_0 := blk_frozen BK228.out 0
          have hfz16_1 := blk_frozen BK228.out 1
          have hfz16_2 := blk_frozen BK228.out 2
          go_wp2_with (first | ((with_reducible refine gate_callee (f := 40) rfl ?_); refine goesL_ (some 12) rfl rfl Try.func40 (by kernel_rfl) rfl #[.agg #[.int .i64 a0_0, .int .i64 a0_1, .int .i64 a0_2]] rfl (by (try simp only [List.map_toArray, List.map_cons, List.map_nil]); first | done | rfl | (simp only [List.length_drop, List.length_take]; rfl)) ?_; (with_reducible refine (symbolonref02_Right.calls a0_0 a0_1 a0_2 true _ A8.out).mono ?_); rintro e w17 ⟨rfl, hb⟩; refine ⟨_, rfl, ?_⟩; have n0_ := Aside0.mk (blk_below (g := gb228) (o := .cells #[.int .i64 a0_0, .int .i64 a0_1, .int .i64 a0_2] 23 (0, 0)) (by (with_reducible repeat (first | refine blk_drewN ?_ _ | refine blk_drew ?_ | refine blk_alloc ?_ _)); exact BK228.out) hb); have n1_ := Aside0.mk (blk_below (g := gb229) (o := .cells #[.int .i64 0, .int .i64 0, .int .i64 0] 23 (0, 0)) (by (with_reducible repeat (first | refine blk_drewN ?_ _ | refine blk_drew ?_ | refine blk_alloc ?_ _)); exact BK229.out) hb); have n2_ := Aside0.mk (below_step (by repeat (first | (with_reducible first | exact HB.out | apply below_alloc | apply pw_below_drewN | apply below_drew1 | refine below_set ?_ GE228.out | refine below_set ?_ GE229.out) | exact HB.out)) hb); clear BK228; clear BK229; clear HB; have BK228 := n0_; have BK229 := n1_; have HB := n2_; clear n0_ n1_ n2_; (try clear hb); (try clear hb2); (try clear hk); (try clear hi)))
          go_meet
          case rel => exact ⟨_, (true), (by first | rfl | (simp; done) | (simp [*]; done)), H', ⟨by first | omega | exact Nat.le_refl _⟩, ⟨by (with_reducible repeat (first | refine blk_drewN ?_ _ | refine blk_drew ?_ | refine blk_alloc ?_ _)); exact BK228.out⟩, ⟨by (with_reducible repeat (first | refine blk_drewN ?_ _ | refine blk_drew ?_ | refine blk_alloc ?_ _)); exact BK229.out⟩, ⟨by repeat (first | (with_reducible first | exact HB.out | apply below_alloc | apply pw_below_drewN | apply below_drew1 | refine below_set ?_ GE228.out | refine below_set ?_ GE229.out) | exact HB.out)⟩⟩
        · rw [if_neg c14] at H
          have c14b0 : decide (8 < a1) = false := decide_eq_false c14
          clear c14
          by_cases c18 : a2 < 1
          · rw [if_pos c18] at H
            have c18b0 : decide (a2 < 1) = true := decide_eq_true c18
            clear c18
            have H' := Aside0.mk H
            clear H
            have hnb19 := NB228_229.out
            have hnc19 := NB229_228.out
            have hcz20_0 : w7.cell? ⟨gb228, 0, none⟩ = some (.int .i64 a0_0) := (blk_cell BK228.out 0).trans rfl
            have hcz20_1 : w7.cell? ⟨gb228, 1, none⟩ = some (.int .i64 a0_1) := (blk_cell BK228.out 1).trans rfl
            have hcz20_2 : w7.cell? ⟨gb228, 2, none⟩ = some (.int .i64 a0_2) := (blk_cell BK228.out 2).trans rfl
            have hfz20_0 := blk_frozen BK228.out 0
            have hfz20_1 := blk_frozen BK228.out 1
            have hfz20_2 := blk_frozen BK228.out 2
            go_wp2_with (first | ((with_reducible refine gate_callee (f := 40) rfl ?_); refine goesL_ (some 12) rfl rfl Try.func40 (by kernel_rfl) rfl #[.agg #[.int .i64 a0_0, .int .i64 a0_1, .int .i64 a0_2]] rfl (by (try simp only [List.map_toArray, List.map_cons, List.map_nil]); first | done | rfl | (simp only [List.length_drop, List.length_take]; rfl)) ?_; (with_reducible refine (symbolonref02_Right.calls a0_0 a0_1 a0_2 true _ A8.out).mono ?_); rintro e w21 ⟨rfl, hb⟩; refine ⟨_, rfl, ?_⟩; have n0_ := Aside0.mk (blk_below (g := gb228) (o := .cells #[.int .i64 a0_0, .int .i64 a0_1, .int .i64 a0_2] 23 (0, 0)) (by (with_reducible repeat (first | refine blk_drewN ?_ _ | refine blk_drew ?_ | refine blk_alloc ?_ _)); exact BK228.out) hb); have n1_ := Aside0.mk (blk_below (g := gb229) (o := .cells #[.int .i64 0, .int .i64 0, .int .i64 0] 23 (0, 0)) (by (with_reducible repeat (first | refine blk_drewN ?_ _ | refine blk_drew ?_ | refine blk_alloc ?_ _)); exact BK229.out) hb); have n2_ := Aside0.mk (below_step (by repeat (first | (with_reducible first | exact HB.out | apply below_alloc | apply pw_below_drewN | apply below_drew1 | refine below_set ?_ GE228.out | refine below_set ?_ GE229.out) | exact HB.out)) hb); clear BK228; clear BK229; clear HB; have BK228 := n0_; have BK229 := n1_; have HB := n2_; clear n0_ n1_ n2_; (try clear hb); (try clear hb2); (try clear hk); (try clear hi)))
            go_meet
            case rel => exact ⟨_, (true), (by first | rfl | (simp; done) | (simp [*]; done)), H', ⟨by first | omega | exact Nat.le_refl _⟩, ⟨by (with_reducible repeat (first | refine blk_drewN ?_ _ | refine blk_drew ?_ | refine blk_alloc ?_ _)); exact BK228.out⟩, ⟨by (with_reducible repeat (first | refine blk_drewN ?_ _ | refine blk_drew ?_ | refine blk_alloc ?_ _)); exact BK229.out⟩, ⟨by repeat (first | (with_reducible first | exact HB.out | apply below_alloc | apply pw_below_drewN | apply below_drew1 | refine below_set ?_ GE228.out | refine below_set ?_ GE229.out) | exact HB.out)⟩⟩
          · rw [if_neg c18] at H
            have c18b0 : decide (a2 < 1) = false := decide_eq_false c18
            clear c18
            obtain ⟨ji22, hji22⟩ : ∃ j_ : Int, (mn a0_1 a0_2) = j_ := ⟨_, rfl⟩
            replace H : (if a2 > (ji22) then (symbolonref02_Conv.j0 k a1 a2 a3 true a0_0 a0_1 a0_2) else (if a3 < 1 then (symbolonref02_Conv.j0 k a1 a2 a3 true a0_0 a0_1 a0_2) else (symbolonref02_Conv.j0 k a1 a2 a3 (decide (a3 > 12)) a0_0 a0_1 a0_2))) = some (r1, r2, r3, r4) := by first | (rw [hji22] at H; exact H) | (simp only [hji22] at H ⊢; exact H)
            (try rw [hji22] at A8)
            have hji22_ : (if a0_2 < a0_1 then a0_2 else a0_1) = ji22 := hji22
            by_cases c23 : a2 > (ji22)
            · rw [if_pos c23] at H
              have c23b0 : decide ((ji22) < a2) = true := decide_eq_true c23
              clear c23
              have H' := Aside0.mk H
              clear H
              have hnb24 := NB228_229.out
              have hnc24 := NB229_228.out
              have hcz25_0 : w7.cell? ⟨gb228, 0, none⟩ = some (.int .i64 a0_0) := (blk_cell BK228.out 0).trans rfl
              have hcz25_1 : w7.cell? ⟨gb228, 1, none⟩ = some (.int .i64 a0_1) := (blk_cell BK228.out 1).trans rfl
              have hcz25_2 : w7.cell? ⟨gb228, 2, none⟩ = some (.int .i64 a0_2) := (blk_cell BK228.out 2).trans rfl
              have hfz25_0 := blk_frozen BK228.out 0
              have hfz25_1 := blk_frozen BK228.out 1
              have hfz25_2 := blk_frozen BK228.out 2
              go_wp2_with (first | ((with_reducible refine gate_callee (f := 40) rfl ?_); refine goesL_ (some 12) rfl rfl Try.func40 (by kernel_rfl) rfl #[.agg #[.int .i64 a0_0, .int .i64 a0_1, .int .i64 a0_2]] rfl (by (try simp only [List.map_toArray, List.map_cons, List.map_nil]); first | done | rfl | (simp only [List.length_drop, List.length_take]; rfl)) ?_; (with_reducible refine (symbolonref02_Right.calls a0_0 a0_1 a0_2 true _ A8.out).mono ?_); rintro e w26 ⟨rfl, hb⟩; refine ⟨_, rfl, ?_⟩; have n0_ := Aside0.mk (blk_below (g := gb228) (o := .cells #[.int .i64 a0_0, .int .i64 a0_1, .int .i64 a0_2] 23 (0, 0)) (by (with_reducible repeat (first | refine blk_drewN ?_ _ | refine blk_drew ?_ | refine blk_alloc ?_ _)); exact BK228.out) hb); have n1_ := Aside0.mk (blk_below (g := gb229) (o := .cells #[.int .i64 0, .int .i64 0, .int .i64 0] 23 (0, 0)) (by (with_reducible repeat (first | refine blk_drewN ?_ _ | refine blk_drew ?_ | refine blk_alloc ?_ _)); exact BK229.out) hb); have n2_ := Aside0.mk (below_step (by repeat (first | (with_reducible first | exact HB.out | apply below_alloc | apply pw_below_drewN | apply below_drew1 | refine below_set ?_ GE228.out | refine below_set ?_ GE229.out) | exact HB.out)) hb); clear BK228; clear BK229; clear HB; have BK228 := n0_; have BK229 := n1_; have HB := n2_; clear n0_ n1_ n2_; (try clear hb); (try clear hb2); (try clear hk); (try clear hi); have hcz27_0 : w26.cell? ⟨gb228, 0, none⟩ = some (.int .i64 a0_0) := (blk_cell BK228.out 0).trans rfl; have hcz27_1 : w26.cell? ⟨gb228, 1, none⟩ = some (.int .i64 a0_1) := (blk_cell BK228.out 1).trans rfl; have hcz27_2 : w26.cell? ⟨gb228, 2, none⟩ = some (.int .i64 a0_2) := (blk_cell BK228.out 2).trans rfl; have hfz27_0 := blk_frozen BK228.out 0; have hfz27_1 := blk_frozen BK228.out 1; have hfz27_2 := blk_frozen BK228.out 2))
              go_meet
              case rel => exact ⟨_, (true), (by first | rfl | (simp; done) | (simp [*]; done)), H', ⟨by first | omega | exact Nat.le_refl _⟩, ⟨by (with_reducible repeat (first | refine blk_drewN ?_ _ | refine blk_drew ?_ | refine blk_alloc ?_ _)); exact BK228.out⟩, ⟨by (with_reducible repeat (first | refine blk_drewN ?_ _ | refine blk_drew ?_ | refine blk_alloc ?_ _)); exact BK229.out⟩, ⟨by repeat (first | (with_reducible first | exact HB.out | apply below_alloc | apply pw_below_drewN | apply below_drew1 | refine below_set ?_ GE228.out | refine below_set ?_ GE229.out) | exact HB.out)⟩⟩
            · rw [if_neg c23] at H
              have c23b0 : decide ((ji22) < a2) = false := decide_eq_false c23
              clear c23
              by_cases c28 : a3 < 1
              · rw [if_pos c28] at H
                have c28b0 : decide (a3 < 1) = true := decide_eq_true c28
                clear c28
                have H' := Aside0.mk H
                clear H
                have hnb29 := NB228_229.out
                have hnc29 := NB229_228.out
                have hcz30_0 : w7.cell? ⟨gb228, 0, none⟩ = some (.int .i64 a0_0) := (blk_cell BK228.out 0).trans rfl
                have hcz30_1 : w7.cell? ⟨gb228, 1, none⟩ = some (.int .i64 a0_1) := (blk_cell BK228.out 1).trans rfl
                have hcz30_2 : w7.cell? ⟨gb228, 2, none⟩ = some (.int .i64 a0_2) := (blk_cell BK228.out 2).trans rfl
                have hfz30_0 := blk_frozen BK228.out 0
                have hfz30_1 := blk_frozen BK228.out 1
                have hfz30_2 := blk_frozen BK228.out 2
                go_wp2_with (first | ((with_reducible refine gate_callee (f := 40) rfl ?_); refine goesL_ (some 12) rfl rfl Try.func40 (by kernel_rfl) rfl #[.agg #[.int .i64 a0_0, .int .i64 a0_1, .int .i64 a0_2]] rfl (by (try simp only [List.map_toArray, List.map_cons, List.map_nil]); first | done | rfl | (simp only [List.length_drop, List.length_take]; rfl)) ?_; (with_reducible refine (symbolonref02_Right.calls a0_0 a0_1 a0_2 true _ A8.out).mono ?_); rintro e w31 ⟨rfl, hb⟩; refine ⟨_, rfl, ?_⟩; have n0_ := Aside0.mk (blk_below (g := gb228) (o := .cells #[.int .i64 a0_0, .int .i64 a0_1, .int .i64 a0_2] 23 (0, 0)) (by (with_reducible repeat (first | refine blk_drewN ?_ _ | refine blk_drew ?_ | refine blk_alloc ?_ _)); exact BK228.out) hb); have n1_ := Aside0.mk (blk_below (g := gb229) (o := .cells #[.int .i64 0, .int .i64 0, .int .i64 0] 23 (0, 0)) (by (with_reducible repeat (first | refine blk_drewN ?_ _ | refine blk_drew ?_ | refine blk_alloc ?_ _)); exact BK229.out) hb); have n2_ := Aside0.mk (below_step (by repeat (first | (with_reducible first | exact HB.out | apply below_alloc | apply pw_below_drewN | apply below_drew1 | refine below_set ?_ GE228.out | refine below_set ?_ GE229.out) | exact HB.out)) hb); clear BK228; clear BK229; clear HB; have BK228 := n0_; have BK229 := n1_; have HB := n2_; clear n0_ n1_ n2_; (try clear hb); (try clear hb2); (try clear hk); (try clear hi); have hcz32_0 : w31.cell? ⟨gb228, 0, none⟩ = some (.int .i64 a0_0) := (blk_cell BK228.out 0).trans rfl; have hcz32_1 : w31.cell? ⟨gb228, 1, none⟩ = some (.int .i64 a0_1) := (blk_cell BK228.out 1).trans rfl; have hcz32_2 : w31.cell? ⟨gb228, 2, none⟩ = some (.int .i64 a0_2) := (blk_cell BK228.out 2).trans rfl; have hfz32_0 := blk_frozen BK228.out 0; have hfz32_1 := blk_frozen BK228.out 1; have hfz32_2 := blk_frozen BK228.out 2))
                go_meet
                case rel => exact ⟨_, (true), (by first | rfl | (simp; done) | (simp [*]; done)), H', ⟨by first | omega | exact Nat.le_refl _⟩, ⟨by (with_reducible repeat (first | refine blk_drewN ?_ _ | refine blk_drew ?_ | refine blk_alloc ?_ _)); exact BK228.out⟩, ⟨by (with_reducible repeat (first | refine blk_drewN ?_ _ | refine blk_drew ?_ | refine blk_alloc ?_ _)); exact BK229.out⟩, ⟨by repeat (first | (with_reducible first | exact HB.out | apply below_alloc | apply pw_below_drewN | apply below_drew1 | refine below_set ?_ GE228.out | refine below_set ?_ GE229.out) | exact HB.out)⟩⟩
              · rw [if_neg c28] at H
                have c28b0 : decide (a3 < 1) = false := decide_eq_false c28
                clear c28
                have H' := Aside0.mk H
                clear H
                have hnb33 := NB228_229.out
                have hnc33 := NB229_228.out
                have hcz34_0 : w7.cell? ⟨gb228, 0, none⟩ = some (.int .i64 a0_0) := (blk_cell BK228.out 0).trans rfl
                have hcz34_1 : w7.cell? ⟨gb228, 1, none⟩ = some (.int .i64 a0_1) := (blk_cell BK228.out 1).trans rfl
                have hcz34_2 : w7.cell? ⟨gb228, 2, none⟩ = some (.int .i64 a0_2) := (blk_cell BK228.out 2).trans rfl
                have hfz34_0 := blk_frozen BK228.out 0
                have hfz34_1 := blk_frozen BK228.out 1
                have hfz34_2 := blk_frozen BK228.out 2
                go_wp2_with (first | ((with_reducible refine gate_callee (f := 40) rfl ?_); refine goesL_ (some 12) rfl rfl Try.func40 (by kernel_rfl) rfl #[.agg #[.int .i64 a0_0, .int .i64 a0_1, .int .i64 a0_2]] rfl (by (try simp only [List.map_toArray, List.map_cons, List.map_nil]); first | done | rfl | (simp only [List.length_drop, List.length_take]; rfl)) ?_; (with_reducible refine (symbolonref02_Right.calls a0_0 a0_1 a0_2 true _ A8.out).mono ?_); rintro e w35 ⟨rfl, hb⟩; refine ⟨_, rfl, ?_⟩; have n0_ := Aside0.mk (blk_below (g := gb228) (o := .cells #[.int .i64 a0_0, .int .i64 a0_1, .int .i64 a0_2] 23 (0, 0)) (by (with_reducible repeat (first | refine blk_drewN ?_ _ | refine blk_drew ?_ | refine blk_alloc ?_ _)); exact BK228.out) hb); have n1_ := Aside0.mk (blk_below (g := gb229) (o := .cells #[.int .i64 0, .int .i64 0, .int .i64 0] 23 (0, 0)) (by (with_reducible repeat (first | refine blk_drewN ?_ _ | refine blk_drew ?_ | refine blk_alloc ?_ _)); exact BK229.out) hb); have n2_ := Aside0.mk (below_step (by repeat (first | (with_reducible first | exact HB.out | apply below_alloc | apply pw_below_drewN | apply below_drew1 | refine below_set ?_ GE228.out | refine below_set ?_ GE229.out) | exact HB.out)) hb); clear BK228; clear BK229; clear HB; have BK228 := n0_; have BK229 := n1_; have HB := n2_; clear n0_ n1_ n2_; (try clear hb); (try clear hb2); (try clear hk); (try clear hi); have hcz36_0 : w35.cell? ⟨gb228, 0, none⟩ = some (.int .i64 a0_0) := (blk_cell BK228.out 0).trans rfl; have hcz36_1 : w35.cell? ⟨gb228, 1, none⟩ = some (.int .i64 a0_1) := (blk_cell BK228.out 1).trans rfl; have hcz36_2 : w35.cell? ⟨gb228, 2, none⟩ = some (.int .i64 a0_2) := (blk_cell BK228.out 2).trans rfl; have hfz36_0 := blk_frozen BK228.out 0; have hfz36_1 := blk_frozen BK228.out 1; have hfz36_2 := blk_frozen BK228.out 2))
                go_meet
                case rel => exact ⟨_, (decide (a3 > 12)), (by first | rfl | (simp; done) | (simp [*]; done)), H', ⟨by first | omega | exact Nat.le_refl _⟩, ⟨by (with_reducible repeat (first | refine blk_drewN ?_ _ | refine blk_drew ?_ | refine blk_alloc ?_ _)); exact BK228.out⟩, ⟨by (with_reducible repeat (first | refine blk_drewN ?_ _ | refine blk_drew ?_ | refine blk_alloc ?_ _)); exact BK229.out⟩, ⟨by repeat (first | (with_reducible first | exact HB.out | apply below_alloc | apply pw_below_drewN | apply below_drew1 | refine below_set ?_ GE228.out | refine below_set ?_ GE229.out) | exact HB.out)⟩⟩
    · replace c9 := Bool.eq_false_iff.mpr c9
      subst c9
      have H1 : (symbolonref02_Conv.j0 k a1 a2 a3 true a0_0 a0_1 a0_2) = some (r1, r2, r3, r4) := by rw [if_neg (show ¬ (false = true) by decide)] at H; exact H
      clear H
      have H := H1
      clear H1
      have H' := Aside0.mk H
      clear H
      have hnb37 := NB228_229.out
      have hnc37 := NB229_228.out
      have hcz38_0 : w7.cell? ⟨gb228, 0, none⟩ = some (.int .i64 a0_0) := (blk_cell BK228.out 0).trans rfl
      have hcz38_1 : w7.cell? ⟨gb228, 1, none⟩ = some (.int .i64 a0_1) := (blk_cell BK228.out 1).trans rfl
      have hcz38_2 : w7.cell? ⟨gb228, 2, none⟩ = some (.int .i64 a0_2) := (blk_cell BK228.out 2).trans rfl
      have hfz38_0 := blk_frozen BK228.out 0
      have hfz38_1 := blk_frozen BK228.out 1
      have hfz38_2 := blk_frozen BK228.out 2
      go_wp2_with (first | ((with_reducible refine gate_callee (f := 40) rfl ?_); refine goesL_ (some 12) rfl rfl Try.func40 (by kernel_rfl) rfl #[.agg #[.int .i64 a0_0, .int .i64 a0_1, .int .i64 a0_2]] rfl (by (try simp only [List.map_toArray, List.map_cons, List.map_nil]); first | done | rfl | (simp only [List.length_drop, List.length_take]; rfl)) ?_; (with_reducible refine (symbolonref02_Right.calls a0_0 a0_1 a0_2 false _ A8.out).mono ?_); rintro e w39 ⟨rfl, hb⟩; refine ⟨_, rfl, ?_⟩; have n0_ := Aside0.mk (blk_below (g := gb228) (o := .cells #[.int .i64 a0_0, .int .i64 a0_1, .int .i64 a0_2] 23 (0, 0)) (by (with_reducible repeat (first | refine blk_drewN ?_ _ | refine blk_drew ?_ | refine blk_alloc ?_ _)); exact BK228.out) hb); have n1_ := Aside0.mk (blk_below (g := gb229) (o := .cells #[.int .i64 0, .int .i64 0, .int .i64 0] 23 (0, 0)) (by (with_reducible repeat (first | refine blk_drewN ?_ _ | refine blk_drew ?_ | refine blk_alloc ?_ _)); exact BK229.out) hb); have n2_ := Aside0.mk (below_step (by repeat (first | (with_reducible first | exact HB.out | apply below_alloc | apply pw_below_drewN | apply below_drew1 | refine below_set ?_ GE228.out | refine below_set ?_ GE229.out) | exact HB.out)) hb); clear BK228; clear BK229; clear HB; have BK228 := n0_; have BK229 := n1_; have HB := n2_; clear n0_ n1_ n2_; (try clear hb); (try clear hb2); (try clear hk); (try clear hi)))
      go_meet
      case rel => exact ⟨_, (true), (by first | rfl | (simp; done) | (simp [*]; done)), H', ⟨by first | omega | exact Nat.le_refl _⟩, ⟨by (with_reducible repeat (first | refine blk_drewN ?_ _ | refine blk_drew ?_ | refine blk_alloc ?_ _)); exact BK228.out⟩, ⟨by (with_reducible repeat (first | refine blk_drewN ?_ _ | refine blk_drew ?_ | refine blk_alloc ?_ _)); exact BK229.out⟩, ⟨by repeat (first | (with_reducible first | exact HB.out | apply below_alloc | apply pw_below_drewN | apply below_drew1 | refine below_set ?_ GE228.out | refine below_set ?_ GE229.out) | exact HB.out)⟩⟩
  case rest =>
    clear HC5
    try clear c1
    try clear c2
    try clear p2
    try clear c3
    try clear c4
    try clear c9
    try clear c10
    try clear c10b0
    try clear c11
    try clear c14
    try clear c14b0
    try clear c15
    try clear c18
    try clear c18b0
    try clear c19
    try clear c23
    try clear c23b0
    try clear c24
    try clear c28
    try clear c28b0
    try clear c29
    try clear c33
    try clear c37
    try clear c38
    try clear hcz12_0
    try clear hcz12_1
    try clear hcz12_2
    try clear hcz16_0
    try clear hcz16_1
    try clear hcz16_2
    try clear hcz20_0
    try clear hcz20_1
    try clear hcz20_2
    try clear hcz25_0
    try clear hcz25_1
    try clear hcz25_2
    try clear hcz27_0
    try clear hcz27_1
    try clear hcz27_2
    try clear hcz30_0
    try clear hcz30_1
    try clear hcz30_2
    try clear hcz32_0
    try clear hcz32_1
    try clear hcz32_2
    try clear hcz34_0
    try clear hcz34_1
    try clear hcz34_2
    try clear hcz36_0
    try clear hcz36_1
    try clear hcz36_2
    try clear hcz38_0
    try clear hcz38_1
    try clear hcz38_2
    try clear hfz12_0
    try clear hfz12_1
    try clear hfz12_2
    try clear hfz16_0
    try clear hfz16_1
    try clear hfz16_2
    try clear hfz20_0
    try clear hfz20_1
    try clear hfz20_2
    try clear hfz25_0
    try clear hfz25_1
    try clear hfz25_2
    try clear hfz27_0
    try clear hfz27_1
    try clear hfz27_2
    try clear hfz30_0
    try clear hfz30_1
    try clear hfz30_2
    try clear hfz32_0
    try clear hfz32_1
    try clear hfz32_2
    try clear hfz34_0
    try clear hfz34_1
    try clear hfz34_2
    try clear hfz36_0
    try clear hfz36_1
    try clear hfz36_2
    try clear hfz38_0
    try clear hfz38_1
    try clear hfz38_2
    obtain ⟨kq, x42_4, rfl, HA, HJ4, BK228, BK229, HB⟩ := hcut
    cases kq with
    | zero => exact absurd HA.out (by simp [symbolonref02_Conv.j0])
    | succ kj4 =>
      have H := HA.out
      clear HA
      simp only [symbolonref02_Conv.j0] at H
      by_cases c40 : x42_4 = true
      · subst c40
        have H1 : (some (0, 0, 0, false)) = some (r1, r2, r3, r4) := by rw [if_pos rfl] at H; exact H
        clear H
        have H := H1
        clear H1
        simp only [Option.some.injEq, Prod.mk.injEq] at H
        obtain ⟨rfl, rfl, rfl, rfl⟩ := H
        have hnb41 := NB229_228.out
        have hnc41 := NB228_229.out
        have hcz42_0 : wc.cell? ⟨gb229, 0, none⟩ = some (.int .i64 0) := (blk_cell BK229.out 0).trans rfl
        have hcz42_1 : wc.cell? ⟨gb229, 1, none⟩ = some (.int .i64 0) := (blk_cell BK229.out 1).trans rfl
        have hcz42_2 : wc.cell? ⟨gb229, 2, none⟩ = some (.int .i64 0) := (blk_cell BK229.out 2).trans rfl
        have hfz42_0 := blk_frozen BK229.out 0
        have hfz42_1 := blk_frozen BK229.out 1
        have hfz42_2 := blk_frozen BK229.out 2
        go_wp2
        refine bodyPost_ret (results_ct rfl _ _ gb229 23 #[.int .i64 0, .int .i64 0, .int .i64 0] (0, 0) _ rfl (by (with_reducible repeat (first | refine blk_drewN ?_ _ | refine blk_drew ?_ | refine blk_alloc ?_ _)); refine blk_put (cs := #[.int .i64 0, .int .i64 0, .int .i64 0]) ?_ 2 _ rfl; (with_reducible repeat (first | refine blk_drewN ?_ _ | refine blk_drew ?_ | refine blk_alloc ?_ _)); refine blk_put (cs := #[.int .i64 0, .int .i64 0, .int .i64 0]) ?_ 1 _ rfl; (with_reducible repeat (first | refine blk_drewN ?_ _ | refine blk_drew ?_ | refine blk_alloc ?_ _)); refine blk_put (cs := #[.int .i64 0, .int .i64 0, .int .i64 0]) ?_ 0 _ rfl; (with_reducible repeat (first | refine blk_drewN ?_ _ | refine blk_drew ?_ | refine blk_alloc ?_ _)); exact BK229.out) Try.underlying23 rfl (by kernel_rfl)) rfl ?_
        exact ⟨by first | rfl | (simp [errW_none, errW_some] <;> rfl) | (simp [*, errW_none, errW_some] <;> rfl), by repeat (first | (with_reducible first | exact HB.out | apply below_alloc | apply pw_below_drewN | apply below_drew1 | refine below_set ?_ GE228.out | refine below_set ?_ GE229.out) | exact HB.out)⟩
      · replace c40 := Bool.eq_false_iff.mpr c40
        subst c40
        have H1 : (if a3 = 0 then (none) else ((symbolonref02_Right.f a1 (wrap64 ((wrap64 (Int.tdiv (wrap64 (a0_1 - a2)) a3)) + 1)) (wrap64 ((wrap64 (Int.tdiv (wrap64 (a0_2 - a2)) a3)) + 1))).bind fun t232 => (if t232 = true then (some (a1, wrap64 ((wrap64 (Int.tdiv (wrap64 (a0_1 - a2)) a3)) + 1), wrap64 ((wrap64 (Int.tdiv (wrap64 (a0_2 - a2)) a3)) + 1), true)) else (some (0, 0, 0, false))))) = some (r1, r2, r3, r4) := by rw [if_neg (show ¬ (false = true) by decide)] at H; exact H
        clear H
        have H := H1
        clear H1
        by_cases c43 : a3 = 0
        · rw [if_pos c43] at H
          exact absurd H (by simp)
        · rw [if_neg c43] at H
          have c43b0 : (a3 == 0) = false := beq_eq_false_iff_ne.mpr c43
          have c43b1 : (a3 != 0) = true := bne_iff_ne.mpr c43
          replace H := Option.bind_eq_some_iff.mp H
          obtain ⟨t232, A440, H⟩ := H
          replace H : (if t232 = true then (some (a1, wrap64 ((wrap64 (Int.tdiv (wrap64 (a0_1 - a2)) a3)) + 1), wrap64 ((wrap64 (Int.tdiv (wrap64 (a0_2 - a2)) a3)) + 1), true)) else (some (0, 0, 0, false))) = some (r1, r2, r3, r4) := H
          have A44 := Aside0.mk A440
          clear A440
          by_cases c45 : t232 = true
          · subst c45
            have H1 : (some (a1, wrap64 ((wrap64 (Int.tdiv (wrap64 (a0_1 - a2)) a3)) + 1), wrap64 ((wrap64 (Int.tdiv (wrap64 (a0_2 - a2)) a3)) + 1), true)) = some (r1, r2, r3, r4) := by rw [if_pos rfl] at H; exact H
            clear H
            have H := H1
            clear H1
            simp only [Option.some.injEq, Prod.mk.injEq] at H
            obtain ⟨rfl, rfl, rfl, rfl⟩ := H
            try go_wp2
            have n0_ := Aside0.mk (blk_drew BK228.out)
            have n1_ := Aside0.mk (blk_drew BK229.out)
            have n2_ := Aside0.mk (below_drew1 HB.out)
            clear BK228
            clear BK229
            clear HB
            have BK228 := n0_
            have BK229 := n1_
            have HB := n2_
            clear n0_ n1_ n2_
            refine start_ (n := 18) (S := fun w' => w'.cell? ⟨gb228, 0, none⟩ = some (.int .i64 a0_0) ∧ w'.cell? ⟨gb228, 1, none⟩ = some (.int .i64 a0_1) ∧ w'.cell? ⟨gb228, 2, none⟩ = some (.int .i64 a0_2)) (ds := []) #[false, false, false, false, false, false, false, false, false, false, false, false, false, false, false, false, false, false] (by kernel_rfl) rfl rfl ⟨(blk_cell BK228.out 0).trans rfl, (blk_cell BK228.out 1).trans rfl, (blk_cell BK228.out 2).trans rfl⟩ (fun hHeld => ?_); refine with_tabW symbolonref02_Conv.tab3 symbolonref02_Conv.bits3 (fun HT_ HW_ => ?_)
            generalize wc.drew = w46 at BK228 BK229 HB hHeld ⊢
            refine pure_ (i := 0) (N := some 44) (v := ?_) (a' := ?_) #[true, false, false, false, false, false, false, false, false, false, false, false, false, false, false, false, false, false] rfl rfl (any_of HT_.out (by kernel_rfl)) (fun _ _ _ h => h) (Or.inl ⟨by rfl, ?_⟩) ?_ ?_
            rotate_left
            · intro w'
              go_simp
              with_reducible rfl
            rotate_left
            · simp only [Act.put, List.setIfInBounds_toArray, List.set_cons_zero, List.set_cons_succ, i64_w, i32_w]
              rfl
            refine pure_ (i := 1) (N := some 45) (v := ?_) (a' := ?_) #[true, true, false, false, false, false, false, false, false, false, false, false, false, false, false, false, false, false] rfl rfl (any_of HT_.out (by kernel_rfl)) (fun _ _ _ h => h) (Or.inl ⟨by rfl, ?_⟩) ?_ ?_
            rotate_left
            · intro w'
              go_simp
              with_reducible rfl
            rotate_left
            · simp only [Act.put, List.setIfInBounds_toArray, List.set_cons_zero, List.set_cons_succ, i64_w, i32_w]
              rfl
            refine pure_ (i := 3) (N := some 47) (v := ?_) (a' := ?_) #[true, true, false, true, false, false, false, false, false, false, false, false, false, false, false, false, false, false] rfl rfl (any_of HT_.out (by kernel_rfl)) (fun _ _ _ h => h) (Or.inl ⟨by rfl, ?_⟩) ?_ ?_
            rotate_left
            · intro w'
              go_simp
              with_reducible rfl
            rotate_left
            · simp only [Act.put, List.setIfInBounds_toArray, List.set_cons_zero, List.set_cons_succ, i64_w, i32_w]
              rfl
            refine pure_ (i := 5) (N := some 49) (v := ?_) (a' := ?_) #[true, true, false, true, false, true, false, false, false, false, false, false, false, false, false, false, false, false] rfl rfl (any_of HT_.out (by kernel_rfl)) (fun _ _ _ h => h) (Or.inl ⟨by rfl, ?_⟩) ?_ ?_
            rotate_left
            · intro w'
              go_simp
              with_reducible rfl
            rotate_left
            · simp only [Act.put, List.setIfInBounds_toArray, List.set_cons_zero, List.set_cons_succ, i64_w, i32_w]
              rfl
            refine pure_ (i := 8) (N := some 52) (v := ?_) (a' := ?_) #[true, true, false, true, false, true, false, false, true, false, false, false, false, false, false, false, false, false] rfl rfl (any_of HT_.out (by kernel_rfl)) (fun _ _ _ h => h) (Or.inl ⟨by rfl, ?_⟩) ?_ ?_
            rotate_left
            · intro w'
              go_simp
              with_reducible rfl
            rotate_left
            · simp only [Act.put, List.setIfInBounds_toArray, List.set_cons_zero, List.set_cons_succ, i64_w, i32_w]
              rfl
            refine pure_ (i := 10) (N := some 54) (v := ?_) (a' := ?_) #[true, true, false, true, false, true, false, false, true, false, true, false, false, false, false, false, false, false] rfl rfl (any_of HT_.out (by kernel_rfl)) (fun _ _ _ h => h) (Or.inl ⟨by rfl, ?_⟩) ?_ ?_
            rotate_left
            · intro w'
              go_simp
              with_reducible rfl
            rotate_left
            · simp only [Act.put, List.setIfInBounds_toArray, List.set_cons_zero, List.set_cons_succ, i64_w, i32_w]
              rfl
            refine pure_ (i := 12) (N := some 56) (v := ?_) (a' := ?_) #[true, true, false, true, false, true, false, false, true, false, true, false, true, false, false, false, false, false] rfl rfl (any_of HT_.out (by kernel_rfl)) (fun _ _ _ h => h) (Or.inl ⟨by rfl, ?_⟩) ?_ ?_
            rotate_left
            · intro w'
              go_simp
              with_reducible rfl
            rotate_left
            · simp only [Act.put, List.setIfInBounds_toArray, List.set_cons_zero, List.set_cons_succ, i64_w, i32_w]
              rfl
            refine take_ (i := 2) (N := some 46) (v := ?_) (a' := ?_) #[true, true, true, true, false, true, false, false, true, false, true, false, true, false, false, false, false, false] rfl rfl (take_ofW HT_.out HW_.out (by kernel_rfl)) (fun _ _ _ h => h) (Or.inl ⟨by rfl, ?_⟩) hHeld ?_ ?_
            rotate_left
            · rintro w' ⟨s0, s1, s2⟩
              go_simp
              with_reducible rfl
            rotate_left
            · simp only [Act.put, List.setIfInBounds_toArray, List.set_cons_zero, List.set_cons_succ, i64_w, i32_w]
              rfl
            refine pure_ (i := 4) (N := some 48) (v := ?_) (a' := ?_) #[true, true, true, true, true, true, false, false, true, false, true, false, true, false, false, false, false, false] rfl rfl (any_of HT_.out (by kernel_rfl)) (fun _ _ _ h => h) (Or.inl ⟨by rfl, ?_⟩) ?_ ?_
            rotate_left
            · intro w'
              go_simp
              with_reducible rfl
            rotate_left
            · simp only [Act.put, List.setIfInBounds_toArray, List.set_cons_zero, List.set_cons_succ, i64_w, i32_w]
              rfl
            refine pure_ (i := 6) (N := some 50) (v := ?_) (a' := ?_) #[true, true, true, true, true, true, true, false, true, false, true, false, true, false, false, false, false, false] rfl rfl (any_of HT_.out (by kernel_rfl)) (fun _ _ _ h => h) (Or.inl ⟨by rfl, ?_⟩) ?_ ?_
            rotate_left
            · intro w'
              go_simp
              with_reducible rfl
            rotate_left
            · simp only [Act.put, List.setIfInBounds_toArray, List.set_cons_zero, List.set_cons_succ, i64_w, i32_w]
              rfl
            refine pure_ (i := 7) (N := some 51) (v := ?_) (a' := ?_) #[true, true, true, true, true, true, true, true, true, false, true, false, true, false, false, false, false, false] rfl rfl (any_of HT_.out (by kernel_rfl)) (fun _ _ _ h => h) (Or.inl ⟨by rfl, ?_⟩) ?_ ?_
            rotate_left
            · intro w'
              go_simp
              with_reducible rfl
            rotate_left
            · simp only [Act.put, List.setIfInBounds_toArray, List.set_cons_zero, List.set_cons_succ, i64_w, i32_w]
              rfl
            refine take_ (i := 9) (N := some 53) (v := ?_) (a' := ?_) #[true, true, true, true, true, true, true, true, true, true, true, false, true, false, false, false, false, false] rfl rfl (take_ofW HT_.out HW_.out (by kernel_rfl)) (fun _ _ _ h => h) (Or.inl ⟨by rfl, ?_⟩) hHeld ?_ ?_
            rotate_left
            · rintro w' ⟨s0, s1, s2⟩
              go_simp
              with_reducible rfl
            rotate_left
            · simp only [Act.put, List.setIfInBounds_toArray, List.set_cons_zero, List.set_cons_succ, i64_w, i32_w]
              rfl
            refine pure_ (i := 11) (N := some 55) (v := ?_) (a' := ?_) #[true, true, true, true, true, true, true, true, true, true, true, true, true, false, false, false, false, false] rfl rfl (any_of HT_.out (by kernel_rfl)) (fun _ _ _ h => h) (Or.inl ⟨by rfl, ?_⟩) ?_ ?_
            rotate_left
            · intro w'
              go_simp
              with_reducible rfl
            rotate_left
            · simp only [Act.put, List.setIfInBounds_toArray, List.set_cons_zero, List.set_cons_succ, i64_w, i32_w]
              rfl
            refine pure_ (i := 13) (N := some 57) (v := ?_) (a' := ?_) #[true, true, true, true, true, true, true, true, true, true, true, true, true, true, false, false, false, false] rfl rfl (any_of HT_.out (by kernel_rfl)) (fun _ _ _ h => h) (Or.inl ⟨by rfl, ?_⟩) ?_ ?_
            rotate_left
            · intro w'
              go_simp
              with_reducible rfl
            rotate_left
            · simp only [Act.put, List.setIfInBounds_toArray, List.set_cons_zero, List.set_cons_succ, i64_w, i32_w]
              rfl
            refine pure_ (i := 14) (N := some 58) (v := ?_) (a' := ?_) #[true, true, true, true, true, true, true, true, true, true, true, true, true, true, true, false, false, false] rfl rfl (any_of HT_.out (by kernel_rfl)) (fun _ _ _ h => h) (Or.inl ⟨by rfl, ?_⟩) ?_ ?_
            rotate_left
            · intro w'
              go_simp
              with_reducible rfl
            rotate_left
            · simp only [Act.put, List.setIfInBounds_toArray, List.set_cons_zero, List.set_cons_succ, i64_w, i32_w]
              rfl
            refine pure_ (i := 15) (N := some 59) (v := ?_) (a' := ?_) #[true, true, true, true, true, true, true, true, true, true, true, true, true, true, true, true, false, false] rfl rfl (any_of HT_.out (by kernel_rfl)) (fun _ _ _ h => h) (Or.inl ⟨by rfl, ?_⟩) ?_ ?_
            rotate_left
            · intro w'
              go_simp
              with_reducible rfl
            rotate_left
            · simp only [Act.put, List.setIfInBounds_toArray, List.set_cons_zero, List.set_cons_succ, i64_w, i32_w]
              rfl
            refine one_ (i := 16) (N := some 10) #[true, true, true, true, true, true, true, true, true, true, true, true, true, true, true, true, true, false] rfl rfl (one_of HT_.out (by kernel_rfl)) (by decide) (fun K hK => ?_)
            refine box_step ?hg (N := 10) ?hd (cs := #[.int .i64 0, .int .i64 0, .int .i64 0]) (t := 23) ?hr ?_; (case hd => rfl); (case hg => rfl); (case hr => first | (go_simp; done) | (go_simp; rfl))
            intro gb231 hg w47 hbox hb
            have n0_ := Aside0.mk (blk_below (g := gb228) (o := .cells #[.int .i64 a0_0, .int .i64 a0_1, .int .i64 a0_2] 23 (0, 0)) (by (with_reducible repeat (first | refine blk_drewN ?_ _ | refine blk_drew ?_ | refine blk_alloc ?_ _)); exact BK228.out) hb)
            have n1_ := Aside0.mk (blk_below (g := gb229) (o := .cells #[.int .i64 0, .int .i64 0, .int .i64 0] 23 (0, 0)) (by (with_reducible repeat (first | refine blk_drewN ?_ _ | refine blk_drew ?_ | refine blk_alloc ?_ _)); exact BK229.out) hb)
            have n2_ := Aside0.mk (below_step (by repeat (first | (with_reducible first | exact HB.out | apply below_alloc | apply pw_below_drewN | apply below_drew1 | refine below_set ?_ GE228.out | refine below_set ?_ GE229.out) | exact HB.out)) hb)
            have n3_ := Aside0.mk (hbox)
            have n4_ := Aside0.mk ((by rw [hg]; exact (below_size (by repeat (first | (with_reducible first | exact HB.out | apply below_alloc | apply pw_below_drewN | apply below_drew1 | refine below_set ?_ GE228.out | refine below_set ?_ GE229.out) | exact HB.out))) : w.heap.size ≤ gb231))
            have n5_ := Aside0.mk ((by rw [hg]; exact (below_size (by repeat (first | (with_reducible first | exact HB.out | apply below_alloc | apply pw_below_drewN | apply below_drew1 | refine below_set ?_ GE228.out | refine below_set ?_ GE229.out) | exact HB.out))) : w.heap.size ≤ gb231))
            have n6_ := Aside0.mk ((by rw [hg]; exact Nat.ne_of_lt (blk_lt (g := gb228) (o := .cells #[.int .i64 a0_0, .int .i64 a0_1, .int .i64 a0_2] 23 (0, 0)) (by (with_reducible repeat (first | refine blk_drewN ?_ _ | refine blk_drew ?_ | refine blk_alloc ?_ _)); exact BK228.out)) : gb228 ≠ gb231))
            have n7_ := Aside0.mk ((by rw [hg]; exact Nat.ne_of_gt (blk_lt (g := gb228) (o := .cells #[.int .i64 a0_0, .int .i64 a0_1, .int .i64 a0_2] 23 (0, 0)) (by (with_reducible repeat (first | refine blk_drewN ?_ _ | refine blk_drew ?_ | refine blk_alloc ?_ _)); exact BK228.out)) : gb231 ≠ gb228))
            have n8_ := Aside0.mk ((by rw [hg]; exact Nat.ne_of_lt (blk_lt (g := gb229) (o := .cells #[.int .i64 0, .int .i64 0, .int .i64 0] 23 (0, 0)) (by (with_reducible repeat (first | refine blk_drewN ?_ _ | refine blk_drew ?_ | refine blk_alloc ?_ _)); exact BK229.out)) : gb229 ≠ gb231))
            have n9_ := Aside0.mk ((by rw [hg]; exact Nat.ne_of_gt (blk_lt (g := gb229) (o := .cells #[.int .i64 0, .int .i64 0, .int .i64 0] 23 (0, 0)) (by (with_reducible repeat (first | refine blk_drewN ?_ _ | refine blk_drew ?_ | refine blk_alloc ?_ _)); exact BK229.out)) : gb231 ≠ gb229))
            clear BK228
            clear BK229
            clear HB
            have BK228 := n0_
            have BK229 := n1_
            have HB := n2_
            have BK231 := n3_
            have GW231 := n4_
            have GE231 := n5_
            have NB228_231 := n6_
            have NB231_228 := n7_
            have NB229_231 := n8_
            have NB231_229 := n9_
            clear n0_ n1_ n2_ n3_ n4_ n5_ n6_ n7_ n8_ n9_
            clear hb hbox hg
            refine hK.out _ _ ⟨(blk_cell BK228.out 0).trans rfl, (blk_cell BK228.out 1).trans rfl, (blk_cell BK228.out 2).trans rfl⟩ (fun hHeld => ?_)
            clear hK K
            refine norm_ (a' := ?_) ?_ ?_
            rotate_left
            · show Act.put _ (some 10) _ = _
              simp only [Act.put, List.setIfInBounds_toArray, List.set_cons_zero, List.set_cons_succ, i64_w, i32_w]
              rfl
            refine one_ (i := 17) (N := none) #[true, true, true, true, true, true, true, true, true, true, true, true, true, true, true, true, true, true] rfl rfl (one_of HT_.out (by kernel_rfl)) (by decide) (fun K hK => ?_)
            have hs48 : w47.cell? ⟨gb231, 0, none⟩ = some (.int .i64 0) := (blk_cell BK231.out 0).trans rfl
            have hfs48 := blk_frozen BK231.out 0
            have hns48_0 := NB228_231.out
            have hns48_1 := NB229_231.out
            have hms48_0 := NB231_228.out
            have hms48_1 := NB231_229.out
            have hs49 : w47.cell? ⟨gb231, 1, none⟩ = some (.int .i64 0) := (blk_cell BK231.out 1).trans rfl
            have hfs49 := blk_frozen BK231.out 1
            have hns49_0 := NB228_231.out
            have hns49_1 := NB229_231.out
            have hms49_0 := NB231_228.out
            have hms49_1 := NB231_229.out
            have hs50 : w47.cell? ⟨gb231, 2, none⟩ = some (.int .i64 0) := (blk_cell BK231.out 2).trans rfl
            have hfs50 := blk_frozen BK231.out 2
            have hns50_0 := NB228_231.out
            have hns50_1 := NB229_231.out
            have hms50_0 := NB231_228.out
            have hms50_1 := NB231_229.out
            refine skip_ (w1 := ?_) (by rfl) rfl ?_ ?_
            rotate_left
            · go_simp
              rfl
            refine hK.out _ _ ⟨((cell_far (p := ⟨gb231, _, none⟩) NB228_231.out _).trans (((cell_far (p := ⟨gb231, _, none⟩) NB228_231.out _).trans (((cell_far (p := ⟨gb231, _, none⟩) NB228_231.out _).trans (hHeld.1)))))), ((cell_far (p := ⟨gb231, _, none⟩) NB228_231.out _).trans (((cell_far (p := ⟨gb231, _, none⟩) NB228_231.out _).trans (((cell_far (p := ⟨gb231, _, none⟩) NB228_231.out _).trans (hHeld.2.1)))))), ((cell_far (p := ⟨gb231, _, none⟩) NB228_231.out _).trans (((cell_far (p := ⟨gb231, _, none⟩) NB228_231.out _).trans (((cell_far (p := ⟨gb231, _, none⟩) NB228_231.out _).trans (hHeld.2.2))))))⟩ (fun hHeld => ?_)
            clear hK K
            refine done_ (done_of HT_.out (by kernel_rfl)) ?_
            have hnb51 := NB231_228.out
            have hnc51 := NB228_231.out
            have hnb52 := NB231_229.out
            have hnc52 := NB229_231.out
            have hcz53_0 : w47.cell? ⟨gb231, 0, none⟩ = some (.int .i64 0) := (blk_cell BK231.out 0).trans rfl
            have hcz53_1 : w47.cell? ⟨gb231, 1, none⟩ = some (.int .i64 0) := (blk_cell BK231.out 1).trans rfl
            have hcz53_2 : w47.cell? ⟨gb231, 2, none⟩ = some (.int .i64 0) := (blk_cell BK231.out 2).trans rfl
            have hfz53_0 := blk_frozen BK231.out 0
            have hfz53_1 := blk_frozen BK231.out 1
            have hfz53_2 := blk_frozen BK231.out 2
            try go_wp2_with (first | ((with_reducible refine gate_callee (f := 40) rfl ?_); refine goesL_ (some 61) rfl rfl Try.func40 (by kernel_rfl) rfl #[.agg #[.int .i64 a1, .int .i64 (wrap64 ((wrap64 (Int.tdiv (wrap64 (a0_1 - a2)) a3)) + 1)), .int .i64 (wrap64 ((wrap64 (Int.tdiv (wrap64 (a0_2 - a2)) a3)) + 1))]] rfl (by (try simp only [List.map_toArray, List.map_cons, List.map_nil]); first | done | rfl | (simp only [List.length_drop, List.length_take]; rfl)) ?_; (with_reducible refine (symbolonref02_Right.calls a1 (wrap64 ((wrap64 (Int.tdiv (wrap64 (a0_1 - a2)) a3)) + 1)) (wrap64 ((wrap64 (Int.tdiv (wrap64 (a0_2 - a2)) a3)) + 1)) true _ A44.out).mono ?_); rintro e w54 ⟨rfl, hb⟩; refine ⟨_, rfl, ?_⟩; have n0_ := Aside0.mk (blk_below (g := gb228) (o := .cells #[.int .i64 a0_0, .int .i64 a0_1, .int .i64 a0_2] 23 (0, 0)) (by (with_reducible repeat (first | refine blk_drewN ?_ _ | refine blk_drew ?_ | refine blk_alloc ?_ _)); refine blk_far ?_ NB228_231.out _; (with_reducible repeat (first | refine blk_drewN ?_ _ | refine blk_drew ?_ | refine blk_alloc ?_ _)); refine blk_far ?_ NB228_231.out _; (with_reducible repeat (first | refine blk_drewN ?_ _ | refine blk_drew ?_ | refine blk_alloc ?_ _)); refine blk_far ?_ NB228_231.out _; (with_reducible repeat (first | refine blk_drewN ?_ _ | refine blk_drew ?_ | refine blk_alloc ?_ _)); exact BK228.out) hb); have n1_ := Aside0.mk (blk_below (g := gb229) (o := .cells #[.int .i64 0, .int .i64 0, .int .i64 0] 23 (0, 0)) (by (with_reducible repeat (first | refine blk_drewN ?_ _ | refine blk_drew ?_ | refine blk_alloc ?_ _)); refine blk_far ?_ NB229_231.out _; (with_reducible repeat (first | refine blk_drewN ?_ _ | refine blk_drew ?_ | refine blk_alloc ?_ _)); refine blk_far ?_ NB229_231.out _; (with_reducible repeat (first | refine blk_drewN ?_ _ | refine blk_drew ?_ | refine blk_alloc ?_ _)); refine blk_far ?_ NB229_231.out _; (with_reducible repeat (first | refine blk_drewN ?_ _ | refine blk_drew ?_ | refine blk_alloc ?_ _)); exact BK229.out) hb); have n2_ := Aside0.mk (blk_below (g := gb231) (o := .cells #[.int .i64 a1, .int .i64 (wrap64 ((wrap64 (Int.tdiv (wrap64 (a0_1 - a2)) a3)) + 1)), .int .i64 (wrap64 ((wrap64 (Int.tdiv (wrap64 (a0_2 - a2)) a3)) + 1))] 23 (0, 0)) (by (with_reducible repeat (first | refine blk_drewN ?_ _ | refine blk_drew ?_ | refine blk_alloc ?_ _)); refine blk_put (cs := #[.int .i64 a1, .int .i64 (wrap64 ((wrap64 (Int.tdiv (wrap64 (a0_1 - a2)) a3)) + 1)), .int .i64 0]) ?_ 2 _ rfl; (with_reducible repeat (first | refine blk_drewN ?_ _ | refine blk_drew ?_ | refine blk_alloc ?_ _)); refine blk_put (cs := #[.int .i64 a1, .int .i64 0, .int .i64 0]) ?_ 1 _ rfl; (with_reducible repeat (first | refine blk_drewN ?_ _ | refine blk_drew ?_ | refine blk_alloc ?_ _)); refine blk_put (cs := #[.int .i64 0, .int .i64 0, .int .i64 0]) ?_ 0 _ rfl; (with_reducible repeat (first | refine blk_drewN ?_ _ | refine blk_drew ?_ | refine blk_alloc ?_ _)); exact BK231.out) hb); have n3_ := Aside0.mk (below_step (by repeat (first | (with_reducible first | exact HB.out | apply below_alloc | apply pw_below_drewN | apply below_drew1 | refine below_set ?_ GE228.out | refine below_set ?_ GE229.out | refine below_set ?_ GE231.out) | exact HB.out)) hb); clear BK228; clear BK229; clear BK231; clear HB; have BK228 := n0_; have BK229 := n1_; have BK231 := n2_; have HB := n3_; clear n0_ n1_ n2_ n3_; (try clear hb); (try clear hb2); (try clear hk); (try clear hi); have hcz55_0 : w54.cell? ⟨gb231, 0, none⟩ = some (.int .i64 a1) := (blk_cell BK231.out 0).trans rfl; have hcz55_1 : w54.cell? ⟨gb231, 1, none⟩ = some (.int .i64 (wrap64 ((wrap64 (Int.tdiv (wrap64 (a0_1 - a2)) a3)) + 1))) := (blk_cell BK231.out 1).trans rfl; have hcz55_2 : w54.cell? ⟨gb231, 2, none⟩ = some (.int .i64 (wrap64 ((wrap64 (Int.tdiv (wrap64 (a0_2 - a2)) a3)) + 1))) := (blk_cell BK231.out 2).trans rfl; have hfz55_0 := blk_frozen BK231.out 0; have hfz55_1 := blk_frozen BK231.out 1; have hfz55_2 := blk_frozen BK231.out 2; have hnb56 := NB229_228.out; have hnc56 := NB228_229.out; have hcz57_0 : w54.cell? ⟨gb229, 0, none⟩ = some (.int .i64 0) := (blk_cell BK229.out 0).trans rfl; have hcz57_1 : w54.cell? ⟨gb229, 1, none⟩ = some (.int .i64 0) := (blk_cell BK229.out 1).trans rfl; have hcz57_2 : w54.cell? ⟨gb229, 2, none⟩ = some (.int .i64 0) := (blk_cell BK229.out 2).trans rfl; have hfz57_0 := blk_frozen BK229.out 0; have hfz57_1 := blk_frozen BK229.out 1; have hfz57_2 := blk_frozen BK229.out 2))
            refine bodyPost_ret (results_ct rfl _ _ gb229 23 #[.int .i64 a1, .int .i64 (wrap64 ((wrap64 (Int.tdiv (wrap64 (a0_1 - a2)) a3)) + 1)), .int .i64 (wrap64 ((wrap64 (Int.tdiv (wrap64 (a0_2 - a2)) a3)) + 1))] (0, 0) _ rfl (by (with_reducible repeat (first | refine blk_drewN ?_ _ | refine blk_drew ?_ | refine blk_alloc ?_ _)); refine blk_put (cs := #[.int .i64 a1, .int .i64 (wrap64 ((wrap64 (Int.tdiv (wrap64 (a0_1 - a2)) a3)) + 1)), .int .i64 0]) ?_ 2 _ rfl; (with_reducible repeat (first | refine blk_drewN ?_ _ | refine blk_drew ?_ | refine blk_alloc ?_ _)); refine blk_put (cs := #[.int .i64 a1, .int .i64 0, .int .i64 0]) ?_ 1 _ rfl; (with_reducible repeat (first | refine blk_drewN ?_ _ | refine blk_drew ?_ | refine blk_alloc ?_ _)); refine blk_put (cs := #[.int .i64 0, .int .i64 0, .int .i64 0]) ?_ 0 _ rfl; (with_reducible repeat (first | refine blk_drewN ?_ _ | refine blk_drew ?_ | refine blk_alloc ?_ _)); exact BK229.out) Try.underlying23 rfl (by kernel_rfl)) rfl ?_
            exact ⟨by first | rfl | (simp [errW_none, errW_some] <;> rfl) | (simp [*, errW_none, errW_some] <;> rfl), by repeat (first | (with_reducible first | exact HB.out | apply below_alloc | apply pw_below_drewN | apply below_drew1 | refine below_set ?_ GE228.out | refine below_set ?_ GE229.out | refine below_set ?_ GE231.out) | exact HB.out)⟩
          · replace c45 := Bool.eq_false_iff.mpr c45
            subst c45
            have H1 : (some (0, 0, 0, false)) = some (r1, r2, r3, r4) := by rw [if_neg (show ¬ (false = true) by decide)] at H; exact H
            clear H
            have H := H1
            clear H1
            simp only [Option.some.injEq, Prod.mk.injEq] at H
            obtain ⟨rfl, rfl, rfl, rfl⟩ := H
            try go_wp2
            have n0_ := Aside0.mk (blk_drew BK228.out)
            have n1_ := Aside0.mk (blk_drew BK229.out)
            have n2_ := Aside0.mk (below_drew1 HB.out)
            clear BK228
            clear BK229
            clear HB
            have BK228 := n0_
            have BK229 := n1_
            have HB := n2_
            clear n0_ n1_ n2_
            refine start_ (n := 18) (S := fun w' => w'.cell? ⟨gb228, 0, none⟩ = some (.int .i64 a0_0) ∧ w'.cell? ⟨gb228, 1, none⟩ = some (.int .i64 a0_1) ∧ w'.cell? ⟨gb228, 2, none⟩ = some (.int .i64 a0_2)) (ds := []) #[false, false, false, false, false, false, false, false, false, false, false, false, false, false, false, false, false, false] (by kernel_rfl) rfl rfl ⟨(blk_cell BK228.out 0).trans rfl, (blk_cell BK228.out 1).trans rfl, (blk_cell BK228.out 2).trans rfl⟩ (fun hHeld => ?_); refine with_tabW symbolonref02_Conv.tab3 symbolonref02_Conv.bits3 (fun HT_ HW_ => ?_)
            generalize wc.drew = w58 at BK228 BK229 HB hHeld ⊢
            refine pure_ (i := 0) (N := some 44) (v := ?_) (a' := ?_) #[true, false, false, false, false, false, false, false, false, false, false, false, false, false, false, false, false, false] rfl rfl (any_of HT_.out (by kernel_rfl)) (fun _ _ _ h => h) (Or.inl ⟨by rfl, ?_⟩) ?_ ?_
            rotate_left
            · intro w'
              go_simp
              with_reducible rfl
            rotate_left
            · simp only [Act.put, List.setIfInBounds_toArray, List.set_cons_zero, List.set_cons_succ, i64_w, i32_w]
              rfl
            refine pure_ (i := 1) (N := some 45) (v := ?_) (a' := ?_) #[true, true, false, false, false, false, false, false, false, false, false, false, false, false, false, false, false, false] rfl rfl (any_of HT_.out (by kernel_rfl)) (fun _ _ _ h => h) (Or.inl ⟨by rfl, ?_⟩) ?_ ?_
            rotate_left
            · intro w'
              go_simp
              with_reducible rfl
            rotate_left
            · simp only [Act.put, List.setIfInBounds_toArray, List.set_cons_zero, List.set_cons_succ, i64_w, i32_w]
              rfl
            refine pure_ (i := 3) (N := some 47) (v := ?_) (a' := ?_) #[true, true, false, true, false, false, false, false, false, false, false, false, false, false, false, false, false, false] rfl rfl (any_of HT_.out (by kernel_rfl)) (fun _ _ _ h => h) (Or.inl ⟨by rfl, ?_⟩) ?_ ?_
            rotate_left
            · intro w'
              go_simp
              with_reducible rfl
            rotate_left
            · simp only [Act.put, List.setIfInBounds_toArray, List.set_cons_zero, List.set_cons_succ, i64_w, i32_w]
              rfl
            refine pure_ (i := 5) (N := some 49) (v := ?_) (a' := ?_) #[true, true, false, true, false, true, false, false, false, false, false, false, false, false, false, false, false, false] rfl rfl (any_of HT_.out (by kernel_rfl)) (fun _ _ _ h => h) (Or.inl ⟨by rfl, ?_⟩) ?_ ?_
            rotate_left
            · intro w'
              go_simp
              with_reducible rfl
            rotate_left
            · simp only [Act.put, List.setIfInBounds_toArray, List.set_cons_zero, List.set_cons_succ, i64_w, i32_w]
              rfl
            refine pure_ (i := 8) (N := some 52) (v := ?_) (a' := ?_) #[true, true, false, true, false, true, false, false, true, false, false, false, false, false, false, false, false, false] rfl rfl (any_of HT_.out (by kernel_rfl)) (fun _ _ _ h => h) (Or.inl ⟨by rfl, ?_⟩) ?_ ?_
            rotate_left
            · intro w'
              go_simp
              with_reducible rfl
            rotate_left
            · simp only [Act.put, List.setIfInBounds_toArray, List.set_cons_zero, List.set_cons_succ, i64_w, i32_w]
              rfl
            refine pure_ (i := 10) (N := some 54) (v := ?_) (a' := ?_) #[true, true, false, true, false, true, false, false, true, false, true, false, false, false, false, false, false, false] rfl rfl (any_of HT_.out (by kernel_rfl)) (fun _ _ _ h => h) (Or.inl ⟨by rfl, ?_⟩) ?_ ?_
            rotate_left
            · intro w'
              go_simp
              with_reducible rfl
            rotate_left
            · simp only [Act.put, List.setIfInBounds_toArray, List.set_cons_zero, List.set_cons_succ, i64_w, i32_w]
              rfl
            refine pure_ (i := 12) (N := some 56) (v := ?_) (a' := ?_) #[true, true, false, true, false, true, false, false, true, false, true, false, true, false, false, false, false, false] rfl rfl (any_of HT_.out (by kernel_rfl)) (fun _ _ _ h => h) (Or.inl ⟨by rfl, ?_⟩) ?_ ?_
            rotate_left
            · intro w'
              go_simp
              with_reducible rfl
            rotate_left
            · simp only [Act.put, List.setIfInBounds_toArray, List.set_cons_zero, List.set_cons_succ, i64_w, i32_w]
              rfl
            refine take_ (i := 2) (N := some 46) (v := ?_) (a' := ?_) #[true, true, true, true, false, true, false, false, true, false, true, false, true, false, false, false, false, false] rfl rfl (take_ofW HT_.out HW_.out (by kernel_rfl)) (fun _ _ _ h => h) (Or.inl ⟨by rfl, ?_⟩) hHeld ?_ ?_
            rotate_left
            · rintro w' ⟨s0, s1, s2⟩
              go_simp
              with_reducible rfl
            rotate_left
            · simp only [Act.put, List.setIfInBounds_toArray, List.set_cons_zero, List.set_cons_succ, i64_w, i32_w]
              rfl
            refine pure_ (i := 4) (N := some 48) (v := ?_) (a' := ?_) #[true, true, true, true, true, true, false, false, true, false, true, false, true, false, false, false, false, false] rfl rfl (any_of HT_.out (by kernel_rfl)) (fun _ _ _ h => h) (Or.inl ⟨by rfl, ?_⟩) ?_ ?_
            rotate_left
            · intro w'
              go_simp
              with_reducible rfl
            rotate_left
            · simp only [Act.put, List.setIfInBounds_toArray, List.set_cons_zero, List.set_cons_succ, i64_w, i32_w]
              rfl
            refine pure_ (i := 6) (N := some 50) (v := ?_) (a' := ?_) #[true, true, true, true, true, true, true, false, true, false, true, false, true, false, false, false, false, false] rfl rfl (any_of HT_.out (by kernel_rfl)) (fun _ _ _ h => h) (Or.inl ⟨by rfl, ?_⟩) ?_ ?_
            rotate_left
            · intro w'
              go_simp
              with_reducible rfl
            rotate_left
            · simp only [Act.put, List.setIfInBounds_toArray, List.set_cons_zero, List.set_cons_succ, i64_w, i32_w]
              rfl
            refine pure_ (i := 7) (N := some 51) (v := ?_) (a' := ?_) #[true, true, true, true, true, true, true, true, true, false, true, false, true, false, false, false, false, false] rfl rfl (any_of HT_.out (by kernel_rfl)) (fun _ _ _ h => h) (Or.inl ⟨by rfl, ?_⟩) ?_ ?_
            rotate_left
            · intro w'
              go_simp
              with_reducible rfl
            rotate_left
            · simp only [Act.put, List.setIfInBounds_toArray, List.set_cons_zero, List.set_cons_succ, i64_w, i32_w]
              rfl
            refine take_ (i := 9) (N := some 53) (v := ?_) (a' := ?_) #[true, true, true, true, true, true, true, true, true, true, true, false, true, false, false, false, false, false] rfl rfl (take_ofW HT_.out HW_.out (by kernel_rfl)) (fun _ _ _ h => h) (Or.inl ⟨by rfl, ?_⟩) hHeld ?_ ?_
            rotate_left
            · rintro w' ⟨s0, s1, s2⟩
              go_simp
              with_reducible rfl
            rotate_left
            · simp only [Act.put, List.setIfInBounds_toArray, List.set_cons_zero, List.set_cons_succ, i64_w, i32_w]
              rfl
            refine pure_ (i := 11) (N := some 55) (v := ?_) (a' := ?_) #[true, true, true, true, true, true, true, true, true, true, true, true, true, false, false, false, false, false] rfl rfl (any_of HT_.out (by kernel_rfl)) (fun _ _ _ h => h) (Or.inl ⟨by rfl, ?_⟩) ?_ ?_
            rotate_left
            · intro w'
              go_simp
              with_reducible rfl
            rotate_left
            · simp only [Act.put, List.setIfInBounds_toArray, List.set_cons_zero, List.set_cons_succ, i64_w, i32_w]
              rfl
            refine pure_ (i := 13) (N := some 57) (v := ?_) (a' := ?_) #[true, true, true, true, true, true, true, true, true, true, true, true, true, true, false, false, false, false] rfl rfl (any_of HT_.out (by kernel_rfl)) (fun _ _ _ h => h) (Or.inl ⟨by rfl, ?_⟩) ?_ ?_
            rotate_left
            · intro w'
              go_simp
              with_reducible rfl
            rotate_left
            · simp only [Act.put, List.setIfInBounds_toArray, List.set_cons_zero, List.set_cons_succ, i64_w, i32_w]
              rfl
            refine pure_ (i := 14) (N := some 58) (v := ?_) (a' := ?_) #[true, true, true, true, true, true, true, true, true, true, true, true, true, true, true, false, false, false] rfl rfl (any_of HT_.out (by kernel_rfl)) (fun _ _ _ h => h) (Or.inl ⟨by rfl, ?_⟩) ?_ ?_
            rotate_left
            · intro w'
              go_simp
              with_reducible rfl
            rotate_left
            · simp only [Act.put, List.setIfInBounds_toArray, List.set_cons_zero, List.set_cons_succ, i64_w, i32_w]
              rfl
            refine pure_ (i := 15) (N := some 59) (v := ?_) (a' := ?_) #[true, true, true, true, true, true, true, true, true, true, true, true, true, true, true, true, false, false] rfl rfl (any_of HT_.out (by kernel_rfl)) (fun _ _ _ h => h) (Or.inl ⟨by rfl, ?_⟩) ?_ ?_
            rotate_left
            · intro w'
              go_simp
              with_reducible rfl
            rotate_left
            · simp only [Act.put, List.setIfInBounds_toArray, List.set_cons_zero, List.set_cons_succ, i64_w, i32_w]
              rfl
            refine one_ (i := 16) (N := some 10) #[true, true, true, true, true, true, true, true, true, true, true, true, true, true, true, true, true, false] rfl rfl (one_of HT_.out (by kernel_rfl)) (by decide) (fun K hK => ?_)
            refine box_step ?hg (N := 10) ?hd (cs := #[.int .i64 0, .int .i64 0, .int .i64 0]) (t := 23) ?hr ?_; (case hd => rfl); (case hg => rfl); (case hr => first | (go_simp; done) | (go_simp; rfl))
            intro gb231 hg w59 hbox hb
            have n0_ := Aside0.mk (blk_below (g := gb228) (o := .cells #[.int .i64 a0_0, .int .i64 a0_1, .int .i64 a0_2] 23 (0, 0)) (by (with_reducible repeat (first | refine blk_drewN ?_ _ | refine blk_drew ?_ | refine blk_alloc ?_ _)); exact BK228.out) hb)
            have n1_ := Aside0.mk (blk_below (g := gb229) (o := .cells #[.int .i64 0, .int .i64 0, .int .i64 0] 23 (0, 0)) (by (with_reducible repeat (first | refine blk_drewN ?_ _ | refine blk_drew ?_ | refine blk_alloc ?_ _)); exact BK229.out) hb)
            have n2_ := Aside0.mk (below_step (by repeat (first | (with_reducible first | exact HB.out | apply below_alloc | apply pw_below_drewN | apply below_drew1 | refine below_set ?_ GE228.out | refine below_set ?_ GE229.out) | exact HB.out)) hb)
            have n3_ := Aside0.mk (hbox)
            have n4_ := Aside0.mk ((by rw [hg]; exact (below_size (by repeat (first | (with_reducible first | exact HB.out | apply below_alloc | apply pw_below_drewN | apply below_drew1 | refine below_set ?_ GE228.out | refine below_set ?_ GE229.out) | exact HB.out))) : w.heap.size ≤ gb231))
            have n5_ := Aside0.mk ((by rw [hg]; exact (below_size (by repeat (first | (with_reducible first | exact HB.out | apply below_alloc | apply pw_below_drewN | apply below_drew1 | refine below_set ?_ GE228.out | refine below_set ?_ GE229.out) | exact HB.out))) : w.heap.size ≤ gb231))
            have n6_ := Aside0.mk ((by rw [hg]; exact Nat.ne_of_lt (blk_lt (g := gb228) (o := .cells #[.int .i64 a0_0, .int .i64 a0_1, .int .i64 a0_2] 23 (0, 0)) (by (with_reducible repeat (first | refine blk_drewN ?_ _ | refine blk_drew ?_ | refine blk_alloc ?_ _)); exact BK228.out)) : gb228 ≠ gb231))
            have n7_ := Aside0.mk ((by rw [hg]; exact Nat.ne_of_gt (blk_lt (g := gb228) (o := .cells #[.int .i64 a0_0, .int .i64 a0_1, .int .i64 a0_2] 23 (0, 0)) (by (with_reducible repeat (first | refine blk_drewN ?_ _ | refine blk_drew ?_ | refine blk_alloc ?_ _)); exact BK228.out)) : gb231 ≠ gb228))
            have n8_ := Aside0.mk ((by rw [hg]; exact Nat.ne_of_lt (blk_lt (g := gb229) (o := .cells #[.int .i64 0, .int .i64 0, .int .i64 0] 23 (0, 0)) (by (with_reducible repeat (first | refine blk_drewN ?_ _ | refine blk_drew ?_ | refine blk_alloc ?_ _)); exact BK229.out)) : gb229 ≠ gb231))
            have n9_ := Aside0.mk ((by rw [hg]; exact Nat.ne_of_gt (blk_lt (g := gb229) (o := .cells #[.int .i64 0, .int .i64 0, .int .i64 0] 23 (0, 0)) (by (with_reducible repeat (first | refine blk_drewN ?_ _ | refine blk_drew ?_ | refine blk_alloc ?_ _)); exact BK229.out)) : gb231 ≠ gb229))
            clear BK228
            clear BK229
            clear HB
            have BK228 := n0_
            have BK229 := n1_
            have HB := n2_
            have BK231 := n3_
            have GW231 := n4_
            have GE231 := n5_
            have NB228_231 := n6_
            have NB231_228 := n7_
            have NB229_231 := n8_
            have NB231_229 := n9_
            clear n0_ n1_ n2_ n3_ n4_ n5_ n6_ n7_ n8_ n9_
            clear hb hbox hg
            refine hK.out _ _ ⟨(blk_cell BK228.out 0).trans rfl, (blk_cell BK228.out 1).trans rfl, (blk_cell BK228.out 2).trans rfl⟩ (fun hHeld => ?_)
            clear hK K
            refine norm_ (a' := ?_) ?_ ?_
            rotate_left
            · show Act.put _ (some 10) _ = _
              simp only [Act.put, List.setIfInBounds_toArray, List.set_cons_zero, List.set_cons_succ, i64_w, i32_w]
              rfl
            refine one_ (i := 17) (N := none) #[true, true, true, true, true, true, true, true, true, true, true, true, true, true, true, true, true, true] rfl rfl (one_of HT_.out (by kernel_rfl)) (by decide) (fun K hK => ?_)
            have hs60 : w59.cell? ⟨gb231, 0, none⟩ = some (.int .i64 0) := (blk_cell BK231.out 0).trans rfl
            have hfs60 := blk_frozen BK231.out 0
            have hns60_0 := NB228_231.out
            have hns60_1 := NB229_231.out
            have hms60_0 := NB231_228.out
            have hms60_1 := NB231_229.out
            have hs61 : w59.cell? ⟨gb231, 1, none⟩ = some (.int .i64 0) := (blk_cell BK231.out 1).trans rfl
            have hfs61 := blk_frozen BK231.out 1
            have hns61_0 := NB228_231.out
            have hns61_1 := NB229_231.out
            have hms61_0 := NB231_228.out
            have hms61_1 := NB231_229.out
            have hs62 : w59.cell? ⟨gb231, 2, none⟩ = some (.int .i64 0) := (blk_cell BK231.out 2).trans rfl
            have hfs62 := blk_frozen BK231.out 2
            have hns62_0 := NB228_231.out
            have hns62_1 := NB229_231.out
            have hms62_0 := NB231_228.out
            have hms62_1 := NB231_229.out
            refine skip_ (w1 := ?_) (by rfl) rfl ?_ ?_
            rotate_left
            · go_simp
              rfl
            refine hK.out _ _ ⟨((cell_far (p := ⟨gb231, _, none⟩) NB228_231.out _).trans (((cell_far (p := ⟨gb231, _, none⟩) NB228_231.out _).trans (((cell_far (p := ⟨gb231, _, none⟩) NB228_231.out _).trans (hHeld.1)))))), ((cell_far (p := ⟨gb231, _, none⟩) NB228_231.out _).trans (((cell_far (p := ⟨gb231, _, none⟩) NB228_231.out _).trans (((cell_far (p := ⟨gb231, _, none⟩) NB228_231.out _).trans (hHeld.2.1)))))), ((cell_far (p := ⟨gb231, _, none⟩) NB228_231.out _).trans (((cell_far (p := ⟨gb231, _, none⟩) NB228_231.out _).trans (((cell_far (p := ⟨gb231, _, none⟩) NB228_231.out _).trans (hHeld.2.2))))))⟩ (fun hHeld => ?_)
            clear hK K
            refine done_ (done_of HT_.out (by kernel_rfl)) ?_
            have hnb63 := NB231_228.out
            have hnc63 := NB228_231.out
            have hnb64 := NB231_229.out
            have hnc64 := NB229_231.out
            have hcz65_0 : w59.cell? ⟨gb231, 0, none⟩ = some (.int .i64 0) := (blk_cell BK231.out 0).trans rfl
            have hcz65_1 : w59.cell? ⟨gb231, 1, none⟩ = some (.int .i64 0) := (blk_cell BK231.out 1).trans rfl
            have hcz65_2 : w59.cell? ⟨gb231, 2, none⟩ = some (.int .i64 0) := (blk_cell BK231.out 2).trans rfl
            have hfz65_0 := blk_frozen BK231.out 0
            have hfz65_1 := blk_frozen BK231.out 1
            have hfz65_2 := blk_frozen BK231.out 2
            try go_wp2_with (first | ((with_reducible refine gate_callee (f := 40) rfl ?_); refine goesL_ (some 61) rfl rfl Try.func40 (by kernel_rfl) rfl #[.agg #[.int .i64 a1, .int .i64 (wrap64 ((wrap64 (Int.tdiv (wrap64 (a0_1 - a2)) a3)) + 1)), .int .i64 (wrap64 ((wrap64 (Int.tdiv (wrap64 (a0_2 - a2)) a3)) + 1))]] rfl (by (try simp only [List.map_toArray, List.map_cons, List.map_nil]); first | done | rfl | (simp only [List.length_drop, List.length_take]; rfl)) ?_; (with_reducible refine (symbolonref02_Right.calls a1 (wrap64 ((wrap64 (Int.tdiv (wrap64 (a0_1 - a2)) a3)) + 1)) (wrap64 ((wrap64 (Int.tdiv (wrap64 (a0_2 - a2)) a3)) + 1)) false _ A44.out).mono ?_); rintro e w66 ⟨rfl, hb⟩; refine ⟨_, rfl, ?_⟩; have n0_ := Aside0.mk (blk_below (g := gb228) (o := .cells #[.int .i64 a0_0, .int .i64 a0_1, .int .i64 a0_2] 23 (0, 0)) (by (with_reducible repeat (first | refine blk_drewN ?_ _ | refine blk_drew ?_ | refine blk_alloc ?_ _)); refine blk_far ?_ NB228_231.out _; (with_reducible repeat (first | refine blk_drewN ?_ _ | refine blk_drew ?_ | refine blk_alloc ?_ _)); refine blk_far ?_ NB228_231.out _; (with_reducible repeat (first | refine blk_drewN ?_ _ | refine blk_drew ?_ | refine blk_alloc ?_ _)); refine blk_far ?_ NB228_231.out _; (with_reducible repeat (first | refine blk_drewN ?_ _ | refine blk_drew ?_ | refine blk_alloc ?_ _)); exact BK228.out) hb); have n1_ := Aside0.mk (blk_below (g := gb229) (o := .cells #[.int .i64 0, .int .i64 0, .int .i64 0] 23 (0, 0)) (by (with_reducible repeat (first | refine blk_drewN ?_ _ | refine blk_drew ?_ | refine blk_alloc ?_ _)); refine blk_far ?_ NB229_231.out _; (with_reducible repeat (first | refine blk_drewN ?_ _ | refine blk_drew ?_ | refine blk_alloc ?_ _)); refine blk_far ?_ NB229_231.out _; (with_reducible repeat (first | refine blk_drewN ?_ _ | refine blk_drew ?_ | refine blk_alloc ?_ _)); refine blk_far ?_ NB229_231.out _; (with_reducible repeat (first | refine blk_drewN ?_ _ | refine blk_drew ?_ | refine blk_alloc ?_ _)); exact BK229.out) hb); have n2_ := Aside0.mk (blk_below (g := gb231) (o := .cells #[.int .i64 a1, .int .i64 (wrap64 ((wrap64 (Int.tdiv (wrap64 (a0_1 - a2)) a3)) + 1)), .int .i64 (wrap64 ((wrap64 (Int.tdiv (wrap64 (a0_2 - a2)) a3)) + 1))] 23 (0, 0)) (by (with_reducible repeat (first | refine blk_drewN ?_ _ | refine blk_drew ?_ | refine blk_alloc ?_ _)); refine blk_put (cs := #[.int .i64 a1, .int .i64 (wrap64 ((wrap64 (Int.tdiv (wrap64 (a0_1 - a2)) a3)) + 1)), .int .i64 0]) ?_ 2 _ rfl; (with_reducible repeat (first | refine blk_drewN ?_ _ | refine blk_drew ?_ | refine blk_alloc ?_ _)); refine blk_put (cs := #[.int .i64 a1, .int .i64 0, .int .i64 0]) ?_ 1 _ rfl; (with_reducible repeat (first | refine blk_drewN ?_ _ | refine blk_drew ?_ | refine blk_alloc ?_ _)); refine blk_put (cs := #[.int .i64 0, .int .i64 0, .int .i64 0]) ?_ 0 _ rfl; (with_reducible repeat (first | refine blk_drewN ?_ _ | refine blk_drew ?_ | refine blk_alloc ?_ _)); exact BK231.out) hb); have n3_ := Aside0.mk (below_step (by repeat (first | (with_reducible first | exact HB.out | apply below_alloc | apply pw_below_drewN | apply below_drew1 | refine below_set ?_ GE228.out | refine below_set ?_ GE229.out | refine below_set ?_ GE231.out) | exact HB.out)) hb); clear BK228; clear BK229; clear BK231; clear HB; have BK228 := n0_; have BK229 := n1_; have BK231 := n2_; have HB := n3_; clear n0_ n1_ n2_ n3_; (try clear hb); (try clear hb2); (try clear hk); (try clear hi); have hnb67 := NB229_228.out; have hnc67 := NB228_229.out; have hcz68_0 : w66.cell? ⟨gb229, 0, none⟩ = some (.int .i64 0) := (blk_cell BK229.out 0).trans rfl; have hcz68_1 : w66.cell? ⟨gb229, 1, none⟩ = some (.int .i64 0) := (blk_cell BK229.out 1).trans rfl; have hcz68_2 : w66.cell? ⟨gb229, 2, none⟩ = some (.int .i64 0) := (blk_cell BK229.out 2).trans rfl; have hfz68_0 := blk_frozen BK229.out 0; have hfz68_1 := blk_frozen BK229.out 1; have hfz68_2 := blk_frozen BK229.out 2))
            refine bodyPost_ret (results_ct rfl _ _ gb229 23 #[.int .i64 0, .int .i64 0, .int .i64 0] (0, 0) _ rfl (by (with_reducible repeat (first | refine blk_drewN ?_ _ | refine blk_drew ?_ | refine blk_alloc ?_ _)); refine blk_put (cs := #[.int .i64 0, .int .i64 0, .int .i64 0]) ?_ 2 _ rfl; (with_reducible repeat (first | refine blk_drewN ?_ _ | refine blk_drew ?_ | refine blk_alloc ?_ _)); refine blk_put (cs := #[.int .i64 0, .int .i64 0, .int .i64 0]) ?_ 1 _ rfl; (with_reducible repeat (first | refine blk_drewN ?_ _ | refine blk_drew ?_ | refine blk_alloc ?_ _)); refine blk_put (cs := #[.int .i64 0, .int .i64 0, .int .i64 0]) ?_ 0 _ rfl; (with_reducible repeat (first | refine blk_drewN ?_ _ | refine blk_drew ?_ | refine blk_alloc ?_ _)); exact BK229.out) Try.underlying23 rfl (by kernel_rfl)) rfl ?_
            exact ⟨by first | rfl | (simp [errW_none, errW_some] <;> rfl) | (simp [*, errW_none, errW_some] <;> rfl), by repeat (first | (with_reducible first | exact HB.out | apply below_alloc | apply pw_below_drewN | apply below_drew1 | refine below_set ?_ GE228.out | refine below_set ?_ GE229.out | refine below_set ?_ GE231.out) | exact HB.out)⟩

/-! ### symbolonref02_Pool: function 39 -/
def symbolonref02_Pool.f (a0_0 : Int) (a0_1 : Int) (a0_2 : Int) (a1 : Int) : Option (Int × Int × Int × Bool) := (symbolonref02_Right.f a0_0 a0_1 a0_2).bind fun t235 => (if t235 = true then (if a1 < 1 then (some (0, 0, 0, false)) else (if a1 = 0 then (none) else (if (Int.tmod a0_1 a1) = 0 then (if (Int.tmod a0_2 a1) = 0 then (some (a0_0, wrap64 (Int.tdiv a0_1 a1), wrap64 (Int.tdiv a0_2 a1), true)) else (some (0, 0, 0, false))) else (some (0, 0, 0, false))))) else (some (0, 0, 0, false)))
def symbolonref02_Pool.T3 : Bool × List (List Nat × List Nat) := (true, [([], []), ([0], [0]), ([], []), ([2], [2]), ([], []), ([3, 4], [3, 4]), ([], []), ([6], [6]), ([], []), ([7, 8], [7, 8]), ([1, 5, 9], [1, 5, 9]), ([10, 0, 1, 2, 3, 4, 5, 6, 7, 8, 9, 10], [10]), ([11, 0, 1, 2, 3, 4, 5, 6, 7, 8, 9, 10, 11], [])])
def symbolonref02_Pool.B3 : List Nat := [0, 1, 0, 4, 0, 28, 0, 64, 0, 448, 1023, 2047, 4095]
theorem symbolonref02_Pool.tab3 : rtab .any (opsOf Try.f39 3) = symbolonref02_Pool.T3 := by kernel_rfl
theorem symbolonref02_Pool.bits3 : waitsOk symbolonref02_Pool.T3.2 symbolonref02_Pool.B3 = true := by kernel_rfl
set_option maxHeartbeats 8000000 in
set_option maxRecDepth 100000 in
theorem symbolonref02_Pool.calls (a0_0 : Int) (a0_1 : Int) (a0_2 : Int) (a1 : Int) (r1 : Int) (r2 : Int) (r3 : Int) (r4 : Bool) (w : World) (h : symbolonref02_Pool.f a0_0 a0_1 a0_2 a1 = some (r1, r2, r3, r4)) :
    Calls Try.prog 39 #[.agg #[.int .i64 a0_0, .int .i64 a0_1, .int .i64 a0_2], .int .i64 a1] w fun e w' => e = .returned (.tuple #[.agg #[.int .i64 r1, .int .i64 r2, .int .i64 r3], .bool r4]) ∧ Below w.heap.size w w' := by
  have hu23 := Try.underlying23
  have HB := Aside0.mk (Below.refl w.heap.size w)
  have H : ((symbolonref02_Right.f a0_0 a0_1 a0_2).bind fun t235 => (if t235 = true then (if a1 < 1 then (some (0, 0, 0, false)) else (if a1 = 0 then (none) else (if (Int.tmod a0_1 a1) = 0 then (if (Int.tmod a0_2 a1) = 0 then (some (a0_0, wrap64 (Int.tdiv a0_1 a1), wrap64 (Int.tdiv a0_2 a1), true)) else (some (0, 0, 0, false))) else (some (0, 0, 0, false))))) else (some (0, 0, 0, false)))) = some (r1, r2, r3, r4) := h
  clear h
  replace H := Option.bind_eq_some_iff.mp H
  obtain ⟨t235, A30, H⟩ := H
  replace H : (if t235 = true then (if a1 < 1 then (some (0, 0, 0, false)) else (if a1 = 0 then (none) else (if (Int.tmod a0_1 a1) = 0 then (if (Int.tmod a0_2 a1) = 0 then (some (a0_0, wrap64 (Int.tdiv a0_1 a1), wrap64 (Int.tdiv a0_2 a1), true)) else (some (0, 0, 0, false))) else (some (0, 0, 0, false))))) else (some (0, 0, 0, false))) = some (r1, r2, r3, r4) := H
  have A3 := Aside0.mk A30
  clear A30
  by_cases c4 : t235 = true
  · subst c4
    have H1 : (if a1 < 1 then (some (0, 0, 0, false)) else (if a1 = 0 then (none) else (if (Int.tmod a0_1 a1) = 0 then (if (Int.tmod a0_2 a1) = 0 then (some (a0_0, wrap64 (Int.tdiv a0_1 a1), wrap64 (Int.tdiv a0_2 a1), true)) else (some (0, 0, 0, false))) else (some (0, 0, 0, false))))) = some (r1, r2, r3, r4) := by rw [if_pos rfl] at H; exact H
    clear H
    have H := H1
    clear H1
    by_cases c5 : a1 < 1
    · rw [if_pos c5] at H
      have c5b0 : decide (a1 < 1) = true := decide_eq_true c5
      clear c5
      simp only [Option.some.injEq, Prod.mk.injEq] at H
      obtain ⟨rfl, rfl, rfl, rfl⟩ := H
      go_enter Try.func39, Try.ntmps39
      go_wp2_with (first | ((with_reducible refine gate_dst (N := 2) rfl ?_); refine box_event ?hg (N := 2) ?hd (cs := #[.int .i64 a0_0, .int .i64 a0_1, .int .i64 a0_2]) (t := 23) ?hr ?_; (case hd => rfl); (case hg => rfl); (case hr => first | (go_simp; done) | (go_simp; rfl)); intro gb233 hg w6 hbox hb; have n0_ := Aside0.mk (below_step (by repeat (first | (with_reducible first | exact HB.out | apply below_alloc | apply pw_below_drewN | apply below_drew1) | exact HB.out)) hb); have n1_ := Aside0.mk (hbox); have n2_ := Aside0.mk ((by rw [hg]; exact (below_size (by repeat (first | (with_reducible first | exact HB.out | apply below_alloc | apply pw_below_drewN | apply below_drew1) | exact HB.out))) : w.heap.size ≤ gb233)); have n3_ := Aside0.mk ((by rw [hg]; exact (below_size (by repeat (first | (with_reducible first | exact HB.out | apply below_alloc | apply pw_below_drewN | apply below_drew1) | exact HB.out))) : w.heap.size ≤ gb233)); clear HB; have HB := n0_; have BK233 := n1_; have GW233 := n2_; have GE233 := n3_; clear n0_ n1_ n2_ n3_; clear hb hbox hg) | ((with_reducible refine gate_dst (N := 4) rfl ?_); refine box_event ?hg (N := 4) ?hd (cs := #[.int .i64 0, .int .i64 0, .int .i64 0]) (t := 23) ?hr ?_; (case hd => rfl); (case hg => rfl); (case hr => first | (go_simp; done) | (go_simp; rfl)); intro gb234 hg w7 hbox hb; have n0_ := Aside0.mk (blk_below (g := gb233) (o := .cells #[.int .i64 a0_0, .int .i64 a0_1, .int .i64 a0_2] 23 (0, 0)) (by (with_reducible repeat (first | refine blk_drewN ?_ _ | refine blk_drew ?_ | refine blk_alloc ?_ _)); exact BK233.out) hb); have n1_ := Aside0.mk (below_step (by repeat (first | (with_reducible first | exact HB.out | apply below_alloc | apply pw_below_drewN | apply below_drew1 | refine below_set ?_ GE233.out) | exact HB.out)) hb); have n2_ := Aside0.mk (hbox); have n3_ := Aside0.mk ((by rw [hg]; exact (below_size (by repeat (first | (with_reducible first | exact HB.out | apply below_alloc | apply pw_below_drewN | apply below_drew1 | refine below_set ?_ GE233.out) | exact HB.out))) : w.heap.size ≤ gb234)); have n4_ := Aside0.mk ((by rw [hg]; exact (below_size (by repeat (first | (with_reducible first | exact HB.out | apply below_alloc | apply pw_below_drewN | apply below_drew1 | refine below_set ?_ GE233.out) | exact HB.out))) : w.heap.size ≤ gb234)); have n5_ := Aside0.mk ((by rw [hg]; exact Nat.ne_of_lt (blk_lt (g := gb233) (o := .cells #[.int .i64 a0_0, .int .i64 a0_1, .int .i64 a0_2] 23 (0, 0)) (by (with_reducible repeat (first | refine blk_drewN ?_ _ | refine blk_drew ?_ | refine blk_alloc ?_ _)); exact BK233.out)) : gb233 ≠ gb234)); have n6_ := Aside0.mk ((by rw [hg]; exact Nat.ne_of_gt (blk_lt (g := gb233) (o := .cells #[.int .i64 a0_0, .int .i64 a0_1, .int .i64 a0_2] 23 (0, 0)) (by (with_reducible repeat (first | refine blk_drewN ?_ _ | refine blk_drew ?_ | refine blk_alloc ?_ _)); exact BK233.out)) : gb234 ≠ gb233)); clear BK233; clear HB; have BK233 := n0_; have HB := n1_; have BK234 := n2_; have GW234 := n3_; have GE234 := n4_; have NB233_234 := n5_; have NB234_233 := n6_; clear n0_ n1_ n2_ n3_ n4_ n5_ n6_; clear hb hbox hg; have hnb8 := NB233_234.out; have hnc8 := NB234_233.out; have hcz9_0 : w7.cell? ⟨gb233, 0, none⟩ = some (.int .i64 a0_0) := (blk_cell BK233.out 0).trans rfl; have hcz9_1 : w7.cell? ⟨gb233, 1, none⟩ = some (.int .i64 a0_1) := (blk_cell BK233.out 1).trans rfl; have hcz9_2 : w7.cell? ⟨gb233, 2, none⟩ = some (.int .i64 a0_2) := (blk_cell BK233.out 2).trans rfl; have hfz9_0 := blk_frozen BK233.out 0; have hfz9_1 := blk_frozen BK233.out 1; have hfz9_2 := blk_frozen BK233.out 2) | ((with_reducible refine gate_callee (f := 40) rfl ?_); refine goesL_ (some 7) rfl rfl Try.func40 (by kernel_rfl) rfl #[.agg #[.int .i64 a0_0, .int .i64 a0_1, .int .i64 a0_2]] rfl (by (try simp only [List.map_toArray, List.map_cons, List.map_nil]); first | done | rfl | (simp only [List.length_drop, List.length_take]; rfl)) ?_; (with_reducible refine (symbolonref02_Right.calls a0_0 a0_1 a0_2 true _ A3.out).mono ?_); rintro e w10 ⟨rfl, hb⟩; refine ⟨_, rfl, ?_⟩; have n0_ := Aside0.mk (blk_below (g := gb233) (o := .cells #[.int .i64 a0_0, .int .i64 a0_1, .int .i64 a0_2] 23 (0, 0)) (by (with_reducible repeat (first | refine blk_drewN ?_ _ | refine blk_drew ?_ | refine blk_alloc ?_ _)); exact BK233.out) hb); have n1_ := Aside0.mk (blk_below (g := gb234) (o := .cells #[.int .i64 0, .int .i64 0, .int .i64 0] 23 (0, 0)) (by (with_reducible repeat (first | refine blk_drewN ?_ _ | refine blk_drew ?_ | refine blk_alloc ?_ _)); exact BK234.out) hb); have n2_ := Aside0.mk (below_step (by repeat (first | (with_reducible first | exact HB.out | apply below_alloc | apply pw_below_drewN | apply below_drew1 | refine below_set ?_ GE233.out | refine below_set ?_ GE234.out) | exact HB.out)) hb); clear BK233; clear BK234; clear HB; have BK233 := n0_; have BK234 := n1_; have HB := n2_; clear n0_ n1_ n2_; (try clear hb); (try clear hb2); (try clear hk); (try clear hi); have hcz11_0 : w10.cell? ⟨gb234, 0, none⟩ = some (.int .i64 0) := (blk_cell BK234.out 0).trans rfl; have hcz11_1 : w10.cell? ⟨gb234, 1, none⟩ = some (.int .i64 0) := (blk_cell BK234.out 1).trans rfl; have hcz11_2 : w10.cell? ⟨gb234, 2, none⟩ = some (.int .i64 0) := (blk_cell BK234.out 2).trans rfl; have hfz11_0 := blk_frozen BK234.out 0; have hfz11_1 := blk_frozen BK234.out 1; have hfz11_2 := blk_frozen BK234.out 2))
      refine bodyPost_ret (results_ct rfl _ _ gb234 23 #[.int .i64 0, .int .i64 0, .int .i64 0] (0, 0) _ rfl (by (with_reducible repeat (first | refine blk_drewN ?_ _ | refine blk_drew ?_ | refine blk_alloc ?_ _)); refine blk_put (cs := #[.int .i64 0, .int .i64 0, .int .i64 0]) ?_ 2 _ rfl; (with_reducible repeat (first | refine blk_drewN ?_ _ | refine blk_drew ?_ | refine blk_alloc ?_ _)); refine blk_put (cs := #[.int .i64 0, .int .i64 0, .int .i64 0]) ?_ 1 _ rfl; (with_reducible repeat (first | refine blk_drewN ?_ _ | refine blk_drew ?_ | refine blk_alloc ?_ _)); refine blk_put (cs := #[.int .i64 0, .int .i64 0, .int .i64 0]) ?_ 0 _ rfl; (with_reducible repeat (first | refine blk_drewN ?_ _ | refine blk_drew ?_ | refine blk_alloc ?_ _)); exact BK234.out) Try.underlying23 rfl (by kernel_rfl)) rfl ?_
      exact ⟨by first | rfl | (simp [errW_none, errW_some] <;> rfl) | (simp [*, errW_none, errW_some] <;> rfl), by repeat (first | (with_reducible first | exact HB.out | apply below_alloc | apply pw_below_drewN | apply below_drew1 | refine below_set ?_ GE233.out | refine below_set ?_ GE234.out) | exact HB.out)⟩
    · rw [if_neg c5] at H
      have c5b0 : decide (a1 < 1) = false := decide_eq_false c5
      clear c5
      by_cases c12 : a1 = 0
      · rw [if_pos c12] at H
        exact absurd H (by simp)
      · rw [if_neg c12] at H
        have c12b0 : (a1 == 0) = false := beq_eq_false_iff_ne.mpr c12
        have c12b1 : (a1 != 0) = true := bne_iff_ne.mpr c12
        by_cases c13 : (Int.tmod a0_1 a1) = 0
        · rw [if_pos c13] at H
          have c13b0 : ((Int.tmod a0_1 a1) == 0) = true := beq_iff_eq.mpr c13
          have c13b1 : ((Int.tmod a0_1 a1) != 0) = false := bne_eq_false_iff_eq.mpr c13
          clear c13
          by_cases c14 : (Int.tmod a0_2 a1) = 0
          · rw [if_pos c14] at H
            have c14b0 : ((Int.tmod a0_2 a1) == 0) = true := beq_iff_eq.mpr c14
            have c14b1 : ((Int.tmod a0_2 a1) != 0) = false := bne_eq_false_iff_eq.mpr c14
            clear c14
            simp only [Option.some.injEq, Prod.mk.injEq] at H
            obtain ⟨rfl, rfl, rfl, rfl⟩ := H
            go_enter Try.func39, Try.ntmps39
            try go_wp2_with (first | ((with_reducible refine gate_dst (N := 2) rfl ?_); refine box_event ?hg (N := 2) ?hd (cs := #[.int .i64 a0_0, .int .i64 a0_1, .int .i64 a0_2]) (t := 23) ?hr ?_; (case hd => rfl); (case hg => rfl); (case hr => first | (go_simp; done) | (go_simp; rfl)); intro gb233 hg w15 hbox hb; have n0_ := Aside0.mk (below_step (by repeat (first | (with_reducible first | exact HB.out | apply below_alloc | apply pw_below_drewN | apply below_drew1) | exact HB.out)) hb); have n1_ := Aside0.mk (hbox); have n2_ := Aside0.mk ((by rw [hg]; exact (below_size (by repeat (first | (with_reducible first | exact HB.out | apply below_alloc | apply pw_below_drewN | apply below_drew1) | exact HB.out))) : w.heap.size ≤ gb233)); have n3_ := Aside0.mk ((by rw [hg]; exact (below_size (by repeat (first | (with_reducible first | exact HB.out | apply below_alloc | apply pw_below_drewN | apply below_drew1) | exact HB.out))) : w.heap.size ≤ gb233)); clear HB; have HB := n0_; have BK233 := n1_; have GW233 := n2_; have GE233 := n3_; clear n0_ n1_ n2_ n3_; clear hb hbox hg) | ((with_reducible refine gate_dst (N := 4) rfl ?_); refine box_event ?hg (N := 4) ?hd (cs := #[.int .i64 0, .int .i64 0, .int .i64 0]) (t := 23) ?hr ?_; (case hd => rfl); (case hg => rfl); (case hr => first | (go_simp; done) | (go_simp; rfl)); intro gb234 hg w16 hbox hb; have n0_ := Aside0.mk (blk_below (g := gb233) (o := .cells #[.int .i64 a0_0, .int .i64 a0_1, .int .i64 a0_2] 23 (0, 0)) (by (with_reducible repeat (first | refine blk_drewN ?_ _ | refine blk_drew ?_ | refine blk_alloc ?_ _)); exact BK233.out) hb); have n1_ := Aside0.mk (below_step (by repeat (first | (with_reducible first | exact HB.out | apply below_alloc | apply pw_below_drewN | apply below_drew1 | refine below_set ?_ GE233.out) | exact HB.out)) hb); have n2_ := Aside0.mk (hbox); have n3_ := Aside0.mk ((by rw [hg]; exact (below_size (by repeat (first | (with_reducible first | exact HB.out | apply below_alloc | apply pw_below_drewN | apply below_drew1 | refine below_set ?_ GE233.out) | exact HB.out))) : w.heap.size ≤ gb234)); have n4_ := Aside0.mk ((by rw [hg]; exact (below_size (by repeat (first | (with_reducible first | exact HB.out | apply below_alloc | apply pw_below_drewN | apply below_drew1 | refine below_set ?_ GE233.out) | exact HB.out))) : w.heap.size ≤ gb234)); have n5_ := Aside0.mk ((by rw [hg]; exact Nat.ne_of_lt (blk_lt (g := gb233) (o := .cells #[.int .i64 a0_0, .int .i64 a0_1, .int .i64 a0_2] 23 (0, 0)) (by (with_reducible repeat (first | refine blk_drewN ?_ _ | refine blk_drew ?_ | refine blk_alloc ?_ _)); exact BK233.out)) : gb233 ≠ gb234)); have n6_ := Aside0.mk ((by rw [hg]; exact Nat.ne_of_gt (blk_lt (g := gb233) (o := .cells #[.int .i64 a0_0, .int .i64 a0_1, .int .i64 a0_2] 23 (0, 0)) (by (with_reducible repeat (first | refine blk_drewN ?_ _ | refine blk_drew ?_ | refine blk_alloc ?_ _)); exact BK233.out)) : gb234 ≠ gb233)); clear BK233; clear HB; have BK233 := n0_; have HB := n1_; have BK234 := n2_; have GW234 := n3_; have GE234 := n4_; have NB233_234 := n5_; have NB234_233 := n6_; clear n0_ n1_ n2_ n3_ n4_ n5_ n6_; clear hb hbox hg; have hnb17 := NB233_234.out; have hnc17 := NB234_233.out; have hcz18_0 : w16.cell? ⟨gb233, 0, none⟩ = some (.int .i64 a0_0) := (blk_cell BK233.out 0).trans rfl; have hcz18_1 : w16.cell? ⟨gb233, 1, none⟩ = some (.int .i64 a0_1) := (blk_cell BK233.out 1).trans rfl; have hcz18_2 : w16.cell? ⟨gb233, 2, none⟩ = some (.int .i64 a0_2) := (blk_cell BK233.out 2).trans rfl; have hfz18_0 := blk_frozen BK233.out 0; have hfz18_1 := blk_frozen BK233.out 1; have hfz18_2 := blk_frozen BK233.out 2) | ((with_reducible refine gate_callee (f := 40) rfl ?_); refine goesL_ (some 7) rfl rfl Try.func40 (by kernel_rfl) rfl #[.agg #[.int .i64 a0_0, .int .i64 a0_1, .int .i64 a0_2]] rfl (by (try simp only [List.map_toArray, List.map_cons, List.map_nil]); first | done | rfl | (simp only [List.length_drop, List.length_take]; rfl)) ?_; (with_reducible refine (symbolonref02_Right.calls a0_0 a0_1 a0_2 true _ A3.out).mono ?_); rintro e w19 ⟨rfl, hb⟩; refine ⟨_, rfl, ?_⟩; have n0_ := Aside0.mk (blk_below (g := gb233) (o := .cells #[.int .i64 a0_0, .int .i64 a0_1, .int .i64 a0_2] 23 (0, 0)) (by (with_reducible repeat (first | refine blk_drewN ?_ _ | refine blk_drew ?_ | refine blk_alloc ?_ _)); exact BK233.out) hb); have n1_ := Aside0.mk (blk_below (g := gb234) (o := .cells #[.int .i64 0, .int .i64 0, .int .i64 0] 23 (0, 0)) (by (with_reducible repeat (first | refine blk_drewN ?_ _ | refine blk_drew ?_ | refine blk_alloc ?_ _)); exact BK234.out) hb); have n2_ := Aside0.mk (below_step (by repeat (first | (with_reducible first | exact HB.out | apply below_alloc | apply pw_below_drewN | apply below_drew1 | refine below_set ?_ GE233.out | refine below_set ?_ GE234.out) | exact HB.out)) hb); clear BK233; clear BK234; clear HB; have BK233 := n0_; have BK234 := n1_; have HB := n2_; clear n0_ n1_ n2_; (try clear hb); (try clear hb2); (try clear hk); (try clear hi); have hcz20_0 : w19.cell? ⟨gb233, 0, none⟩ = some (.int .i64 a0_0) := (blk_cell BK233.out 0).trans rfl; have hcz20_1 : w19.cell? ⟨gb233, 1, none⟩ = some (.int .i64 a0_1) := (blk_cell BK233.out 1).trans rfl; have hcz20_2 : w19.cell? ⟨gb233, 2, none⟩ = some (.int .i64 a0_2) := (blk_cell BK233.out 2).trans rfl; have hfz20_0 := blk_frozen BK233.out 0; have hfz20_1 := blk_frozen BK233.out 1; have hfz20_2 := blk_frozen BK233.out 2))
            have n0_ := Aside0.mk (blk_drew BK233.out)
            have n1_ := Aside0.mk (blk_drew BK234.out)
            have n2_ := Aside0.mk (below_drew1 HB.out)
            clear BK233
            clear BK234
            clear HB
            have BK233 := n0_
            have BK234 := n1_
            have HB := n2_
            clear n0_ n1_ n2_
            refine start_ (n := 13) (S := fun w' => w'.cell? ⟨gb233, 0, none⟩ = some (.int .i64 a0_0) ∧ w'.cell? ⟨gb233, 1, none⟩ = some (.int .i64 a0_1) ∧ w'.cell? ⟨gb233, 2, none⟩ = some (.int .i64 a0_2)) (ds := []) #[false, false, false, false, false, false, false, false, false, false, false, false, false] (by kernel_rfl) rfl rfl ⟨(blk_cell BK233.out 0).trans rfl, (blk_cell BK233.out 1).trans rfl, (blk_cell BK233.out 2).trans rfl⟩ (fun hHeld => ?_); refine with_tabW symbolonref02_Pool.tab3 symbolonref02_Pool.bits3 (fun HT_ HW_ => ?_)
            generalize w19.drew = w21 at BK233 BK234 HB hHeld ⊢
            refine pure_ (i := 0) (N := some 28) (v := ?_) (a' := ?_) #[true, false, false, false, false, false, false, false, false, false, false, false, false] rfl rfl (any_of HT_.out (by kernel_rfl)) (fun _ _ _ h => h) (Or.inl ⟨by rfl, ?_⟩) ?_ ?_
            rotate_left
            · intro w'
              go_simp
              with_reducible rfl
            rotate_left
            · simp only [Act.put, List.setIfInBounds_toArray, List.set_cons_zero, List.set_cons_succ, i64_w, i32_w]
              rfl
            refine pure_ (i := 2) (N := some 30) (v := ?_) (a' := ?_) #[true, false, true, false, false, false, false, false, false, false, false, false, false] rfl rfl (any_of HT_.out (by kernel_rfl)) (fun _ _ _ h => h) (Or.inl ⟨by rfl, ?_⟩) ?_ ?_
            rotate_left
            · intro w'
              go_simp
              with_reducible rfl
            rotate_left
            · simp only [Act.put, List.setIfInBounds_toArray, List.set_cons_zero, List.set_cons_succ, i64_w, i32_w]
              rfl
            refine pure_ (i := 4) (N := some 32) (v := ?_) (a' := ?_) #[true, false, true, false, true, false, false, false, false, false, false, false, false] rfl rfl (any_of HT_.out (by kernel_rfl)) (fun _ _ _ h => h) (Or.inl ⟨by rfl, ?_⟩) ?_ ?_
            rotate_left
            · intro w'
              go_simp
              with_reducible rfl
            rotate_left
            · simp only [Act.put, List.setIfInBounds_toArray, List.set_cons_zero, List.set_cons_succ, i64_w, i32_w]
              rfl
            refine pure_ (i := 6) (N := some 34) (v := ?_) (a' := ?_) #[true, false, true, false, true, false, true, false, false, false, false, false, false] rfl rfl (any_of HT_.out (by kernel_rfl)) (fun _ _ _ h => h) (Or.inl ⟨by rfl, ?_⟩) ?_ ?_
            rotate_left
            · intro w'
              go_simp
              with_reducible rfl
            rotate_left
            · simp only [Act.put, List.setIfInBounds_toArray, List.set_cons_zero, List.set_cons_succ, i64_w, i32_w]
              rfl
            refine pure_ (i := 8) (N := some 36) (v := ?_) (a' := ?_) #[true, false, true, false, true, false, true, false, true, false, false, false, false] rfl rfl (any_of HT_.out (by kernel_rfl)) (fun _ _ _ h => h) (Or.inl ⟨by rfl, ?_⟩) ?_ ?_
            rotate_left
            · intro w'
              go_simp
              with_reducible rfl
            rotate_left
            · simp only [Act.put, List.setIfInBounds_toArray, List.set_cons_zero, List.set_cons_succ, i64_w, i32_w]
              rfl
            refine take_ (i := 1) (N := some 29) (v := ?_) (a' := ?_) #[true, true, true, false, true, false, true, false, true, false, false, false, false] rfl rfl (take_ofW HT_.out HW_.out (by kernel_rfl)) (fun _ _ _ h => h) (Or.inl ⟨by rfl, ?_⟩) hHeld ?_ ?_
            rotate_left
            · rintro w' ⟨s0, s1, s2⟩
              go_simp
              with_reducible rfl
            rotate_left
            · simp only [Act.put, List.setIfInBounds_toArray, List.set_cons_zero, List.set_cons_succ, i64_w, i32_w]
              rfl
            refine take_ (i := 3) (N := some 31) (v := ?_) (a' := ?_) #[true, true, true, true, true, false, true, false, true, false, false, false, false] rfl rfl (take_ofW HT_.out HW_.out (by kernel_rfl)) (fun _ _ _ h => h) (Or.inl ⟨by rfl, ?_⟩) hHeld ?_ ?_
            rotate_left
            · rintro w' ⟨s0, s1, s2⟩
              go_simp
              with_reducible rfl
            rotate_left
            · simp only [Act.put, List.setIfInBounds_toArray, List.set_cons_zero, List.set_cons_succ, i64_w, i32_w]
              rfl
            refine pure_ (i := 5) (N := some 33) (v := ?_) (a' := ?_) #[true, true, true, true, true, true, true, false, true, false, false, false, false] rfl rfl (any_of HT_.out (by kernel_rfl)) (fun _ _ _ h => h) (Or.inl ⟨by rfl, ?_⟩) ?_ ?_
            rotate_left
            · intro w'
              go_simp
              with_reducible rfl
            rotate_left
            · simp only [Act.put, List.setIfInBounds_toArray, List.set_cons_zero, List.set_cons_succ, i64_w, i32_w]
              rfl
            refine take_ (i := 7) (N := some 35) (v := ?_) (a' := ?_) #[true, true, true, true, true, true, true, true, true, false, false, false, false] rfl rfl (take_ofW HT_.out HW_.out (by kernel_rfl)) (fun _ _ _ h => h) (Or.inl ⟨by rfl, ?_⟩) hHeld ?_ ?_
            rotate_left
            · rintro w' ⟨s0, s1, s2⟩
              go_simp
              with_reducible rfl
            rotate_left
            · simp only [Act.put, List.setIfInBounds_toArray, List.set_cons_zero, List.set_cons_succ, i64_w, i32_w]
              rfl
            refine pure_ (i := 9) (N := some 37) (v := ?_) (a' := ?_) #[true, true, true, true, true, true, true, true, true, true, false, false, false] rfl rfl (any_of HT_.out (by kernel_rfl)) (fun _ _ _ h => h) (Or.inl ⟨by rfl, ?_⟩) ?_ ?_
            rotate_left
            · intro w'
              go_simp
              with_reducible rfl
            rotate_left
            · simp only [Act.put, List.setIfInBounds_toArray, List.set_cons_zero, List.set_cons_succ, i64_w, i32_w]
              rfl
            refine pure_ (i := 10) (N := some 38) (v := ?_) (a' := ?_) #[true, true, true, true, true, true, true, true, true, true, true, false, false] rfl rfl (any_of HT_.out (by kernel_rfl)) (fun _ _ _ h => h) (Or.inl ⟨by rfl, ?_⟩) ?_ ?_
            rotate_left
            · intro w'
              go_simp
              with_reducible rfl
            rotate_left
            · simp only [Act.put, List.setIfInBounds_toArray, List.set_cons_zero, List.set_cons_succ, i64_w, i32_w]
              rfl
            refine one_ (i := 11) (N := none) #[true, true, true, true, true, true, true, true, true, true, true, true, false] rfl rfl (one_of HT_.out (by kernel_rfl)) (by decide) (fun K hK => ?_)
            have hs22 : w21.cell? ⟨gb234, 0, none⟩ = some (.int .i64 0) := (blk_cell BK234.out 0).trans rfl
            have hfs22 := blk_frozen BK234.out 0
            have hns22_0 := NB233_234.out
            have hms22_0 := NB234_233.out
            have hs23 : w21.cell? ⟨gb234, 1, none⟩ = some (.int .i64 0) := (blk_cell BK234.out 1).trans rfl
            have hfs23 := blk_frozen BK234.out 1
            have hns23_0 := NB233_234.out
            have hms23_0 := NB234_233.out
            have hs24 : w21.cell? ⟨gb234, 2, none⟩ = some (.int .i64 0) := (blk_cell BK234.out 2).trans rfl
            have hfs24 := blk_frozen BK234.out 2
            have hns24_0 := NB233_234.out
            have hms24_0 := NB234_233.out
            refine skip_ (w1 := ?_) (by rfl) rfl ?_ ?_
            rotate_left
            · go_simp
              rfl
            refine hK.out _ _ ⟨((cell_far (p := ⟨gb234, _, none⟩) NB233_234.out _).trans (((cell_far (p := ⟨gb234, _, none⟩) NB233_234.out _).trans (((cell_far (p := ⟨gb234, _, none⟩) NB233_234.out _).trans (hHeld.1)))))), ((cell_far (p := ⟨gb234, _, none⟩) NB233_234.out _).trans (((cell_far (p := ⟨gb234, _, none⟩) NB233_234.out _).trans (((cell_far (p := ⟨gb234, _, none⟩) NB233_234.out _).trans (hHeld.2.1)))))), ((cell_far (p := ⟨gb234, _, none⟩) NB233_234.out _).trans (((cell_far (p := ⟨gb234, _, none⟩) NB233_234.out _).trans (((cell_far (p := ⟨gb234, _, none⟩) NB233_234.out _).trans (hHeld.2.2))))))⟩ (fun hHeld => ?_)
            clear hK K
            refine pure_ (i := 12) (N := some 5) (v := ?_) (a' := ?_) #[true, true, true, true, true, true, true, true, true, true, true, true, true] rfl rfl (any_of HT_.out (by kernel_rfl)) (fun _ _ _ h => h) (Or.inl ⟨by rfl, ?_⟩) ?_ ?_
            rotate_left
            · intro w'
              go_simp
              with_reducible rfl
            rotate_left
            · simp only [Act.put, List.setIfInBounds_toArray, List.set_cons_zero, List.set_cons_succ, i64_w, i32_w]
              rfl
            refine done_ (done_of HT_.out (by kernel_rfl)) ?_
            try go_wp2
            refine bodyPost_ret (results_ct rfl _ _ gb234 23 #[.int .i64 a0_0, .int .i64 (wrap64 (Int.tdiv a0_1 a1)), .int .i64 (wrap64 (Int.tdiv a0_2 a1))] (0, 0) _ rfl (by (with_reducible repeat (first | refine blk_drewN ?_ _ | refine blk_drew ?_ | refine blk_alloc ?_ _)); refine blk_put (cs := #[.int .i64 a0_0, .int .i64 (wrap64 (Int.tdiv a0_1 a1)), .int .i64 0]) ?_ 2 _ rfl; (with_reducible repeat (first | refine blk_drewN ?_ _ | refine blk_drew ?_ | refine blk_alloc ?_ _)); refine blk_put (cs := #[.int .i64 a0_0, .int .i64 0, .int .i64 0]) ?_ 1 _ rfl; (with_reducible repeat (first | refine blk_drewN ?_ _ | refine blk_drew ?_ | refine blk_alloc ?_ _)); refine blk_put (cs := #[.int .i64 0, .int .i64 0, .int .i64 0]) ?_ 0 _ rfl; (with_reducible repeat (first | refine blk_drewN ?_ _ | refine blk_drew ?_ | refine blk_alloc ?_ _)); exact BK234.out) Try.underlying23 rfl (by kernel_rfl)) rfl ?_
            exact ⟨by first | rfl | (simp [errW_none, errW_some] <;> rfl) | (simp [*, errW_none, errW_some] <;> rfl), by repeat (first | (with_reducible first | exact HB.out | apply below_alloc | apply pw_below_drewN | apply below_drew1 | refine below_set ?_ GE233.out | refine below_set ?_ GE234.out) | exact HB.out)⟩
          · rw [if_neg c14] at H
            have c14b0 : ((Int.tmod a0_2 a1) == 0) = false := beq_eq_false_iff_ne.mpr c14
            have c14b1 : ((Int.tmod a0_2 a1) != 0) = true := bne_iff_ne.mpr c14
            simp only [Option.some.injEq, Prod.mk.injEq] at H
            obtain ⟨rfl, rfl, rfl, rfl⟩ := H
            go_enter Try.func39, Try.ntmps39
            go_wp2_with (first | ((with_reducible refine gate_dst (N := 2) rfl ?_); refine box_event ?hg (N := 2) ?hd (cs := #[.int .i64 a0_0, .int .i64 a0_1, .int .i64 a0_2]) (t := 23) ?hr ?_; (case hd => rfl); (case hg => rfl); (case hr => first | (go_simp; done) | (go_simp; rfl)); intro gb233 hg w25 hbox hb; have n0_ := Aside0.mk (below_step (by repeat (first | (with_reducible first | exact HB.out | apply below_alloc | apply pw_below_drewN | apply below_drew1) | exact HB.out)) hb); have n1_ := Aside0.mk (hbox); have n2_ := Aside0.mk ((by rw [hg]; exact (below_size (by repeat (first | (with_reducible first | exact HB.out | apply below_alloc | apply pw_below_drewN | apply below_drew1) | exact HB.out))) : w.heap.size ≤ gb233)); have n3_ := Aside0.mk ((by rw [hg]; exact (below_size (by repeat (first | (with_reducible first | exact HB.out | apply below_alloc | apply pw_below_drewN | apply below_drew1) | exact HB.out))) : w.heap.size ≤ gb233)); clear HB; have HB := n0_; have BK233 := n1_; have GW233 := n2_; have GE233 := n3_; clear n0_ n1_ n2_ n3_; clear hb hbox hg) | ((with_reducible refine gate_dst (N := 4) rfl ?_); refine box_event ?hg (N := 4) ?hd (cs := #[.int .i64 0, .int .i64 0, .int .i64 0]) (t := 23) ?hr ?_; (case hd => rfl); (case hg => rfl); (case hr => first | (go_simp; done) | (go_simp; rfl)); intro gb234 hg w26 hbox hb; have n0_ := Aside0.mk (blk_below (g := gb233) (o := .cells #[.int .i64 a0_0, .int .i64 a0_1, .int .i64 a0_2] 23 (0, 0)) (by (with_reducible repeat (first | refine blk_drewN ?_ _ | refine blk_drew ?_ | refine blk_alloc ?_ _)); exact BK233.out) hb); have n1_ := Aside0.mk (below_step (by repeat (first | (with_reducible first | exact HB.out | apply below_alloc | apply pw_below_drewN | apply below_drew1 | refine below_set ?_ GE233.out) | exact HB.out)) hb); have n2_ := Aside0.mk (hbox); have n3_ := Aside0.mk ((by rw [hg]; exact (below_size (by repeat (first | (with_reducible first | exact HB.out | apply below_alloc | apply pw_below_drewN | apply below_drew1 | refine below_set ?_ GE233.out) | exact HB.out))) : w.heap.size ≤ gb234)); have n4_ := Aside0.mk ((by rw [hg]; exact (below_size (by repeat (first | (with_reducible first | exact HB.out | apply below_alloc | apply pw_below_drewN | apply below_drew1 | refine below_set ?_ GE233.out) | exact HB.out))) : w.heap.size ≤ gb234)); have n5_ := Aside0.mk ((by rw [hg]; exact Nat.ne_of_lt (blk_lt (g := gb233) (o := .cells #[.int .i64 a0_0, .int .i64 a0_1, .int .i64 a0_2] 23 (0, 0)) (by (with_reducible repeat (first | refine blk_drewN ?_ _ | refine blk_drew ?_ | refine blk_alloc ?_ _)); exact BK233.out)) : gb233 ≠ gb234)); have n6_ := Aside0.mk ((by rw [hg]; exact Nat.ne_of_gt (blk_lt (g := gb233) (o := .cells #[.int .i64 a0_0, .int .i64 a0_1, .int .i64 a0_2] 23 (0, 0)) (by (with_reducible repeat (first | refine blk_drewN ?_ _ | refine blk_drew ?_ | refine blk_alloc ?_ _)); exact BK233.out)) : gb234 ≠ gb233)); clear BK233; clear HB; have BK233 := n0_; have HB := n1_; have BK234 := n2_; have GW234 := n3_; have GE234 := n4_; have NB233_234 := n5_; have NB234_233 := n6_; clear n0_ n1_ n2_ n3_ n4_ n5_ n6_; clear hb hbox hg; have hnb27 := NB233_234.out; have hnc27 := NB234_233.out; have hcz28_0 : w26.cell? ⟨gb233, 0, none⟩ = some (.int .i64 a0_0) := (blk_cell BK233.out 0).trans rfl; have hcz28_1 : w26.cell? ⟨gb233, 1, none⟩ = some (.int .i64 a0_1) := (blk_cell BK233.out 1).trans rfl; have hcz28_2 : w26.cell? ⟨gb233, 2, none⟩ = some (.int .i64 a0_2) := (blk_cell BK233.out 2).trans rfl; have hfz28_0 := blk_frozen BK233.out 0; have hfz28_1 := blk_frozen BK233.out 1; have hfz28_2 := blk_frozen BK233.out 2) | ((with_reducible refine gate_callee (f := 40) rfl ?_); refine goesL_ (some 7) rfl rfl Try.func40 (by kernel_rfl) rfl #[.agg #[.int .i64 a0_0, .int .i64 a0_1, .int .i64 a0_2]] rfl (by (try simp only [List.map_toArray, List.map_cons, List.map_nil]); first | done | rfl | (simp only [List.length_drop, List.length_take]; rfl)) ?_; (with_reducible refine (symbolonref02_Right.calls a0_0 a0_1 a0_2 true _ A3.out).mono ?_); rintro e w29 ⟨rfl, hb⟩; refine ⟨_, rfl, ?_⟩; have n0_ := Aside0.mk (blk_below (g := gb233) (o := .cells #[.int .i64 a0_0, .int .i64 a0_1, .int .i64 a0_2] 23 (0, 0)) (by (with_reducible repeat (first | refine blk_drewN ?_ _ | refine blk_drew ?_ | refine blk_alloc ?_ _)); exact BK233.out) hb); have n1_ := Aside0.mk (blk_below (g := gb234) (o := .cells #[.int .i64 0, .int .i64 0, .int .i64 0] 23 (0, 0)) (by (with_reducible repeat (first | refine blk_drewN ?_ _ | refine blk_drew ?_ | refine blk_alloc ?_ _)); exact BK234.out) hb); have n2_ := Aside0.mk (below_step (by repeat (first | (with_reducible first | exact HB.out | apply below_alloc | apply pw_below_drewN | apply below_drew1 | refine below_set ?_ GE233.out | refine below_set ?_ GE234.out) | exact HB.out)) hb); clear BK233; clear BK234; clear HB; have BK233 := n0_; have BK234 := n1_; have HB := n2_; clear n0_ n1_ n2_; (try clear hb); (try clear hb2); (try clear hk); (try clear hi); have hcz30_0 : w29.cell? ⟨gb233, 0, none⟩ = some (.int .i64 a0_0) := (blk_cell BK233.out 0).trans rfl; have hcz30_1 : w29.cell? ⟨gb233, 1, none⟩ = some (.int .i64 a0_1) := (blk_cell BK233.out 1).trans rfl; have hcz30_2 : w29.cell? ⟨gb233, 2, none⟩ = some (.int .i64 a0_2) := (blk_cell BK233.out 2).trans rfl; have hfz30_0 := blk_frozen BK233.out 0; have hfz30_1 := blk_frozen BK233.out 1; have hfz30_2 := blk_frozen BK233.out 2; have hcz31_0 : w29.cell? ⟨gb234, 0, none⟩ = some (.int .i64 0) := (blk_cell BK234.out 0).trans rfl; have hcz31_1 : w29.cell? ⟨gb234, 1, none⟩ = some (.int .i64 0) := (blk_cell BK234.out 1).trans rfl; have hcz31_2 : w29.cell? ⟨gb234, 2, none⟩ = some (.int .i64 0) := (blk_cell BK234.out 2).trans rfl; have hfz31_0 := blk_frozen BK234.out 0; have hfz31_1 := blk_frozen BK234.out 1; have hfz31_2 := blk_frozen BK234.out 2))
            refine bodyPost_ret (results_ct rfl _ _ gb234 23 #[.int .i64 0, .int .i64 0, .int .i64 0] (0, 0) _ rfl (by (with_reducible repeat (first | refine blk_drewN ?_ _ | refine blk_drew ?_ | refine blk_alloc ?_ _)); refine blk_put (cs := #[.int .i64 0, .int .i64 0, .int .i64 0]) ?_ 2 _ rfl; (with_reducible repeat (first | refine blk_drewN ?_ _ | refine blk_drew ?_ | refine blk_alloc ?_ _)); refine blk_put (cs := #[.int .i64 0, .int .i64 0, .int .i64 0]) ?_ 1 _ rfl; (with_reducible repeat (first | refine blk_drewN ?_ _ | refine blk_drew ?_ | refine blk_alloc ?_ _)); refine blk_put (cs := #[.int .i64 0, .int .i64 0, .int .i64 0]) ?_ 0 _ rfl; (with_reducible repeat (first | refine blk_drewN ?_ _ | refine blk_drew ?_ | refine blk_alloc ?_ _)); exact BK234.out) Try.underlying23 rfl (by kernel_rfl)) rfl ?_
            exact ⟨by first | rfl | (simp [errW_none, errW_some] <;> rfl) | (simp [*, errW_none, errW_some] <;> rfl), by repeat (first | (with_reducible first | exact HB.out | apply below_alloc | apply pw_below_drewN | apply below_drew1 | refine below_set ?_ GE233.out | refine below_set ?_ GE234.out) | exact HB.out)⟩
        · rw [if_neg c13] at H
          have c13b0 : ((Int.tmod a0_1 a1) == 0) = false := beq_eq_false_iff_ne.mpr c13
          have c13b1 : ((Int.tmod a0_1 a1) != 0) = true := bne_iff_ne.mpr c13
          simp only [Option.some.injEq, Prod.mk.injEq] at H
          obtain ⟨rfl, rfl, rfl, rfl⟩ := H
          go_enter Try.func39, Try.ntmps39
          go_wp2_with (first | ((with_reducible refine gate_dst (N := 2) rfl ?_); refine box_event ?hg (N := 2) ?hd (cs := #[.int .i64 a0_0, .int .i64 a0_1, .int .i64 a0_2]) (t := 23) ?hr ?_; (case hd => rfl); (case hg => rfl); (case hr => first | (go_simp; done) | (go_simp; rfl)); intro gb233 hg w32 hbox hb; have n0_ := Aside0.mk (below_step (by repeat (first | (with_reducible first | exact HB.out | apply below_alloc | apply pw_below_drewN | apply below_drew1) | exact HB.out)) hb); have n1_ := Aside0.mk (hbox); have n2_ := Aside0.mk ((by rw [hg]; exact (below_size (by repeat (first | (with_reducible first | exact HB.out | apply below_alloc | apply pw_below_drewN | apply below_drew1) | exact HB.out))) : w.heap.size ≤ gb233)); have n3_ := Aside0.mk ((by rw [hg]; exact (below_size (by repeat (first | (with_reducible first | exact HB.out | apply below_alloc | apply pw_below_drewN | apply below_drew1) | exact HB.out))) : w.heap.size ≤ gb233)); clear HB; have HB := n0_; have BK233 := n1_; have GW233 := n2_; have GE233 := n3_; clear n0_ n1_ n2_ n3_; clear hb hbox hg) | ((with_reducible refine gate_dst (N := 4) rfl ?_); refine box_event ?hg (N := 4) ?hd (cs := #[.int .i64 0, .int .i64 0, .int .i64 0]) (t := 23) ?hr ?_; (case hd => rfl); (case hg => rfl); (case hr => first | (go_simp; done) | (go_simp; rfl)); intro gb234 hg w33 hbox hb; have n0_ := Aside0.mk (blk_below (g := gb233) (o := .cells #[.int .i64 a0_0, .int .i64 a0_1, .int .i64 a0_2] 23 (0, 0)) (by (with_reducible repeat (first | refine blk_drewN ?_ _ | refine blk_drew ?_ | refine blk_alloc ?_ _)); exact BK233.out) hb); have n1_ := Aside0.mk (below_step (by repeat (first | (with_reducible first | exact HB.out | apply below_alloc | apply pw_below_drewN | apply below_drew1 | refine below_set ?_ GE233.out) | exact HB.out)) hb); have n2_ := Aside0.mk (hbox); have n3_ := Aside0.mk ((by rw [hg]; exact (below_size (by repeat (first | (with_reducible first | exact HB.out | apply below_alloc | apply pw_below_drewN | apply below_drew1 | refine below_set ?_ GE233.out) | exact HB.out))) : w.heap.size ≤ gb234)); have n4_ := Aside0.mk ((by rw [hg]; exact (below_size (by repeat (first | (with_reducible first | exact HB.out | apply below_alloc | apply pw_below_drewN | apply below_drew1 | refine below_set ?_ GE233.out) | exact HB.out))) : w.heap.size ≤ gb234)); have n5_ := Aside0.mk ((by rw [hg]; exact Nat.ne_of_lt (blk_lt (g := gb233) (o := .cells #[.int .i64 a0_0, .int .i64 a0_1, .int .i64 a0_2] 23 (0, 0)) (by (with_reducible repeat (first | refine blk_drewN ?_ _ | refine blk_drew ?_ | refine blk_alloc ?_ _)); exact BK233.out)) : gb233 ≠ gb234)); have n6_ := Aside0.mk ((by rw [hg]; exact Nat.ne_of_gt (blk_lt (g := gb233) (o := .cells #[.int .i64 a0_0, .int .i64 a0_1, .int .i64 a0_2] 23 (0, 0)) (by (with_reducible repeat (first | refine blk_drewN ?_ _ | refine blk_drew ?_ | refine blk_alloc ?_ _)); exact BK233.out)) : gb234 ≠ gb233)); clear BK233; clear HB; have BK233 := n0_; have HB := n1_; have BK234 := n2_; have GW234 := n3_; have GE234 := n4_; have NB233_234 := n5_; have NB234_233 := n6_; clear n0_ n1_ n2_ n3_ n4_ n5_ n6_; clear hb hbox hg; have hnb34 := NB233_234.out; have hnc34 := NB234_233.out; have hcz35_0 : w33.cell? ⟨gb233, 0, none⟩ = some (.int .i64 a0_0) := (blk_cell BK233.out 0).trans rfl; have hcz35_1 : w33.cell? ⟨gb233, 1, none⟩ = some (.int .i64 a0_1) := (blk_cell BK233.out 1).trans rfl; have hcz35_2 : w33.cell? ⟨gb233, 2, none⟩ = some (.int .i64 a0_2) := (blk_cell BK233.out 2).trans rfl; have hfz35_0 := blk_frozen BK233.out 0; have hfz35_1 := blk_frozen BK233.out 1; have hfz35_2 := blk_frozen BK233.out 2) | ((with_reducible refine gate_callee (f := 40) rfl ?_); refine goesL_ (some 7) rfl rfl Try.func40 (by kernel_rfl) rfl #[.agg #[.int .i64 a0_0, .int .i64 a0_1, .int .i64 a0_2]] rfl (by (try simp only [List.map_toArray, List.map_cons, List.map_nil]); first | done | rfl | (simp only [List.length_drop, List.length_take]; rfl)) ?_; (with_reducible refine (symbolonref02_Right.calls a0_0 a0_1 a0_2 true _ A3.out).mono ?_); rintro e w36 ⟨rfl, hb⟩; refine ⟨_, rfl, ?_⟩; have n0_ := Aside0.mk (blk_below (g := gb233) (o := .cells #[.int .i64 a0_0, .int .i64 a0_1, .int .i64 a0_2] 23 (0, 0)) (by (with_reducible repeat (first | refine blk_drewN ?_ _ | refine blk_drew ?_ | refine blk_alloc ?_ _)); exact BK233.out) hb); have n1_ := Aside0.mk (blk_below (g := gb234) (o := .cells #[.int .i64 0, .int .i64 0, .int .i64 0] 23 (0, 0)) (by (with_reducible repeat (first | refine blk_drewN ?_ _ | refine blk_drew ?_ | refine blk_alloc ?_ _)); exact BK234.out) hb); have n2_ := Aside0.mk (below_step (by repeat (first | (with_reducible first | exact HB.out | apply below_alloc | apply pw_below_drewN | apply below_drew1 | refine below_set ?_ GE233.out | refine below_set ?_ GE234.out) | exact HB.out)) hb); clear BK233; clear BK234; clear HB; have BK233 := n0_; have BK234 := n1_; have HB := n2_; clear n0_ n1_ n2_; (try clear hb); (try clear hb2); (try clear hk); (try clear hi); have hcz37_0 : w36.cell? ⟨gb233, 0, none⟩ = some (.int .i64 a0_0) := (blk_cell BK233.out 0).trans rfl; have hcz37_1 : w36.cell? ⟨gb233, 1, none⟩ = some (.int .i64 a0_1) := (blk_cell BK233.out 1).trans rfl; have hcz37_2 : w36.cell? ⟨gb233, 2, none⟩ = some (.int .i64 a0_2) := (blk_cell BK233.out 2).trans rfl; have hfz37_0 := blk_frozen BK233.out 0; have hfz37_1 := blk_frozen BK233.out 1; have hfz37_2 := blk_frozen BK233.out 2; have hcz38_0 : w36.cell? ⟨gb234, 0, none⟩ = some (.int .i64 0) := (blk_cell BK234.out 0).trans rfl; have hcz38_1 : w36.cell? ⟨gb234, 1, none⟩ = some (.int .i64 0) := (blk_cell BK234.out 1).trans rfl; have hcz38_2 : w36.cell? ⟨gb234, 2, none⟩ = some (.int .i64 0) := (blk_cell BK234.out 2).trans rfl; have hfz38_0 := blk_frozen BK234.out 0; have hfz38_1 := blk_frozen BK234.out 1; have hfz38_2 := blk_frozen BK234.out 2))
          refine bodyPost_ret (results_ct rfl _ _ gb234 23 #[.int .i64 0, .int .i64 0, .int .i64 0] (0, 0) _ rfl (by (with_reducible repeat (first | refine blk_drewN ?_ _ | refine blk_drew ?_ | refine blk_alloc ?_ _)); refine blk_put (cs := #[.int .i64 0, .int .i64 0, .int .i64 0]) ?_ 2 _ rfl; (with_reducible repeat (first | refine blk_drewN ?_ _ | refine blk_drew ?_ | refine blk_alloc ?_ _)); refine blk_put (cs := #[.int .i64 0, .int .i64 0, .int .i64 0]) ?_ 1 _ rfl; (with_reducible repeat (first | refine blk_drewN ?_ _ | refine blk_drew ?_ | refine blk_alloc ?_ _)); refine blk_put (cs := #[.int .i64 0, .int .i64 0, .int .i64 0]) ?_ 0 _ rfl; (with_reducible repeat (first | refine blk_drewN ?_ _ | refine blk_drew ?_ | refine blk_alloc ?_ _)); exact BK234.out) Try.underlying23 rfl (by kernel_rfl)) rfl ?_
          exact ⟨by first | rfl | (simp [errW_none, errW_some] <;> rfl) | (simp [*, errW_none, errW_some] <;> rfl), by repeat (first | (with_reducible first | exact HB.out | apply below_alloc | apply pw_below_drewN | apply below_drew1 | refine below_set ?_ GE233.out | refine below_set ?_ GE234.out) | exact HB.out)⟩
  · replace c4 := Bool.eq_false_iff.mpr c4
    subst c4
    have H1 : (some (0, 0, 0, false)) = some (r1, r2, r3, r4) := by rw [if_neg (show ¬ (false = true) by decide)] at H; exact H
    clear H
    have H := H1
    clear H1
    simp only [Option.some.injEq, Prod.mk.injEq] at H
    obtain ⟨rfl, rfl, rfl, rfl⟩ := H
    go_enter Try.func39, Try.ntmps39
    go_wp2_with (first | ((with_reducible refine gate_dst (N := 2) rfl ?_); refine box_event ?hg (N := 2) ?hd (cs := #[.int .i64 a0_0, .int .i64 a0_1, .int .i64 a0_2]) (t := 23) ?hr ?_; (case hd => rfl); (case hg => rfl); (case hr => first | (go_simp; done) | (go_simp; rfl)); intro gb233 hg w39 hbox hb; have n0_ := Aside0.mk (below_step (by repeat (first | (with_reducible first | exact HB.out | apply below_alloc | apply pw_below_drewN | apply below_drew1) | exact HB.out)) hb); have n1_ := Aside0.mk (hbox); have n2_ := Aside0.mk ((by rw [hg]; exact (below_size (by repeat (first | (with_reducible first | exact HB.out | apply below_alloc | apply pw_below_drewN | apply below_drew1) | exact HB.out))) : w.heap.size ≤ gb233)); have n3_ := Aside0.mk ((by rw [hg]; exact (below_size (by repeat (first | (with_reducible first | exact HB.out | apply below_alloc | apply pw_below_drewN | apply below_drew1) | exact HB.out))) : w.heap.size ≤ gb233)); clear HB; have HB := n0_; have BK233 := n1_; have GW233 := n2_; have GE233 := n3_; clear n0_ n1_ n2_ n3_; clear hb hbox hg) | ((with_reducible refine gate_dst (N := 4) rfl ?_); refine box_event ?hg (N := 4) ?hd (cs := #[.int .i64 0, .int .i64 0, .int .i64 0]) (t := 23) ?hr ?_; (case hd => rfl); (case hg => rfl); (case hr => first | (go_simp; done) | (go_simp; rfl)); intro gb234 hg w40 hbox hb; have n0_ := Aside0.mk (blk_below (g := gb233) (o := .cells #[.int .i64 a0_0, .int .i64 a0_1, .int .i64 a0_2] 23 (0, 0)) (by (with_reducible repeat (first | refine blk_drewN ?_ _ | refine blk_drew ?_ | refine blk_alloc ?_ _)); exact BK233.out) hb); have n1_ := Aside0.mk (below_step (by repeat (first | (with_reducible first | exact HB.out | apply below_alloc | apply pw_below_drewN | apply below_drew1 | refine below_set ?_ GE233.out) | exact HB.out)) hb); have n2_ := Aside0.mk (hbox); have n3_ := Aside0.mk ((by rw [hg]; exact (below_size (by repeat (first | (with_reducible first | exact HB.out | apply below_alloc | apply pw_below_drewN | apply below_drew1 | refine below_set ?_ GE233.out) | exact HB.out))) : w.heap.size ≤ gb234)); have n4_ := Aside0.mk ((by rw [hg]; exact (below_size (by repeat (first | (with_reducible first | exact HB.out | apply below_alloc | apply pw_below_drewN | apply below_drew1 | refine below_set ?_ GE233.out) | exact HB.out))) : w.heap.size ≤ gb234)); have n5_ := Aside0.mk ((by rw [hg]; exact Nat.ne_of_lt (blk_lt (g := gb233) (o := .cells #[.int .i64 a0_0, .int .i64 a0_1, .int .i64 a0_2] 23 (0, 0)) (by (with_reducible repeat (first | refine blk_drewN ?_ _ | refine blk_drew ?_ | refine blk_alloc ?_ _)); exact BK233.out)) : gb233 ≠ gb234)); have n6_ := Aside0.mk ((by rw [hg]; exact Nat.ne_of_gt (blk_lt (g := gb233) (o := .cells #[.int .i64 a0_0, .int .i64 a0_1, .int .i64 a0_2] 23 (0, 0)) (by (with_reducible repeat (first | refine blk_drewN ?_ _ | refine blk_drew ?_ | refine blk_alloc ?_ _)); exact BK233.out)) : gb234 ≠ gb233)); clear BK233; clear HB; have BK233 := n0_; have HB := n1_; have BK234 := n2_; have GW234 := n3_; have GE234 := n4_; have NB233_234 := n5_; have NB234_233 := n6_; clear n0_ n1_ n2_ n3_ n4_ n5_ n6_; clear hb hbox hg; have hnb41 := NB233_234.out; have hnc41 := NB234_233.out; have hcz42_0 : w40.cell? ⟨gb233, 0, none⟩ = some (.int .i64 a0_0) := (blk_cell BK233.out 0).trans rfl; have hcz42_1 : w40.cell? ⟨gb233, 1, none⟩ = some (.int .i64 a0_1) := (blk_cell BK233.out 1).trans rfl; have hcz42_2 : w40.cell? ⟨gb233, 2, none⟩ = some (.int .i64 a0_2) := (blk_cell BK233.out 2).trans rfl; have hfz42_0 := blk_frozen BK233.out 0; have hfz42_1 := blk_frozen BK233.out 1; have hfz42_2 := blk_frozen BK233.out 2) | ((with_reducible refine gate_callee (f := 40) rfl ?_); refine goesL_ (some 7) rfl rfl Try.func40 (by kernel_rfl) rfl #[.agg #[.int .i64 a0_0, .int .i64 a0_1, .int .i64 a0_2]] rfl (by (try simp only [List.map_toArray, List.map_cons, List.map_nil]); first | done | rfl | (simp only [List.length_drop, List.length_take]; rfl)) ?_; (with_reducible refine (symbolonref02_Right.calls a0_0 a0_1 a0_2 false _ A3.out).mono ?_); rintro e w43 ⟨rfl, hb⟩; refine ⟨_, rfl, ?_⟩; have n0_ := Aside0.mk (blk_below (g := gb233) (o := .cells #[.int .i64 a0_0, .int .i64 a0_1, .int .i64 a0_2] 23 (0, 0)) (by (with_reducible repeat (first | refine blk_drewN ?_ _ | refine blk_drew ?_ | refine blk_alloc ?_ _)); exact BK233.out) hb); have n1_ := Aside0.mk (blk_below (g := gb234) (o := .cells #[.int .i64 0, .int .i64 0, .int .i64 0] 23 (0, 0)) (by (with_reducible repeat (first | refine blk_drewN ?_ _ | refine blk_drew ?_ | refine blk_alloc ?_ _)); exact BK234.out) hb); have n2_ := Aside0.mk (below_step (by repeat (first | (with_reducible first | exact HB.out | apply below_alloc | apply pw_below_drewN | apply below_drew1 | refine below_set ?_ GE233.out | refine below_set ?_ GE234.out) | exact HB.out)) hb); clear BK233; clear BK234; clear HB; have BK233 := n0_; have BK234 := n1_; have HB := n2_; clear n0_ n1_ n2_; (try clear hb); (try clear hb2); (try clear hk); (try clear hi); have hcz44_0 : w43.cell? ⟨gb234, 0, none⟩ = some (.int .i64 0) := (blk_cell BK234.out 0).trans rfl; have hcz44_1 : w43.cell? ⟨gb234, 1, none⟩ = some (.int .i64 0) := (blk_cell BK234.out 1).trans rfl; have hcz44_2 : w43.cell? ⟨gb234, 2, none⟩ = some (.int .i64 0) := (blk_cell BK234.out 2).trans rfl; have hfz44_0 := blk_frozen BK234.out 0; have hfz44_1 := blk_frozen BK234.out 1; have hfz44_2 := blk_frozen BK234.out 2))
    refine bodyPost_ret (results_ct rfl _ _ gb234 23 #[.int .i64 0, .int .i64 0, .int .i64 0] (0, 0) _ rfl (by (with_reducible repeat (first | refine blk_drewN ?_ _ | refine blk_drew ?_ | refine blk_alloc ?_ _)); refine blk_put (cs := #[.int .i64 0, .int .i64 0, .int .i64 0]) ?_ 2 _ rfl; (with_reducible repeat (first | refine blk_drewN ?_ _ | refine blk_drew ?_ | refine blk_alloc ?_ _)); refine blk_put (cs := #[.int .i64 0, .int .i64 0, .int .i64 0]) ?_ 1 _ rfl; (with_reducible repeat (first | refine blk_drewN ?_ _ | refine blk_drew ?_ | refine blk_alloc ?_ _)); refine blk_put (cs := #[.int .i64 0, .int .i64 0, .int .i64 0]) ?_ 0 _ rfl; (with_reducible repeat (first | refine blk_drewN ?_ _ | refine blk_drew ?_ | refine blk_alloc ?_ _)); exact BK234.out) Try.underlying23 rfl (by kernel_rfl)) rfl ?_
    exact ⟨by first | rfl | (simp [errW_none, errW_some] <;> rfl) | (simp [*, errW_none, errW_some] <;> rfl), by repeat (first | (with_reducible first | exact HB.out | apply below_alloc | apply pw_below_drewN | apply below_drew1 | refine below_set ?_ GE233.out | refine below_set ?_ GE234.out) | exact HB.out)⟩

/-! ### symbolonref02_Size: function 41 -/
def symbolonref02_Size.f (a0_0 : Int) (a0_1 : Int) (a0_2 : Int) : Option (Int) := (symbolonref02_Right.f a0_0 a0_1 a0_2).bind fun t248 => (if t248 = true then (some (wrap64 ((wrap64 (a0_0 * a0_1)) * a0_2))) else (some 0))
set_option maxHeartbeats 8000000 in
set_option maxRecDepth 100000 in
theorem symbolonref02_Size.calls (a0_0 : Int) (a0_1 : Int) (a0_2 : Int) (r : Int) (w : World) (h : symbolonref02_Size.f a0_0 a0_1 a0_2 = some r) :
    Calls Try.prog 41 #[.agg #[.int .i64 a0_0, .int .i64 a0_1, .int .i64 a0_2]] w fun e w' => e = .returned (.int .i64 r) ∧ Below w.heap.size w w' := by
  have hu23 := Try.underlying23
  have HB := Aside0.mk (Below.refl w.heap.size w)
  have H : ((symbolonref02_Right.f a0_0 a0_1 a0_2).bind fun t248 => (if t248 = true then (some (wrap64 ((wrap64 (a0_0 * a0_1)) * a0_2))) else (some 0))) = some r := h
  clear h
  replace H := Option.bind_eq_some_iff.mp H
  obtain ⟨t248, A20, H⟩ := H
  replace H : (if t248 = true then (some (wrap64 ((wrap64 (a0_0 * a0_1)) * a0_2))) else (some 0)) = some r := H
  have A2 := Aside0.mk A20
  clear A20
  by_cases c3 : t248 = true
  · subst c3
    have H1 : (some (wrap64 ((wrap64 (a0_0 * a0_1)) * a0_2))) = some r := by rw [if_pos rfl] at H; exact H
    clear H
    have H := H1
    clear H1
    obtain rfl := Option.some.inj H
    go_enter Try.func41, Try.ntmps41
    go_wp2_with (first | ((with_reducible refine gate_dst (N := 1) rfl ?_); refine box_event ?hg (N := 1) ?hd (cs := #[.int .i64 a0_0, .int .i64 a0_1, .int .i64 a0_2]) (t := 23) ?hr ?_; (case hd => rfl); (case hg => rfl); (case hr => first | (go_simp; done) | (go_simp; rfl)); intro gb247 hg w4 hbox hb; have n0_ := Aside0.mk (below_step (by repeat (first | (with_reducible first | exact HB.out | apply below_alloc | apply pw_below_drewN | apply below_drew1) | exact HB.out)) hb); have n1_ := Aside0.mk (hbox); have n2_ := Aside0.mk ((by rw [hg]; exact (below_size (by repeat (first | (with_reducible first | exact HB.out | apply below_alloc | apply pw_below_drewN | apply below_drew1) | exact HB.out))) : w.heap.size ≤ gb247)); have n3_ := Aside0.mk ((by rw [hg]; exact (below_size (by repeat (first | (with_reducible first | exact HB.out | apply below_alloc | apply pw_below_drewN | apply below_drew1) | exact HB.out))) : w.heap.size ≤ gb247)); clear HB; have HB := n0_; have BK247 := n1_; have GW247 := n2_; have GE247 := n3_; clear n0_ n1_ n2_ n3_; clear hb hbox hg; have hcz5_0 : w4.cell? ⟨gb247, 0, none⟩ = some (.int .i64 a0_0) := (blk_cell BK247.out 0).trans rfl; have hcz5_1 : w4.cell? ⟨gb247, 1, none⟩ = some (.int .i64 a0_1) := (blk_cell BK247.out 1).trans rfl; have hcz5_2 : w4.cell? ⟨gb247, 2, none⟩ = some (.int .i64 a0_2) := (blk_cell BK247.out 2).trans rfl; have hfz5_0 := blk_frozen BK247.out 0; have hfz5_1 := blk_frozen BK247.out 1; have hfz5_2 := blk_frozen BK247.out 2) | ((with_reducible refine gate_callee (f := 40) rfl ?_); refine goesL_ (some 4) rfl rfl Try.func40 (by kernel_rfl) rfl #[.agg #[.int .i64 a0_0, .int .i64 a0_1, .int .i64 a0_2]] rfl (by (try simp only [List.map_toArray, List.map_cons, List.map_nil]); first | done | rfl | (simp only [List.length_drop, List.length_take]; rfl)) ?_; (with_reducible refine (symbolonref02_Right.calls a0_0 a0_1 a0_2 true _ A2.out).mono ?_); rintro e w6 ⟨rfl, hb⟩; refine ⟨_, rfl, ?_⟩; have n0_ := Aside0.mk (blk_below (g := gb247) (o := .cells #[.int .i64 a0_0, .int .i64 a0_1, .int .i64 a0_2] 23 (0, 0)) (by (with_reducible repeat (first | refine blk_drewN ?_ _ | refine blk_drew ?_ | refine blk_alloc ?_ _)); exact BK247.out) hb); have n1_ := Aside0.mk (below_step (by repeat (first | (with_reducible first | exact HB.out | apply below_alloc | apply pw_below_drewN | apply below_drew1 | refine below_set ?_ GE247.out) | exact HB.out)) hb); clear BK247; clear HB; have BK247 := n0_; have HB := n1_; clear n0_ n1_; (try clear hb); (try clear hb2); (try clear hk); (try clear hi); have hcz7_0 : w6.cell? ⟨gb247, 0, none⟩ = some (.int .i64 a0_0) := (blk_cell BK247.out 0).trans rfl; have hcz7_1 : w6.cell? ⟨gb247, 1, none⟩ = some (.int .i64 a0_1) := (blk_cell BK247.out 1).trans rfl; have hcz7_2 : w6.cell? ⟨gb247, 2, none⟩ = some (.int .i64 a0_2) := (blk_cell BK247.out 2).trans rfl; have hfz7_0 := blk_frozen BK247.out 0; have hfz7_1 := blk_frozen BK247.out 1; have hfz7_2 := blk_frozen BK247.out 2))
    go_ret
    exact ⟨by first | rfl | (simp [errW_none, errW_some] <;> rfl) | (simp [*, errW_none, errW_some] <;> rfl), by repeat (first | (with_reducible first | exact HB.out | apply below_alloc | apply pw_below_drewN | apply below_drew1 | refine below_set ?_ GE247.out) | exact HB.out)⟩
  · replace c3 := Bool.eq_false_iff.mpr c3
    subst c3
    have H1 : (some 0) = some r := by rw [if_neg (show ¬ (false = true) by decide)] at H; exact H
    clear H
    have H := H1
    clear H1
    obtain rfl := Option.some.inj H
    go_enter Try.func41, Try.ntmps41
    go_wp2_with (first | ((with_reducible refine gate_dst (N := 1) rfl ?_); refine box_event ?hg (N := 1) ?hd (cs := #[.int .i64 a0_0, .int .i64 a0_1, .int .i64 a0_2]) (t := 23) ?hr ?_; (case hd => rfl); (case hg => rfl); (case hr => first | (go_simp; done) | (go_simp; rfl)); intro gb247 hg w8 hbox hb; have n0_ := Aside0.mk (below_step (by repeat (first | (with_reducible first | exact HB.out | apply below_alloc | apply pw_below_drewN | apply below_drew1) | exact HB.out)) hb); have n1_ := Aside0.mk (hbox); have n2_ := Aside0.mk ((by rw [hg]; exact (below_size (by repeat (first | (with_reducible first | exact HB.out | apply below_alloc | apply pw_below_drewN | apply below_drew1) | exact HB.out))) : w.heap.size ≤ gb247)); have n3_ := Aside0.mk ((by rw [hg]; exact (below_size (by repeat (first | (with_reducible first | exact HB.out | apply below_alloc | apply pw_below_drewN | apply below_drew1) | exact HB.out))) : w.heap.size ≤ gb247)); clear HB; have HB := n0_; have BK247 := n1_; have GW247 := n2_; have GE247 := n3_; clear n0_ n1_ n2_ n3_; clear hb hbox hg; have hcz9_0 : w8.cell? ⟨gb247, 0, none⟩ = some (.int .i64 a0_0) := (blk_cell BK247.out 0).trans rfl; have hcz9_1 : w8.cell? ⟨gb247, 1, none⟩ = some (.int .i64 a0_1) := (blk_cell BK247.out 1).trans rfl; have hcz9_2 : w8.cell? ⟨gb247, 2, none⟩ = some (.int .i64 a0_2) := (blk_cell BK247.out 2).trans rfl; have hfz9_0 := blk_frozen BK247.out 0; have hfz9_1 := blk_frozen BK247.out 1; have hfz9_2 := blk_frozen BK247.out 2) | ((with_reducible refine gate_callee (f := 40) rfl ?_); refine goesL_ (some 4) rfl rfl Try.func40 (by kernel_rfl) rfl #[.agg #[.int .i64 a0_0, .int .i64 a0_1, .int .i64 a0_2]] rfl (by (try simp only [List.map_toArray, List.map_cons, List.map_nil]); first | done | rfl | (simp only [List.length_drop, List.length_take]; rfl)) ?_; (with_reducible refine (symbolonref02_Right.calls a0_0 a0_1 a0_2 false _ A2.out).mono ?_); rintro e w10 ⟨rfl, hb⟩; refine ⟨_, rfl, ?_⟩; have n0_ := Aside0.mk (blk_below (g := gb247) (o := .cells #[.int .i64 a0_0, .int .i64 a0_1, .int .i64 a0_2] 23 (0, 0)) (by (with_reducible repeat (first | refine blk_drewN ?_ _ | refine blk_drew ?_ | refine blk_alloc ?_ _)); exact BK247.out) hb); have n1_ := Aside0.mk (below_step (by repeat (first | (with_reducible first | exact HB.out | apply below_alloc | apply pw_below_drewN | apply below_drew1 | refine below_set ?_ GE247.out) | exact HB.out)) hb); clear BK247; clear HB; have BK247 := n0_; have HB := n1_; clear n0_ n1_; (try clear hb); (try clear hb2); (try clear hk); (try clear hi)))
    go_ret
    exact ⟨by first | rfl | (simp [errW_none, errW_some] <;> rfl) | (simp [*, errW_none, errW_some] <;> rfl), by repeat (first | (with_reducible first | exact HB.out | apply below_alloc | apply pw_below_drewN | apply below_drew1 | refine below_set ?_ GE247.out) | exact HB.out)⟩

end Go.Proofs.Ytnfcadjckoebkaa.P
