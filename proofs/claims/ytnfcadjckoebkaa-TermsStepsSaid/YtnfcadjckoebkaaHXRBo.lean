
import Derived.Test.YtnfcadjckoebkaaHX0
import Derived.Test.YtnfcadjckoebkaaHXRi
namespace Go.Proofs.Ytnfcadjckoebkaa.P
open Go.RowKit Go.Proofs.YtnfcadjckoebkaaW.PrintWords Go.Proofs.YtnfcadjckoebkaaW.PrintLast Go.Proofs.YtnfcadjckoebkaaW.PrintMore
attribute [local go_sem] min2_int min_two
set_option linter.unusedVariables false
set_option linter.unusedSimpArgs false
def symbolonref02_At.f (a0_0 : Int) (a0_1 : Int) (a0_2 : Int) (a1 : Int) (a2 : Int) (a3 : Int) : Option (Int) := (h02_Right.f a0_0 a0_1 a0_2).bind fun t503 => (if t503 = true then (if a1 < 0 then (some (-1)) else (if a1 ≥ a0_0 then (some (-1)) else (if a2 < 0 then (some (-1)) else (if a2 ≥ a0_1 then (some (-1)) else (if a3 < 0 then (some (-1)) else (if a3 ≥ a0_2 then (some (-1)) else (some (wrap64 ((wrap64 ((wrap64 ((wrap64 (a1 * a0_1)) + a2)) * a0_2)) + a3))))))))) else (some (-1)))
set_option maxHeartbeats 8000000 in
set_option maxRecDepth 100000 in
theorem symbolonref02_At.calls (a0_0 : Int) (a0_1 : Int) (a0_2 : Int) (a1 : Int) (a2 : Int) (a3 : Int) (r : Int) (w : World) (h : symbolonref02_At.f a0_0 a0_1 a0_2 a1 a2 a3 = some r) :
    Calls Try.prog 92 #[.agg #[.int .i64 a0_0, .int .i64 a0_1, .int .i64 a0_2], .int .i64 a1, .int .i64 a2, .int .i64 a3] w fun e w' => e = .returned (.int .i64 r) ∧ Below w.heap.size w w' := by
  have hu23 := Try.underlying23
  have HB := Aside0.mk (Below.refl w.heap.size w)
  have H : ((h02_Right.f a0_0 a0_1 a0_2).bind fun t503 => (if t503 = true then (if a1 < 0 then (some (-1)) else (if a1 ≥ a0_0 then (some (-1)) else (if a2 < 0 then (some (-1)) else (if a2 ≥ a0_1 then (some (-1)) else (if a3 < 0 then (some (-1)) else (if a3 ≥ a0_2 then (some (-1)) else (some (wrap64 ((wrap64 ((wrap64 ((wrap64 (a1 * a0_1)) + a2)) * a0_2)) + a3))))))))) else (some (-1)))) = some r := h
  clear h
  replace H := Option.bind_eq_some_iff.mp H
  obtain ⟨t503, A50, H⟩ := H
  replace H : (if t503 = true then (if a1 < 0 then (some (-1)) else (if a1 ≥ a0_0 then (some (-1)) else (if a2 < 0 then (some (-1)) else (if a2 ≥ a0_1 then (some (-1)) else (if a3 < 0 then (some (-1)) else (if a3 ≥ a0_2 then (some (-1)) else (some (wrap64 ((wrap64 ((wrap64 ((wrap64 (a1 * a0_1)) + a2)) * a0_2)) + a3))))))))) else (some (-1))) = some r := H
  have A5 := Aside0.mk A50
  clear A50
  by_cases c6 : t503 = true
  · subst c6
    have H1 : (if a1 < 0 then (some (-1)) else (if a1 ≥ a0_0 then (some (-1)) else (if a2 < 0 then (some (-1)) else (if a2 ≥ a0_1 then (some (-1)) else (if a3 < 0 then (some (-1)) else (if a3 ≥ a0_2 then (some (-1)) else (some (wrap64 ((wrap64 ((wrap64 ((wrap64 (a1 * a0_1)) + a2)) * a0_2)) + a3))))))))) = some r := by rw [if_pos rfl] at H; exact H
    clear H
    have H := H1
    clear H1
    by_cases c7 : a1 < 0
    · rw [if_pos c7] at H
      have c7b0 : decide (a1 < 0) = true := decide_eq_true c7
      clear c7
      obtain rfl := Option.some.inj H
      go_enter Try.func92, Try.ntmps92
      go_wp2_with (first | ((with_reducible refine gate_dst (N := 4) rfl ?_); refine box_event ?hg (N := 4) ?hd (cs := #[.int .i64 a0_0, .int .i64 a0_1, .int .i64 a0_2]) (t := 23) ?hr ?_; (case hd => rfl); (case hg => rfl); (case hr => first | (go_simp; done) | (go_simp; rfl)); intro gb502 hg w8 hbox hb; have n0_ := Aside0.mk (below_step (by repeat (first | (with_reducible first | exact HB.out | apply below_alloc | apply pw_below_drewN | apply below_drew1) | exact HB.out)) hb); have n1_ := Aside0.mk (hbox); have n2_ := Aside0.mk ((by rw [hg]; exact (below_size (by repeat (first | (with_reducible first | exact HB.out | apply below_alloc | apply pw_below_drewN | apply below_drew1) | exact HB.out))) : w.heap.size ≤ gb502)); have n3_ := Aside0.mk ((by rw [hg]; exact (below_size (by repeat (first | (with_reducible first | exact HB.out | apply below_alloc | apply pw_below_drewN | apply below_drew1) | exact HB.out))) : w.heap.size ≤ gb502)); clear HB; have HB := n0_; have BK502 := n1_; have GW502 := n2_; have GE502 := n3_; clear n0_ n1_ n2_ n3_; clear hb hbox hg; have hcz9_0 : w8.cell? ⟨gb502, 0, none⟩ = some (.int .i64 a0_0) := (blk_cell BK502.out 0).trans rfl; have hcz9_1 : w8.cell? ⟨gb502, 1, none⟩ = some (.int .i64 a0_1) := (blk_cell BK502.out 1).trans rfl; have hcz9_2 : w8.cell? ⟨gb502, 2, none⟩ = some (.int .i64 a0_2) := (blk_cell BK502.out 2).trans rfl; have hfz9_0 := blk_frozen BK502.out 0; have hfz9_1 := blk_frozen BK502.out 1; have hfz9_2 := blk_frozen BK502.out 2) | ((with_reducible refine gate_callee (f := 40) rfl ?_); refine goesL_ (some 10) rfl rfl Try.func40 (by kernel_rfl) rfl #[.agg #[.int .i64 a0_0, .int .i64 a0_1, .int .i64 a0_2]] rfl (by (try simp only [List.map_toArray, List.map_cons, List.map_nil]); first | done | rfl | (simp only [List.length_drop, List.length_take]; rfl)) ?_; (with_reducible refine (h02_Right.calls a0_0 a0_1 a0_2 true _ A5.out).mono ?_); rintro e w10 ⟨rfl, hb⟩; refine ⟨_, rfl, ?_⟩; have n0_ := Aside0.mk (blk_below (g := gb502) (o := .cells #[.int .i64 a0_0, .int .i64 a0_1, .int .i64 a0_2] 23 (0, 0)) (by (with_reducible repeat (first | refine blk_drewN ?_ _ | refine blk_drew ?_ | refine blk_alloc ?_ _)); exact BK502.out) hb); have n1_ := Aside0.mk (below_step (by repeat (first | (with_reducible first | exact HB.out | apply below_alloc | apply pw_below_drewN | apply below_drew1 | refine below_set ?_ GE502.out) | exact HB.out)) hb); clear BK502; clear HB; have BK502 := n0_; have HB := n1_; clear n0_ n1_; (try clear hb); (try clear hb2); (try clear hk); (try clear hi)))
      go_ret
      exact ⟨by first | rfl | (simp [errW_none, errW_some] <;> rfl) | (simp [*, errW_none, errW_some] <;> rfl), by repeat (first | (with_reducible first | exact HB.out | apply below_alloc | apply pw_below_drewN | apply below_drew1 | refine below_set ?_ GE502.out) | exact HB.out)⟩
    · rw [if_neg c7] at H
      have c7b0 : decide (a1 < 0) = false := decide_eq_false c7
      clear c7
      by_cases c11 : a1 ≥ a0_0
      · rw [if_pos c11] at H
        have c11b0 : decide (a0_0 ≤ a1) = true := decide_eq_true c11
        clear c11
        obtain rfl := Option.some.inj H
        go_enter Try.func92, Try.ntmps92
        go_wp2_with (first | ((with_reducible refine gate_dst (N := 4) rfl ?_); refine box_event ?hg (N := 4) ?hd (cs := #[.int .i64 a0_0, .int .i64 a0_1, .int .i64 a0_2]) (t := 23) ?hr ?_; (case hd => rfl); (case hg => rfl); (case hr => first | (go_simp; done) | (go_simp; rfl)); intro gb502 hg w12 hbox hb; have n0_ := Aside0.mk (below_step (by repeat (first | (with_reducible first | exact HB.out | apply below_alloc | apply pw_below_drewN | apply below_drew1) | exact HB.out)) hb); have n1_ := Aside0.mk (hbox); have n2_ := Aside0.mk ((by rw [hg]; exact (below_size (by repeat (first | (with_reducible first | exact HB.out | apply below_alloc | apply pw_below_drewN | apply below_drew1) | exact HB.out))) : w.heap.size ≤ gb502)); have n3_ := Aside0.mk ((by rw [hg]; exact (below_size (by repeat (first | (with_reducible first | exact HB.out | apply below_alloc | apply pw_below_drewN | apply below_drew1) | exact HB.out))) : w.heap.size ≤ gb502)); clear HB; have HB := n0_; have BK502 := n1_; have GW502 := n2_; have GE502 := n3_; clear n0_ n1_ n2_ n3_; clear hb hbox hg; have hcz13_0 : w12.cell? ⟨gb502, 0, none⟩ = some (.int .i64 a0_0) := (blk_cell BK502.out 0).trans rfl; have hcz13_1 : w12.cell? ⟨gb502, 1, none⟩ = some (.int .i64 a0_1) := (blk_cell BK502.out 1).trans rfl; have hcz13_2 : w12.cell? ⟨gb502, 2, none⟩ = some (.int .i64 a0_2) := (blk_cell BK502.out 2).trans rfl; have hfz13_0 := blk_frozen BK502.out 0; have hfz13_1 := blk_frozen BK502.out 1; have hfz13_2 := blk_frozen BK502.out 2) | ((with_reducible refine gate_callee (f := 40) rfl ?_); refine goesL_ (some 10) rfl rfl Try.func40 (by kernel_rfl) rfl #[.agg #[.int .i64 a0_0, .int .i64 a0_1, .int .i64 a0_2]] rfl (by (try simp only [List.map_toArray, List.map_cons, List.map_nil]); first | done | rfl | (simp only [List.length_drop, List.length_take]; rfl)) ?_; (with_reducible refine (h02_Right.calls a0_0 a0_1 a0_2 true _ A5.out).mono ?_); rintro e w14 ⟨rfl, hb⟩; refine ⟨_, rfl, ?_⟩; have n0_ := Aside0.mk (blk_below (g := gb502) (o := .cells #[.int .i64 a0_0, .int .i64 a0_1, .int .i64 a0_2] 23 (0, 0)) (by (with_reducible repeat (first | refine blk_drewN ?_ _ | refine blk_drew ?_ | refine blk_alloc ?_ _)); exact BK502.out) hb); have n1_ := Aside0.mk (below_step (by repeat (first | (with_reducible first | exact HB.out | apply below_alloc | apply pw_below_drewN | apply below_drew1 | refine below_set ?_ GE502.out) | exact HB.out)) hb); clear BK502; clear HB; have BK502 := n0_; have HB := n1_; clear n0_ n1_; (try clear hb); (try clear hb2); (try clear hk); (try clear hi); have hcz15_0 : w14.cell? ⟨gb502, 0, none⟩ = some (.int .i64 a0_0) := (blk_cell BK502.out 0).trans rfl; have hcz15_1 : w14.cell? ⟨gb502, 1, none⟩ = some (.int .i64 a0_1) := (blk_cell BK502.out 1).trans rfl; have hcz15_2 : w14.cell? ⟨gb502, 2, none⟩ = some (.int .i64 a0_2) := (blk_cell BK502.out 2).trans rfl; have hfz15_0 := blk_frozen BK502.out 0; have hfz15_1 := blk_frozen BK502.out 1; have hfz15_2 := blk_frozen BK502.out 2))
        go_ret
        exact ⟨by first | rfl | (simp [errW_none, errW_some] <;> rfl) | (simp [*, errW_none, errW_some] <;> rfl), by repeat (first | (with_reducible first | exact HB.out | apply below_alloc | apply pw_below_drewN | apply below_drew1 | refine below_set ?_ GE502.out) | exact HB.out)⟩
      · rw [if_neg c11] at H
        have c11b0 : decide (a0_0 ≤ a1) = false := decide_eq_false c11
        clear c11
        by_cases c16 : a2 < 0
        · rw [if_pos c16] at H
          have c16b0 : decide (a2 < 0) = true := decide_eq_true c16
          clear c16
          obtain rfl := Option.some.inj H
          go_enter Try.func92, Try.ntmps92
          go_wp2_with (first | ((with_reducible refine gate_dst (N := 4) rfl ?_); refine box_event ?hg (N := 4) ?hd (cs := #[.int .i64 a0_0, .int .i64 a0_1, .int .i64 a0_2]) (t := 23) ?hr ?_; (case hd => rfl); (case hg => rfl); (case hr => first | (go_simp; done) | (go_simp; rfl)); intro gb502 hg w17 hbox hb; have n0_ := Aside0.mk (below_step (by repeat (first | (with_reducible first | exact HB.out | apply below_alloc | apply pw_below_drewN | apply below_drew1) | exact HB.out)) hb); have n1_ := Aside0.mk (hbox); have n2_ := Aside0.mk ((by rw [hg]; exact (below_size (by repeat (first | (with_reducible first | exact HB.out | apply below_alloc | apply pw_below_drewN | apply below_drew1) | exact HB.out))) : w.heap.size ≤ gb502)); have n3_ := Aside0.mk ((by rw [hg]; exact (below_size (by repeat (first | (with_reducible first | exact HB.out | apply below_alloc | apply pw_below_drewN | apply below_drew1) | exact HB.out))) : w.heap.size ≤ gb502)); clear HB; have HB := n0_; have BK502 := n1_; have GW502 := n2_; have GE502 := n3_; clear n0_ n1_ n2_ n3_; clear hb hbox hg; have hcz18_0 : w17.cell? ⟨gb502, 0, none⟩ = some (.int .i64 a0_0) := (blk_cell BK502.out 0).trans rfl; have hcz18_1 : w17.cell? ⟨gb502, 1, none⟩ = some (.int .i64 a0_1) := (blk_cell BK502.out 1).trans rfl; have hcz18_2 : w17.cell? ⟨gb502, 2, none⟩ = some (.int .i64 a0_2) := (blk_cell BK502.out 2).trans rfl; have hfz18_0 := blk_frozen BK502.out 0; have hfz18_1 := blk_frozen BK502.out 1; have hfz18_2 := blk_frozen BK502.out 2) | ((with_reducible refine gate_callee (f := 40) rfl ?_); refine goesL_ (some 10) rfl rfl Try.func40 (by kernel_rfl) rfl #[.agg #[.int .i64 a0_0, .int .i64 a0_1, .int .i64 a0_2]] rfl (by (try simp only [List.map_toArray, List.map_cons, List.map_nil]); first | done | rfl | (simp only [List.length_drop, List.length_take]; rfl)) ?_; (with_reducible refine (h02_Right.calls a0_0 a0_1 a0_2 true _ A5.out).mono ?_); rintro e w19 ⟨rfl, hb⟩; refine ⟨_, rfl, ?_⟩; have n0_ := Aside0.mk (blk_below (g := gb502) (o := .cells #[.int .i64 a0_0, .int .i64 a0_1, .int .i64 a0_2] 23 (0, 0)) (by (with_reducible repeat (first | refine blk_drewN ?_ _ | refine blk_drew ?_ | refine blk_alloc ?_ _)); exact BK502.out) hb); have n1_ := Aside0.mk (below_step (by repeat (first | (with_reducible first | exact HB.out | apply below_alloc | apply pw_below_drewN | apply below_drew1 | refine below_set ?_ GE502.out) | exact HB.out)) hb); clear BK502; clear HB; have BK502 := n0_; have HB := n1_; clear n0_ n1_; (try clear hb); (try clear hb2); (try clear hk); (try clear hi); have hcz20_0 : w19.cell? ⟨gb502, 0, none⟩ = some (.int .i64 a0_0) := (blk_cell BK502.out 0).trans rfl; have hcz20_1 : w19.cell? ⟨gb502, 1, none⟩ = some (.int .i64 a0_1) := (blk_cell BK502.out 1).trans rfl; have hcz20_2 : w19.cell? ⟨gb502, 2, none⟩ = some (.int .i64 a0_2) := (blk_cell BK502.out 2).trans rfl; have hfz20_0 := blk_frozen BK502.out 0; have hfz20_1 := blk_frozen BK502.out 1; have hfz20_2 := blk_frozen BK502.out 2))
          go_ret
          exact ⟨by first | rfl | (simp [errW_none, errW_some] <;> rfl) | (simp [*, errW_none, errW_some] <;> rfl), by repeat (first | (with_reducible first | exact HB.out | apply below_alloc | apply pw_below_drewN | apply below_drew1 | refine below_set ?_ GE502.out) | exact HB.out)⟩
        · rw [if_neg c16] at H
          have c16b0 : decide (a2 < 0) = false := decide_eq_false c16
          clear c16
          by_cases c21 : a2 ≥ a0_1
          · rw [if_pos c21] at H
            have c21b0 : decide (a0_1 ≤ a2) = true := decide_eq_true c21
            clear c21
            obtain rfl := Option.some.inj H
            go_enter Try.func92, Try.ntmps92
            go_wp2_with (first | ((with_reducible refine gate_dst (N := 4) rfl ?_); refine box_event ?hg (N := 4) ?hd (cs := #[.int .i64 a0_0, .int .i64 a0_1, .int .i64 a0_2]) (t := 23) ?hr ?_; (case hd => rfl); (case hg => rfl); (case hr => first | (go_simp; done) | (go_simp; rfl)); intro gb502 hg w22 hbox hb; have n0_ := Aside0.mk (below_step (by repeat (first | (with_reducible first | exact HB.out | apply below_alloc | apply pw_below_drewN | apply below_drew1) | exact HB.out)) hb); have n1_ := Aside0.mk (hbox); have n2_ := Aside0.mk ((by rw [hg]; exact (below_size (by repeat (first | (with_reducible first | exact HB.out | apply below_alloc | apply pw_below_drewN | apply below_drew1) | exact HB.out))) : w.heap.size ≤ gb502)); have n3_ := Aside0.mk ((by rw [hg]; exact (below_size (by repeat (first | (with_reducible first | exact HB.out | apply below_alloc | apply pw_below_drewN | apply below_drew1) | exact HB.out))) : w.heap.size ≤ gb502)); clear HB; have HB := n0_; have BK502 := n1_; have GW502 := n2_; have GE502 := n3_; clear n0_ n1_ n2_ n3_; clear hb hbox hg; have hcz23_0 : w22.cell? ⟨gb502, 0, none⟩ = some (.int .i64 a0_0) := (blk_cell BK502.out 0).trans rfl; have hcz23_1 : w22.cell? ⟨gb502, 1, none⟩ = some (.int .i64 a0_1) := (blk_cell BK502.out 1).trans rfl; have hcz23_2 : w22.cell? ⟨gb502, 2, none⟩ = some (.int .i64 a0_2) := (blk_cell BK502.out 2).trans rfl; have hfz23_0 := blk_frozen BK502.out 0; have hfz23_1 := blk_frozen BK502.out 1; have hfz23_2 := blk_frozen BK502.out 2) | ((with_reducible refine gate_callee (f := 40) rfl ?_); refine goesL_ (some 10) rfl rfl Try.func40 (by kernel_rfl) rfl #[.agg #[.int .i64 a0_0, .int .i64 a0_1, .int .i64 a0_2]] rfl (by (try simp only [List.map_toArray, List.map_cons, List.map_nil]); first | done | rfl | (simp only [List.length_drop, List.length_take]; rfl)) ?_; (with_reducible refine (h02_Right.calls a0_0 a0_1 a0_2 true _ A5.out).mono ?_); rintro e w24 ⟨rfl, hb⟩; refine ⟨_, rfl, ?_⟩; have n0_ := Aside0.mk (blk_below (g := gb502) (o := .cells #[.int .i64 a0_0, .int .i64 a0_1, .int .i64 a0_2] 23 (0, 0)) (by (with_reducible repeat (first | refine blk_drewN ?_ _ | refine blk_drew ?_ | refine blk_alloc ?_ _)); exact BK502.out) hb); have n1_ := Aside0.mk (below_step (by repeat (first | (with_reducible first | exact HB.out | apply below_alloc | apply pw_below_drewN | apply below_drew1 | refine below_set ?_ GE502.out) | exact HB.out)) hb); clear BK502; clear HB; have BK502 := n0_; have HB := n1_; clear n0_ n1_; (try clear hb); (try clear hb2); (try clear hk); (try clear hi); have hcz25_0 : w24.cell? ⟨gb502, 0, none⟩ = some (.int .i64 a0_0) := (blk_cell BK502.out 0).trans rfl; have hcz25_1 : w24.cell? ⟨gb502, 1, none⟩ = some (.int .i64 a0_1) := (blk_cell BK502.out 1).trans rfl; have hcz25_2 : w24.cell? ⟨gb502, 2, none⟩ = some (.int .i64 a0_2) := (blk_cell BK502.out 2).trans rfl; have hfz25_0 := blk_frozen BK502.out 0; have hfz25_1 := blk_frozen BK502.out 1; have hfz25_2 := blk_frozen BK502.out 2))
            go_ret
            exact ⟨by first | rfl | (simp [errW_none, errW_some] <;> rfl) | (simp [*, errW_none, errW_some] <;> rfl), by repeat (first | (with_reducible first | exact HB.out | apply below_alloc | apply pw_below_drewN | apply below_drew1 | refine below_set ?_ GE502.out) | exact HB.out)⟩
          · rw [if_neg c21] at H
            have c21b0 : decide (a0_1 ≤ a2) = false := decide_eq_false c21
            clear c21
            by_cases c26 : a3 < 0
            · rw [if_pos c26] at H
              have c26b0 : decide (a3 < 0) = true := decide_eq_true c26
              clear c26
              obtain rfl := Option.some.inj H
              go_enter Try.func92, Try.ntmps92
              go_wp2_with (first | ((with_reducible refine gate_dst (N := 4) rfl ?_); refine box_event ?hg (N := 4) ?hd (cs := #[.int .i64 a0_0, .int .i64 a0_1, .int .i64 a0_2]) (t := 23) ?hr ?_; (case hd => rfl); (case hg => rfl); (case hr => first | (go_simp; done) | (go_simp; rfl)); intro gb502 hg w27 hbox hb; have n0_ := Aside0.mk (below_step (by repeat (first | (with_reducible first | exact HB.out | apply below_alloc | apply pw_below_drewN | apply below_drew1) | exact HB.out)) hb); have n1_ := Aside0.mk (hbox); have n2_ := Aside0.mk ((by rw [hg]; exact (below_size (by repeat (first | (with_reducible first | exact HB.out | apply below_alloc | apply pw_below_drewN | apply below_drew1) | exact HB.out))) : w.heap.size ≤ gb502)); have n3_ := Aside0.mk ((by rw [hg]; exact (below_size (by repeat (first | (with_reducible first | exact HB.out | apply below_alloc | apply pw_below_drewN | apply below_drew1) | exact HB.out))) : w.heap.size ≤ gb502)); clear HB; have HB := n0_; have BK502 := n1_; have GW502 := n2_; have GE502 := n3_; clear n0_ n1_ n2_ n3_; clear hb hbox hg; have hcz28_0 : w27.cell? ⟨gb502, 0, none⟩ = some (.int .i64 a0_0) := (blk_cell BK502.out 0).trans rfl; have hcz28_1 : w27.cell? ⟨gb502, 1, none⟩ = some (.int .i64 a0_1) := (blk_cell BK502.out 1).trans rfl; have hcz28_2 : w27.cell? ⟨gb502, 2, none⟩ = some (.int .i64 a0_2) := (blk_cell BK502.out 2).trans rfl; have hfz28_0 := blk_frozen BK502.out 0; have hfz28_1 := blk_frozen BK502.out 1; have hfz28_2 := blk_frozen BK502.out 2) | ((with_reducible refine gate_callee (f := 40) rfl ?_); refine goesL_ (some 10) rfl rfl Try.func40 (by kernel_rfl) rfl #[.agg #[.int .i64 a0_0, .int .i64 a0_1, .int .i64 a0_2]] rfl (by (try simp only [List.map_toArray, List.map_cons, List.map_nil]); first | done | rfl | (simp only [List.length_drop, List.length_take]; rfl)) ?_; (with_reducible refine (h02_Right.calls a0_0 a0_1 a0_2 true _ A5.out).mono ?_); rintro e w29 ⟨rfl, hb⟩; refine ⟨_, rfl, ?_⟩; have n0_ := Aside0.mk (blk_below (g := gb502) (o := .cells #[.int .i64 a0_0, .int .i64 a0_1, .int .i64 a0_2] 23 (0, 0)) (by (with_reducible repeat (first | refine blk_drewN ?_ _ | refine blk_drew ?_ | refine blk_alloc ?_ _)); exact BK502.out) hb); have n1_ := Aside0.mk (below_step (by repeat (first | (with_reducible first | exact HB.out | apply below_alloc | apply pw_below_drewN | apply below_drew1 | refine below_set ?_ GE502.out) | exact HB.out)) hb); clear BK502; clear HB; have BK502 := n0_; have HB := n1_; clear n0_ n1_; (try clear hb); (try clear hb2); (try clear hk); (try clear hi); have hcz30_0 : w29.cell? ⟨gb502, 0, none⟩ = some (.int .i64 a0_0) := (blk_cell BK502.out 0).trans rfl; have hcz30_1 : w29.cell? ⟨gb502, 1, none⟩ = some (.int .i64 a0_1) := (blk_cell BK502.out 1).trans rfl; have hcz30_2 : w29.cell? ⟨gb502, 2, none⟩ = some (.int .i64 a0_2) := (blk_cell BK502.out 2).trans rfl; have hfz30_0 := blk_frozen BK502.out 0; have hfz30_1 := blk_frozen BK502.out 1; have hfz30_2 := blk_frozen BK502.out 2))
              go_ret
              exact ⟨by first | rfl | (simp [errW_none, errW_some] <;> rfl) | (simp [*, errW_none, errW_some] <;> rfl), by repeat (first | (with_reducible first | exact HB.out | apply below_alloc | apply pw_below_drewN | apply below_drew1 | refine below_set ?_ GE502.out) | exact HB.out)⟩
            · rw [if_neg c26] at H
              have c26b0 : decide (a3 < 0) = false := decide_eq_false c26
              clear c26
              by_cases c31 : a3 ≥ a0_2
              · rw [if_pos c31] at H
                have c31b0 : decide (a0_2 ≤ a3) = true := decide_eq_true c31
                clear c31
                obtain rfl := Option.some.inj H
                go_enter Try.func92, Try.ntmps92
                go_wp2_with (first | ((with_reducible refine gate_dst (N := 4) rfl ?_); refine box_event ?hg (N := 4) ?hd (cs := #[.int .i64 a0_0, .int .i64 a0_1, .int .i64 a0_2]) (t := 23) ?hr ?_; (case hd => rfl); (case hg => rfl); (case hr => first | (go_simp; done) | (go_simp; rfl)); intro gb502 hg w32 hbox hb; have n0_ := Aside0.mk (below_step (by repeat (first | (with_reducible first | exact HB.out | apply below_alloc | apply pw_below_drewN | apply below_drew1) | exact HB.out)) hb); have n1_ := Aside0.mk (hbox); have n2_ := Aside0.mk ((by rw [hg]; exact (below_size (by repeat (first | (with_reducible first | exact HB.out | apply below_alloc | apply pw_below_drewN | apply below_drew1) | exact HB.out))) : w.heap.size ≤ gb502)); have n3_ := Aside0.mk ((by rw [hg]; exact (below_size (by repeat (first | (with_reducible first | exact HB.out | apply below_alloc | apply pw_below_drewN | apply below_drew1) | exact HB.out))) : w.heap.size ≤ gb502)); clear HB; have HB := n0_; have BK502 := n1_; have GW502 := n2_; have GE502 := n3_; clear n0_ n1_ n2_ n3_; clear hb hbox hg; have hcz33_0 : w32.cell? ⟨gb502, 0, none⟩ = some (.int .i64 a0_0) := (blk_cell BK502.out 0).trans rfl; have hcz33_1 : w32.cell? ⟨gb502, 1, none⟩ = some (.int .i64 a0_1) := (blk_cell BK502.out 1).trans rfl; have hcz33_2 : w32.cell? ⟨gb502, 2, none⟩ = some (.int .i64 a0_2) := (blk_cell BK502.out 2).trans rfl; have hfz33_0 := blk_frozen BK502.out 0; have hfz33_1 := blk_frozen BK502.out 1; have hfz33_2 := blk_frozen BK502.out 2) | ((with_reducible refine gate_callee (f := 40) rfl ?_); refine goesL_ (some 10) rfl rfl Try.func40 (by kernel_rfl) rfl #[.agg #[.int .i64 a0_0, .int .i64 a0_1, .int .i64 a0_2]] rfl (by (try simp only [List.map_toArray, List.map_cons, List.map_nil]); first | done | rfl | (simp only [List.length_drop, List.length_take]; rfl)) ?_; (with_reducible refine (h02_Right.calls a0_0 a0_1 a0_2 true _ A5.out).mono ?_); rintro e w34 ⟨rfl, hb⟩; refine ⟨_, rfl, ?_⟩; have n0_ := Aside0.mk (blk_below (g := gb502) (o := .cells #[.int .i64 a0_0, .int .i64 a0_1, .int .i64 a0_2] 23 (0, 0)) (by (with_reducible repeat (first | refine blk_drewN ?_ _ | refine blk_drew ?_ | refine blk_alloc ?_ _)); exact BK502.out) hb); have n1_ := Aside0.mk (below_step (by repeat (first | (with_reducible first | exact HB.out | apply below_alloc | apply pw_below_drewN | apply below_drew1 | refine below_set ?_ GE502.out) | exact HB.out)) hb); clear BK502; clear HB; have BK502 := n0_; have HB := n1_; clear n0_ n1_; (try clear hb); (try clear hb2); (try clear hk); (try clear hi); have hcz35_0 : w34.cell? ⟨gb502, 0, none⟩ = some (.int .i64 a0_0) := (blk_cell BK502.out 0).trans rfl; have hcz35_1 : w34.cell? ⟨gb502, 1, none⟩ = some (.int .i64 a0_1) := (blk_cell BK502.out 1).trans rfl; have hcz35_2 : w34.cell? ⟨gb502, 2, none⟩ = some (.int .i64 a0_2) := (blk_cell BK502.out 2).trans rfl; have hfz35_0 := blk_frozen BK502.out 0; have hfz35_1 := blk_frozen BK502.out 1; have hfz35_2 := blk_frozen BK502.out 2))
                go_ret
                exact ⟨by first | rfl | (simp [errW_none, errW_some] <;> rfl) | (simp [*, errW_none, errW_some] <;> rfl), by repeat (first | (with_reducible first | exact HB.out | apply below_alloc | apply pw_below_drewN | apply below_drew1 | refine below_set ?_ GE502.out) | exact HB.out)⟩
              · rw [if_neg c31] at H
                have c31b0 : decide (a0_2 ≤ a3) = false := decide_eq_false c31
                clear c31
                obtain rfl := Option.some.inj H
                go_enter Try.func92, Try.ntmps92
                go_wp2_with (first | ((with_reducible refine gate_dst (N := 4) rfl ?_); refine box_event ?hg (N := 4) ?hd (cs := #[.int .i64 a0_0, .int .i64 a0_1, .int .i64 a0_2]) (t := 23) ?hr ?_; (case hd => rfl); (case hg => rfl); (case hr => first | (go_simp; done) | (go_simp; rfl)); intro gb502 hg w36 hbox hb; have n0_ := Aside0.mk (below_step (by repeat (first | (with_reducible first | exact HB.out | apply below_alloc | apply pw_below_drewN | apply below_drew1) | exact HB.out)) hb); have n1_ := Aside0.mk (hbox); have n2_ := Aside0.mk ((by rw [hg]; exact (below_size (by repeat (first | (with_reducible first | exact HB.out | apply below_alloc | apply pw_below_drewN | apply below_drew1) | exact HB.out))) : w.heap.size ≤ gb502)); have n3_ := Aside0.mk ((by rw [hg]; exact (below_size (by repeat (first | (with_reducible first | exact HB.out | apply below_alloc | apply pw_below_drewN | apply below_drew1) | exact HB.out))) : w.heap.size ≤ gb502)); clear HB; have HB := n0_; have BK502 := n1_; have GW502 := n2_; have GE502 := n3_; clear n0_ n1_ n2_ n3_; clear hb hbox hg; have hcz37_0 : w36.cell? ⟨gb502, 0, none⟩ = some (.int .i64 a0_0) := (blk_cell BK502.out 0).trans rfl; have hcz37_1 : w36.cell? ⟨gb502, 1, none⟩ = some (.int .i64 a0_1) := (blk_cell BK502.out 1).trans rfl; have hcz37_2 : w36.cell? ⟨gb502, 2, none⟩ = some (.int .i64 a0_2) := (blk_cell BK502.out 2).trans rfl; have hfz37_0 := blk_frozen BK502.out 0; have hfz37_1 := blk_frozen BK502.out 1; have hfz37_2 := blk_frozen BK502.out 2) | ((with_reducible refine gate_callee (f := 40) rfl ?_); refine goesL_ (some 10) rfl rfl Try.func40 (by kernel_rfl) rfl #[.agg #[.int .i64 a0_0, .int .i64 a0_1, .int .i64 a0_2]] rfl (by (try simp only [List.map_toArray, List.map_cons, List.map_nil]); first | done | rfl | (simp only [List.length_drop, List.length_take]; rfl)) ?_; (with_reducible refine (h02_Right.calls a0_0 a0_1 a0_2 true _ A5.out).mono ?_); rintro e w38 ⟨rfl, hb⟩; refine ⟨_, rfl, ?_⟩; have n0_ := Aside0.mk (blk_below (g := gb502) (o := .cells #[.int .i64 a0_0, .int .i64 a0_1, .int .i64 a0_2] 23 (0, 0)) (by (with_reducible repeat (first | refine blk_drewN ?_ _ | refine blk_drew ?_ | refine blk_alloc ?_ _)); exact BK502.out) hb); have n1_ := Aside0.mk (below_step (by repeat (first | (with_reducible first | exact HB.out | apply below_alloc | apply pw_below_drewN | apply below_drew1 | refine below_set ?_ GE502.out) | exact HB.out)) hb); clear BK502; clear HB; have BK502 := n0_; have HB := n1_; clear n0_ n1_; (try clear hb); (try clear hb2); (try clear hk); (try clear hi); have hcz39_0 : w38.cell? ⟨gb502, 0, none⟩ = some (.int .i64 a0_0) := (blk_cell BK502.out 0).trans rfl; have hcz39_1 : w38.cell? ⟨gb502, 1, none⟩ = some (.int .i64 a0_1) := (blk_cell BK502.out 1).trans rfl; have hcz39_2 : w38.cell? ⟨gb502, 2, none⟩ = some (.int .i64 a0_2) := (blk_cell BK502.out 2).trans rfl; have hfz39_0 := blk_frozen BK502.out 0; have hfz39_1 := blk_frozen BK502.out 1; have hfz39_2 := blk_frozen BK502.out 2))
                go_ret
                exact ⟨by first | rfl | (simp [errW_none, errW_some] <;> rfl) | (simp [*, errW_none, errW_some] <;> rfl), by repeat (first | (with_reducible first | exact HB.out | apply below_alloc | apply pw_below_drewN | apply below_drew1 | refine below_set ?_ GE502.out) | exact HB.out)⟩
  · replace c6 := Bool.eq_false_iff.mpr c6
    subst c6
    have H1 : (some (-1)) = some r := by rw [if_neg (show ¬ (false = true) by decide)] at H; exact H
    clear H
    have H := H1
    clear H1
    obtain rfl := Option.some.inj H
    go_enter Try.func92, Try.ntmps92
    go_wp2_with (first | ((with_reducible refine gate_dst (N := 4) rfl ?_); refine box_event ?hg (N := 4) ?hd (cs := #[.int .i64 a0_0, .int .i64 a0_1, .int .i64 a0_2]) (t := 23) ?hr ?_; (case hd => rfl); (case hg => rfl); (case hr => first | (go_simp; done) | (go_simp; rfl)); intro gb502 hg w40 hbox hb; have n0_ := Aside0.mk (below_step (by repeat (first | (with_reducible first | exact HB.out | apply below_alloc | apply pw_below_drewN | apply below_drew1) | exact HB.out)) hb); have n1_ := Aside0.mk (hbox); have n2_ := Aside0.mk ((by rw [hg]; exact (below_size (by repeat (first | (with_reducible first | exact HB.out | apply below_alloc | apply pw_below_drewN | apply below_drew1) | exact HB.out))) : w.heap.size ≤ gb502)); have n3_ := Aside0.mk ((by rw [hg]; exact (below_size (by repeat (first | (with_reducible first | exact HB.out | apply below_alloc | apply pw_below_drewN | apply below_drew1) | exact HB.out))) : w.heap.size ≤ gb502)); clear HB; have HB := n0_; have BK502 := n1_; have GW502 := n2_; have GE502 := n3_; clear n0_ n1_ n2_ n3_; clear hb hbox hg; have hcz41_0 : w40.cell? ⟨gb502, 0, none⟩ = some (.int .i64 a0_0) := (blk_cell BK502.out 0).trans rfl; have hcz41_1 : w40.cell? ⟨gb502, 1, none⟩ = some (.int .i64 a0_1) := (blk_cell BK502.out 1).trans rfl; have hcz41_2 : w40.cell? ⟨gb502, 2, none⟩ = some (.int .i64 a0_2) := (blk_cell BK502.out 2).trans rfl; have hfz41_0 := blk_frozen BK502.out 0; have hfz41_1 := blk_frozen BK502.out 1; have hfz41_2 := blk_frozen BK502.out 2) | ((with_reducible refine gate_callee (f := 40) rfl ?_); refine goesL_ (some 10) rfl rfl Try.func40 (by kernel_rfl) rfl #[.agg #[.int .i64 a0_0, .int .i64 a0_1, .int .i64 a0_2]] rfl (by (try simp only [List.map_toArray, List.map_cons, List.map_nil]); first | done | rfl | (simp only [List.length_drop, List.length_take]; rfl)) ?_; (with_reducible refine (h02_Right.calls a0_0 a0_1 a0_2 false _ A5.out).mono ?_); rintro e w42 ⟨rfl, hb⟩; refine ⟨_, rfl, ?_⟩; have n0_ := Aside0.mk (blk_below (g := gb502) (o := .cells #[.int .i64 a0_0, .int .i64 a0_1, .int .i64 a0_2] 23 (0, 0)) (by (with_reducible repeat (first | refine blk_drewN ?_ _ | refine blk_drew ?_ | refine blk_alloc ?_ _)); exact BK502.out) hb); have n1_ := Aside0.mk (below_step (by repeat (first | (with_reducible first | exact HB.out | apply below_alloc | apply pw_below_drewN | apply below_drew1 | refine below_set ?_ GE502.out) | exact HB.out)) hb); clear BK502; clear HB; have BK502 := n0_; have HB := n1_; clear n0_ n1_; (try clear hb); (try clear hb2); (try clear hk); (try clear hi)))
    go_ret
    exact ⟨by first | rfl | (simp [errW_none, errW_some] <;> rfl) | (simp [*, errW_none, errW_some] <;> rfl), by repeat (first | (with_reducible first | exact HB.out | apply below_alloc | apply pw_below_drewN | apply below_drew1 | refine below_set ?_ GE502.out) | exact HB.out)⟩
mutual
def symbolonref02_Of.l0 : Nat → Int → Int → Int → Int → Int → Option (Int × Int × Int × Bool)
  | 0, _, _, _, _, _ => none
  | k + 1, x1, x8, x505000, x505001, x505002 => if x8 < x505000 then ((h02_Right.f x505000 x505001 x505002).bind fun t505 => (symbolonref02_Of.j1 k x1 x8 t505 x505000 x505001 x505002)) else (symbolonref02_Of.j1 k x1 x8 false x505000 x505001 x505002)
def symbolonref02_Of.j1 : Nat → Int → Int → Bool → Int → Int → Int → Option (Int × Int × Int × Bool)
  | 0, _, _, _, _, _, _ => none
  | k + 1, x1, x8, x18, x505000, x505001, x505002 => if x18 = true then (symbolonref02_Of.l1 k x1 x8 0 x505000 x505001 x505002) else (some (0, 0, 0, false))
def symbolonref02_Of.l1 : Nat → Int → Int → Int → Int → Int → Int → Option (Int × Int × Int × Bool)
  | 0, _, _, _, _, _, _ => none
  | k + 1, x1, x8, x9, x505000, x505001, x505002 => if x9 < x505001 then (symbolonref02_Of.l2 k x1 x8 x9 0 x505000 x505001 x505002) else (symbolonref02_Of.l0 k x1 (wrap64 (x8 + 1)) x505000 x505001 x505002)
def symbolonref02_Of.l2 : Nat → Int → Int → Int → Int → Int → Int → Int → Option (Int × Int × Int × Bool)
  | 0, _, _, _, _, _, _, _ => none
  | k + 1, x1, x8, x9, x10, x505000, x505001, x505002 => if x10 < x505002 then ((symbolonref02_At.f x505000 x505001 x505002 x8 x9 x10).bind fun t506 => (if t506 = x1 then (some (x8, x9, x10, true)) else (symbolonref02_Of.l2 k x1 x8 x9 (wrap64 (x10 + 1)) x505000 x505001 x505002))) else (symbolonref02_Of.l1 k x1 x8 (wrap64 (x9 + 1)) x505000 x505001 x505002)
end
def symbolonref02_Of.f (k : Nat) (a0_0 : Int) (a0_1 : Int) (a0_2 : Int) (a1 : Int) : Option (Int × Int × Int × Bool) := symbolonref02_Of.l0 k a1 0 a0_0 a0_1 a0_2
set_option maxHeartbeats 8000000 in
set_option maxRecDepth 100000 in
theorem symbolonref02_Of.calls (k : Nat) (a0_0 : Int) (a0_1 : Int) (a0_2 : Int) (a1 : Int) (r1 : Int) (r2 : Int) (r3 : Int) (r4 : Bool) (w : World) (h : symbolonref02_Of.f k a0_0 a0_1 a0_2 a1 = some (r1, r2, r3, r4)) :
    Calls Try.prog 51 #[.agg #[.int .i64 a0_0, .int .i64 a0_1, .int .i64 a0_2], .int .i64 a1] w fun e w' => e = .returned (.tuple #[.int .i64 r1, .int .i64 r2, .int .i64 r3, .bool r4]) ∧ Below w.heap.size w w' := by
  have hu23 := Try.underlying23
  have HB := Aside0.mk (Below.refl w.heap.size w)
  have H : (symbolonref02_Of.l0 k a1 0 a0_0 a0_1 a0_2) = some (r1, r2, r3, r4) := h
  clear h
  have H' := Aside0.mk H
  clear H
  go_enter Try.func51, Try.ntmps51
  go_wp2_with (first | ((with_reducible refine gate_dst (N := 2) rfl ?_); refine box_event ?hg (N := 2) ?hd (cs := #[.int .i64 a0_0, .int .i64 a0_1, .int .i64 a0_2]) (t := 23) ?hr ?_; (case hd => rfl); (case hg => rfl); (case hr => first | (go_simp; done) | (go_simp; rfl)); intro gb504 hg w3 hbox hb; have n0_ := Aside0.mk (below_step (by repeat (first | (with_reducible first | exact HB.out | apply below_alloc | apply pw_below_drewN | apply below_drew1) | exact HB.out)) hb); have n1_ := Aside0.mk (hbox); have n2_ := Aside0.mk ((by rw [hg]; exact (below_size (by repeat (first | (with_reducible first | exact HB.out | apply below_alloc | apply pw_below_drewN | apply below_drew1) | exact HB.out))) : w.heap.size ≤ gb504)); have n3_ := Aside0.mk ((by rw [hg]; exact (below_size (by repeat (first | (with_reducible first | exact HB.out | apply below_alloc | apply pw_below_drewN | apply below_drew1) | exact HB.out))) : w.heap.size ≤ gb504)); clear HB; have HB := n0_; have BK504 := n1_; have GW504 := n2_; have GE504 := n3_; clear n0_ n1_ n2_ n3_; clear hb hbox hg))
  go_loopg [8] k (fun kq v8 w' => ∃ (x8_1 : Int), v8 = .int .i64 x8_1 ∧ Aside0 (symbolonref02_Of.l0 kq a1 x8_1 a0_0 a0_1 a0_2 = some (r1, r2, r3, r4)) ∧ Aside0 (kq ≤ k) ∧ Aside0 (w'.heap[gb504]? = some (.cells #[.int .i64 a0_0, .int .i64 a0_1, .int .i64 a0_2] 23 (0, 0))) ∧ Aside0 (Below w.heap.size w w'))
  case atStart => exact ⟨(0), (by first | rfl | (simp; done) | (simp [*]; done)), H', ⟨Nat.le_refl _⟩, ⟨by (with_reducible repeat (first | refine blk_drewN ?_ _ | refine blk_drew ?_ | refine blk_alloc ?_ _)); exact BK504.out⟩, ⟨by repeat (first | (with_reducible first | exact HB.out | apply below_alloc | apply pw_below_drewN | apply below_drew1 | refine below_set ?_ GE504.out) | exact HB.out)⟩⟩
  case round =>
    clear H'
    try clear p2
    obtain ⟨x8_1, rfl, HA, HK1, BK504, HB⟩ := hrel
    cases gk with
    | zero => exact absurd HA.out (by simp [symbolonref02_Of.l0])
    | succ k1 =>
      have H := HA.out
      clear HA
      simp only [symbolonref02_Of.l0] at H
      have HC4 := Aside0.mk H
      clear H
      go_upto_region 2 with (fail)
      go_cut [18] (fun v18 wc => ∃ (kq : Nat) (x18_3 : Bool), v18 = .bool x18_3 ∧ Aside0 (symbolonref02_Of.j1 kq a1 x8_1 x18_3 a0_0 a0_1 a0_2 = some (r1, r2, r3, r4)) ∧ Aside0 (kq ≤ k1) ∧ Aside0 (wc.heap[gb504]? = some (.cells #[.int .i64 a0_0, .int .i64 a0_1, .int .i64 a0_2] 23 (0, 0))) ∧ Aside0 (Below w.heap.size w wc))
      case first =>
        have H := HC4.out
        clear HC4
        by_cases c5 : x8_1 < a0_0
        · rw [if_pos c5] at H
          have c5b0 : decide (x8_1 < a0_0) = true := decide_eq_true c5
          clear c5
          (first | rw [c5b0] | (simp only [i64_w, i32_w]; rw [c5b0]) | skip)
          replace H := Option.bind_eq_some_iff.mp H
          obtain ⟨t505, A60, H⟩ := H
          replace H : (symbolonref02_Of.j1 k1 a1 x8_1 t505 a0_0 a0_1 a0_2) = some (r1, r2, r3, r4) := H
          have A6 := Aside0.mk A60
          clear A60
          have H' := Aside0.mk H
          clear H
          have hcz7_0 : wr.cell? ⟨gb504, 0, none⟩ = some (.int .i64 a0_0) := (blk_cell BK504.out 0).trans rfl
          have hcz7_1 : wr.cell? ⟨gb504, 1, none⟩ = some (.int .i64 a0_1) := (blk_cell BK504.out 1).trans rfl
          have hcz7_2 : wr.cell? ⟨gb504, 2, none⟩ = some (.int .i64 a0_2) := (blk_cell BK504.out 2).trans rfl
          have hfz7_0 := blk_frozen BK504.out 0
          have hfz7_1 := blk_frozen BK504.out 1
          have hfz7_2 := blk_frozen BK504.out 2
          go_wp2_with (first | (go_at_call 40; (with_reducible refine (h02_Right.calls a0_0 a0_1 a0_2 t505 _ A6.out).mono ?_); rintro e w8 ⟨rfl, hb⟩; have n0_ := Aside0.mk (blk_below (g := gb504) (o := .cells #[.int .i64 a0_0, .int .i64 a0_1, .int .i64 a0_2] 23 (0, 0)) (by (with_reducible repeat (first | refine blk_drewN ?_ _ | refine blk_drew ?_ | refine blk_alloc ?_ _)); exact BK504.out) hb); have n1_ := Aside0.mk (below_step (by repeat (first | (with_reducible first | exact HB.out | apply below_alloc | apply pw_below_drewN | apply below_drew1 | refine below_set ?_ GE504.out) | exact HB.out)) hb); clear BK504; clear HB; have BK504 := n0_; have HB := n1_; clear n0_ n1_; (try clear hb); (try clear hb2); (try clear hk); (try clear hi)))
          go_meet
          case rel => exact ⟨_, (t505), (by first | rfl | (simp; done) | (simp [*]; done)), H', ⟨by have := HK1.out; first | omega | exact Nat.le_refl _⟩, ⟨by (with_reducible repeat (first | refine blk_drewN ?_ _ | refine blk_drew ?_ | refine blk_alloc ?_ _)); exact BK504.out⟩, ⟨by repeat (first | (with_reducible first | exact HB.out | apply below_alloc | apply pw_below_drewN | apply below_drew1 | refine below_set ?_ GE504.out) | exact HB.out)⟩⟩
        · rw [if_neg c5] at H
          have c5b0 : decide (x8_1 < a0_0) = false := decide_eq_false c5
          clear c5
          (first | rw [c5b0] | (simp only [i64_w, i32_w]; rw [c5b0]) | skip)
          have H' := Aside0.mk H
          clear H
          have hcz9_0 : wr.cell? ⟨gb504, 0, none⟩ = some (.int .i64 a0_0) := (blk_cell BK504.out 0).trans rfl
          have hcz9_1 : wr.cell? ⟨gb504, 1, none⟩ = some (.int .i64 a0_1) := (blk_cell BK504.out 1).trans rfl
          have hcz9_2 : wr.cell? ⟨gb504, 2, none⟩ = some (.int .i64 a0_2) := (blk_cell BK504.out 2).trans rfl
          have hfz9_0 := blk_frozen BK504.out 0
          have hfz9_1 := blk_frozen BK504.out 1
          have hfz9_2 := blk_frozen BK504.out 2
          go_wp2
          go_meet
          case rel => exact ⟨_, (false), (by first | rfl | (simp; done) | (simp [*]; done)), H', ⟨by have := HK1.out; first | omega | exact Nat.le_refl _⟩, ⟨by (with_reducible repeat (first | refine blk_drewN ?_ _ | refine blk_drew ?_ | refine blk_alloc ?_ _)); exact BK504.out⟩, ⟨by repeat (first | (with_reducible first | exact HB.out | apply below_alloc | apply pw_below_drewN | apply below_drew1 | refine below_set ?_ GE504.out) | exact HB.out)⟩⟩
      case rest =>
        clear HC4
        try clear p2
        try clear c5
        try clear c5b0
        try clear hcz7_0
        try clear hcz7_1
        try clear hcz7_2
        try clear hcz9_0
        try clear hcz9_1
        try clear hcz9_2
        try clear hfz7_0
        try clear hfz7_1
        try clear hfz7_2
        try clear hfz9_0
        try clear hfz9_1
        try clear hfz9_2
        try clear p2
        obtain ⟨kq, x18_3, rfl, HA, HJ3, BK504, HB⟩ := hcut
        cases kq with
        | zero => exact absurd HA.out (by simp [symbolonref02_Of.j1])
        | succ kj3 =>
          have H := HA.out
          clear HA
          simp only [symbolonref02_Of.j1] at H
          by_cases c10 : x18_3 = true
          · subst c10
            have H1 : (symbolonref02_Of.l1 kj3 a1 x8_1 0 a0_0 a0_1 a0_2) = some (r1, r2, r3, r4) := by rw [if_pos rfl] at H; exact H
            clear H
            have H := H1
            clear H1
            have H' := Aside0.mk H
            clear H
            go_wp2
            go_loopg [9] kj3 (fun kq v9 w' => ∃ (x9_3 : Int), v9 = .int .i64 x9_3 ∧ Aside0 (symbolonref02_Of.l1 kq a1 x8_1 x9_3 a0_0 a0_1 a0_2 = some (r1, r2, r3, r4)) ∧ Aside0 (kq ≤ kj3) ∧ Aside0 (w'.heap[gb504]? = some (.cells #[.int .i64 a0_0, .int .i64 a0_1, .int .i64 a0_2] 23 (0, 0))) ∧ Aside0 (Below w.heap.size w w'))
            case atStart => exact ⟨(0), (by first | rfl | (simp; done) | (simp [*]; done)), H', ⟨Nat.le_refl _⟩, ⟨by (with_reducible repeat (first | refine blk_drewN ?_ _ | refine blk_drew ?_ | refine blk_alloc ?_ _)); exact BK504.out⟩, ⟨by repeat (first | (with_reducible first | exact HB.out | apply below_alloc | apply pw_below_drewN | apply below_drew1 | refine below_set ?_ GE504.out) | exact HB.out)⟩⟩
            case round =>
              clear H'
              try clear c1
              try clear p2
              try clear c5
              try clear c5b0
              try clear c10
              try clear hcz7_0
              try clear hcz7_1
              try clear hcz7_2
              try clear hcz9_0
              try clear hcz9_1
              try clear hcz9_2
              try clear hfz7_0
              try clear hfz7_1
              try clear hfz7_2
              try clear hfz9_0
              try clear hfz9_1
              try clear hfz9_2
              try clear p2
              obtain ⟨x9_3, rfl, HA, HK3, BK504, HB⟩ := hrel
              cases gk with
              | zero => exact absurd HA.out (by simp [symbolonref02_Of.l1])
              | succ k3 =>
                have H := HA.out
                clear HA
                simp only [symbolonref02_Of.l1] at H
                by_cases c11 : x9_3 < a0_1
                · rw [if_pos c11] at H
                  have c11b0 : decide (x9_3 < a0_1) = true := decide_eq_true c11
                  clear c11
                  have H' := Aside0.mk H
                  clear H
                  have hcz12_0 : wr.cell? ⟨gb504, 0, none⟩ = some (.int .i64 a0_0) := (blk_cell BK504.out 0).trans rfl
                  have hcz12_1 : wr.cell? ⟨gb504, 1, none⟩ = some (.int .i64 a0_1) := (blk_cell BK504.out 1).trans rfl
                  have hcz12_2 : wr.cell? ⟨gb504, 2, none⟩ = some (.int .i64 a0_2) := (blk_cell BK504.out 2).trans rfl
                  have hfz12_0 := blk_frozen BK504.out 0
                  have hfz12_1 := blk_frozen BK504.out 1
                  have hfz12_2 := blk_frozen BK504.out 2
                  go_wp2
                  go_loopg [10] k3 (fun kq v10 w' => ∃ (x10_4 : Int), v10 = .int .i64 x10_4 ∧ Aside0 (symbolonref02_Of.l2 kq a1 x8_1 x9_3 x10_4 a0_0 a0_1 a0_2 = some (r1, r2, r3, r4)) ∧ Aside0 (kq ≤ k3) ∧ Aside0 (w'.heap[gb504]? = some (.cells #[.int .i64 a0_0, .int .i64 a0_1, .int .i64 a0_2] 23 (0, 0))) ∧ Aside0 (Below w.heap.size w w'))
                  case atStart => exact ⟨(0), (by first | rfl | (simp; done) | (simp [*]; done)), H', ⟨Nat.le_refl _⟩, ⟨by (with_reducible repeat (first | refine blk_drewN ?_ _ | refine blk_drew ?_ | refine blk_alloc ?_ _)); exact BK504.out⟩, ⟨by repeat (first | (with_reducible first | exact HB.out | apply below_alloc | apply pw_below_drewN | apply below_drew1 | refine below_set ?_ GE504.out) | exact HB.out)⟩⟩
                  case round =>
                    clear H'
                    try clear c1
                    try clear p2
                    try clear c5
                    try clear c5b0
                    try clear c10
                    try clear c11
                    try clear c11b0
                    try clear hcz12_0
                    try clear hcz12_1
                    try clear hcz12_2
                    try clear hcz7_0
                    try clear hcz7_1
                    try clear hcz7_2
                    try clear hcz9_0
                    try clear hcz9_1
                    try clear hcz9_2
                    try clear hfz12_0
                    try clear hfz12_1
                    try clear hfz12_2
                    try clear hfz7_0
                    try clear hfz7_1
                    try clear hfz7_2
                    try clear hfz9_0
                    try clear hfz9_1
                    try clear hfz9_2
                    try clear p2
                    obtain ⟨x10_4, rfl, HA, HK4, BK504, HB⟩ := hrel
                    cases gk with
                    | zero => exact absurd HA.out (by simp [symbolonref02_Of.l2])
                    | succ k4 =>
                      have H := HA.out
                      clear HA
                      simp only [symbolonref02_Of.l2] at H
                      by_cases c13 : x10_4 < a0_2
                      · rw [if_pos c13] at H
                        have c13b0 : decide (x10_4 < a0_2) = true := decide_eq_true c13
                        clear c13
                        replace H := Option.bind_eq_some_iff.mp H
                        obtain ⟨t506, A140, H⟩ := H
                        replace H : (if t506 = a1 then (some (x8_1, x9_3, x10_4, true)) else (symbolonref02_Of.l2 k4 a1 x8_1 x9_3 (wrap64 (x10_4 + 1)) a0_0 a0_1 a0_2)) = some (r1, r2, r3, r4) := H
                        have A14 := Aside0.mk A140
                        clear A140
                        by_cases c15 : t506 = a1
                        · rw [if_pos c15] at H
                          have c15b0 : (t506 == a1) = true := beq_iff_eq.mpr c15
                          have c15b1 : (t506 != a1) = false := bne_eq_false_iff_eq.mpr c15
                          clear c15
                          simp only [Option.some.injEq, Prod.mk.injEq] at H
                          obtain ⟨rfl, rfl, rfl, rfl⟩ := H
                          have hcz16_0 : wr.cell? ⟨gb504, 0, none⟩ = some (.int .i64 a0_0) := (blk_cell BK504.out 0).trans rfl
                          have hcz16_1 : wr.cell? ⟨gb504, 1, none⟩ = some (.int .i64 a0_1) := (blk_cell BK504.out 1).trans rfl
                          have hcz16_2 : wr.cell? ⟨gb504, 2, none⟩ = some (.int .i64 a0_2) := (blk_cell BK504.out 2).trans rfl
                          have hfz16_0 := blk_frozen BK504.out 0
                          have hfz16_1 := blk_frozen BK504.out 1
                          have hfz16_2 := blk_frozen BK504.out 2
                          go_wp2_with (first | ((with_reducible refine gate_callee (f := 92) rfl ?_); refine goesL_ (some 37) rfl rfl Try.func92 (by kernel_rfl) rfl #[.agg #[.int .i64 a0_0, .int .i64 a0_1, .int .i64 a0_2], .int .i64 x8_1, .int .i64 x9_3, .int .i64 x10_4] rfl (by (try simp only [List.map_toArray, List.map_cons, List.map_nil]); first | done | rfl | (simp only [List.length_drop, List.length_take]; rfl)) ?_; (with_reducible refine (symbolonref02_At.calls a0_0 a0_1 a0_2 x8_1 x9_3 x10_4 t506 _ A14.out).mono ?_); rintro e w17 ⟨rfl, hb⟩; refine ⟨_, rfl, ?_⟩; have n0_ := Aside0.mk (blk_below (g := gb504) (o := .cells #[.int .i64 a0_0, .int .i64 a0_1, .int .i64 a0_2] 23 (0, 0)) (by (with_reducible repeat (first | refine blk_drewN ?_ _ | refine blk_drew ?_ | refine blk_alloc ?_ _)); exact BK504.out) hb); have n1_ := Aside0.mk (below_step (by repeat (first | (with_reducible first | exact HB.out | apply below_alloc | apply pw_below_drewN | apply below_drew1 | refine below_set ?_ GE504.out) | exact HB.out)) hb); clear BK504; clear HB; have BK504 := n0_; have HB := n1_; clear n0_ n1_; (try clear hb); (try clear hb2); (try clear hk); (try clear hi)))
                          refine bodyPost_ret (results_list (rs := [.tmp 4, .tmp 5, .tmp 6, .tmp 7]) rfl (by simp) (.tmp (.tmp (.tmp (.tmp .nil))))) rfl ?_
                          exact ⟨by first | rfl | (simp [errW_none, errW_some] <;> rfl) | (simp [*, errW_none, errW_some] <;> rfl), by repeat (first | (with_reducible first | exact HB.out | apply below_alloc | apply pw_below_drewN | apply below_drew1 | refine below_set ?_ GE504.out) | exact HB.out)⟩
                        · rw [if_neg c15] at H
                          have c15b0 : (t506 == a1) = false := beq_eq_false_iff_ne.mpr c15
                          have c15b1 : (t506 != a1) = true := bne_iff_ne.mpr c15
                          have H' := Aside0.mk H
                          clear H
                          have hcz18_0 : wr.cell? ⟨gb504, 0, none⟩ = some (.int .i64 a0_0) := (blk_cell BK504.out 0).trans rfl
                          have hcz18_1 : wr.cell? ⟨gb504, 1, none⟩ = some (.int .i64 a0_1) := (blk_cell BK504.out 1).trans rfl
                          have hcz18_2 : wr.cell? ⟨gb504, 2, none⟩ = some (.int .i64 a0_2) := (blk_cell BK504.out 2).trans rfl
                          have hfz18_0 := blk_frozen BK504.out 0
                          have hfz18_1 := blk_frozen BK504.out 1
                          have hfz18_2 := blk_frozen BK504.out 2
                          go_wp2_with (first | ((with_reducible refine gate_callee (f := 92) rfl ?_); refine goesL_ (some 37) rfl rfl Try.func92 (by kernel_rfl) rfl #[.agg #[.int .i64 a0_0, .int .i64 a0_1, .int .i64 a0_2], .int .i64 x8_1, .int .i64 x9_3, .int .i64 x10_4] rfl (by (try simp only [List.map_toArray, List.map_cons, List.map_nil]); first | done | rfl | (simp only [List.length_drop, List.length_take]; rfl)) ?_; (with_reducible refine (symbolonref02_At.calls a0_0 a0_1 a0_2 x8_1 x9_3 x10_4 t506 _ A14.out).mono ?_); rintro e w19 ⟨rfl, hb⟩; refine ⟨_, rfl, ?_⟩; have n0_ := Aside0.mk (blk_below (g := gb504) (o := .cells #[.int .i64 a0_0, .int .i64 a0_1, .int .i64 a0_2] 23 (0, 0)) (by (with_reducible repeat (first | refine blk_drewN ?_ _ | refine blk_drew ?_ | refine blk_alloc ?_ _)); exact BK504.out) hb); have n1_ := Aside0.mk (below_step (by repeat (first | (with_reducible first | exact HB.out | apply below_alloc | apply pw_below_drewN | apply below_drew1 | refine below_set ?_ GE504.out) | exact HB.out)) hb); clear BK504; clear HB; have BK504 := n0_; have HB := n1_; clear n0_ n1_; (try clear hb); (try clear hb2); (try clear hk); (try clear hi)))
                          go_roundg k4
                          case measure => have := HK1.out; have := HJ3.out; have := HK3.out; have := HK4.out; omega
                          case rel => exact ⟨(wrap64 (x10_4 + 1)), (by first | rfl | (simp; done) | (simp [*]; done)), H', ⟨by have := HK1.out; have := HJ3.out; have := HK3.out; have := HK4.out; omega⟩, ⟨by (with_reducible repeat (first | refine blk_drewN ?_ _ | refine blk_drew ?_ | refine blk_alloc ?_ _)); exact BK504.out⟩, ⟨by repeat (first | (with_reducible first | exact HB.out | apply below_alloc | apply pw_below_drewN | apply below_drew1 | refine below_set ?_ GE504.out) | exact HB.out)⟩⟩
                      · rw [if_neg c13] at H
                        have c13b0 : decide (x10_4 < a0_2) = false := decide_eq_false c13
                        clear c13
                        have H' := Aside0.mk H
                        clear H
                        have hcz20_0 : wr.cell? ⟨gb504, 0, none⟩ = some (.int .i64 a0_0) := (blk_cell BK504.out 0).trans rfl
                        have hcz20_1 : wr.cell? ⟨gb504, 1, none⟩ = some (.int .i64 a0_1) := (blk_cell BK504.out 1).trans rfl
                        have hcz20_2 : wr.cell? ⟨gb504, 2, none⟩ = some (.int .i64 a0_2) := (blk_cell BK504.out 2).trans rfl
                        have hfz20_0 := blk_frozen BK504.out 0
                        have hfz20_1 := blk_frozen BK504.out 1
                        have hfz20_2 := blk_frozen BK504.out 2
                        go_wp2
                        go_roundg k4
                        case measure => have := HK1.out; have := HJ3.out; have := HK3.out; have := HK4.out; omega
                        case rel => exact ⟨(wrap64 (x9_3 + 1)), (by first | rfl | (simp; done) | (simp [*]; done)), H', ⟨by have := HK1.out; have := HJ3.out; have := HK3.out; have := HK4.out; omega⟩, ⟨by (with_reducible repeat (first | refine blk_drewN ?_ _ | refine blk_drew ?_ | refine blk_alloc ?_ _)); exact BK504.out⟩, ⟨by repeat (first | (with_reducible first | exact HB.out | apply below_alloc | apply pw_below_drewN | apply below_drew1 | refine below_set ?_ GE504.out) | exact HB.out)⟩⟩
                · rw [if_neg c11] at H
                  have c11b0 : decide (x9_3 < a0_1) = false := decide_eq_false c11
                  clear c11
                  have H' := Aside0.mk H
                  clear H
                  have hcz21_0 : wr.cell? ⟨gb504, 0, none⟩ = some (.int .i64 a0_0) := (blk_cell BK504.out 0).trans rfl
                  have hcz21_1 : wr.cell? ⟨gb504, 1, none⟩ = some (.int .i64 a0_1) := (blk_cell BK504.out 1).trans rfl
                  have hcz21_2 : wr.cell? ⟨gb504, 2, none⟩ = some (.int .i64 a0_2) := (blk_cell BK504.out 2).trans rfl
                  have hfz21_0 := blk_frozen BK504.out 0
                  have hfz21_1 := blk_frozen BK504.out 1
                  have hfz21_2 := blk_frozen BK504.out 2
                  go_wp2
                  go_roundg k3
                  case measure => have := HK1.out; have := HJ3.out; have := HK3.out; omega
                  case rel => exact ⟨(wrap64 (x8_1 + 1)), (by first | rfl | (simp; done) | (simp [*]; done)), H', ⟨by have := HK1.out; have := HJ3.out; have := HK3.out; omega⟩, ⟨by (with_reducible repeat (first | refine blk_drewN ?_ _ | refine blk_drew ?_ | refine blk_alloc ?_ _)); exact BK504.out⟩, ⟨by repeat (first | (with_reducible first | exact HB.out | apply below_alloc | apply pw_below_drewN | apply below_drew1 | refine below_set ?_ GE504.out) | exact HB.out)⟩⟩
          · replace c10 := Bool.eq_false_iff.mpr c10
            subst c10
            have H1 : (some (0, 0, 0, false)) = some (r1, r2, r3, r4) := by rw [if_neg (show ¬ (false = true) by decide)] at H; exact H
            clear H
            have H := H1
            clear H1
            simp only [Option.some.injEq, Prod.mk.injEq] at H
            obtain ⟨rfl, rfl, rfl, rfl⟩ := H
            go_wp2
            refine bodyPost_ret (results_list (rs := [.tmp 4, .tmp 5, .tmp 6, .tmp 7]) rfl (by simp) (.tmp (.tmp (.tmp (.tmp .nil))))) rfl ?_
            exact ⟨by first | rfl | (simp [errW_none, errW_some] <;> rfl) | (simp [*, errW_none, errW_some] <;> rfl), by repeat (first | (with_reducible first | exact HB.out | apply below_alloc | apply pw_below_drewN | apply below_drew1 | refine below_set ?_ GE504.out) | exact HB.out)⟩
end Go.Proofs.Ytnfcadjckoebkaa.P
