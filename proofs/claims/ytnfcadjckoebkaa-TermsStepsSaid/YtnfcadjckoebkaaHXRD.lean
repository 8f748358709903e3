
import Derived.Test.YtnfcadjckoebkaaHX0
namespace Go.Proofs.Ytnfcadjckoebkaa.P
open Go.RowKit Go.Proofs.YtnfcadjckoebkaaW.PrintWords Go.Proofs.YtnfcadjckoebkaaW.PrintLast Go.Proofs.YtnfcadjckoebkaaW.PrintMore
attribute [local go_sem] min2_int min_two
set_option linter.unusedVariables false
set_option linter.unusedSimpArgs false
def symbolonlaw04_Great.f (a0_0 : Int) (a0_1 : Int) (a0_2 : Int) (l0_3 : List (S40)) : Option (Bool) := some (decide ((l0_3.length : Int) > 60))
set_option maxHeartbeats 8000000 in
set_option maxRecDepth 100000 in
theorem symbolonlaw04_Great.calls (a0_0 : Int) (a0_1 : Int) (a0_2 : Int) (A0_3 : Option Addr) (c0_3 : Nat) (l0_3 : List (S40)) (r : Bool) (w : World) (hr0_3 : Kd.C k40 w A0_3 l0_3.length l0_3) (hc0_3 : l0_3.length ≤ c0_3) (h : symbolonlaw04_Great.f a0_0 a0_1 a0_2 l0_3 = some r) :
    Calls Try.prog 26 #[.agg #[.int .i64 a0_0, .int .i64 a0_1, .int .i64 a0_2, .slice A0_3 l0_3.length c0_3]] w fun e w' => e = .returned (.bool r) ∧ Below w.heap.size w w' := by
  have hu26 := Try.underlying26
  have HR0_3 := Aside0.mk hr0_3
  have HC0_3 := Aside0.mk hc0_3
  clear hr0_3 hc0_3
  have HB := Aside0.mk (Below.refl w.heap.size w)
  have H : (some (decide ((l0_3.length : Int) > 60))) = some r := h
  clear h
  obtain rfl := Option.some.inj H
  go_enter Try.func26, Try.ntmps26
  go_wp2_with (first | ((with_reducible refine gate_dst (N := 1) rfl ?_); refine box_event ?hg (N := 1) ?hd (cs := #[.int .i64 a0_0, .int .i64 a0_1, .int .i64 a0_2, .slice A0_3 l0_3.length c0_3]) (t := 26) ?hr ?_; (case hd => rfl); (case hg => rfl); (case hr => first | (go_simp; done) | (go_simp; rfl)); intro gb214 hg w2 hbox hb; have n0_ := Aside0.mk (below_step (by repeat (first | (with_reducible first | exact HB.out | apply below_alloc | apply pw_below_drewN | apply below_drew1) | exact HB.out)) hb); have n1_ := Aside0.mk (hbox); have n2_ := Aside0.mk ((by rw [hg]; exact (below_size (by repeat (first | (with_reducible first | exact HB.out | apply below_alloc | apply pw_below_drewN | apply below_drew1) | exact HB.out))) : w.heap.size ≤ gb214)); have n3_ := Aside0.mk ((by rw [hg]; exact (below_size (by repeat (first | (with_reducible first | exact HB.out | apply below_alloc | apply pw_below_drewN | apply below_drew1) | exact HB.out))) : w.heap.size ≤ gb214)); clear HB; have HB := n0_; have BK214 := n1_; have GW214 := n2_; have GE214 := n3_; clear n0_ n1_ n2_ n3_; clear hb hbox hg; have hcz3_0 : w2.cell? ⟨gb214, 0, none⟩ = some (.int .i64 a0_0) := (blk_cell BK214.out 0).trans rfl; have hcz3_1 : w2.cell? ⟨gb214, 1, none⟩ = some (.int .i64 a0_1) := (blk_cell BK214.out 1).trans rfl; have hcz3_2 : w2.cell? ⟨gb214, 2, none⟩ = some (.int .i64 a0_2) := (blk_cell BK214.out 2).trans rfl; have hcz3_3 : w2.cell? ⟨gb214, 3, none⟩ = some (.slice A0_3 l0_3.length c0_3) := (blk_cell BK214.out 3).trans rfl; have hfz3_0 := blk_frozen BK214.out 0; have hfz3_1 := blk_frozen BK214.out 1; have hfz3_2 := blk_frozen BK214.out 2; have hfz3_3 := blk_frozen BK214.out 3))
  go_ret
  exact ⟨by first | rfl | (simp [errW_none, errW_some] <;> rfl) | (simp [*, errW_none, errW_some] <;> rfl), by repeat (first | (with_reducible first | exact HB.out | apply below_alloc | apply pw_below_drewN | apply below_drew1 | refine below_set ?_ GE214.out) | exact HB.out)⟩
def symbolonref04_within.f (a0 : Int) : Option (Bool) := if a0 ≥ 0 then (some (decide (a0 ≤ 999999))) else (some false)
set_option maxHeartbeats 8000000 in
set_option maxRecDepth 100000 in
theorem symbolonref04_within.calls (a0 : Int) (r : Bool) (w : World) (h : symbolonref04_within.f a0 = some r) :
    Calls Try.prog 80 #[.int .i64 a0] w fun e w' => e = .returned (.bool r) ∧ Drawn0 w w' := by
  have H : (if a0 ≥ 0 then (some (decide (a0 ≤ 999999))) else (some false)) = some r := h
  clear h
  by_cases c2 : a0 ≥ 0
  · rw [if_pos c2] at H
    have c2b0 : decide (0 ≤ a0) = true := decide_eq_true c2
    clear c2
    obtain rfl := Option.some.inj H
    go_enter Try.func80, Try.ntmps80
    go_wp2
    go_ret
    exact ⟨by first | rfl | (simp; done) | (simp [*]; done), by repeat (first | exact Drawn0.refl _ | apply Drawn0.step)⟩
  · rw [if_neg c2] at H
    have c2b0 : decide (0 ≤ a0) = false := decide_eq_false c2
    clear c2
    obtain rfl := Option.some.inj H
    go_enter Try.func80, Try.ntmps80
    go_wp2
    go_ret
    exact ⟨by first | rfl | (simp; done) | (simp [*]; done), by repeat (first | exact Drawn0.refl _ | apply Drawn0.step)⟩
def symbolonref04_layer.f (a0_0 : Int) (a0_1 : Int) (a0_2 : Int) (a0_3 : Int) : Option (Bool) := if a0_0 = 1 then ((symbolonref04_within.f a0_1).bind fun t217 => (if t217 = true then ((symbolonref04_within.f a0_2).bind fun t218 => (if t218 = true then ((symbolonref04_within.f a0_3).bind fun t219 => (some t219)) else (some false))) else (some false))) else (if a0_0 = 2 then (if a0_1 = 0 then (if a0_2 = 0 then (some (a0_3 == 0)) else (some false)) else (some false)) else (if a0_0 = 3 then (if a0_1 = 0 then ((symbolonref04_within.f a0_2).bind fun t220 => (if t220 = true then (some (a0_3 == 0)) else (some false))) else (some false)) else (if a0_0 = 4 then ((symbolonref04_within.f a0_1).bind fun t221 => (if t221 = true then (if a0_2 = 0 then (some (a0_3 == 0)) else (some false)) else (some false))) else (some false))))
set_option maxHeartbeats 8000000 in
set_option maxRecDepth 100000 in
theorem symbolonref04_layer.calls (a0_0 : Int) (a0_1 : Int) (a0_2 : Int) (a0_3 : Int) (r : Bool) (w : World) (h : symbolonref04_layer.f a0_0 a0_1 a0_2 a0_3 = some r) :
    Calls Try.prog 81 #[.agg #[.int .i64 a0_0, .int .i64 a0_1, .int .i64 a0_2, .int .i64 a0_3]] w fun e w' => e = .returned (.bool r) ∧ Below w.heap.size w w' := by
  have hu40 := Try.underlying40
  have HB := Aside0.mk (Below.refl w.heap.size w)
  have H : (if a0_0 = 1 then ((symbolonref04_within.f a0_1).bind fun t217 => (if t217 = true then ((symbolonref04_within.f a0_2).bind fun t218 => (if t218 = true then ((symbolonref04_within.f a0_3).bind fun t219 => (some t219)) else (some false))) else (some false))) else (if a0_0 = 2 then (if a0_1 = 0 then (if a0_2 = 0 then (some (a0_3 == 0)) else (some false)) else (some false)) else (if a0_0 = 3 then (if a0_1 = 0 then ((symbolonref04_within.f a0_2).bind fun t220 => (if t220 = true then (some (a0_3 == 0)) else (some false))) else (some false)) else (if a0_0 = 4 then ((symbolonref04_within.f a0_1).bind fun t221 => (if t221 = true then (if a0_2 = 0 then (some (a0_3 == 0)) else (some false)) else (some false))) else (some false))))) = some r := h
  clear h
  by_cases c2 : a0_0 = 1
  · rw [if_pos c2] at H
    have c2b0 : (a0_0 == 1) = true := beq_iff_eq.mpr c2
    have c2b1 : (a0_0 != 1) = false := bne_eq_false_iff_eq.mpr c2
    clear c2
    replace H := Option.bind_eq_some_iff.mp H
    obtain ⟨t217, A30, H⟩ := H
    replace H : (if t217 = true then ((symbolonref04_within.f a0_2).bind fun t218 => (if t218 = true then ((symbolonref04_within.f a0_3).bind fun t219 => (some t219)) else (some false))) else (some false)) = some r := H
    have A3 := Aside0.mk A30
    clear A30
    by_cases c4 : t217 = true
    · subst c4
      have H1 : ((symbolonref04_within.f a0_2).bind fun t218 => (if t218 = true then ((symbolonref04_within.f a0_3).bind fun t219 => (some t219)) else (some false))) = some r := by rw [if_pos rfl] at H; exact H
      clear H
      have H := H1
      clear H1
      replace H := Option.bind_eq_some_iff.mp H
      obtain ⟨t218, A50, H⟩ := H
      replace H : (if t218 = true then ((symbolonref04_within.f a0_3).bind fun t219 => (some t219)) else (some false)) = some r := H
      have A5 := Aside0.mk A50
      clear A50
      by_cases c6 : t218 = true
      · subst c6
        have H1 : ((symbolonref04_within.f a0_3).bind fun t219 => (some t219)) = some r := by rw [if_pos rfl] at H; exact H
        clear H
        have H := H1
        clear H1
        replace H := Option.bind_eq_some_iff.mp H
        obtain ⟨t219, A70, H⟩ := H
        replace H : (some t219) = some r := H
        have A7 := Aside0.mk A70
        clear A70
        obtain rfl := Option.some.inj H
        go_enter Try.func81, Try.ntmps81
        go_wp2_with (first | ((with_reducible refine gate_dst (N := 1) rfl ?_); refine box_event ?hg (N := 1) ?hd (cs := #[.int .i64 a0_0, .int .i64 a0_1, .int .i64 a0_2, .int .i64 a0_3]) (t := 40) ?hr ?_; (case hd => rfl); (case hg => rfl); (case hr => first | (go_simp; done) | (go_simp; rfl)); intro gb216 hg w8 hbox hb; have n0_ := Aside0.mk (below_step (by repeat (first | (with_reducible first | exact HB.out | apply below_alloc | apply pw_below_drewN | apply below_drew1) | exact HB.out)) hb); have n1_ := Aside0.mk (hbox); have n2_ := Aside0.mk ((by rw [hg]; exact (below_size (by repeat (first | (with_reducible first | exact HB.out | apply below_alloc | apply pw_below_drewN | apply below_drew1) | exact HB.out))) : w.heap.size ≤ gb216)); have n3_ := Aside0.mk ((by rw [hg]; exact (below_size (by repeat (first | (with_reducible first | exact HB.out | apply below_alloc | apply pw_below_drewN | apply below_drew1) | exact HB.out))) : w.heap.size ≤ gb216)); clear HB; have HB := n0_; have BK216 := n1_; have GW216 := n2_; have GE216 := n3_; clear n0_ n1_ n2_ n3_; clear hb hbox hg; have hcz9_0 : w8.cell? ⟨gb216, 0, none⟩ = some (.int .i64 a0_0) := (blk_cell BK216.out 0).trans rfl; have hcz9_1 : w8.cell? ⟨gb216, 1, none⟩ = some (.int .i64 a0_1) := (blk_cell BK216.out 1).trans rfl; have hcz9_2 : w8.cell? ⟨gb216, 2, none⟩ = some (.int .i64 a0_2) := (blk_cell BK216.out 2).trans rfl; have hcz9_3 : w8.cell? ⟨gb216, 3, none⟩ = some (.int .i64 a0_3) := (blk_cell BK216.out 3).trans rfl; have hfz9_0 := blk_frozen BK216.out 0; have hfz9_1 := blk_frozen BK216.out 1; have hfz9_2 := blk_frozen BK216.out 2; have hfz9_3 := blk_frozen BK216.out 3) | ((with_reducible refine gate_callee (f := 80) rfl ?_); refine goesL_ (some 9) rfl rfl Try.func80 (by kernel_rfl) rfl #[.int .i64 a0_1] rfl (by (try simp only [List.map_toArray, List.map_cons, List.map_nil]); first | done | rfl | (simp only [List.length_drop, List.length_take]; rfl)) ?_; (with_reducible refine (symbolonref04_within.calls a0_1 true _ A3.out).mono ?_); rintro e w' ⟨rfl, ⟨nd, rfl⟩⟩; refine ⟨_, rfl, ?_⟩) | (go_at_call 80; (with_reducible refine (symbolonref04_within.calls a0_2 true _ A5.out).mono ?_); rintro e w' ⟨rfl, ⟨nd, rfl⟩⟩) | (go_at_call 80; (with_reducible refine (symbolonref04_within.calls a0_3 t219 _ A7.out).mono ?_); rintro e w' ⟨rfl, ⟨nd, rfl⟩⟩))
        go_ret
        exact ⟨by first | rfl | (simp [errW_none, errW_some] <;> rfl) | (simp [*, errW_none, errW_some] <;> rfl), by repeat (first | (with_reducible first | exact HB.out | apply below_alloc | apply pw_below_drewN | apply below_drew1 | refine below_set ?_ GE216.out) | exact HB.out)⟩
      · replace c6 := Bool.eq_false_iff.mpr c6
        subst c6
        have H1 : (some false) = some r := by rw [if_neg (show ¬ (false = true) by decide)] at H; exact H
        clear H
        have H := H1
        clear H1
        obtain rfl := Option.some.inj H
        go_enter Try.func81, Try.ntmps81
        go_wp2_with (first | ((with_reducible refine gate_dst (N := 1) rfl ?_); refine box_event ?hg (N := 1) ?hd (cs := #[.int .i64 a0_0, .int .i64 a0_1, .int .i64 a0_2, .int .i64 a0_3]) (t := 40) ?hr ?_; (case hd => rfl); (case hg => rfl); (case hr => first | (go_simp; done) | (go_simp; rfl)); intro gb216 hg w10 hbox hb; have n0_ := Aside0.mk (below_step (by repeat (first | (with_reducible first | exact HB.out | apply below_alloc | apply pw_below_drewN | apply below_drew1) | exact HB.out)) hb); have n1_ := Aside0.mk (hbox); have n2_ := Aside0.mk ((by rw [hg]; exact (below_size (by repeat (first | (with_reducible first | exact HB.out | apply below_alloc | apply pw_below_drewN | apply below_drew1) | exact HB.out))) : w.heap.size ≤ gb216)); have n3_ := Aside0.mk ((by rw [hg]; exact (below_size (by repeat (first | (with_reducible first | exact HB.out | apply below_alloc | apply pw_below_drewN | apply below_drew1) | exact HB.out))) : w.heap.size ≤ gb216)); clear HB; have HB := n0_; have BK216 := n1_; have GW216 := n2_; have GE216 := n3_; clear n0_ n1_ n2_ n3_; clear hb hbox hg; have hcz11_0 : w10.cell? ⟨gb216, 0, none⟩ = some (.int .i64 a0_0) := (blk_cell BK216.out 0).trans rfl; have hcz11_1 : w10.cell? ⟨gb216, 1, none⟩ = some (.int .i64 a0_1) := (blk_cell BK216.out 1).trans rfl; have hcz11_2 : w10.cell? ⟨gb216, 2, none⟩ = some (.int .i64 a0_2) := (blk_cell BK216.out 2).trans rfl; have hcz11_3 : w10.cell? ⟨gb216, 3, none⟩ = some (.int .i64 a0_3) := (blk_cell BK216.out 3).trans rfl; have hfz11_0 := blk_frozen BK216.out 0; have hfz11_1 := blk_frozen BK216.out 1; have hfz11_2 := blk_frozen BK216.out 2; have hfz11_3 := blk_frozen BK216.out 3) | ((with_reducible refine gate_callee (f := 80) rfl ?_); refine goesL_ (some 9) rfl rfl Try.func80 (by kernel_rfl) rfl #[.int .i64 a0_1] rfl (by (try simp only [List.map_toArray, List.map_cons, List.map_nil]); first | done | rfl | (simp only [List.length_drop, List.length_take]; rfl)) ?_; (with_reducible refine (symbolonref04_within.calls a0_1 true _ A3.out).mono ?_); rintro e w' ⟨rfl, ⟨nd, rfl⟩⟩; refine ⟨_, rfl, ?_⟩) | (go_at_call 80; (with_reducible refine (symbolonref04_within.calls a0_2 false _ A5.out).mono ?_); rintro e w' ⟨rfl, ⟨nd, rfl⟩⟩))
        go_ret
        exact ⟨by first | rfl | (simp [errW_none, errW_some] <;> rfl) | (simp [*, errW_none, errW_some] <;> rfl), by repeat (first | (with_reducible first | exact HB.out | apply below_alloc | apply pw_below_drewN | apply below_drew1 | refine below_set ?_ GE216.out) | exact HB.out)⟩
    · replace c4 := Bool.eq_false_iff.mpr c4
      subst c4
      have H1 : (some false) = some r := by rw [if_neg (show ¬ (false = true) by decide)] at H; exact H
      clear H
      have H := H1
      clear H1
      obtain rfl := Option.some.inj H
      go_enter Try.func81, Try.ntmps81
      go_wp2_with (first | ((with_reducible refine gate_dst (N := 1) rfl ?_); refine box_event ?hg (N := 1) ?hd (cs := #[.int .i64 a0_0, .int .i64 a0_1, .int .i64 a0_2, .int .i64 a0_3]) (t := 40) ?hr ?_; (case hd => rfl); (case hg => rfl); (case hr => first | (go_simp; done) | (go_simp; rfl)); intro gb216 hg w12 hbox hb; have n0_ := Aside0.mk (below_step (by repeat (first | (with_reducible first | exact HB.out | apply below_alloc | apply pw_below_drewN | apply below_drew1) | exact HB.out)) hb); have n1_ := Aside0.mk (hbox); have n2_ := Aside0.mk ((by rw [hg]; exact (below_size (by repeat (first | (with_reducible first | exact HB.out | apply below_alloc | apply pw_below_drewN | apply below_drew1) | exact HB.out))) : w.heap.size ≤ gb216)); have n3_ := Aside0.mk ((by rw [hg]; exact (below_size (by repeat (first | (with_reducible first | exact HB.out | apply below_alloc | apply pw_below_drewN | apply below_drew1) | exact HB.out))) : w.heap.size ≤ gb216)); clear HB; have HB := n0_; have BK216 := n1_; have GW216 := n2_; have GE216 := n3_; clear n0_ n1_ n2_ n3_; clear hb hbox hg; have hcz13_0 : w12.cell? ⟨gb216, 0, none⟩ = some (.int .i64 a0_0) := (blk_cell BK216.out 0).trans rfl; have hcz13_1 : w12.cell? ⟨gb216, 1, none⟩ = some (.int .i64 a0_1) := (blk_cell BK216.out 1).trans rfl; have hcz13_2 : w12.cell? ⟨gb216, 2, none⟩ = some (.int .i64 a0_2) := (blk_cell BK216.out 2).trans rfl; have hcz13_3 : w12.cell? ⟨gb216, 3, none⟩ = some (.int .i64 a0_3) := (blk_cell BK216.out 3).trans rfl; have hfz13_0 := blk_frozen BK216.out 0; have hfz13_1 := blk_frozen BK216.out 1; have hfz13_2 := blk_frozen BK216.out 2; have hfz13_3 := blk_frozen BK216.out 3) | ((with_reducible refine gate_callee (f := 80) rfl ?_); refine goesL_ (some 9) rfl rfl Try.func80 (by kernel_rfl) rfl #[.int .i64 a0_1] rfl (by (try simp only [List.map_toArray, List.map_cons, List.map_nil]); first | done | rfl | (simp only [List.length_drop, List.length_take]; rfl)) ?_; (with_reducible refine (symbolonref04_within.calls a0_1 false _ A3.out).mono ?_); rintro e w' ⟨rfl, ⟨nd, rfl⟩⟩; refine ⟨_, rfl, ?_⟩))
      go_ret
      exact ⟨by first | rfl | (simp [errW_none, errW_some] <;> rfl) | (simp [*, errW_none, errW_some] <;> rfl), by repeat (first | (with_reducible first | exact HB.out | apply below_alloc | apply pw_below_drewN | apply below_drew1 | refine below_set ?_ GE216.out) | exact HB.out)⟩
  · rw [if_neg c2] at H
    have c2b0 : (a0_0 == 1) = false := beq_eq_false_iff_ne.mpr c2
    have c2b1 : (a0_0 != 1) = true := bne_iff_ne.mpr c2
    by_cases c14 : a0_0 = 2
    · rw [if_pos c14] at H
      have c14b0 : (a0_0 == 2) = true := beq_iff_eq.mpr c14
      have c14b1 : (a0_0 != 2) = false := bne_eq_false_iff_eq.mpr c14
      clear c14
      by_cases c15 : a0_1 = 0
      · rw [if_pos c15] at H
        have c15b0 : (a0_1 == 0) = true := beq_iff_eq.mpr c15
        have c15b1 : (a0_1 != 0) = false := bne_eq_false_iff_eq.mpr c15
        clear c15
        by_cases c16 : a0_2 = 0
        · rw [if_pos c16] at H
          have c16b0 : (a0_2 == 0) = true := beq_iff_eq.mpr c16
          have c16b1 : (a0_2 != 0) = false := bne_eq_false_iff_eq.mpr c16
          clear c16
          obtain rfl := Option.some.inj H
          go_enter Try.func81, Try.ntmps81
          go_wp2_with (first | ((with_reducible refine gate_dst (N := 1) rfl ?_); refine box_event ?hg (N := 1) ?hd (cs := #[.int .i64 a0_0, .int .i64 a0_1, .int .i64 a0_2, .int .i64 a0_3]) (t := 40) ?hr ?_; (case hd => rfl); (case hg => rfl); (case hr => first | (go_simp; done) | (go_simp; rfl)); intro gb216 hg w17 hbox hb; have n0_ := Aside0.mk (below_step (by repeat (first | (with_reducible first | exact HB.out | apply below_alloc | apply pw_below_drewN | apply below_drew1) | exact HB.out)) hb); have n1_ := Aside0.mk (hbox); have n2_ := Aside0.mk ((by rw [hg]; exact (below_size (by repeat (first | (with_reducible first | exact HB.out | apply below_alloc | apply pw_below_drewN | apply below_drew1) | exact HB.out))) : w.heap.size ≤ gb216)); have n3_ := Aside0.mk ((by rw [hg]; exact (below_size (by repeat (first | (with_reducible first | exact HB.out | apply below_alloc | apply pw_below_drewN | apply below_drew1) | exact HB.out))) : w.heap.size ≤ gb216)); clear HB; have HB := n0_; have BK216 := n1_; have GW216 := n2_; have GE216 := n3_; clear n0_ n1_ n2_ n3_; clear hb hbox hg; have hcz18_0 : w17.cell? ⟨gb216, 0, none⟩ = some (.int .i64 a0_0) := (blk_cell BK216.out 0).trans rfl; have hcz18_1 : w17.cell? ⟨gb216, 1, none⟩ = some (.int .i64 a0_1) := (blk_cell BK216.out 1).trans rfl; have hcz18_2 : w17.cell? ⟨gb216, 2, none⟩ = some (.int .i64 a0_2) := (blk_cell BK216.out 2).trans rfl; have hcz18_3 : w17.cell? ⟨gb216, 3, none⟩ = some (.int .i64 a0_3) := (blk_cell BK216.out 3).trans rfl; have hfz18_0 := blk_frozen BK216.out 0; have hfz18_1 := blk_frozen BK216.out 1; have hfz18_2 := blk_frozen BK216.out 2; have hfz18_3 := blk_frozen BK216.out 3))
          go_ret
          exact ⟨by first | rfl | (simp [errW_none, errW_some] <;> rfl) | (simp [*, errW_none, errW_some] <;> rfl), by repeat (first | (with_reducible first | exact HB.out | apply below_alloc | apply pw_below_drewN | apply below_drew1 | refine below_set ?_ GE216.out) | exact HB.out)⟩
        · rw [if_neg c16] at H
          have c16b0 : (a0_2 == 0) = false := beq_eq_false_iff_ne.mpr c16
          have c16b1 : (a0_2 != 0) = true := bne_iff_ne.mpr c16
          obtain rfl := Option.some.inj H
          go_enter Try.func81, Try.ntmps81
          go_wp2_with (first | ((with_reducible refine gate_dst (N := 1) rfl ?_); refine box_event ?hg (N := 1) ?hd (cs := #[.int .i64 a0_0, .int .i64 a0_1, .int .i64 a0_2, .int .i64 a0_3]) (t := 40) ?hr ?_; (case hd => rfl); (case hg => rfl); (case hr => first | (go_simp; done) | (go_simp; rfl)); intro gb216 hg w19 hbox hb; have n0_ := Aside0.mk (below_step (by repeat (first | (with_reducible first | exact HB.out | apply below_alloc | apply pw_below_drewN | apply below_drew1) | exact HB.out)) hb); have n1_ := Aside0.mk (hbox); have n2_ := Aside0.mk ((by rw [hg]; exact (below_size (by repeat (first | (with_reducible first | exact HB.out | apply below_alloc | apply pw_below_drewN | apply below_drew1) | exact HB.out))) : w.heap.size ≤ gb216)); have n3_ := Aside0.mk ((by rw [hg]; exact (below_size (by repeat (first | (with_reducible first | exact HB.out | apply below_alloc | apply pw_below_drewN | apply below_drew1) | exact HB.out))) : w.heap.size ≤ gb216)); clear HB; have HB := n0_; have BK216 := n1_; have GW216 := n2_; have GE216 := n3_; clear n0_ n1_ n2_ n3_; clear hb hbox hg; have hcz20_0 : w19.cell? ⟨gb216, 0, none⟩ = some (.int .i64 a0_0) := (blk_cell BK216.out 0).trans rfl; have hcz20_1 : w19.cell? ⟨gb216, 1, none⟩ = some (.int .i64 a0_1) := (blk_cell BK216.out 1).trans rfl; have hcz20_2 : w19.cell? ⟨gb216, 2, none⟩ = some (.int .i64 a0_2) := (blk_cell BK216.out 2).trans rfl; have hcz20_3 : w19.cell? ⟨gb216, 3, none⟩ = some (.int .i64 a0_3) := (blk_cell BK216.out 3).trans rfl; have hfz20_0 := blk_frozen BK216.out 0; have hfz20_1 := blk_frozen BK216.out 1; have hfz20_2 := blk_frozen BK216.out 2; have hfz20_3 := blk_frozen BK216.out 3))
          go_ret
          exact ⟨by first | rfl | (simp [errW_none, errW_some] <;> rfl) | (simp [*, errW_none, errW_some] <;> rfl), by repeat (first | (with_reducible first | exact HB.out | apply below_alloc | apply pw_below_drewN | apply below_drew1 | refine below_set ?_ GE216.out) | exact HB.out)⟩
      · rw [if_neg c15] at H
        have c15b0 : (a0_1 == 0) = false := beq_eq_false_iff_ne.mpr c15
        have c15b1 : (a0_1 != 0) = true := bne_iff_ne.mpr c15
        obtain rfl := Option.some.inj H
        go_enter Try.func81, Try.ntmps81
        go_wp2_with (first | ((with_reducible refine gate_dst (N := 1) rfl ?_); refine box_event ?hg (N := 1) ?hd (cs := #[.int .i64 a0_0, .int .i64 a0_1, .int .i64 a0_2, .int .i64 a0_3]) (t := 40) ?hr ?_; (case hd => rfl); (case hg => rfl); (case hr => first | (go_simp; done) | (go_simp; rfl)); intro gb216 hg w21 hbox hb; have n0_ := Aside0.mk (below_step (by repeat (first | (with_reducible first | exact HB.out | apply below_alloc | apply pw_below_drewN | apply below_drew1) | exact HB.out)) hb); have n1_ := Aside0.mk (hbox); have n2_ := Aside0.mk ((by rw [hg]; exact (below_size (by repeat (first | (with_reducible first | exact HB.out | apply below_alloc | apply pw_below_drewN | apply below_drew1) | exact HB.out))) : w.heap.size ≤ gb216)); have n3_ := Aside0.mk ((by rw [hg]; exact (below_size (by repeat (first | (with_reducible first | exact HB.out | apply below_alloc | apply pw_below_drewN | apply below_drew1) | exact HB.out))) : w.heap.size ≤ gb216)); clear HB; have HB := n0_; have BK216 := n1_; have GW216 := n2_; have GE216 := n3_; clear n0_ n1_ n2_ n3_; clear hb hbox hg; have hcz22_0 : w21.cell? ⟨gb216, 0, none⟩ = some (.int .i64 a0_0) := (blk_cell BK216.out 0).trans rfl; have hcz22_1 : w21.cell? ⟨gb216, 1, none⟩ = some (.int .i64 a0_1) := (blk_cell BK216.out 1).trans rfl; have hcz22_2 : w21.cell? ⟨gb216, 2, none⟩ = some (.int .i64 a0_2) := (blk_cell BK216.out 2).trans rfl; have hcz22_3 : w21.cell? ⟨gb216, 3, none⟩ = some (.int .i64 a0_3) := (blk_cell BK216.out 3).trans rfl; have hfz22_0 := blk_frozen BK216.out 0; have hfz22_1 := blk_frozen BK216.out 1; have hfz22_2 := blk_frozen BK216.out 2; have hfz22_3 := blk_frozen BK216.out 3))
        go_ret
        exact ⟨by first | rfl | (simp [errW_none, errW_some] <;> rfl) | (simp [*, errW_none, errW_some] <;> rfl), by repeat (first | (with_reducible first | exact HB.out | apply below_alloc | apply pw_below_drewN | apply below_drew1 | refine below_set ?_ GE216.out) | exact HB.out)⟩
    · rw [if_neg c14] at H
      have c14b0 : (a0_0 == 2) = false := beq_eq_false_iff_ne.mpr c14
      have c14b1 : (a0_0 != 2) = true := bne_iff_ne.mpr c14
      by_cases c23 : a0_0 = 3
      · rw [if_pos c23] at H
        have c23b0 : (a0_0 == 3) = true := beq_iff_eq.mpr c23
        have c23b1 : (a0_0 != 3) = false := bne_eq_false_iff_eq.mpr c23
        clear c23
        by_cases c24 : a0_1 = 0
        · rw [if_pos c24] at H
          have c24b0 : (a0_1 == 0) = true := beq_iff_eq.mpr c24
          have c24b1 : (a0_1 != 0) = false := bne_eq_false_iff_eq.mpr c24
          clear c24
          replace H := Option.bind_eq_some_iff.mp H
          obtain ⟨t220, A250, H⟩ := H
          replace H : (if t220 = true then (some (a0_3 == 0)) else (some false)) = some r := H
          have A25 := Aside0.mk A250
          clear A250
          by_cases c26 : t220 = true
          · subst c26
            have H1 : (some (a0_3 == 0)) = some r := by rw [if_pos rfl] at H; exact H
            clear H
            have H := H1
            clear H1
            obtain rfl := Option.some.inj H
            go_enter Try.func81, Try.ntmps81
            go_wp2_with (first | ((with_reducible refine gate_dst (N := 1) rfl ?_); refine box_event ?hg (N := 1) ?hd (cs := #[.int .i64 a0_0, .int .i64 a0_1, .int .i64 a0_2, .int .i64 a0_3]) (t := 40) ?hr ?_; (case hd => rfl); (case hg => rfl); (case hr => first | (go_simp; done) | (go_simp; rfl)); intro gb216 hg w27 hbox hb; have n0_ := Aside0.mk (below_step (by repeat (first | (with_reducible first | exact HB.out | apply below_alloc | apply pw_below_drewN | apply below_drew1) | exact HB.out)) hb); have n1_ := Aside0.mk (hbox); have n2_ := Aside0.mk ((by rw [hg]; exact (below_size (by repeat (first | (with_reducible first | exact HB.out | apply below_alloc | apply pw_below_drewN | apply below_drew1) | exact HB.out))) : w.heap.size ≤ gb216)); have n3_ := Aside0.mk ((by rw [hg]; exact (below_size (by repeat (first | (with_reducible first | exact HB.out | apply below_alloc | apply pw_below_drewN | apply below_drew1) | exact HB.out))) : w.heap.size ≤ gb216)); clear HB; have HB := n0_; have BK216 := n1_; have GW216 := n2_; have GE216 := n3_; clear n0_ n1_ n2_ n3_; clear hb hbox hg; have hcz28_0 : w27.cell? ⟨gb216, 0, none⟩ = some (.int .i64 a0_0) := (blk_cell BK216.out 0).trans rfl; have hcz28_1 : w27.cell? ⟨gb216, 1, none⟩ = some (.int .i64 a0_1) := (blk_cell BK216.out 1).trans rfl; have hcz28_2 : w27.cell? ⟨gb216, 2, none⟩ = some (.int .i64 a0_2) := (blk_cell BK216.out 2).trans rfl; have hcz28_3 : w27.cell? ⟨gb216, 3, none⟩ = some (.int .i64 a0_3) := (blk_cell BK216.out 3).trans rfl; have hfz28_0 := blk_frozen BK216.out 0; have hfz28_1 := blk_frozen BK216.out 1; have hfz28_2 := blk_frozen BK216.out 2; have hfz28_3 := blk_frozen BK216.out 3) | (go_at_call 80; (with_reducible refine (symbolonref04_within.calls a0_2 true _ A25.out).mono ?_); rintro e w' ⟨rfl, ⟨nd, rfl⟩⟩))
            go_ret
            exact ⟨by first | rfl | (simp [errW_none, errW_some] <;> rfl) | (simp [*, errW_none, errW_some] <;> rfl), by repeat (first | (with_reducible first | exact HB.out | apply below_alloc | apply pw_below_drewN | apply below_drew1 | refine below_set ?_ GE216.out) | exact HB.out)⟩
          · replace c26 := Bool.eq_false_iff.mpr c26
            subst c26
            have H1 : (some false) = some r := by rw [if_neg (show ¬ (false = true) by decide)] at H; exact H
            clear H
            have H := H1
            clear H1
            obtain rfl := Option.some.inj H
            go_enter Try.func81, Try.ntmps81
            go_wp2_with (first | ((with_reducible refine gate_dst (N := 1) rfl ?_); refine box_event ?hg (N := 1) ?hd (cs := #[.int .i64 a0_0, .int .i64 a0_1, .int .i64 a0_2, .int .i64 a0_3]) (t := 40) ?hr ?_; (case hd => rfl); (case hg => rfl); (case hr => first | (go_simp; done) | (go_simp; rfl)); intro gb216 hg w29 hbox hb; have n0_ := Aside0.mk (below_step (by repeat (first | (with_reducible first | exact HB.out | apply below_alloc | apply pw_below_drewN | apply below_drew1) | exact HB.out)) hb); have n1_ := Aside0.mk (hbox); have n2_ := Aside0.mk ((by rw [hg]; exact (below_size (by repeat (first | (with_reducible first | exact HB.out | apply below_alloc | apply pw_below_drewN | apply below_drew1) | exact HB.out))) : w.heap.size ≤ gb216)); have n3_ := Aside0.mk ((by rw [hg]; exact (below_size (by repeat (first | (with_reducible first | exact HB.out | apply below_alloc | apply pw_below_drewN | apply below_drew1) | exact HB.out))) : w.heap.size ≤ gb216)); clear HB; have HB := n0_; have BK216 := n1_; have GW216 := n2_; have GE216 := n3_; clear n0_ n1_ n2_ n3_; clear hb hbox hg; have hcz30_0 : w29.cell? ⟨gb216, 0, none⟩ = some (.int .i64 a0_0) := (blk_cell BK216.out 0).trans rfl; have hcz30_1 : w29.cell? ⟨gb216, 1, none⟩ = some (.int .i64 a0_1) := (blk_cell BK216.out 1).trans rfl; have hcz30_2 : w29.cell? ⟨gb216, 2, none⟩ = some (.int .i64 a0_2) := (blk_cell BK216.out 2).trans rfl; have hcz30_3 : w29.cell? ⟨gb216, 3, none⟩ = some (.int .i64 a0_3) := (blk_cell BK216.out 3).trans rfl; have hfz30_0 := blk_frozen BK216.out 0; have hfz30_1 := blk_frozen BK216.out 1; have hfz30_2 := blk_frozen BK216.out 2; have hfz30_3 := blk_frozen BK216.out 3) | (go_at_call 80; (with_reducible refine (symbolonref04_within.calls a0_2 false _ A25.out).mono ?_); rintro e w' ⟨rfl, ⟨nd, rfl⟩⟩))
            go_ret
            exact ⟨by first | rfl | (simp [errW_none, errW_some] <;> rfl) | (simp [*, errW_none, errW_some] <;> rfl), by repeat (first | (with_reducible first | exact HB.out | apply below_alloc | apply pw_below_drewN | apply below_drew1 | refine below_set ?_ GE216.out) | exact HB.out)⟩
        · rw [if_neg c24] at H
          have c24b0 : (a0_1 == 0) = false := beq_eq_false_iff_ne.mpr c24
          have c24b1 : (a0_1 != 0) = true := bne_iff_ne.mpr c24
          obtain rfl := Option.some.inj H
          go_enter Try.func81, Try.ntmps81
          go_wp2_with (first | ((with_reducible refine gate_dst (N := 1) rfl ?_); refine box_event ?hg (N := 1) ?hd (cs := #[.int .i64 a0_0, .int .i64 a0_1, .int .i64 a0_2, .int .i64 a0_3]) (t := 40) ?hr ?_; (case hd => rfl); (case hg => rfl); (case hr => first | (go_simp; done) | (go_simp; rfl)); intro gb216 hg w31 hbox hb; have n0_ := Aside0.mk (below_step (by repeat (first | (with_reducible first | exact HB.out | apply below_alloc | apply pw_below_drewN | apply below_drew1) | exact HB.out)) hb); have n1_ := Aside0.mk (hbox); have n2_ := Aside0.mk ((by rw [hg]; exact (below_size (by repeat (first | (with_reducible first | exact HB.out | apply below_alloc | apply pw_below_drewN | apply below_drew1) | exact HB.out))) : w.heap.size ≤ gb216)); have n3_ := Aside0.mk ((by rw [hg]; exact (below_size (by repeat (first | (with_reducible first | exact HB.out | apply below_alloc | apply pw_below_drewN | apply below_drew1) | exact HB.out))) : w.heap.size ≤ gb216)); clear HB; have HB := n0_; have BK216 := n1_; have GW216 := n2_; have GE216 := n3_; clear n0_ n1_ n2_ n3_; clear hb hbox hg; have hcz32_0 : w31.cell? ⟨gb216, 0, none⟩ = some (.int .i64 a0_0) := (blk_cell BK216.out 0).trans rfl; have hcz32_1 : w31.cell? ⟨gb216, 1, none⟩ = some (.int .i64 a0_1) := (blk_cell BK216.out 1).trans rfl; have hcz32_2 : w31.cell? ⟨gb216, 2, none⟩ = some (.int .i64 a0_2) := (blk_cell BK216.out 2).trans rfl; have hcz32_3 : w31.cell? ⟨gb216, 3, none⟩ = some (.int .i64 a0_3) := (blk_cell BK216.out 3).trans rfl; have hfz32_0 := blk_frozen BK216.out 0; have hfz32_1 := blk_frozen BK216.out 1; have hfz32_2 := blk_frozen BK216.out 2; have hfz32_3 := blk_frozen BK216.out 3))
          go_ret
          exact ⟨by first | rfl | (simp [errW_none, errW_some] <;> rfl) | (simp [*, errW_none, errW_some] <;> rfl), by repeat (first | (with_reducible first | exact HB.out | apply below_alloc | apply pw_below_drewN | apply below_drew1 | refine below_set ?_ GE216.out) | exact HB.out)⟩
      · rw [if_neg c23] at H
        have c23b0 : (a0_0 == 3) = false := beq_eq_false_iff_ne.mpr c23
        have c23b1 : (a0_0 != 3) = true := bne_iff_ne.mpr c23
        by_cases c33 : a0_0 = 4
        · rw [if_pos c33] at H
          have c33b0 : (a0_0 == 4) = true := beq_iff_eq.mpr c33
          have c33b1 : (a0_0 != 4) = false := bne_eq_false_iff_eq.mpr c33
          clear c33
          replace H := Option.bind_eq_some_iff.mp H
          obtain ⟨t221, A340, H⟩ := H
          replace H : (if t221 = true then (if a0_2 = 0 then (some (a0_3 == 0)) else (some false)) else (some false)) = some r := H
          have A34 := Aside0.mk A340
          clear A340
          by_cases c35 : t221 = true
          · subst c35
            have H1 : (if a0_2 = 0 then (some (a0_3 == 0)) else (some false)) = some r := by rw [if_pos rfl] at H; exact H
            clear H
            have H := H1
            clear H1
            by_cases c36 : a0_2 = 0
            · rw [if_pos c36] at H
              have c36b0 : (a0_2 == 0) = true := beq_iff_eq.mpr c36
              have c36b1 : (a0_2 != 0) = false := bne_eq_false_iff_eq.mpr c36
              clear c36
              obtain rfl := Option.some.inj H
              go_enter Try.func81, Try.ntmps81
              go_wp2_with (first | ((with_reducible refine gate_dst (N := 1) rfl ?_); refine box_event ?hg (N := 1) ?hd (cs := #[.int .i64 a0_0, .int .i64 a0_1, .int .i64 a0_2, .int .i64 a0_3]) (t := 40) ?hr ?_; (case hd => rfl); (case hg => rfl); (case hr => first | (go_simp; done) | (go_simp; rfl)); intro gb216 hg w37 hbox hb; have n0_ := Aside0.mk (below_step (by repeat (first | (with_reducible first | exact HB.out | apply below_alloc | apply pw_below_drewN | apply below_drew1) | exact HB.out)) hb); have n1_ := Aside0.mk (hbox); have n2_ := Aside0.mk ((by rw [hg]; exact (below_size (by repeat (first | (with_reducible first | exact HB.out | apply below_alloc | apply pw_below_drewN | apply below_drew1) | exact HB.out))) : w.heap.size ≤ gb216)); have n3_ := Aside0.mk ((by rw [hg]; exact (below_size (by repeat (first | (with_reducible first | exact HB.out | apply below_alloc | apply pw_below_drewN | apply below_drew1) | exact HB.out))) : w.heap.size ≤ gb216)); clear HB; have HB := n0_; have BK216 := n1_; have GW216 := n2_; have GE216 := n3_; clear n0_ n1_ n2_ n3_; clear hb hbox hg; have hcz38_0 : w37.cell? ⟨gb216, 0, none⟩ = some (.int .i64 a0_0) := (blk_cell BK216.out 0).trans rfl; have hcz38_1 : w37.cell? ⟨gb216, 1, none⟩ = some (.int .i64 a0_1) := (blk_cell BK216.out 1).trans rfl; have hcz38_2 : w37.cell? ⟨gb216, 2, none⟩ = some (.int .i64 a0_2) := (blk_cell BK216.out 2).trans rfl; have hcz38_3 : w37.cell? ⟨gb216, 3, none⟩ = some (.int .i64 a0_3) := (blk_cell BK216.out 3).trans rfl; have hfz38_0 := blk_frozen BK216.out 0; have hfz38_1 := blk_frozen BK216.out 1; have hfz38_2 := blk_frozen BK216.out 2; have hfz38_3 := blk_frozen BK216.out 3) | ((with_reducible refine gate_callee (f := 80) rfl ?_); refine goesL_ (some 54) rfl rfl Try.func80 (by kernel_rfl) rfl #[.int .i64 a0_1] rfl (by (try simp only [List.map_toArray, List.map_cons, List.map_nil]); first | done | rfl | (simp only [List.length_drop, List.length_take]; rfl)) ?_; (with_reducible refine (symbolonref04_within.calls a0_1 true _ A34.out).mono ?_); rintro e w' ⟨rfl, ⟨nd, rfl⟩⟩; refine ⟨_, rfl, ?_⟩))
              go_ret
              exact ⟨by first | rfl | (simp [errW_none, errW_some] <;> rfl) | (simp [*, errW_none, errW_some] <;> rfl), by repeat (first | (with_reducible first | exact HB.out | apply below_alloc | apply pw_below_drewN | apply below_drew1 | refine below_set ?_ GE216.out) | exact HB.out)⟩
            · rw [if_neg c36] at H
              have c36b0 : (a0_2 == 0) = false := beq_eq_false_iff_ne.mpr c36
              have c36b1 : (a0_2 != 0) = true := bne_iff_ne.mpr c36
              obtain rfl := Option.some.inj H
              go_enter Try.func81, Try.ntmps81
              go_wp2_with (first | ((with_reducible refine gate_dst (N := 1) rfl ?_); refine box_event ?hg (N := 1) ?hd (cs := #[.int .i64 a0_0, .int .i64 a0_1, .int .i64 a0_2, .int .i64 a0_3]) (t := 40) ?hr ?_; (case hd => rfl); (case hg => rfl); (case hr => first | (go_simp; done) | (go_simp; rfl)); intro gb216 hg w39 hbox hb; have n0_ := Aside0.mk (below_step (by repeat (first | (with_reducible first | exact HB.out | apply below_alloc | apply pw_below_drewN | apply below_drew1) | exact HB.out)) hb); have n1_ := Aside0.mk (hbox); have n2_ := Aside0.mk ((by rw [hg]; exact (below_size (by repeat (first | (with_reducible first | exact HB.out | apply below_alloc | apply pw_below_drewN | apply below_drew1) | exact HB.out))) : w.heap.size ≤ gb216)); have n3_ := Aside0.mk ((by rw [hg]; exact (below_size (by repeat (first | (with_reducible first | exact HB.out | apply below_alloc | apply pw_below_drewN | apply below_drew1) | exact HB.out))) : w.heap.size ≤ gb216)); clear HB; have HB := n0_; have BK216 := n1_; have GW216 := n2_; have GE216 := n3_; clear n0_ n1_ n2_ n3_; clear hb hbox hg; have hcz40_0 : w39.cell? ⟨gb216, 0, none⟩ = some (.int .i64 a0_0) := (blk_cell BK216.out 0).trans rfl; have hcz40_1 : w39.cell? ⟨gb216, 1, none⟩ = some (.int .i64 a0_1) := (blk_cell BK216.out 1).trans rfl; have hcz40_2 : w39.cell? ⟨gb216, 2, none⟩ = some (.int .i64 a0_2) := (blk_cell BK216.out 2).trans rfl; have hcz40_3 : w39.cell? ⟨gb216, 3, none⟩ = some (.int .i64 a0_3) := (blk_cell BK216.out 3).trans rfl; have hfz40_0 := blk_frozen BK216.out 0; have hfz40_1 := blk_frozen BK216.out 1; have hfz40_2 := blk_frozen BK216.out 2; have hfz40_3 := blk_frozen BK216.out 3) | ((with_reducible refine gate_callee (f := 80) rfl ?_); refine goesL_ (some 54) rfl rfl Try.func80 (by kernel_rfl) rfl #[.int .i64 a0_1] rfl (by (try simp only [List.map_toArray, List.map_cons, List.map_nil]); first | done | rfl | (simp only [List.length_drop, List.length_take]; rfl)) ?_; (with_reducible refine (symbolonref04_within.calls a0_1 true _ A34.out).mono ?_); rintro e w' ⟨rfl, ⟨nd, rfl⟩⟩; refine ⟨_, rfl, ?_⟩))
              go_ret
              exact ⟨by first | rfl | (simp [errW_none, errW_some] <;> rfl) | (simp [*, errW_none, errW_some] <;> rfl), by repeat (first | (with_reducible first | exact HB.out | apply below_alloc | apply pw_below_drewN | apply below_drew1 | refine below_set ?_ GE216.out) | exact HB.out)⟩
          · replace c35 := Bool.eq_false_iff.mpr c35
            subst c35
            have H1 : (some false) = some r := by rw [if_neg (show ¬ (false = true) by decide)] at H; exact H
            clear H
            have H := H1
            clear H1
            obtain rfl := Option.some.inj H
            go_enter Try.func81, Try.ntmps81
            go_wp2_with (first | ((with_reducible refine gate_dst (N := 1) rfl ?_); refine box_event ?hg (N := 1) ?hd (cs := #[.int .i64 a0_0, .int .i64 a0_1, .int .i64 a0_2, .int .i64 a0_3]) (t := 40) ?hr ?_; (case hd => rfl); (case hg => rfl); (case hr => first | (go_simp; done) | (go_simp; rfl)); intro gb216 hg w41 hbox hb; have n0_ := Aside0.mk (below_step (by repeat (first | (with_reducible first | exact HB.out | apply below_alloc | apply pw_below_drewN | apply below_drew1) | exact HB.out)) hb); have n1_ := Aside0.mk (hbox); have n2_ := Aside0.mk ((by rw [hg]; exact (below_size (by repeat (first | (with_reducible first | exact HB.out | apply below_alloc | apply pw_below_drewN | apply below_drew1) | exact HB.out))) : w.heap.size ≤ gb216)); have n3_ := Aside0.mk ((by rw [hg]; exact (below_size (by repeat (first | (with_reducible first | exact HB.out | apply below_alloc | apply pw_below_drewN | apply below_drew1) | exact HB.out))) : w.heap.size ≤ gb216)); clear HB; have HB := n0_; have BK216 := n1_; have GW216 := n2_; have GE216 := n3_; clear n0_ n1_ n2_ n3_; clear hb hbox hg; have hcz42_0 : w41.cell? ⟨gb216, 0, none⟩ = some (.int .i64 a0_0) := (blk_cell BK216.out 0).trans rfl; have hcz42_1 : w41.cell? ⟨gb216, 1, none⟩ = some (.int .i64 a0_1) := (blk_cell BK216.out 1).trans rfl; have hcz42_2 : w41.cell? ⟨gb216, 2, none⟩ = some (.int .i64 a0_2) := (blk_cell BK216.out 2).trans rfl; have hcz42_3 : w41.cell? ⟨gb216, 3, none⟩ = some (.int .i64 a0_3) := (blk_cell BK216.out 3).trans rfl; have hfz42_0 := blk_frozen BK216.out 0; have hfz42_1 := blk_frozen BK216.out 1; have hfz42_2 := blk_frozen BK216.out 2; have hfz42_3 := blk_frozen BK216.out 3) | ((with_reducible refine gate_callee (f := 80) rfl ?_); refine goesL_ (some 54) rfl rfl Try.func80 (by kernel_rfl) rfl #[.int .i64 a0_1] rfl (by (try simp only [List.map_toArray, List.map_cons, List.map_nil]); first | done | rfl | (simp only [List.length_drop, List.length_take]; rfl)) ?_; (with_reducible refine (symbolonref04_within.calls a0_1 false _ A34.out).mono ?_); rintro e w' ⟨rfl, ⟨nd, rfl⟩⟩; refine ⟨_, rfl, ?_⟩))
            go_ret
            exact ⟨by first | rfl | (simp [errW_none, errW_some] <;> rfl) | (simp [*, errW_none, errW_some] <;> rfl), by repeat (first | (with_reducible first | exact HB.out | apply below_alloc | apply pw_below_drewN | apply below_drew1 | refine below_set ?_ GE216.out) | exact HB.out)⟩
        · rw [if_neg c33] at H
          have c33b0 : (a0_0 == 4) = false := beq_eq_false_iff_ne.mpr c33
          have c33b1 : (a0_0 != 4) = true := bne_iff_ne.mpr c33
          obtain rfl := Option.some.inj H
          go_enter Try.func81, Try.ntmps81
          go_wp2_with (first | ((with_reducible refine gate_dst (N := 1) rfl ?_); refine box_event ?hg (N := 1) ?hd (cs := #[.int .i64 a0_0, .int .i64 a0_1, .int .i64 a0_2, .int .i64 a0_3]) (t := 40) ?hr ?_; (case hd => rfl); (case hg => rfl); (case hr => first | (go_simp; done) | (go_simp; rfl)); intro gb216 hg w43 hbox hb; have n0_ := Aside0.mk (below_step (by repeat (first | (with_reducible first | exact HB.out | apply below_alloc | apply pw_below_drewN | apply below_drew1) | exact HB.out)) hb); have n1_ := Aside0.mk (hbox); have n2_ := Aside0.mk ((by rw [hg]; exact (below_size (by repeat (first | (with_reducible first | exact HB.out | apply below_alloc | apply pw_below_drewN | apply below_drew1) | exact HB.out))) : w.heap.size ≤ gb216)); have n3_ := Aside0.mk ((by rw [hg]; exact (below_size (by repeat (first | (with_reducible first | exact HB.out | apply below_alloc | apply pw_below_drewN | apply below_drew1) | exact HB.out))) : w.heap.size ≤ gb216)); clear HB; have HB := n0_; have BK216 := n1_; have GW216 := n2_; have GE216 := n3_; clear n0_ n1_ n2_ n3_; clear hb hbox hg; have hcz44_0 : w43.cell? ⟨gb216, 0, none⟩ = some (.int .i64 a0_0) := (blk_cell BK216.out 0).trans rfl; have hcz44_1 : w43.cell? ⟨gb216, 1, none⟩ = some (.int .i64 a0_1) := (blk_cell BK216.out 1).trans rfl; have hcz44_2 : w43.cell? ⟨gb216, 2, none⟩ = some (.int .i64 a0_2) := (blk_cell BK216.out 2).trans rfl; have hcz44_3 : w43.cell? ⟨gb216, 3, none⟩ = some (.int .i64 a0_3) := (blk_cell BK216.out 3).trans rfl; have hfz44_0 := blk_frozen BK216.out 0; have hfz44_1 := blk_frozen BK216.out 1; have hfz44_2 := blk_frozen BK216.out 2; have hfz44_3 := blk_frozen BK216.out 3))
          go_ret
          exact ⟨by first | rfl | (simp [errW_none, errW_some] <;> rfl) | (simp [*, errW_none, errW_some] <;> rfl), by repeat (first | (with_reducible first | exact HB.out | apply below_alloc | apply pw_below_drewN | apply below_drew1 | refine below_set ?_ GE216.out) | exact HB.out)⟩
mutual
def symbolonref04_Form.j0 : Nat → Bool → Int → Int → Int → List (S40) → Option (Bool)
  | 0, _, _, _, _, _ => none
  | k + 1, x28, x223000, x223001, x223002, x223003 => if x28 = true then (some false) else (symbolonref04_Form.l0 k 0 x223000 x223001 x223002 x223003)
def symbolonref04_Form.l0 : Nat → Int → Int → Int → Int → List (S40) → Option (Bool)
  | 0, _, _, _, _, _ => none
  | k + 1, x3, x223000, x223001, x223002, x223003 => if x3 < (x223003.length : Int) then (if 0 ≤ x3 then ((symbolonref04_layer.f ((rd_T40 x223003 x3).f0) ((rd_T40 x223003 x3).f1) ((rd_T40 x223003 x3).f2) ((rd_T40 x223003 x3).f3)).bind fun t227 => (if t227 = true then (symbolonref04_Form.l0 k (wrap64 (x3 + 1)) x223000 x223001 x223002 x223003) else (some false))) else (none)) else (some true)
end
def symbolonref04_Form.f (k : Nat) (a0_0 : Int) (a0_1 : Int) (a0_2 : Int) (l0_3 : List (S40)) : Option (Bool) := (symbolonref04_within.f a0_0).bind fun t223 => (if t223 = true then ((symbolonref04_within.f a0_1).bind fun t224 => (if t224 = true then ((symbolonref04_within.f a0_2).bind fun t225 => (if t225 = true then (symbolonref04_Form.j0 k (decide ((l0_3.length : Int) > 8)) a0_0 a0_1 a0_2 l0_3) else (symbolonref04_Form.j0 k true a0_0 a0_1 a0_2 l0_3))) else (symbolonref04_Form.j0 k true a0_0 a0_1 a0_2 l0_3))) else (symbolonref04_Form.j0 k true a0_0 a0_1 a0_2 l0_3))
set_option maxHeartbeats 8000000 in
set_option maxRecDepth 100000 in
theorem symbolonref04_Form.calls (k : Nat) (a0_0 : Int) (a0_1 : Int) (a0_2 : Int) (A0_3 : Option Addr) (c0_3 : Nat) (l0_3 : List (S40)) (r : Bool) (w : World) (hr0_3 : Kd.C k40 w A0_3 l0_3.length l0_3) (hc0_3 : l0_3.length ≤ c0_3) (h : symbolonref04_Form.f k a0_0 a0_1 a0_2 l0_3 = some r) :
    Calls Try.prog 42 #[.agg #[.int .i64 a0_0, .int .i64 a0_1, .int .i64 a0_2, .slice A0_3 l0_3.length c0_3]] w fun e w' => e = .returned (.bool r) ∧ Below w.heap.size w w' := by
  have hu26 := Try.underlying26
  have hu40 := Try.underlying40
  have HR0_3 := Aside0.mk hr0_3
  have HC0_3 := Aside0.mk hc0_3
  clear hr0_3 hc0_3
  have HB := Aside0.mk (Below.refl w.heap.size w)
  have H : ((symbolonref04_within.f a0_0).bind fun t223 => (if t223 = true then ((symbolonref04_within.f a0_1).bind fun t224 => (if t224 = true then ((symbolonref04_within.f a0_2).bind fun t225 => (if t225 = true then (symbolonref04_Form.j0 k (decide ((l0_3.length : Int) > 8)) a0_0 a0_1 a0_2 l0_3) else (symbolonref04_Form.j0 k true a0_0 a0_1 a0_2 l0_3))) else (symbolonref04_Form.j0 k true a0_0 a0_1 a0_2 l0_3))) else (symbolonref04_Form.j0 k true a0_0 a0_1 a0_2 l0_3))) = some r := h
  clear h
  have HC2 := Aside0.mk H
  clear H
  go_enter Try.func42, Try.ntmps42
  go_upto_region 1 with (first | ((with_reducible refine gate_dst (N := 1) rfl ?_); (try (refine gate_guard (by rfl) ?_; dsimp only)); refine box_event ?hg (N := 1) ?hd (cs := #[.int .i64 a0_0, .int .i64 a0_1, .int .i64 a0_2, .slice A0_3 l0_3.length c0_3]) (t := 26) ?hr ?_; (case hd => rfl); (case hg => rfl); (case hr => first | (go_simp; done) | (go_simp; rfl)); intro gb222 hg w3 hbox hb; have n0_ := Aside0.mk (below_step (by repeat (first | (with_reducible first | exact HB.out | apply below_alloc | apply pw_below_drewN | apply below_drew1) | exact HB.out)) hb); have n1_ := Aside0.mk (hbox); have n2_ := Aside0.mk ((by rw [hg]; exact (below_size (by repeat (first | (with_reducible first | exact HB.out | apply below_alloc | apply pw_below_drewN | apply below_drew1) | exact HB.out))) : w.heap.size ≤ gb222)); have n3_ := Aside0.mk ((by rw [hg]; exact (below_size (by repeat (first | (with_reducible first | exact HB.out | apply below_alloc | apply pw_below_drewN | apply below_drew1) | exact HB.out))) : w.heap.size ≤ gb222)); clear HB; have HB := n0_; have BK222 := n1_; have GW222 := n2_; have GE222 := n3_; clear n0_ n1_ n2_ n3_; clear hb hbox hg))
  (try simp only [Act.put, List.setIfInBounds_toArray, List.set_cons_zero, List.set_cons_succ])
  go_cut [28] (fun v28 wc => ∃ (kq : Nat) (x28_1 : Bool), v28 = .bool x28_1 ∧ Aside0 (symbolonref04_Form.j0 kq x28_1 a0_0 a0_1 a0_2 l0_3 = some r) ∧ Aside0 (kq ≤ k) ∧ Aside0 (wc.heap[gb222]? = some (.cells #[.int .i64 a0_0, .int .i64 a0_1, .int .i64 a0_2, (.slice A0_3 l0_3.length c0_3)] 26 (0, 0))) ∧ Aside0 (Below w.heap.size w wc))
  case first =>
    have H := HC2.out
    clear HC2
    replace H := Option.bind_eq_some_iff.mp H
    obtain ⟨t223, A40, H⟩ := H
    replace H : (if t223 = true then ((symbolonref04_within.f a0_1).bind fun t224 => (if t224 = true then ((symbolonref04_within.f a0_2).bind fun t225 => (if t225 = true then (symbolonref04_Form.j0 k (decide ((l0_3.length : Int) > 8)) a0_0 a0_1 a0_2 l0_3) else (symbolonref04_Form.j0 k true a0_0 a0_1 a0_2 l0_3))) else (symbolonref04_Form.j0 k true a0_0 a0_1 a0_2 l0_3))) else (symbolonref04_Form.j0 k true a0_0 a0_1 a0_2 l0_3)) = some r := H
    have A4 := Aside0.mk A40
    clear A40
    by_cases c5 : t223 = true
    · subst c5
      have H1 : ((symbolonref04_within.f a0_1).bind fun t224 => (if t224 = true then ((symbolonref04_within.f a0_2).bind fun t225 => (if t225 = true then (symbolonref04_Form.j0 k (decide ((l0_3.length : Int) > 8)) a0_0 a0_1 a0_2 l0_3) else (symbolonref04_Form.j0 k true a0_0 a0_1 a0_2 l0_3))) else (symbolonref04_Form.j0 k true a0_0 a0_1 a0_2 l0_3))) = some r := by rw [if_pos rfl] at H; exact H
      clear H
      have H := H1
      clear H1
      replace H := Option.bind_eq_some_iff.mp H
      obtain ⟨t224, A60, H⟩ := H
      replace H : (if t224 = true then ((symbolonref04_within.f a0_2).bind fun t225 => (if t225 = true then (symbolonref04_Form.j0 k (decide ((l0_3.length : Int) > 8)) a0_0 a0_1 a0_2 l0_3) else (symbolonref04_Form.j0 k true a0_0 a0_1 a0_2 l0_3))) else (symbolonref04_Form.j0 k true a0_0 a0_1 a0_2 l0_3)) = some r := H
      have A6 := Aside0.mk A60
      clear A60
      by_cases c7 : t224 = true
      · subst c7
        have H1 : ((symbolonref04_within.f a0_2).bind fun t225 => (if t225 = true then (symbolonref04_Form.j0 k (decide ((l0_3.length : Int) > 8)) a0_0 a0_1 a0_2 l0_3) else (symbolonref04_Form.j0 k true a0_0 a0_1 a0_2 l0_3))) = some r := by rw [if_pos rfl] at H; exact H
        clear H
        have H := H1
        clear H1
        replace H := Option.bind_eq_some_iff.mp H
        obtain ⟨t225, A80, H⟩ := H
        replace H : (if t225 = true then (symbolonref04_Form.j0 k (decide ((l0_3.length : Int) > 8)) a0_0 a0_1 a0_2 l0_3) else (symbolonref04_Form.j0 k true a0_0 a0_1 a0_2 l0_3)) = some r := H
        have A8 := Aside0.mk A80
        clear A80
        by_cases c9 : t225 = true
        · subst c9
          have H1 : (symbolonref04_Form.j0 k (decide ((l0_3.length : Int) > 8)) a0_0 a0_1 a0_2 l0_3) = some r := by rw [if_pos rfl] at H; exact H
          clear H
          have H := H1
          clear H1
          have H' := Aside0.mk H
          clear H
          have hcz10_0 : w3.cell? ⟨gb222, 0, none⟩ = some (.int .i64 a0_0) := (blk_cell BK222.out 0).trans rfl
          have hcz10_1 : w3.cell? ⟨gb222, 1, none⟩ = some (.int .i64 a0_1) := (blk_cell BK222.out 1).trans rfl
          have hcz10_2 : w3.cell? ⟨gb222, 2, none⟩ = some (.int .i64 a0_2) := (blk_cell BK222.out 2).trans rfl
          have hcz10_3 : w3.cell? ⟨gb222, 3, none⟩ = some (.slice A0_3 l0_3.length c0_3) := (blk_cell BK222.out 3).trans rfl
          have hfz10_0 := blk_frozen BK222.out 0
          have hfz10_1 := blk_frozen BK222.out 1
          have hfz10_2 := blk_frozen BK222.out 2
          have hfz10_3 := blk_frozen BK222.out 3
          go_wp2_with (first | ((with_reducible refine gate_callee (f := 80) rfl ?_); refine goesL_ (some 7) rfl rfl Try.func80 (by kernel_rfl) rfl #[.int .i64 a0_0] rfl (by (try simp only [List.map_toArray, List.map_cons, List.map_nil]); first | done | rfl | (simp only [List.length_drop, List.length_take]; rfl)) ?_; (with_reducible refine (symbolonref04_within.calls a0_0 true _ A4.out).mono ?_); rintro e w' ⟨rfl, ⟨nd, rfl⟩⟩; refine ⟨_, rfl, ?_⟩) | (go_at_call 80; (with_reducible refine (symbolonref04_within.calls a0_1 true _ A6.out).mono ?_); rintro e w' ⟨rfl, ⟨nd, rfl⟩⟩) | (go_at_call 80; (with_reducible refine (symbolonref04_within.calls a0_2 true _ A8.out).mono ?_); rintro e w' ⟨rfl, ⟨nd, rfl⟩⟩))
          go_meet
          case rel => exact ⟨_, (decide ((l0_3.length : Int) > 8)), (by first | rfl | (simp; done) | (simp [*]; done)), H', ⟨by first | omega | exact Nat.le_refl _⟩, ⟨by (with_reducible repeat (first | refine blk_drewN ?_ _ | refine blk_drew ?_ | refine blk_alloc ?_ _)); exact BK222.out⟩, ⟨by repeat (first | (with_reducible first | exact HB.out | apply below_alloc | apply pw_below_drewN | apply below_drew1 | refine below_set ?_ GE222.out) | exact HB.out)⟩⟩
        · replace c9 := Bool.eq_false_iff.mpr c9
          subst c9
          have H1 : (symbolonref04_Form.j0 k true a0_0 a0_1 a0_2 l0_3) = some r := by rw [if_neg (show ¬ (false = true) by decide)] at H; exact H
          clear H
          have H := H1
          clear H1
          have H' := Aside0.mk H
          clear H
          have hcz11_0 : w3.cell? ⟨gb222, 0, none⟩ = some (.int .i64 a0_0) := (blk_cell BK222.out 0).trans rfl
          have hcz11_1 : w3.cell? ⟨gb222, 1, none⟩ = some (.int .i64 a0_1) := (blk_cell BK222.out 1).trans rfl
          have hcz11_2 : w3.cell? ⟨gb222, 2, none⟩ = some (.int .i64 a0_2) := (blk_cell BK222.out 2).trans rfl
          have hcz11_3 : w3.cell? ⟨gb222, 3, none⟩ = some (.slice A0_3 l0_3.length c0_3) := (blk_cell BK222.out 3).trans rfl
          have hfz11_0 := blk_frozen BK222.out 0
          have hfz11_1 := blk_frozen BK222.out 1
          have hfz11_2 := blk_frozen BK222.out 2
          have hfz11_3 := blk_frozen BK222.out 3
          go_wp2_with (first | ((with_reducible refine gate_callee (f := 80) rfl ?_); refine goesL_ (some 7) rfl rfl Try.func80 (by kernel_rfl) rfl #[.int .i64 a0_0] rfl (by (try simp only [List.map_toArray, List.map_cons, List.map_nil]); first | done | rfl | (simp only [List.length_drop, List.length_take]; rfl)) ?_; (with_reducible refine (symbolonref04_within.calls a0_0 true _ A4.out).mono ?_); rintro e w' ⟨rfl, ⟨nd, rfl⟩⟩; refine ⟨_, rfl, ?_⟩) | (go_at_call 80; (with_reducible refine (symbolonref04_within.calls a0_1 true _ A6.out).mono ?_); rintro e w' ⟨rfl, ⟨nd, rfl⟩⟩) | (go_at_call 80; (with_reducible refine (symbolonref04_within.calls a0_2 false _ A8.out).mono ?_); rintro e w' ⟨rfl, ⟨nd, rfl⟩⟩))
          go_meet
          case rel => exact ⟨_, (true), (by first | rfl | (simp; done) | (simp [*]; done)), H', ⟨by first | omega | exact Nat.le_refl _⟩, ⟨by (with_reducible repeat (first | refine blk_drewN ?_ _ | refine blk_drew ?_ | refine blk_alloc ?_ _)); exact BK222.out⟩, ⟨by repeat (first | (with_reducible first | exact HB.out | apply below_alloc | apply pw_below_drewN | apply below_drew1 | refine below_set ?_ GE222.out) | exact HB.out)⟩⟩
      · replace c7 := Bool.eq_false_iff.mpr c7
        subst c7
        have H1 : (symbolonref04_Form.j0 k true a0_0 a0_1 a0_2 l0_3) = some r := by rw [if_neg (show ¬ (false = true) by decide)] at H; exact H
        clear H
        have H := H1
        clear H1
        have H' := Aside0.mk H
        clear H
        have hcz12_0 : w3.cell? ⟨gb222, 0, none⟩ = some (.int .i64 a0_0) := (blk_cell BK222.out 0).trans rfl
        have hcz12_1 : w3.cell? ⟨gb222, 1, none⟩ = some (.int .i64 a0_1) := (blk_cell BK222.out 1).trans rfl
        have hcz12_2 : w3.cell? ⟨gb222, 2, none⟩ = some (.int .i64 a0_2) := (blk_cell BK222.out 2).trans rfl
        have hcz12_3 : w3.cell? ⟨gb222, 3, none⟩ = some (.slice A0_3 l0_3.length c0_3) := (blk_cell BK222.out 3).trans rfl
        have hfz12_0 := blk_frozen BK222.out 0
        have hfz12_1 := blk_frozen BK222.out 1
        have hfz12_2 := blk_frozen BK222.out 2
        have hfz12_3 := blk_frozen BK222.out 3
        go_wp2_with (first | ((with_reducible refine gate_callee (f := 80) rfl ?_); refine goesL_ (some 7) rfl rfl Try.func80 (by kernel_rfl) rfl #[.int .i64 a0_0] rfl (by (try simp only [List.map_toArray, List.map_cons, List.map_nil]); first | done | rfl | (simp only [List.length_drop, List.length_take]; rfl)) ?_; (with_reducible refine (symbolonref04_within.calls a0_0 true _ A4.out).mono ?_); rintro e w' ⟨rfl, ⟨nd, rfl⟩⟩; refine ⟨_, rfl, ?_⟩) | (go_at_call 80; (with_reducible refine (symbolonref04_within.calls a0_1 false _ A6.out).mono ?_); rintro e w' ⟨rfl, ⟨nd, rfl⟩⟩))
        go_meet
        case rel => exact ⟨_, (true), (by first | rfl | (simp; done) | (simp [*]; done)), H', ⟨by first | omega | exact Nat.le_refl _⟩, ⟨by (with_reducible repeat (first | refine blk_drewN ?_ _ | refine blk_drew ?_ | refine blk_alloc ?_ _)); exact BK222.out⟩, ⟨by repeat (first | (with_reducible first | exact HB.out | apply below_alloc | apply pw_below_drewN | apply below_drew1 | refine below_set ?_ GE222.out) | exact HB.out)⟩⟩
    · replace c5 := Bool.eq_false_iff.mpr c5
      subst c5
      have H1 : (symbolonref04_Form.j0 k true a0_0 a0_1 a0_2 l0_3) = some r := by rw [if_neg (show ¬ (false = true) by decide)] at H; exact H
      clear H
      have H := H1
      clear H1
      have H' := Aside0.mk H
      clear H
      have hcz13_0 : w3.cell? ⟨gb222, 0, none⟩ = some (.int .i64 a0_0) := (blk_cell BK222.out 0).trans rfl
      have hcz13_1 : w3.cell? ⟨gb222, 1, none⟩ = some (.int .i64 a0_1) := (blk_cell BK222.out 1).trans rfl
      have hcz13_2 : w3.cell? ⟨gb222, 2, none⟩ = some (.int .i64 a0_2) := (blk_cell BK222.out 2).trans rfl
      have hcz13_3 : w3.cell? ⟨gb222, 3, none⟩ = some (.slice A0_3 l0_3.length c0_3) := (blk_cell BK222.out 3).trans rfl
      have hfz13_0 := blk_frozen BK222.out 0
      have hfz13_1 := blk_frozen BK222.out 1
      have hfz13_2 := blk_frozen BK222.out 2
      have hfz13_3 := blk_frozen BK222.out 3
      go_wp2_with (first | ((with_reducible refine gate_callee (f := 80) rfl ?_); refine goesL_ (some 7) rfl rfl Try.func80 (by kernel_rfl) rfl #[.int .i64 a0_0] rfl (by (try simp only [List.map_toArray, List.map_cons, List.map_nil]); first | done | rfl | (simp only [List.length_drop, List.length_take]; rfl)) ?_; (with_reducible refine (symbolonref04_within.calls a0_0 false _ A4.out).mono ?_); rintro e w' ⟨rfl, ⟨nd, rfl⟩⟩; refine ⟨_, rfl, ?_⟩))
      go_meet
      case rel => exact ⟨_, (true), (by first | rfl | (simp; done) | (simp [*]; done)), H', ⟨by first | omega | exact Nat.le_refl _⟩, ⟨by (with_reducible repeat (first | refine blk_drewN ?_ _ | refine blk_drew ?_ | refine blk_alloc ?_ _)); exact BK222.out⟩, ⟨by repeat (first | (with_reducible first | exact HB.out | apply below_alloc | apply pw_below_drewN | apply below_drew1 | refine below_set ?_ GE222.out) | exact HB.out)⟩⟩
  case rest =>
    clear HC2
    try clear p2
    try clear c4
    try clear c5
    try clear c7
    try clear c8
    try clear c9
    try clear hcz10_0
    try clear hcz10_1
    try clear hcz10_2
    try clear hcz10_3
    try clear hcz11_0
    try clear hcz11_1
    try clear hcz11_2
    try clear hcz11_3
    try clear hcz12_0
    try clear hcz12_1
    try clear hcz12_2
    try clear hcz12_3
    try clear hcz13_0
    try clear hcz13_1
    try clear hcz13_2
    try clear hcz13_3
    try clear hfz10_0
    try clear hfz10_1
    try clear hfz10_2
    try clear hfz10_3
    try clear hfz11_0
    try clear hfz11_1
    try clear hfz11_2
    try clear hfz11_3
    try clear hfz12_0
    try clear hfz12_1
    try clear hfz12_2
    try clear hfz12_3
    try clear hfz13_0
    try clear hfz13_1
    try clear hfz13_2
    try clear hfz13_3
    obtain ⟨kq, x28_1, rfl, HA, HJ1, BK222, HB⟩ := hcut
    cases kq with
    | zero => exact absurd HA.out (by simp [symbolonref04_Form.j0])
    | succ kj1 =>
      have H := HA.out
      clear HA
      simp only [symbolonref04_Form.j0] at H
      by_cases c14 : x28_1 = true
      · subst c14
        have H1 : (some false) = some r := by rw [if_pos rfl] at H; exact H
        clear H
        have H := H1
        clear H1
        obtain rfl := Option.some.inj H
        go_wp2
        go_ret
        exact ⟨by first | rfl | (simp [errW_none, errW_some] <;> rfl) | (simp [*, errW_none, errW_some] <;> rfl), by repeat (first | (with_reducible first | exact HB.out | apply below_alloc | apply pw_below_drewN | apply below_drew1 | refine below_set ?_ GE222.out) | exact HB.out)⟩
      · replace c14 := Bool.eq_false_iff.mpr c14
        subst c14
        have H1 : (symbolonref04_Form.l0 kj1 0 a0_0 a0_1 a0_2 l0_3) = some r := by rw [if_neg (show ¬ (false = true) by decide)] at H; exact H
        clear H
        have H := H1
        clear H1
        have H' := Aside0.mk H
        clear H
        go_wp2
        go_loopg [3] kj1 (fun kq v3 w' => ∃ (x3_2 : Int), v3 = .int .i64 x3_2 ∧ Aside0 (symbolonref04_Form.l0 kq x3_2 a0_0 a0_1 a0_2 l0_3 = some r) ∧ Aside0 (kq ≤ kj1) ∧ Aside0 (w'.heap[gb222]? = some (.cells #[.int .i64 a0_0, .int .i64 a0_1, .int .i64 a0_2, (.slice A0_3 l0_3.length c0_3)] 26 (0, 0))) ∧ Aside0 (Below w.heap.size w w'))
        case atStart => exact ⟨(0), (by first | rfl | (simp; done) | (simp [*]; done)), H', ⟨Nat.le_refl _⟩, ⟨by (with_reducible repeat (first | refine blk_drewN ?_ _ | refine blk_drew ?_ | refine blk_alloc ?_ _)); exact BK222.out⟩, ⟨by repeat (first | (with_reducible first | exact HB.out | apply below_alloc | apply pw_below_drewN | apply below_drew1 | refine below_set ?_ GE222.out) | exact HB.out)⟩⟩
        case round =>
          clear H'
          try clear c1
          try clear p2
          try clear c4
          try clear c5
          try clear c7
          try clear c8
          try clear c9
          try clear c14
          try clear hcz10_0
          try clear hcz10_1
          try clear hcz10_2
          try clear hcz10_3
          try clear hcz11_0
          try clear hcz11_1
          try clear hcz11_2
          try clear hcz11_3
          try clear hcz12_0
          try clear hcz12_1
          try clear hcz12_2
          try clear hcz12_3
          try clear hcz13_0
          try clear hcz13_1
          try clear hcz13_2
          try clear hcz13_3
          try clear hfz10_0
          try clear hfz10_1
          try clear hfz10_2
          try clear hfz10_3
          try clear hfz11_0
          try clear hfz11_1
          try clear hfz11_2
          try clear hfz11_3
          try clear hfz12_0
          try clear hfz12_1
          try clear hfz12_2
          try clear hfz12_3
          try clear hfz13_0
          try clear hfz13_1
          try clear hfz13_2
          try clear hfz13_3
          try clear p2
          obtain ⟨x3_2, rfl, HA, HK2, BK222, HB⟩ := hrel
          cases gk with
          | zero => exact absurd HA.out (by simp [symbolonref04_Form.l0])
          | succ k2 =>
            have H := HA.out
            clear HA
            simp only [symbolonref04_Form.l0] at H
            by_cases c15 : x3_2 < (l0_3.length : Int)
            · rw [if_pos c15] at H
              have c15b0 : decide (x3_2 < (l0_3.length : Int)) = true := decide_eq_true c15
              clear c15
              by_cases c16 : 0 ≤ x3_2
              · rw [if_pos c16] at H
                have c16b0 : decide (0 ≤ x3_2) = true := decide_eq_true c16
                clear c16
                replace H := Option.bind_eq_some_iff.mp H
                obtain ⟨t227, A170, H⟩ := H
                replace H : (if t227 = true then (symbolonref04_Form.l0 k2 (wrap64 (x3_2 + 1)) a0_0 a0_1 a0_2 l0_3) else (some false)) = some r := H
                have A17 := Aside0.mk A170
                clear A170
                by_cases c18 : t227 = true
                · subst c18
                  have H1 : (symbolonref04_Form.l0 k2 (wrap64 (x3_2 + 1)) a0_0 a0_1 a0_2 l0_3) = some r := by rw [if_pos rfl] at H; exact H
                  clear H
                  have H := H1
                  clear H1
                  have H' := Aside0.mk H
                  clear H
                  have hcz19_0 : wr.cell? ⟨gb222, 0, none⟩ = some (.int .i64 a0_0) := (blk_cell BK222.out 0).trans rfl
                  have hcz19_1 : wr.cell? ⟨gb222, 1, none⟩ = some (.int .i64 a0_1) := (blk_cell BK222.out 1).trans rfl
                  have hcz19_2 : wr.cell? ⟨gb222, 2, none⟩ = some (.int .i64 a0_2) := (blk_cell BK222.out 2).trans rfl
                  have hcz19_3 : wr.cell? ⟨gb222, 3, none⟩ = some (.slice A0_3 l0_3.length c0_3) := (blk_cell BK222.out 3).trans rfl
                  have hfz19_0 := blk_frozen BK222.out 0
                  have hfz19_1 := blk_frozen BK222.out 1
                  have hfz19_2 := blk_frozen BK222.out 2
                  have hfz19_3 := blk_frozen BK222.out 3
                  have p226 : 0 ≤ (x3_2 : Int) := of_decide_eq_true (by first | (with_reducible assumption) | assumption)
                  have q226 : x3_2 < (l0_3.length : Int) := of_decide_eq_true (by first | (with_reducible assumption) | assumption)
                  obtain ⟨ad226, e226, hx226_0, hx226_1, hx226_2, hx226_3⟩ := at_T40 HR0_3.out x3_2 p226 q226
                  cases e226
                  replace hx226_0 := (HB.out.cell (World.block_lt_of_cell? w _ hx226_0)).trans hx226_0
                  replace hx226_1 := (HB.out.cell (World.block_lt_of_cell? w _ hx226_1)).trans hx226_1
                  replace hx226_2 := (HB.out.cell (World.block_lt_of_cell? w _ hx226_2)).trans hx226_2
                  replace hx226_3 := (HB.out.cell (World.block_lt_of_cell? w _ hx226_3)).trans hx226_3
                  replace p226 := eq_true p226
                  replace q226 := eq_true q226
                  go_wp2_with (first | ((with_reducible refine gate_callee (f := 81) rfl ?_); refine goesL_ (some 41) rfl rfl Try.func81 (by kernel_rfl) rfl #[.agg #[.int .i64 ((rd_T40 l0_3 x3_2).f0), .int .i64 ((rd_T40 l0_3 x3_2).f1), .int .i64 ((rd_T40 l0_3 x3_2).f2), .int .i64 ((rd_T40 l0_3 x3_2).f3)]] rfl (by (try simp only [List.map_toArray, List.map_cons, List.map_nil]); first | done | rfl | (simp only [List.length_drop, List.length_take]; rfl)) ?_; (with_reducible refine (symbolonref04_layer.calls ((rd_T40 l0_3 x3_2).f0) ((rd_T40 l0_3 x3_2).f1) ((rd_T40 l0_3 x3_2).f2) ((rd_T40 l0_3 x3_2).f3) true _ A17.out).mono ?_); rintro e w20 ⟨rfl, hb⟩; refine ⟨_, rfl, ?_⟩; have n0_ := Aside0.mk (blk_below (g := gb222) (o := .cells #[.int .i64 a0_0, .int .i64 a0_1, .int .i64 a0_2, .slice (some ad226) l0_3.length c0_3] 26 (0, 0)) (by (with_reducible repeat (first | refine blk_drewN ?_ _ | refine blk_drew ?_ | refine blk_alloc ?_ _)); exact BK222.out) hb); have n1_ := Aside0.mk (below_step (by repeat (first | (with_reducible first | exact HB.out | apply below_alloc | apply pw_below_drewN | apply below_drew1 | refine below_set ?_ GE222.out) | exact HB.out)) hb); clear BK222; clear HB; have BK222 := n0_; have HB := n1_; clear n0_ n1_; (try clear hb); (try clear hb2); (try clear hk); (try clear hi)))
                  go_roundg k2
                  case measure => have := HJ1.out; have := HK2.out; omega
                  case rel => exact ⟨(wrap64 (x3_2 + 1)), (by first | rfl | (simp; done) | (simp [*]; done)), H', ⟨by have := HJ1.out; have := HK2.out; omega⟩, ⟨by (with_reducible repeat (first | refine blk_drewN ?_ _ | refine blk_drew ?_ | refine blk_alloc ?_ _)); exact BK222.out⟩, ⟨by repeat (first | (with_reducible first | exact HB.out | apply below_alloc | apply pw_below_drewN | apply below_drew1 | refine below_set ?_ GE222.out) | exact HB.out)⟩⟩
                · replace c18 := Bool.eq_false_iff.mpr c18
                  subst c18
                  have H1 : (some false) = some r := by rw [if_neg (show ¬ (false = true) by decide)] at H; exact H
                  clear H
                  have H := H1
                  clear H1
                  obtain rfl := Option.some.inj H
                  have hcz21_0 : wr.cell? ⟨gb222, 0, none⟩ = some (.int .i64 a0_0) := (blk_cell BK222.out 0).trans rfl
                  have hcz21_1 : wr.cell? ⟨gb222, 1, none⟩ = some (.int .i64 a0_1) := (blk_cell BK222.out 1).trans rfl
                  have hcz21_2 : wr.cell? ⟨gb222, 2, none⟩ = some (.int .i64 a0_2) := (blk_cell BK222.out 2).trans rfl
                  have hcz21_3 : wr.cell? ⟨gb222, 3, none⟩ = some (.slice A0_3 l0_3.length c0_3) := (blk_cell BK222.out 3).trans rfl
                  have hfz21_0 := blk_frozen BK222.out 0
                  have hfz21_1 := blk_frozen BK222.out 1
                  have hfz21_2 := blk_frozen BK222.out 2
                  have hfz21_3 := blk_frozen BK222.out 3
                  have p226 : 0 ≤ (x3_2 : Int) := of_decide_eq_true (by first | (with_reducible assumption) | assumption)
                  have q226 : x3_2 < (l0_3.length : Int) := of_decide_eq_true (by first | (with_reducible assumption) | assumption)
                  obtain ⟨ad226, e226, hx226_0, hx226_1, hx226_2, hx226_3⟩ := at_T40 HR0_3.out x3_2 p226 q226
                  cases e226
                  replace hx226_0 := (HB.out.cell (World.block_lt_of_cell? w _ hx226_0)).trans hx226_0
                  replace hx226_1 := (HB.out.cell (World.block_lt_of_cell? w _ hx226_1)).trans hx226_1
                  replace hx226_2 := (HB.out.cell (World.block_lt_of_cell? w _ hx226_2)).trans hx226_2
                  replace hx226_3 := (HB.out.cell (World.block_lt_of_cell? w _ hx226_3)).trans hx226_3
                  replace p226 := eq_true p226
                  replace q226 := eq_true q226
                  go_wp2_with (first | ((with_reducible refine gate_callee (f := 81) rfl ?_); refine goesL_ (some 41) rfl rfl Try.func81 (by kernel_rfl) rfl #[.agg #[.int .i64 ((rd_T40 l0_3 x3_2).f0), .int .i64 ((rd_T40 l0_3 x3_2).f1), .int .i64 ((rd_T40 l0_3 x3_2).f2), .int .i64 ((rd_T40 l0_3 x3_2).f3)]] rfl (by (try simp only [List.map_toArray, List.map_cons, List.map_nil]); first | done | rfl | (simp only [List.length_drop, List.length_take]; rfl)) ?_; (with_reducible refine (symbolonref04_layer.calls ((rd_T40 l0_3 x3_2).f0) ((rd_T40 l0_3 x3_2).f1) ((rd_T40 l0_3 x3_2).f2) ((rd_T40 l0_3 x3_2).f3) false _ A17.out).mono ?_); rintro e w22 ⟨rfl, hb⟩; refine ⟨_, rfl, ?_⟩; have n0_ := Aside0.mk (blk_below (g := gb222) (o := .cells #[.int .i64 a0_0, .int .i64 a0_1, .int .i64 a0_2, .slice (some ad226) l0_3.length c0_3] 26 (0, 0)) (by (with_reducible repeat (first | refine blk_drewN ?_ _ | refine blk_drew ?_ | refine blk_alloc ?_ _)); exact BK222.out) hb); have n1_ := Aside0.mk (below_step (by repeat (first | (with_reducible first | exact HB.out | apply below_alloc | apply pw_below_drewN | apply below_drew1 | refine below_set ?_ GE222.out) | exact HB.out)) hb); clear BK222; clear HB; have BK222 := n0_; have HB := n1_; clear n0_ n1_; (try clear hb); (try clear hb2); (try clear hk); (try clear hi)))
                  go_ret
                  exact ⟨by first | rfl | (simp [errW_none, errW_some] <;> rfl) | (simp [*, errW_none, errW_some] <;> rfl), by repeat (first | (with_reducible first | exact HB.out | apply below_alloc | apply pw_below_drewN | apply below_drew1 | refine below_set ?_ GE222.out) | exact HB.out)⟩
              · rw [if_neg c16] at H
                exact absurd H (by simp)
            · rw [if_neg c15] at H
              have c15b0 : decide (x3_2 < (l0_3.length : Int)) = false := decide_eq_false c15
              clear c15
              obtain rfl := Option.some.inj H
              have hcz23_0 : wr.cell? ⟨gb222, 0, none⟩ = some (.int .i64 a0_0) := (blk_cell BK222.out 0).trans rfl
              have hcz23_1 : wr.cell? ⟨gb222, 1, none⟩ = some (.int .i64 a0_1) := (blk_cell BK222.out 1).trans rfl
              have hcz23_2 : wr.cell? ⟨gb222, 2, none⟩ = some (.int .i64 a0_2) := (blk_cell BK222.out 2).trans rfl
              have hcz23_3 : wr.cell? ⟨gb222, 3, none⟩ = some (.slice A0_3 l0_3.length c0_3) := (blk_cell BK222.out 3).trans rfl
              have hfz23_0 := blk_frozen BK222.out 0
              have hfz23_1 := blk_frozen BK222.out 1
              have hfz23_2 := blk_frozen BK222.out 2
              have hfz23_3 := blk_frozen BK222.out 3
              go_wp2
              go_ret
              exact ⟨by first | rfl | (simp [errW_none, errW_some] <;> rfl) | (simp [*, errW_none, errW_some] <;> rfl), by repeat (first | (with_reducible first | exact HB.out | apply below_alloc | apply pw_below_drewN | apply below_drew1 | refine below_set ?_ GE222.out) | exact HB.out)⟩
end Go.Proofs.Ytnfcadjckoebkaa.P
