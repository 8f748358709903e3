
import Derived.Test.YtnfcadjckoebkaaGX0
import Derived.Test.YtnfcadjckoebkaaGXRi
import Derived.Test.YtnfcadjckoebkaaGXRBo
namespace Go.Proofs.Ytnfcadjckoebkaa.P
open Go.RowKit Go.Proofs.YtnfcadjckoebkaaW.PrintWords Go.Proofs.YtnfcadjckoebkaaW.PrintLast Go.Proofs.YtnfcadjckoebkaaW.PrintMore
attribute [local go_sem] min2_int min_two
set_option linter.unusedVariables false
set_option linter.unusedSimpArgs false
mutual
def symbolonref06_Parts.j0 : Nat → Int → Int → List (S23) → Bool → Int → Int → Int → List (S40) → Option (List Int)
  | 0, _, _, _, _, _, _, _, _ => none
  | k + 1, x1, x2, x7, x43, x543000, x543001, x543002, x543003 => if x43 = true then (some ([] : List Int)) else (if 0 ≤ (wrap64 (x1 + 1)) then (if (wrap64 (x1 + 1)) < (x7.length : Int) then ((symbolonref02_Of.f k ((rd_T23 x7 (wrap64 (x1 + 1))).f0) ((rd_T23 x7 (wrap64 (x1 + 1))).f1) ((rd_T23 x7 (wrap64 (x1 + 1))).f2) x2).bind fun bt549 => (if 0 ≤ x1 then (if x1 < (x543003.length : Int) then (symbolonref06_Parts.l0 k x1 x7 bt549.1 bt549.2.1 bt549.2.2.1 bt549.2.2.2 ([] : List Int) ((rd_T40 x543003 x1).f2) 0) else (none)) else (none))) else (none)) else (none))
def symbolonref06_Parts.l0 : Nat → Int → List (S23) → Int → Int → Int → Bool → List Int → Int → Int → Option (List Int)
  | 0, _, _, _, _, _, _, _, _, _ => none
  | k + 1, x1, x7, x9, x10, x11, x12, x13, x14, x15 => if x15 < x14 then (symbolonref06_Parts.j2 k x1 x7 x9 x10 x11 x12 x13 x14 x15 x12) else (symbolonref06_Parts.j2 k x1 x7 x9 x10 x11 x12 x13 x14 x15 false)
def symbolonref06_Parts.j2 : Nat → Int → List (S23) → Int → Int → Int → Bool → List Int → Int → Int → Bool → Option (List Int)
  | 0, _, _, _, _, _, _, _, _, _, _ => none
  | k + 1, x1, x7, x9, x10, x11, x12, x13, x14, x15, x67 => if x67 = true then (symbolonref06_Parts.l1 k x1 x7 x9 x10 x11 x12 x13 x14 x15 0) else (some x13)
def symbolonref06_Parts.l1 : Nat → Int → List (S23) → Int → Int → Int → Bool → List Int → Int → Int → Int → Option (List Int)
  | 0, _, _, _, _, _, _, _, _, _, _ => none
  | k + 1, x1, x7, x9, x10, x11, x12, x13, x14, x15, x16 => if x16 < x14 then (if 0 ≤ x1 then (if x1 < (x7.length : Int) then ((symbolonref02_At.f ((rd_T23 x7 x1).f0) ((rd_T23 x7 x1).f1) ((rd_T23 x7 x1).f2) x9 (wrap64 ((wrap64 (x10 * x14)) + x15)) (wrap64 ((wrap64 (x11 * x14)) + x16))).bind fun t555 => (if x13.length < 17592186044416 then (symbolonref06_Parts.l1 k x1 x7 x9 x10 x11 x12 (x13 ++ [t555]) x14 x15 (wrap64 (x16 + 1))) else (none))) else (none)) else (none)) else (symbolonref06_Parts.l0 k x1 x7 x9 x10 x11 x12 x13 x14 (wrap64 (x15 + 1)))
end
def symbolonref06_Parts.f (k : Nat) (a0_0 : Int) (a0_1 : Int) (a0_2 : Int) (l0_3 : List (S40)) (a1 : Int) (a2 : Int) : Option (List Int) := (h05_Shapes.f a0_0 a0_1 a0_2 l0_3).bind fun bt543 => (if bt543.2 = 0 then (if a1 < 0 then (symbolonref06_Parts.j0 k a1 a2 bt543.1 true a0_0 a0_1 a0_2 l0_3) else (if a1 ≥ (l0_3.length : Int) then (symbolonref06_Parts.j0 k a1 a2 bt543.1 true a0_0 a0_1 a0_2 l0_3) else (if 0 ≤ a1 then (if a1 < (l0_3.length : Int) then (symbolonref06_Parts.j0 k a1 a2 bt543.1 (((rd_T40 l0_3 a1).f0) != 3) a0_0 a0_1 a0_2 l0_3) else (none)) else (none)))) else (symbolonref06_Parts.j0 k a1 a2 bt543.1 true a0_0 a0_1 a0_2 l0_3))
set_option maxHeartbeats 8000000 in
set_option maxRecDepth 100000 in
theorem symbolonref06_Parts.calls (k : Nat) (a0_0 : Int) (a0_1 : Int) (a0_2 : Int) (A0_3 : Option Addr) (c0_3 : Nat) (l0_3 : List (S40)) (a1 : Int) (a2 : Int) (r : List Int) (w : World) (hr0_3 : Kd.C k40 w A0_3 l0_3.length l0_3) (hc0_3 : l0_3.length ≤ c0_3) (h : symbolonref06_Parts.f k a0_0 a0_1 a0_2 l0_3 a1 a2 = some r) :
    Calls Try.prog 49 #[.agg #[.int .i64 a0_0, .int .i64 a0_1, .int .i64 a0_2, .slice A0_3 l0_3.length c0_3], .int .i64 a1, .int .i64 a2] w fun e w' => ∃ v0_ : Value, e = .returned (v0_) ∧ Kd.R (Kd.int .i64) 3 w' w.heap.size (fun _ => True) v0_ r ∧ Below w.heap.size w w' := by
  have hu26 := Try.underlying26
  have hu23 := Try.underlying23
  have HR0_3 := Aside0.mk hr0_3
  have HC0_3 := Aside0.mk hc0_3
  clear hr0_3 hc0_3
  have HB := Aside0.mk (Below.refl w.heap.size w)
  have H : ((h05_Shapes.f a0_0 a0_1 a0_2 l0_3).bind fun bt543 => (if bt543.2 = 0 then (if a1 < 0 then (symbolonref06_Parts.j0 k a1 a2 bt543.1 true a0_0 a0_1 a0_2 l0_3) else (if a1 ≥ (l0_3.length : Int) then (symbolonref06_Parts.j0 k a1 a2 bt543.1 true a0_0 a0_1 a0_2 l0_3) else (if 0 ≤ a1 then (if a1 < (l0_3.length : Int) then (symbolonref06_Parts.j0 k a1 a2 bt543.1 (((rd_T40 l0_3 a1).f0) != 3) a0_0 a0_1 a0_2 l0_3) else (none)) else (none)))) else (symbolonref06_Parts.j0 k a1 a2 bt543.1 true a0_0 a0_1 a0_2 l0_3))) = some r := h
  clear h
  replace H := Option.bind_eq_some_iff.mp H
  obtain ⟨⟨t543, t546⟩, A40, H⟩ := H
  replace H : (if t546 = 0 then (if a1 < 0 then (symbolonref06_Parts.j0 k a1 a2 t543 true a0_0 a0_1 a0_2 l0_3) else (if a1 ≥ (l0_3.length : Int) then (symbolonref06_Parts.j0 k a1 a2 t543 true a0_0 a0_1 a0_2 l0_3) else (if 0 ≤ a1 then (if a1 < (l0_3.length : Int) then (symbolonref06_Parts.j0 k a1 a2 t543 (((rd_T40 l0_3 a1).f0) != 3) a0_0 a0_1 a0_2 l0_3) else (none)) else (none)))) else (symbolonref06_Parts.j0 k a1 a2 t543 true a0_0 a0_1 a0_2 l0_3)) = some r := H
  have A4 := Aside0.mk A40
  clear A40
  have HC5 := Aside0.mk H
  clear H
  go_enter Try.func49, Try.ntmps49
  go_upto_region 2 with (first | ((with_reducible refine gate_dst (N := 3) rfl ?_); (try (refine gate_guard (by rfl) ?_; dsimp only)); refine box_event ?hg (N := 3) ?hd (cs := #[.int .i64 a0_0, .int .i64 a0_1, .int .i64 a0_2, .slice A0_3 l0_3.length c0_3]) (t := 26) ?hr ?_; (case hd => rfl); (case hg => rfl); (case hr => first | (go_simp; done) | (go_simp; rfl)); intro gb542 hg w6 hbox hb; have n0_ := Aside0.mk (below_step (by repeat (first | (with_reducible first | exact HB.out | apply below_alloc | apply pw_below_drewN | apply below_drew1) | exact HB.out)) hb); have n1_ := Aside0.mk (hbox); have n2_ := Aside0.mk ((by rw [hg]; exact (below_size (by repeat (first | (with_reducible first | exact HB.out | apply below_alloc | apply pw_below_drewN | apply below_drew1) | exact HB.out))) : w.heap.size ≤ gb542)); have n3_ := Aside0.mk ((by rw [hg]; exact (below_size (by repeat (first | (with_reducible first | exact HB.out | apply below_alloc | apply pw_below_drewN | apply below_drew1) | exact HB.out))) : w.heap.size ≤ gb542)); clear HB; have HB := n0_; have BK542 := n1_; have GW542 := n2_; have GE542 := n3_; clear n0_ n1_ n2_ n3_; clear hb hbox hg; have hcz7_0 : w6.cell? ⟨gb542, 0, none⟩ = some (.int .i64 a0_0) := (blk_cell BK542.out 0).trans rfl; have hcz7_1 : w6.cell? ⟨gb542, 1, none⟩ = some (.int .i64 a0_1) := (blk_cell BK542.out 1).trans rfl; have hcz7_2 : w6.cell? ⟨gb542, 2, none⟩ = some (.int .i64 a0_2) := (blk_cell BK542.out 2).trans rfl; have hcz7_3 : w6.cell? ⟨gb542, 3, none⟩ = some (.slice A0_3 l0_3.length c0_3) := (blk_cell BK542.out 3).trans rfl; have hfz7_0 := blk_frozen BK542.out 0; have hfz7_1 := blk_frozen BK542.out 1; have hfz7_2 := blk_frozen BK542.out 2; have hfz7_3 := blk_frozen BK542.out 3) | ((with_reducible refine gate_callee (f := 28) rfl ?_); refine goesL_ (some 19) rfl rfl Try.func28 (by kernel_rfl) rfl #[.agg #[.int .i64 a0_0, .int .i64 a0_1, .int .i64 a0_2, .slice A0_3 l0_3.length c0_3]] rfl (by (try simp only [List.map_toArray, List.map_cons, List.map_nil]); first | done | rfl | (simp only [List.length_drop, List.length_take]; rfl)) ?_; (with_reducible refine (h05_Shapes.calls a0_0 a0_1 a0_2 _ _ l0_3 t543 t546 _ ?side1 ?side2 A4.out).mono ?_); (case side1 => repeat (first | exact (Kd.C_below HR0_3.out HB.out) | (with_reducible refine Kd.C_alloc ?_ _) | (with_reducible refine Kd.C_drewN ?_ _) | (with_reducible refine Kd.C_drew ?_))); (case side2 => exact HC0_3.out); rintro e w8 ⟨v544, rfl, ho0, hb⟩; refine ⟨_, rfl, ?_⟩; have n0_ := Aside0.mk (Kd.R_lower ho0 (below_size (by repeat (first | (with_reducible first | exact HB.out | apply below_alloc | apply pw_below_drewN | apply below_drew1 | refine below_set ?_ GE542.out) | exact HB.out)))); have n1_ := Aside0.mk (blk_below (g := gb542) (o := .cells #[.int .i64 a0_0, .int .i64 a0_1, .int .i64 a0_2, .slice A0_3 l0_3.length c0_3] 26 (0, 0)) (by (with_reducible repeat (first | refine blk_drewN ?_ _ | refine blk_drew ?_ | refine blk_alloc ?_ _)); exact BK542.out) hb); have n2_ := Aside0.mk (below_step (by repeat (first | (with_reducible first | exact HB.out | apply below_alloc | apply pw_below_drewN | apply below_drew1 | refine below_set ?_ GE542.out) | exact HB.out)) hb); clear BK542; clear HB; have HO545 := n0_; have BK542 := n1_; have HB := n2_; clear n0_ n1_ n2_; (try clear hb); (try clear hb2); (try clear hk); (try clear hi); (try clear ho0)))
  (try simp only [Act.put, List.setIfInBounds_toArray, List.set_cons_zero, List.set_cons_succ])
  go_cut [43] (fun v43 wc => ∃ (kq : Nat) (x43_4 : Bool), v43 = .bool x43_4 ∧ Aside0 (symbolonref06_Parts.j0 kq a1 a2 t543 x43_4 a0_0 a0_1 a0_2 l0_3 = some r) ∧ Aside0 (kq ≤ k) ∧ Aside0 (Kd.R k23 23 wc w.heap.size (fun _ => True) v544 t543) ∧ Aside0 (wc.heap[gb542]? = some (.cells #[.int .i64 a0_0, .int .i64 a0_1, .int .i64 a0_2, (.slice A0_3 l0_3.length c0_3)] 26 (0, 0))) ∧ Aside0 (Below w.heap.size w wc))
  case first =>
    have H := HC5.out
    clear HC5
    by_cases c9 : t546 = 0
    · rw [if_pos c9] at H
      have c9b0 : (t546 == 0) = true := beq_iff_eq.mpr c9
      have c9b1 : (t546 != 0) = false := bne_eq_false_iff_eq.mpr c9
      clear c9
      (first | rw [c9b0] | (simp only [i64_w, i32_w]; rw [c9b0]) | skip)
      by_cases c10 : a1 < 0
      · rw [if_pos c10] at H
        have c10b0 : decide (a1 < 0) = true := decide_eq_true c10
        clear c10
        have H' := Aside0.mk H
        clear H
        go_wp2
        go_meet
        case rel => exact ⟨_, (true), (by first | rfl | (simp; done) | (simp [*]; done)), H', ⟨by first | omega | exact Nat.le_refl _⟩, ⟨by (with_reducible repeat (first | apply Kd.R_alloc | apply Kd.R_drewN | apply Kd.R_drew)); exact HO545.out⟩, ⟨by (with_reducible repeat (first | refine blk_drewN ?_ _ | refine blk_drew ?_ | refine blk_alloc ?_ _)); exact BK542.out⟩, ⟨by repeat (first | (with_reducible first | exact HB.out | apply below_alloc | apply pw_below_drewN | apply below_drew1 | refine below_set ?_ GE542.out) | exact HB.out)⟩⟩
      · rw [if_neg c10] at H
        have c10b0 : decide (a1 < 0) = false := decide_eq_false c10
        clear c10
        by_cases c11 : a1 ≥ (l0_3.length : Int)
        · rw [if_pos c11] at H
          have c11b0 : decide ((l0_3.length : Int) ≤ a1) = true := decide_eq_true c11
          clear c11
          have H' := Aside0.mk H
          clear H
          have hcz12_0 : w8.cell? ⟨gb542, 0, none⟩ = some (.int .i64 a0_0) := (blk_cell BK542.out 0).trans rfl
          have hcz12_1 : w8.cell? ⟨gb542, 1, none⟩ = some (.int .i64 a0_1) := (blk_cell BK542.out 1).trans rfl
          have hcz12_2 : w8.cell? ⟨gb542, 2, none⟩ = some (.int .i64 a0_2) := (blk_cell BK542.out 2).trans rfl
          have hcz12_3 : w8.cell? ⟨gb542, 3, none⟩ = some (.slice A0_3 l0_3.length c0_3) := (blk_cell BK542.out 3).trans rfl
          have hfz12_0 := blk_frozen BK542.out 0
          have hfz12_1 := blk_frozen BK542.out 1
          have hfz12_2 := blk_frozen BK542.out 2
          have hfz12_3 := blk_frozen BK542.out 3
          go_wp2
          go_meet
          case rel => exact ⟨_, (true), (by first | rfl | (simp; done) | (simp [*]; done)), H', ⟨by first | omega | exact Nat.le_refl _⟩, ⟨by (with_reducible repeat (first | apply Kd.R_alloc | apply Kd.R_drewN | apply Kd.R_drew)); exact HO545.out⟩, ⟨by (with_reducible repeat (first | refine blk_drewN ?_ _ | refine blk_drew ?_ | refine blk_alloc ?_ _)); exact BK542.out⟩, ⟨by repeat (first | (with_reducible first | exact HB.out | apply below_alloc | apply pw_below_drewN | apply below_drew1 | refine below_set ?_ GE542.out) | exact HB.out)⟩⟩
        · rw [if_neg c11] at H
          have c11b0 : decide ((l0_3.length : Int) ≤ a1) = false := decide_eq_false c11
          clear c11
          by_cases c13 : 0 ≤ a1
          · rw [if_pos c13] at H
            have c13b0 : decide (0 ≤ a1) = true := decide_eq_true c13
            clear c13
            by_cases c14 : a1 < (l0_3.length : Int)
            · rw [if_pos c14] at H
              have c14b0 : decide (a1 < (l0_3.length : Int)) = true := decide_eq_true c14
              clear c14
              have H' := Aside0.mk H
              clear H
              have hcz15_0 : w8.cell? ⟨gb542, 0, none⟩ = some (.int .i64 a0_0) := (blk_cell BK542.out 0).trans rfl
              have hcz15_1 : w8.cell? ⟨gb542, 1, none⟩ = some (.int .i64 a0_1) := (blk_cell BK542.out 1).trans rfl
              have hcz15_2 : w8.cell? ⟨gb542, 2, none⟩ = some (.int .i64 a0_2) := (blk_cell BK542.out 2).trans rfl
              have hcz15_3 : w8.cell? ⟨gb542, 3, none⟩ = some (.slice A0_3 l0_3.length c0_3) := (blk_cell BK542.out 3).trans rfl
              have hfz15_0 := blk_frozen BK542.out 0
              have hfz15_1 := blk_frozen BK542.out 1
              have hfz15_2 := blk_frozen BK542.out 2
              have hfz15_3 := blk_frozen BK542.out 3
              have p547 : 0 ≤ (a1 : Int) := of_decide_eq_true (by first | (with_reducible assumption) | assumption)
              have q547 : a1 < (l0_3.length : Int) := of_decide_eq_true (by first | (with_reducible assumption) | assumption)
              obtain ⟨ad547, e547, hx547_0, hx547_1, hx547_2, hx547_3⟩ := at_T40 HR0_3.out a1 p547 q547
              cases e547
              replace hx547_0 := (HB.out.cell (World.block_lt_of_cell? w _ hx547_0)).trans hx547_0
              replace hx547_1 := (HB.out.cell (World.block_lt_of_cell? w _ hx547_1)).trans hx547_1
              replace hx547_2 := (HB.out.cell (World.block_lt_of_cell? w _ hx547_2)).trans hx547_2
              replace hx547_3 := (HB.out.cell (World.block_lt_of_cell? w _ hx547_3)).trans hx547_3
              replace p547 := eq_true p547
              replace q547 := eq_true q547
              go_wp2
              go_meet
              case rel => exact ⟨_, ((((rd_T40 l0_3 a1).f0) != 3)), (by first | rfl | (simp; done) | (simp [*]; done)), H', ⟨by first | omega | exact Nat.le_refl _⟩, ⟨by (with_reducible repeat (first | apply Kd.R_alloc | apply Kd.R_drewN | apply Kd.R_drew)); exact HO545.out⟩, ⟨by (with_reducible repeat (first | refine blk_drewN ?_ _ | refine blk_drew ?_ | refine blk_alloc ?_ _)); exact BK542.out⟩, ⟨by repeat (first | (with_reducible first | exact HB.out | apply below_alloc | apply pw_below_drewN | apply below_drew1 | refine below_set ?_ GE542.out) | exact HB.out)⟩⟩
            · rw [if_neg c14] at H
              exact absurd H (by simp)
          · rw [if_neg c13] at H
            exact absurd H (by simp)
    · rw [if_neg c9] at H
      have c9b0 : (t546 == 0) = false := beq_eq_false_iff_ne.mpr c9
      have c9b1 : (t546 != 0) = true := bne_iff_ne.mpr c9
      (first | rw [c9b0] | (simp only [i64_w, i32_w]; rw [c9b0]) | skip)
      have H' := Aside0.mk H
      clear H
      go_wp2
      go_meet
      case rel => exact ⟨_, (true), (by first | rfl | (simp; done) | (simp [*]; done)), H', ⟨by first | omega | exact Nat.le_refl _⟩, ⟨by (with_reducible repeat (first | apply Kd.R_alloc | apply Kd.R_drewN | apply Kd.R_drew)); exact HO545.out⟩, ⟨by (with_reducible repeat (first | refine blk_drewN ?_ _ | refine blk_drew ?_ | refine blk_alloc ?_ _)); exact BK542.out⟩, ⟨by repeat (first | (with_reducible first | exact HB.out | apply below_alloc | apply pw_below_drewN | apply below_drew1 | refine below_set ?_ GE542.out) | exact HB.out)⟩⟩
  case rest =>
    clear HC5
    try clear c1
    try clear c2
    try clear p2
    try clear c4
    try clear p5
    try clear q5
    try clear hx5
    try clear c9
    try clear c9b0
    try clear c9b1
    try clear c10
    try clear c10b0
    try clear c11
    try clear c11b0
    try clear c13
    try clear c13b0
    try clear c14
    try clear c14b0
    try clear hcz12_0
    try clear hcz12_1
    try clear hcz12_2
    try clear hcz12_3
    try clear hcz15_0
    try clear hcz15_1
    try clear hcz15_2
    try clear hcz15_3
    try clear hcz7_0
    try clear hcz7_1
    try clear hcz7_2
    try clear hcz7_3
    try clear hfz12_0
    try clear hfz12_1
    try clear hfz12_2
    try clear hfz12_3
    try clear hfz15_0
    try clear hfz15_1
    try clear hfz15_2
    try clear hfz15_3
    try clear hfz7_0
    try clear hfz7_1
    try clear hfz7_2
    try clear hfz7_3
    try clear hx547_0
    try clear hx547_1
    try clear hx547_2
    try clear hx547_3
    try clear p547
    try clear q547
    obtain ⟨kq, x43_4, rfl, HA, HJ4, HO_7, BK542, HB⟩ := hcut
    cases kq with
    | zero => exact absurd HA.out (by simp [symbolonref06_Parts.j0])
    | succ kj4 =>
      have H := HA.out
      clear HA
      simp only [symbolonref06_Parts.j0] at H
      by_cases c16 : x43_4 = true
      · subst c16
        have H1 : (some ([] : List Int)) = some r := by rw [if_pos rfl] at H; exact H
        clear H
        have H := H1
        clear H1
        obtain rfl := Option.some.inj H
        go_wp2
        go_ret
        exact ⟨_, by first | rfl | (simp [errW_none, errW_some] <;> rfl) | (simp [*, errW_none, errW_some] <;> rfl), by first | exact Kd.R_nil _ _ _ _ _ | exact Kd.N_nil _ _ _ _ _ | exact Kd.V_nil _ _ _ _ _ | exact Kd.Q_nil _ _ _ _ _ | exact Kd.S_nil _ _ _ _ _, by repeat (first | (with_reducible first | exact HB.out | apply below_alloc | apply pw_below_drewN | apply below_drew1 | refine below_set ?_ GE542.out) | exact HB.out)⟩
      · replace c16 := Bool.eq_false_iff.mpr c16
        subst c16
        have H1 : (if 0 ≤ (wrap64 (a1 + 1)) then (if (wrap64 (a1 + 1)) < (t543.length : Int) then ((symbolonref02_Of.f kj4 ((rd_T23 t543 (wrap64 (a1 + 1))).f0) ((rd_T23 t543 (wrap64 (a1 + 1))).f1) ((rd_T23 t543 (wrap64 (a1 + 1))).f2) a2).bind fun bt549 => (if 0 ≤ a1 then (if a1 < (l0_3.length : Int) then (symbolonref06_Parts.l0 kj4 a1 t543 bt549.1 bt549.2.1 bt549.2.2.1 bt549.2.2.2 ([] : List Int) ((rd_T40 l0_3 a1).f2) 0) else (none)) else (none))) else (none)) else (none)) = some r := by rw [if_neg (show ¬ (false = true) by decide)] at H; exact H
        clear H
        have H := H1
        clear H1
        obtain ⟨ji17, hji17⟩ : ∃ j_ : Int, (wrap64 (a1 + 1)) = j_ := ⟨_, rfl⟩
        replace H : (if 0 ≤ (ji17) then (if (ji17) < (t543.length : Int) then ((symbolonref02_Of.f kj4 ((rd_T23 t543 (ji17)).f0) ((rd_T23 t543 (ji17)).f1) ((rd_T23 t543 (ji17)).f2) a2).bind fun bt549 => (if 0 ≤ a1 then (if a1 < (l0_3.length : Int) then (symbolonref06_Parts.l0 kj4 a1 t543 bt549.1 bt549.2.1 bt549.2.2.1 bt549.2.2.2 ([] : List Int) ((rd_T40 l0_3 a1).f2) 0) else (none)) else (none))) else (none)) else (none)) = some r := by first | (rw [hji17] at H; exact H) | (simp only [hji17] at H ⊢; exact H)
        have hji17w : (IntKind.i64.wrap (a1 + 1)) = ji17 := (i64_w _).trans hji17
        by_cases c18 : 0 ≤ (ji17)
        · rw [if_pos c18] at H
          have c18b0 : decide (0 ≤ (ji17)) = true := decide_eq_true c18
          clear c18
          by_cases c19 : (ji17) < (t543.length : Int)
          · rw [if_pos c19] at H
            have c19b0 : decide ((ji17) < (t543.length : Int)) = true := decide_eq_true c19
            clear c19
            replace H := Option.bind_eq_some_iff.mp H
            obtain ⟨⟨t549, t550, t551, t552⟩, A200, H⟩ := H
            replace H : (if 0 ≤ a1 then (if a1 < (l0_3.length : Int) then (symbolonref06_Parts.l0 kj4 a1 t543 t549 t550 t551 t552 ([] : List Int) ((rd_T40 l0_3 a1).f2) 0) else (none)) else (none)) = some r := H
            have A20 := Aside0.mk A200
            clear A200
            by_cases c21 : 0 ≤ a1
            · rw [if_pos c21] at H
              have c21b0 : decide (0 ≤ a1) = true := decide_eq_true c21
              clear c21
              by_cases c22 : a1 < (l0_3.length : Int)
              · rw [if_pos c22] at H
                have c22b0 : decide (a1 < (l0_3.length : Int)) = true := decide_eq_true c22
                clear c22
                have H' := Aside0.mk H
                clear H
                obtain ⟨Ao23, co23, eo23⟩ := Kd.R_slice HO_7.out
                subst eo23
                have p548 : 0 ≤ ((ji17) : Int) := of_decide_eq_true (by first | (with_reducible assumption) | assumption)
                have q548 : (ji17) < (t543.length : Int) := of_decide_eq_true (by first | (with_reducible assumption) | assumption)
                obtain ⟨ad548, e548, hx548_0, hx548_1, hx548_2⟩ := at_T23 (Kd.R_reads' HO_7.out).2.2 (ji17) p548 q548
                cases e548
                replace p548 := eq_true p548
                replace q548 := eq_true q548
                go_wp2_with (first | ((with_reducible refine gate_callee (f := 51) rfl ?_); refine goesL_ (some 51) rfl rfl Try.func51 (by kernel_rfl) rfl #[.agg #[.int .i64 ((rd_T23 t543 (ji17)).f0), .int .i64 ((rd_T23 t543 (ji17)).f1), .int .i64 ((rd_T23 t543 (ji17)).f2)], .int .i64 a2] rfl (by (try simp only [List.map_toArray, List.map_cons, List.map_nil]); first | done | (simp only [hji17]; rfl) | rfl | (simp only [List.length_drop, List.length_take]; rfl)) ?_; (with_reducible refine (symbolonref02_Of.calls kj4 ((rd_T23 t543 (ji17)).f0) ((rd_T23 t543 (ji17)).f1) ((rd_T23 t543 (ji17)).f2) a2 t549 t550 t551 t552 _ A20.out).mono ?_); rintro e w24 ⟨rfl, hb⟩; refine ⟨_, rfl, ?_⟩; have n0_ := Aside0.mk (Kd.R_below (by (with_reducible repeat (first | apply Kd.R_alloc | apply Kd.R_drewN | apply Kd.R_drew)); exact HO_7.out) hb); have n1_ := Aside0.mk (blk_below (g := gb542) (o := .cells #[.int .i64 a0_0, .int .i64 a0_1, .int .i64 a0_2, .slice A0_3 l0_3.length c0_3] 26 (0, 0)) (by (with_reducible repeat (first | refine blk_drewN ?_ _ | refine blk_drew ?_ | refine blk_alloc ?_ _)); exact BK542.out) hb); have n2_ := Aside0.mk (below_step (by repeat (first | (with_reducible first | exact HB.out | apply below_alloc | apply pw_below_drewN | apply below_drew1 | refine below_set ?_ GE542.out) | exact HB.out)) hb); clear HO_7; clear BK542; clear HB; have HO_7 := n0_; have BK542 := n1_; have HB := n2_; clear n0_ n1_ n2_; (try clear hb); (try clear hb2); (try clear hk); (try clear hi); have hcz25_0 : w24.cell? ⟨gb542, 0, none⟩ = some (.int .i64 a0_0) := (blk_cell BK542.out 0).trans rfl; have hcz25_1 : w24.cell? ⟨gb542, 1, none⟩ = some (.int .i64 a0_1) := (blk_cell BK542.out 1).trans rfl; have hcz25_2 : w24.cell? ⟨gb542, 2, none⟩ = some (.int .i64 a0_2) := (blk_cell BK542.out 2).trans rfl; have hcz25_3 : w24.cell? ⟨gb542, 3, none⟩ = some (.slice A0_3 l0_3.length c0_3) := (blk_cell BK542.out 3).trans rfl; have hfz25_0 := blk_frozen BK542.out 0; have hfz25_1 := blk_frozen BK542.out 1; have hfz25_2 := blk_frozen BK542.out 2; have hfz25_3 := blk_frozen BK542.out 3; have p553 : 0 ≤ (a1 : Int) := of_decide_eq_true (by first | (with_reducible assumption) | assumption); have q553 : a1 < (l0_3.length : Int) := of_decide_eq_true (by first | (with_reducible assumption) | assumption); obtain ⟨ad553, e553, hx553_0, hx553_1, hx553_2, hx553_3⟩ := at_T40 HR0_3.out a1 p553 q553; cases e553; replace hx553_0 := (HB.out.cell (World.block_lt_of_cell? w _ hx553_0)).trans hx553_0; replace hx553_1 := (HB.out.cell (World.block_lt_of_cell? w _ hx553_1)).trans hx553_1; replace hx553_2 := (HB.out.cell (World.block_lt_of_cell? w _ hx553_2)).trans hx553_2; replace hx553_3 := (HB.out.cell (World.block_lt_of_cell? w _ hx553_3)).trans hx553_3; replace p553 := eq_true p553; replace q553 := eq_true q553))
                go_loopg [13, 15] kj4 (fun kq v13 v15 w' => ∃ (x13_2 : List Int) (x15_2 : Int), v15 = .int .i64 x15_2 ∧ Aside0 (symbolonref06_Parts.l0 kq a1 t543 t549 t550 t551 t552 x13_2 ((rd_T40 l0_3 a1).f2) x15_2 = some r) ∧ Aside0 (kq ≤ kj4) ∧ Aside0 (Kd.R k23 23 w' w.heap.size (fun _ => True) (.slice (some ad548) t543.length co23) t543) ∧ Aside0 (Kd.R (Kd.int .i64) 3 w' w.heap.size (fun _ => True) v13 x13_2) ∧ Aside0 (w'.heap[gb542]? = some (.cells #[.int .i64 a0_0, .int .i64 a0_1, .int .i64 a0_2, (.slice (some ad553) l0_3.length c0_3)] 26 (0, 0))) ∧ Aside0 (Below w.heap.size w w'))
                case atStart => exact ⟨(([] : List Int)), (0), (by first | rfl | (simp; done) | (simp [*]; done)), H', ⟨Nat.le_refl _⟩, ⟨by (with_reducible repeat (first | apply Kd.R_alloc | apply Kd.R_drewN | apply Kd.R_drew)); exact HO_7.out⟩, ⟨by first | exact Kd.R_nil _ _ _ _ _ | exact Kd.N_nil _ _ _ _ _ | exact Kd.V_nil _ _ _ _ _ | exact Kd.Q_nil _ _ _ _ _ | exact Kd.S_nil _ _ _ _ _⟩, ⟨by (with_reducible repeat (first | refine blk_drewN ?_ _ | refine blk_drew ?_ | refine blk_alloc ?_ _)); exact BK542.out⟩, ⟨by repeat (first | (with_reducible first | exact HB.out | apply below_alloc | apply pw_below_drewN | apply below_drew1 | refine below_set ?_ GE542.out) | exact HB.out)⟩⟩
                case round =>
                  clear H'
                  try clear c1
                  try clear c2
                  try clear p2
                  try clear c4
                  try clear c5
                  try clear p5
                  try clear q5
                  try clear hx5
                  try clear p6
                  try clear c9
                  try clear c9b0
                  try clear c9b1
                  try clear c10
                  try clear c10b0
                  try clear c11
                  try clear c11b0
                  try clear c13
                  try clear c13b0
                  try clear c14
                  try clear c14b0
                  try clear c16
                  try clear c18
                  try clear c18b0
                  try clear c19
                  try clear c19b0
                  try clear c21
                  try clear c21b0
                  try clear c22
                  try clear c22b0
                  try clear hcz12_0
                  try clear hcz12_1
                  try clear hcz12_2
                  try clear hcz12_3
                  try clear hcz15_0
                  try clear hcz15_1
                  try clear hcz15_2
                  try clear hcz15_3
                  try clear hcz25_0
                  try clear hcz25_1
                  try clear hcz25_2
                  try clear hcz25_3
                  try clear hcz7_0
                  try clear hcz7_1
                  try clear hcz7_2
                  try clear hcz7_3
                  try clear hfz12_0
                  try clear hfz12_1
                  try clear hfz12_2
                  try clear hfz12_3
                  try clear hfz15_0
                  try clear hfz15_1
                  try clear hfz15_2
                  try clear hfz15_3
                  try clear hfz25_0
                  try clear hfz25_1
                  try clear hfz25_2
                  try clear hfz25_3
                  try clear hfz7_0
                  try clear hfz7_1
                  try clear hfz7_2
                  try clear hfz7_3
                  try clear hx547_0
                  try clear hx547_1
                  try clear hx547_2
                  try clear hx547_3
                  try clear hx548_0
                  try clear hx548_1
                  try clear hx548_2
                  try clear hx553_0
                  try clear hx553_1
                  try clear hx553_2
                  try clear hx553_3
                  try clear p2
                  try clear p5
                  try clear p547
                  try clear p548
                  try clear p553
                  try clear q5
                  try clear q547
                  try clear q548
                  try clear q553
                  obtain ⟨x13_2, x15_2, rfl, HA, HK2, HO_7, HO_13, BK542, HB⟩ := hrel
                  cases gk with
                  | zero => exact absurd HA.out (by simp [symbolonref06_Parts.l0])
                  | succ k2 =>
                    have H := HA.out
                    clear HA
                    simp only [symbolonref06_Parts.l0] at H
                    have HC26 := Aside0.mk H
                    clear H
                    go_upto_region 8 with (fail)
                    go_cut [67] (fun v67 wc => ∃ (kq : Nat) (x67_25 : Bool), v67 = .bool x67_25 ∧ Aside0 (symbolonref06_Parts.j2 kq a1 t543 t549 t550 t551 t552 x13_2 ((rd_T40 l0_3 a1).f2) x15_2 x67_25 = some r) ∧ Aside0 (kq ≤ k2) ∧ Aside0 (Kd.R k23 23 wc w.heap.size (fun _ => True) (.slice (some ad548) t543.length co23) t543) ∧ Aside0 (Kd.R (Kd.int .i64) 3 wc w.heap.size (fun _ => True) u13 x13_2) ∧ Aside0 (wc.heap[gb542]? = some (.cells #[.int .i64 a0_0, .int .i64 a0_1, .int .i64 a0_2, (.slice (some ad553) l0_3.length c0_3)] 26 (0, 0))) ∧ Aside0 (Below w.heap.size w wc))
                    case first =>
                      have H := HC26.out
                      clear HC26
                      by_cases c27 : x15_2 < ((rd_T40 l0_3 a1).f2)
                      · rw [if_pos c27] at H
                        have c27b0 : decide (x15_2 < ((rd_T40 l0_3 a1).f2)) = true := decide_eq_true c27
                        clear c27
                        (first | rw [c27b0] | (simp only [i64_w, i32_w]; rw [c27b0]) | skip)
                        have H' := Aside0.mk H
                        clear H
                        go_wp2
                        go_meet
                        case rel => exact ⟨_, (t552), (by first | rfl | (simp; done) | (simp [*]; done)), H', ⟨by have := HJ4.out; have := HK2.out; first | omega | exact Nat.le_refl _⟩, ⟨by (with_reducible repeat (first | apply Kd.R_alloc | apply Kd.R_drewN | apply Kd.R_drew)); exact HO_7.out⟩, ⟨by (with_reducible repeat (first | apply Kd.R_alloc | apply Kd.R_drewN | apply Kd.R_drew)); exact HO_13.out⟩, ⟨by (with_reducible repeat (first | refine blk_drewN ?_ _ | refine blk_drew ?_ | refine blk_alloc ?_ _)); exact BK542.out⟩, ⟨by repeat (first | (with_reducible first | exact HB.out | apply below_alloc | apply pw_below_drewN | apply below_drew1 | refine below_set ?_ GE542.out) | exact HB.out)⟩⟩
                      · rw [if_neg c27] at H
                        have c27b0 : decide (x15_2 < ((rd_T40 l0_3 a1).f2)) = false := decide_eq_false c27
                        clear c27
                        (first | rw [c27b0] | (simp only [i64_w, i32_w]; rw [c27b0]) | skip)
                        have H' := Aside0.mk H
                        clear H
                        go_wp2
                        go_meet
                        case rel => exact ⟨_, (false), (by first | rfl | (simp; done) | (simp [*]; done)), H', ⟨by have := HJ4.out; have := HK2.out; first | omega | exact Nat.le_refl _⟩, ⟨by (with_reducible repeat (first | apply Kd.R_alloc | apply Kd.R_drewN | apply Kd.R_drew)); exact HO_7.out⟩, ⟨by (with_reducible repeat (first | apply Kd.R_alloc | apply Kd.R_drewN | apply Kd.R_drew)); exact HO_13.out⟩, ⟨by (with_reducible repeat (first | refine blk_drewN ?_ _ | refine blk_drew ?_ | refine blk_alloc ?_ _)); exact BK542.out⟩, ⟨by repeat (first | (with_reducible first | exact HB.out | apply below_alloc | apply pw_below_drewN | apply below_drew1 | refine below_set ?_ GE542.out) | exact HB.out)⟩⟩
                    case rest =>
                      clear HC26
                      try clear c1
                      try clear c2
                      try clear p2
                      try clear c4
                      try clear c5
                      try clear p5
                      try clear q5
                      try clear hx5
                      try clear p6
                      try clear c9
                      try clear c9b0
                      try clear c9b1
                      try clear c10
                      try clear c10b0
                      try clear c11
                      try clear c11b0
                      try clear c13
                      try clear c13b0
                      try clear c14
                      try clear c14b0
                      try clear c16
                      try clear c18
                      try clear c18b0
                      try clear c19
                      try clear c19b0
                      try clear c21
                      try clear c21b0
                      try clear c22
                      try clear c22b0
                      try clear c27
                      try clear c27b0
                      try clear hcz12_0
                      try clear hcz12_1
                      try clear hcz12_2
                      try clear hcz12_3
                      try clear hcz15_0
                      try clear hcz15_1
                      try clear hcz15_2
                      try clear hcz15_3
                      try clear hcz25_0
                      try clear hcz25_1
                      try clear hcz25_2
                      try clear hcz25_3
                      try clear hcz7_0
                      try clear hcz7_1
                      try clear hcz7_2
                      try clear hcz7_3
                      try clear hfz12_0
                      try clear hfz12_1
                      try clear hfz12_2
                      try clear hfz12_3
                      try clear hfz15_0
                      try clear hfz15_1
                      try clear hfz15_2
                      try clear hfz15_3
                      try clear hfz25_0
                      try clear hfz25_1
                      try clear hfz25_2
                      try clear hfz25_3
                      try clear hfz7_0
                      try clear hfz7_1
                      try clear hfz7_2
                      try clear hfz7_3
                      try clear hx547_0
                      try clear hx547_1
                      try clear hx547_2
                      try clear hx547_3
                      try clear hx548_0
                      try clear hx548_1
                      try clear hx548_2
                      try clear hx553_0
                      try clear hx553_1
                      try clear hx553_2
                      try clear hx553_3
                      try clear p2
                      try clear p5
                      try clear p547
                      try clear p548
                      try clear p553
                      try clear p6
                      try clear q5
                      try clear q547
                      try clear q548
                      try clear q553
                      obtain ⟨kq, x67_25, rfl, HA, HJ25, HO_7, HO_13, BK542, HB⟩ := hcut
                      cases kq with
                      | zero => exact absurd HA.out (by simp [symbolonref06_Parts.j2])
                      | succ kj25 =>
                        have H := HA.out
                        clear HA
                        simp only [symbolonref06_Parts.j2] at H
                        by_cases c28 : x67_25 = true
                        · subst c28
                          have H1 : (symbolonref06_Parts.l1 kj25 a1 t543 t549 t550 t551 t552 x13_2 ((rd_T40 l0_3 a1).f2) x15_2 0) = some r := by rw [if_pos rfl] at H; exact H
                          clear H
                          have H := H1
                          clear H1
                          have H' := Aside0.mk H
                          clear H
                          go_wp2
                          go_loopg [13, 16] kj25 (fun kq v13 v16 w' => ∃ (x13_4 : List Int) (x16_4 : Int), v16 = .int .i64 x16_4 ∧ Aside0 (symbolonref06_Parts.l1 kq a1 t543 t549 t550 t551 t552 x13_4 ((rd_T40 l0_3 a1).f2) x15_2 x16_4 = some r) ∧ Aside0 (kq ≤ kj25) ∧ Aside0 (Kd.R k23 23 w' w.heap.size (fun _ => True) (.slice (some ad548) t543.length co23) t543) ∧ Aside0 (Kd.R (Kd.int .i64) 3 w' w.heap.size (fun _ => True) v13 x13_4) ∧ Aside0 (w'.heap[gb542]? = some (.cells #[.int .i64 a0_0, .int .i64 a0_1, .int .i64 a0_2, (.slice (some ad553) l0_3.length c0_3)] 26 (0, 0))) ∧ Aside0 (Below w.heap.size w w'))
                          case atStart => exact ⟨(x13_2), (0), (by first | rfl | (simp; done) | (simp [*]; done)), H', ⟨Nat.le_refl _⟩, ⟨by (with_reducible repeat (first | apply Kd.R_alloc | apply Kd.R_drewN | apply Kd.R_drew)); exact HO_7.out⟩, ⟨by (with_reducible repeat (first | apply Kd.R_alloc | apply Kd.R_drewN | apply Kd.R_drew)); exact HO_13.out⟩, ⟨by (with_reducible repeat (first | refine blk_drewN ?_ _ | refine blk_drew ?_ | refine blk_alloc ?_ _)); exact BK542.out⟩, ⟨by repeat (first | (with_reducible first | exact HB.out | apply below_alloc | apply pw_below_drewN | apply below_drew1 | refine below_set ?_ GE542.out) | exact HB.out)⟩⟩
                          case round =>
                            clear H'
                            try clear c1
                            try clear c2
                            try clear p2
                            try clear c4
                            try clear c5
                            try clear p5
                            try clear q5
                            try clear hx5
                            try clear p6
                            try clear c9
                            try clear c9b0
                            try clear c9b1
                            try clear c10
                            try clear c10b0
                            try clear c11
                            try clear c11b0
                            try clear c13
                            try clear c13b0
                            try clear c14
                            try clear c14b0
                            try clear c16
                            try clear c18
                            try clear c18b0
                            try clear c19
                            try clear c19b0
                            try clear c21
                            try clear c21b0
                            try clear c22
                            try clear c22b0
                            try clear c27
                            try clear c27b0
                            try clear c28
                            try clear hcz12_0
                            try clear hcz12_1
                            try clear hcz12_2
                            try clear hcz12_3
                            try clear hcz15_0
                            try clear hcz15_1
                            try clear hcz15_2
                            try clear hcz15_3
                            try clear hcz25_0
                            try clear hcz25_1
                            try clear hcz25_2
                            try clear hcz25_3
                            try clear hcz7_0
                            try clear hcz7_1
                            try clear hcz7_2
                            try clear hcz7_3
                            try clear hfz12_0
                            try clear hfz12_1
                            try clear hfz12_2
                            try clear hfz12_3
                            try clear hfz15_0
                            try clear hfz15_1
                            try clear hfz15_2
                            try clear hfz15_3
                            try clear hfz25_0
                            try clear hfz25_1
                            try clear hfz25_2
                            try clear hfz25_3
                            try clear hfz7_0
                            try clear hfz7_1
                            try clear hfz7_2
                            try clear hfz7_3
                            try clear hx547_0
                            try clear hx547_1
                            try clear hx547_2
                            try clear hx547_3
                            try clear hx548_0
                            try clear hx548_1
                            try clear hx548_2
                            try clear hx553_0
                            try clear hx553_1
                            try clear hx553_2
                            try clear hx553_3
                            try clear p2
                            try clear p5
                            try clear p547
                            try clear p548
                            try clear p553
                            try clear p6
                            try clear q5
                            try clear q547
                            try clear q548
                            try clear q553
                            obtain ⟨x13_4, x16_4, rfl, HA, HK4, HO_7, HO_13, BK542, HB⟩ := hrel
                            cases gk with
                            | zero => exact absurd HA.out (by simp [symbolonref06_Parts.l1])
                            | succ k4 =>
                              have H := HA.out
                              clear HA
                              simp only [symbolonref06_Parts.l1] at H
                              by_cases c29 : x16_4 < ((rd_T40 l0_3 a1).f2)
                              · rw [if_pos c29] at H
                                have c29b0 : decide (x16_4 < ((rd_T40 l0_3 a1).f2)) = true := decide_eq_true c29
                                clear c29
                                by_cases c30 : 0 ≤ a1
                                · rw [if_pos c30] at H
                                  have c30b0 : decide (0 ≤ a1) = true := decide_eq_true c30
                                  clear c30
                                  by_cases c31 : a1 < (t543.length : Int)
                                  · rw [if_pos c31] at H
                                    have c31b0 : decide (a1 < (t543.length : Int)) = true := decide_eq_true c31
                                    clear c31
                                    replace H := Option.bind_eq_some_iff.mp H
                                    obtain ⟨t555, A320, H⟩ := H
                                    replace H : (if x13_4.length < 17592186044416 then (symbolonref06_Parts.l1 k4 a1 t543 t549 t550 t551 t552 (x13_4 ++ [t555]) ((rd_T40 l0_3 a1).f2) x15_2 (wrap64 (x16_4 + 1))) else (none)) = some r := H
                                    have A32 := Aside0.mk A320
                                    clear A320
                                    by_cases c33 : x13_4.length < 17592186044416
                                    · rw [if_pos c33] at H
                                      have LMc33 := Aside0.mk c33
                                      clear c33
                                      obtain ⟨y556, hy556⟩ : ∃ y_ : List Int, y_ = (x13_4 ++ [t555]) := ⟨_, rfl⟩
                                      replace H : (symbolonref06_Parts.l1 k4 a1 t543 t549 t550 t551 t552 y556 ((rd_T40 l0_3 a1).f2) x15_2 (wrap64 (x16_4 + 1))) = some r := by first | (rw [hy556]; with_reducible exact H) | (have H2_ := (Option.bind_some _ _).symm.trans H; rw [hy556]; with_reducible exact H2_) | (have H2_ := (Option.bind_some _ _).symm.trans H; with_reducible exact H2_) | with_reducible exact H | (rw [hy556]; exact H) | exact H
                                      have Ny556 := Aside0.mk hy556
                                      clear hy556
                                      have H' := Aside0.mk H
                                      clear H
                                      have p554 : 0 ≤ (a1 : Int) := of_decide_eq_true (by first | (with_reducible assumption) | assumption)
                                      have q554 : a1 < (t543.length : Int) := of_decide_eq_true (by first | (with_reducible assumption) | assumption)
                                      obtain ⟨ad554, e554, hx554_0, hx554_1, hx554_2⟩ := at_T23 (Kd.R_reads' HO_7.out).2.2 a1 p554 q554
                                      obtain rfl : ad548 = ad554 := (by injection e554)
                                      replace p554 := eq_true p554
                                      replace q554 := eq_true q554
                                      go_wp2_with (first | ((with_reducible refine gate_callee (f := 92) rfl ?_); refine goesL_ (some 91) rfl rfl Try.func92 (by kernel_rfl) rfl #[.agg #[.int .i64 ((rd_T23 t543 a1).f0), .int .i64 ((rd_T23 t543 a1).f1), .int .i64 ((rd_T23 t543 a1).f2)], .int .i64 t549, .int .i64 (wrap64 ((wrap64 (t550 * ((rd_T40 l0_3 a1).f2))) + x15_2)), .int .i64 (wrap64 ((wrap64 (t551 * ((rd_T40 l0_3 a1).f2))) + x16_4))] rfl (by (try simp only [List.map_toArray, List.map_cons, List.map_nil]); first | done | rfl | (simp only [List.length_drop, List.length_take]; rfl)) ?_; (with_reducible refine (symbolonref02_At.calls ((rd_T23 t543 a1).f0) ((rd_T23 t543 a1).f1) ((rd_T23 t543 a1).f2) t549 (wrap64 ((wrap64 (t550 * ((rd_T40 l0_3 a1).f2))) + x15_2)) (wrap64 ((wrap64 (t551 * ((rd_T40 l0_3 a1).f2))) + x16_4)) t555 _ A32.out).mono ?_); rintro e w34 ⟨rfl, hb⟩; refine ⟨_, rfl, ?_⟩; have n0_ := Aside0.mk (Kd.R_below (by (with_reducible repeat (first | apply Kd.R_alloc | apply Kd.R_drewN | apply Kd.R_drew)); exact HO_7.out) hb); have n1_ := Aside0.mk (Kd.R_below (by (with_reducible repeat (first | apply Kd.R_alloc | apply Kd.R_drewN | apply Kd.R_drew)); exact HO_13.out) hb); have n2_ := Aside0.mk (blk_below (g := gb542) (o := .cells #[.int .i64 a0_0, .int .i64 a0_1, .int .i64 a0_2, .slice (some ad553) l0_3.length c0_3] 26 (0, 0)) (by (with_reducible repeat (first | refine blk_drewN ?_ _ | refine blk_drew ?_ | refine blk_alloc ?_ _)); exact BK542.out) hb); have n3_ := Aside0.mk (below_step (by repeat (first | (with_reducible first | exact HB.out | apply below_alloc | apply pw_below_drewN | apply below_drew1 | refine below_set ?_ GE542.out) | exact HB.out)) hb); clear HO_7; clear HO_13; clear BK542; clear HB; have HO_7 := n0_; have HO_13 := n1_; have BK542 := n2_; have HB := n3_; clear n0_ n1_ n2_ n3_; (try clear hb); (try clear hb2); (try clear hk); (try clear hi)) | ((with_reducible refine gate_builtin (b := .append) (xs := #[.tmp 75, .tmp 92]) rfl ?_); (try (refine gate_guard (by rfl) ?_; dsimp only)); at_builtin; refine Kd.R_append (Kd.int .i64) (w0 := w) w.heap.size rfl (.tmp 75) (.tmp 92) 52 3 (.int .i64 0) 8 rfl Try.underlying52 info3 rfl (by decide) (by omega) u13 x13_4 t555 [.int .i64 t555] (fun _ => True) (fun _ => False) rfl rfl ?aP (fun _ hk => hk.elim) ?aF ?aO ?aB ?aS ?aL ?_; (case aP => exact rfl); (case aB => exact (by repeat (first | (with_reducible first | exact HB.out | apply below_alloc | apply pw_below_drewN | apply below_drew1 | refine below_set ?_ GE542.out) | exact HB.out))); (case aF => exact (fun _ _ => trivial)); (case aO => exact (by (with_reducible repeat (first | apply Kd.R_alloc | apply Kd.R_drewN | apply Kd.R_drew)); exact HO_13.out)); (case aS => exact (below_size (by repeat (first | (with_reducible first | exact HB.out | apply below_alloc | apply pw_below_drewN | apply below_drew1 | refine below_set ?_ GE542.out) | exact HB.out)))); (case aL => have := LMc33.out; omega); intro v557 w35 ho hb hg hat; rw [← Ny556.out] at ho; have n0_ := Aside0.mk (Kd.R_over' (by (with_reducible repeat (first | apply Kd.R_alloc | apply Kd.R_drewN | apply Kd.R_drew)); exact HO_7.out) (Kd.R_typed (by (with_reducible repeat (first | apply Kd.R_alloc | apply Kd.R_drewN | apply Kd.R_drew)); exact HO_13.out)) (by decide) hg); have n1_ := Aside0.mk (blk_grown (g := gb542) (o := .cells #[.int .i64 a0_0, .int .i64 a0_1, .int .i64 a0_2, .slice (some ad553) l0_3.length c0_3] 26 (0, 0)) (by (with_reducible repeat (first | refine blk_drewN ?_ _ | refine blk_drew ?_ | refine blk_alloc ?_ _)); exact BK542.out) hg (Kd.R_ne HO_13.out BK542.out (by decide))); have n2_ := Aside0.mk (hb); have n3_ := Aside0.mk (ho); clear HO_7; clear BK542; clear HB; clear HO_13; have HO_7 := n0_; have BK542 := n1_; have HB := n2_; have HO558 := n3_; clear n0_ n1_ n2_ n3_; clear ho hb hg hat))
                                      go_roundg k4
                                      case measure => have := HJ4.out; have := HK2.out; have := HJ25.out; have := HK4.out; omega
                                      case rel => exact ⟨(y556), (wrap64 (x16_4 + 1)), (by first | rfl | (simp; done) | (simp [*]; done)), H', ⟨by have := HJ4.out; have := HK2.out; have := HJ25.out; have := HK4.out; omega⟩, ⟨by (with_reducible repeat (first | apply Kd.R_alloc | apply Kd.R_drewN | apply Kd.R_drew)); exact HO_7.out⟩, ⟨by (with_reducible repeat (first | apply Kd.R_alloc | apply Kd.R_drewN | apply Kd.R_drew)); exact HO558.out⟩, ⟨by (with_reducible repeat (first | refine blk_drewN ?_ _ | refine blk_drew ?_ | refine blk_alloc ?_ _)); exact BK542.out⟩, ⟨by repeat (first | (with_reducible first | exact HB.out | apply below_alloc | apply pw_below_drewN | apply below_drew1 | refine below_set ?_ GE542.out) | exact HB.out)⟩⟩
                                    · rw [if_neg c33] at H
                                      exact absurd H (by simp)
                                  · rw [if_neg c31] at H
                                    exact absurd H (by simp)
                                · rw [if_neg c30] at H
                                  exact absurd H (by simp)
                              · rw [if_neg c29] at H
                                have c29b0 : decide (x16_4 < ((rd_T40 l0_3 a1).f2)) = false := decide_eq_false c29
                                clear c29
                                have H' := Aside0.mk H
                                clear H
                                go_wp2
                                go_roundg k4
                                case measure => have := HJ4.out; have := HK2.out; have := HJ25.out; have := HK4.out; omega
                                case rel => exact ⟨(x13_4), (wrap64 (x15_2 + 1)), (by first | rfl | (simp; done) | (simp [*]; done)), H', ⟨by have := HJ4.out; have := HK2.out; have := HJ25.out; have := HK4.out; omega⟩, ⟨by (with_reducible repeat (first | apply Kd.R_alloc | apply Kd.R_drewN | apply Kd.R_drew)); exact HO_7.out⟩, ⟨by (with_reducible repeat (first | apply Kd.R_alloc | apply Kd.R_drewN | apply Kd.R_drew)); exact HO_13.out⟩, ⟨by (with_reducible repeat (first | refine blk_drewN ?_ _ | refine blk_drew ?_ | refine blk_alloc ?_ _)); exact BK542.out⟩, ⟨by repeat (first | (with_reducible first | exact HB.out | apply below_alloc | apply pw_below_drewN | apply below_drew1 | refine below_set ?_ GE542.out) | exact HB.out)⟩⟩
                        · replace c28 := Bool.eq_false_iff.mpr c28
                          subst c28
                          have H1 : (some x13_2) = some r := by rw [if_neg (show ¬ (false = true) by decide)] at H; exact H
                          clear H
                          have H := H1
                          clear H1
                          obtain rfl := Option.some.inj H
                          go_wp2
                          go_ret
                          exact ⟨_, by first | rfl | (simp [errW_none, errW_some] <;> rfl) | (simp only [← hji17]; first | rfl | (simp [errW_none, errW_some] <;> rfl)) | (simp [*, errW_none, errW_some] <;> rfl), by (with_reducible repeat (first | apply Kd.R_alloc | apply Kd.R_drewN | apply Kd.R_drew)); exact HO_13.out, by repeat (first | (with_reducible first | exact HB.out | apply below_alloc | apply pw_below_drewN | apply below_drew1 | refine below_set ?_ GE542.out) | exact HB.out)⟩
              · rw [if_neg c22] at H
                exact absurd H (by simp)
            · rw [if_neg c21] at H
              exact absurd H (by simp)
          · rw [if_neg c19] at H
            exact absurd H (by simp)
        · rw [if_neg c18] at H
          exact absurd H (by simp)
end Go.Proofs.Ytnfcadjckoebkaa.P
