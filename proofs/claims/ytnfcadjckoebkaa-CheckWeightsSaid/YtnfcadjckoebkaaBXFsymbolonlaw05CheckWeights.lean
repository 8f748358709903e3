-- Laid by laygen.py (this session's own, in its repo) over the kit's print. Not trusted: Lean checks it.
import Derived.Test.YtnfcadjckoebkaaBX0
import Derived.Test.YtnfcadjckoebkaaBXCk
import Derived.Test.YtnfcadjckoebkaaBXLE
import Derived.Test.YtnfcadjckoebkaaBXRD
namespace Go.Proofs.Ytnfcadjckoebkaa.P
open Go.RowKit Go.Proofs.YtnfcadjckoebkaaW.PrintWords Go.Proofs.YtnfcadjckoebkaaW.PrintLast Go.Proofs.YtnfcadjckoebkaaW.PrintMore

set_option linter.unusedVariables false
set_option linter.unusedSimpArgs false

/-! ### symbolonlaw05_CheckWeights: function 6 -/
def symbolonlaw05_CheckWeights.l0 : Nat → Bool → Int → Int → Int → Int → Int → Int → Int → Int → List (S40) → Option (Bool)
  | 0, _, _, _, _, _, _, _, _, _, _ => none
  | k + 1, x3, x4, x5, x8, x9, x10, x400000, x400001, x400002, x400003 => if x10 < (x400003.length : Int) then ((check_Weights.f k x400000 x400001 x400002 x400003 x10).bind fun bt408 => ((check_Products.f x400000 x400001 x400002 x400003 x10).bind fun t410 => (if bt408.1 = x8 then (if bt408.2 < 0 then (none) else (if t410 < bt408.2 then (none) else (if 0 ≤ x10 then (if ((rd_T40 x400003 x10).f0) = 2 then (if ((bt408.2 == 0) != true) = true then (none) else (if ((t410 == 0) != (((rd_T40 x400003 x10).f0) == 3)) = true then (none) else (symbolonlaw05_CheckWeights.l0 k x3 x4 x5 (wrap64 (x8 + bt408.2)) (wrap64 (x9 + t410)) (wrap64 (x10 + 1)) x400000 x400001 x400002 x400003))) else (if ((bt408.2 == 0) != (((rd_T40 x400003 x10).f0) == 3)) = true then (none) else (if ((t410 == 0) != (((rd_T40 x400003 x10).f0) == 3)) = true then (none) else (symbolonlaw05_CheckWeights.l0 k x3 x4 x5 (wrap64 (x8 + bt408.2)) (wrap64 (x9 + t410)) (wrap64 (x10 + 1)) x400000 x400001 x400002 x400003)))) else (none)))) else (none)))) else (if x3 = true then (if x8 = x4 then (if x9 = x5 then (if x4 ≤ 512 then (some (decide (x5 ≤ 512))) else (none)) else (none)) else (none)) else (none))
def symbolonlaw05_CheckWeights.f (k : Nat) (a0_0 : Int) (a0_1 : Int) (a0_2 : Int) (l0_3 : List (S40)) : Option (Bool) := (symbolonlaw05_head.f k).bind fun t400 => ((symbolonlaw04_Great.f a0_0 a0_1 a0_2 l0_3).bind fun t401 => (if t401 = true then (some t400) else ((check_All.f k a0_0 a0_1 a0_2 l0_3).bind fun bt402 => ((check_Right.f a0_0 a0_1 a0_2 l0_3).bind fun t404 => (if t404 = true then (symbolonlaw05_CheckWeights.l0 k t400 bt402.1 bt402.2 0 0 0 a0_0 a0_1 a0_2 l0_3) else ((check_Weights.f k a0_0 a0_1 a0_2 l0_3 0).bind fun bt405 => (if t400 = true then (if bt402.1 = 0 then (if bt402.2 = 0 then (if bt405.1 = 0 then (if bt405.2 = 0 then ((check_Products.f a0_0 a0_1 a0_2 l0_3 0).bind fun t407 => (some (t407 == 0))) else (none)) else (none)) else (none)) else (none)) else (none))))))))
set_option maxHeartbeats 8000000 in
set_option maxRecDepth 100000 in
theorem symbolonlaw05_CheckWeights.calls (k : Nat) (a0_0 : Int) (a0_1 : Int) (a0_2 : Int) (A0_3 : Option Addr) (c0_3 : Nat) (l0_3 : List (S40)) (r : Bool) (w : World) (hr0_3 : Kd.C k40 w A0_3 l0_3.length l0_3) (hc0_3 : l0_3.length ≤ c0_3) (h : symbolonlaw05_CheckWeights.f k a0_0 a0_1 a0_2 l0_3 = some r) :
    Calls Try.prog 6 #[.agg #[.int .i64 a0_0, .int .i64 a0_1, .int .i64 a0_2, .slice A0_3 l0_3.length c0_3]] w fun e w' => e = .returned (.bool r) ∧ Below w.heap.size w w' := by
  have hu26 := Try.underlying26
  have HR0_3 := Aside0.mk hr0_3
  have HC0_3 := Aside0.mk hc0_3
  clear hr0_3 hc0_3
  have HB := Aside0.mk (Below.refl w.heap.size w)
  have H : ((symbolonlaw05_head.f k).bind fun t400 => ((symbolonlaw04_Great.f a0_0 a0_1 a0_2 l0_3).bind fun t401 => (if t401 = true then (some t400) else ((check_All.f k a0_0 a0_1 a0_2 l0_3).bind fun bt402 => ((check_Right.f a0_0 a0_1 a0_2 l0_3).bind fun t404 => (if t404 = true then (symbolonlaw05_CheckWeights.l0 k t400 bt402.1 bt402.2 0 0 0 a0_0 a0_1 a0_2 l0_3) else ((check_Weights.f k a0_0 a0_1 a0_2 l0_3 0).bind fun bt405 => (if t400 = true then (if bt402.1 = 0 then (if bt402.2 = 0 then (if bt405.1 = 0 then (if bt405.2 = 0 then ((check_Products.f a0_0 a0_1 a0_2 l0_3 0).bind fun t407 => (some (t407 == 0))) else (none)) else (none)) else (none)) else (none)) else (none))))))))) = some r := h
  clear h
  replace H := Option.bind_eq_some_iff.mp H
  obtain ⟨t400, A20, H⟩ := H
  replace H : ((symbolonlaw04_Great.f a0_0 a0_1 a0_2 l0_3).bind fun t401 => (if t401 = true then (some t400) else ((check_All.f k a0_0 a0_1 a0_2 l0_3).bind fun bt402 => ((check_Right.f a0_0 a0_1 a0_2 l0_3).bind fun t404 => (if t404 = true then (symbolonlaw05_CheckWeights.l0 k t400 bt402.1 bt402.2 0 0 0 a0_0 a0_1 a0_2 l0_3) else ((check_Weights.f k a0_0 a0_1 a0_2 l0_3 0).bind fun bt405 => (if t400 = true then (if bt402.1 = 0 then (if bt402.2 = 0 then (if bt405.1 = 0 then (if bt405.2 = 0 then ((check_Products.f a0_0 a0_1 a0_2 l0_3 0).bind fun t407 => (some (t407 == 0))) else (none)) else (none)) else (none)) else (none)) else (none)))))))) = some r := H
  have A2 := Aside0.mk A20
  clear A20
  replace H := Option.bind_eq_some_iff.mp H
  obtain ⟨t401, A30, H⟩ := H
  replace H : (if t401 = true then (some t400) else ((check_All.f k a0_0 a0_1 a0_2 l0_3).bind fun bt402 => ((check_Right.f a0_0 a0_1 a0_2 l0_3).bind fun t404 => (if t404 = true then (symbolonlaw05_CheckWeights.l0 k t400 bt402.1 bt402.2 0 0 0 a0_0 a0_1 a0_2 l0_3) else ((check_Weights.f k a0_0 a0_1 a0_2 l0_3 0).bind fun bt405 => (if t400 = true then (if bt402.1 = 0 then (if bt402.2 = 0 then (if bt405.1 = 0 then (if bt405.2 = 0 then ((check_Products.f a0_0 a0_1 a0_2 l0_3 0).bind fun t407 => (some (t407 == 0))) else (none)) else (none)) else (none)) else (none)) else (none))))))) = some r := H
  have A3 := Aside0.mk A30
  clear A30
  by_cases c4 : t401 = true
  · subst c4
    have H1 : (some t400) = some r := by rw [if_pos rfl] at H; exact H
    clear H
    have H := H1
    clear H1
    obtain rfl := Option.some.inj H
    go_enter Try.func6, Try.ntmps6
    go_wp2_with (first | ((with_reducible refine gate_dst (N := 1) rfl ?_); refine box_event ?hg (N := 1) ?hd (cs := #[.int .i64 a0_0, .int .i64 a0_1, .int .i64 a0_2, .slice A0_3 l0_3.length c0_3]) (t := 26) ?hr ?_; (case hd => rfl); (case hg => rfl); (case hr => first | (go_simp; done) | (go_simp; rfl)); intro gb399 hg w5 hbox hb; have n0_ := Aside0.mk (below_step (by repeat (first | (with_reducible first | exact HB.out | apply below_alloc | apply pw_below_drewN | apply below_drew1) | exact HB.out)) hb); have n1_ := Aside0.mk (hbox); have n2_ := Aside0.mk ((by rw [hg]; exact (below_size (by repeat (first | (with_reducible first | exact HB.out | apply below_alloc | apply pw_below_drewN | apply below_drew1) | exact HB.out))) : w.heap.size ≤ gb399)); have n3_ := Aside0.mk ((by rw [hg]; exact (below_size (by repeat (first | (with_reducible first | exact HB.out | apply below_alloc | apply pw_below_drewN | apply below_drew1) | exact HB.out))) : w.heap.size ≤ gb399)); clear HB; have HB := n0_; have BK399 := n1_; have GW399 := n2_; have GE399 := n3_; clear n0_ n1_ n2_ n3_; clear hb hbox hg) | ((with_reducible refine gate_callee (f := 25) rfl ?_); refine goesL_ (some 14) rfl rfl Try.func25 (by kernel_rfl) rfl #[] rfl (by (try simp only [List.map_toArray, List.map_cons, List.map_nil]); first | done | rfl | (simp only [List.length_drop, List.length_take]; rfl)) ?_; (with_reducible refine (symbolonlaw05_head.calls k  t400 _ A2.out).mono ?_); rintro e w6 ⟨rfl, hb⟩; refine ⟨_, rfl, ?_⟩; have n0_ := Aside0.mk (blk_below (g := gb399) (o := .cells #[.int .i64 a0_0, .int .i64 a0_1, .int .i64 a0_2, .slice A0_3 l0_3.length c0_3] 26 (0, 0)) (by (with_reducible repeat (first | refine blk_drewN ?_ _ | refine blk_drew ?_ | refine blk_alloc ?_ _)); exact BK399.out) hb); have n1_ := Aside0.mk (below_step (by repeat (first | (with_reducible first | exact HB.out | apply below_alloc | apply pw_below_drewN | apply below_drew1 | refine below_set ?_ GE399.out) | exact HB.out)) hb); clear BK399; clear HB; have BK399 := n0_; have HB := n1_; clear n0_ n1_; (try clear hb); (try clear hb2); (try clear hk); (try clear hi); have hcz7_0 : w6.cell? ⟨gb399, 0, none⟩ = some (.int .i64 a0_0) := (blk_cell BK399.out 0).trans rfl; have hcz7_1 : w6.cell? ⟨gb399, 1, none⟩ = some (.int .i64 a0_1) := (blk_cell BK399.out 1).trans rfl; have hcz7_2 : w6.cell? ⟨gb399, 2, none⟩ = some (.int .i64 a0_2) := (blk_cell BK399.out 2).trans rfl; have hcz7_3 : w6.cell? ⟨gb399, 3, none⟩ = some (.slice A0_3 l0_3.length c0_3) := (blk_cell BK399.out 3).trans rfl; have hfz7_0 := blk_frozen BK399.out 0; have hfz7_1 := blk_frozen BK399.out 1; have hfz7_2 := blk_frozen BK399.out 2; have hfz7_3 := blk_frozen BK399.out 3) | ((with_reducible refine gate_callee (f := 26) rfl ?_); refine goesL_ (some 16) rfl rfl Try.func26 (by kernel_rfl) rfl #[.agg #[.int .i64 a0_0, .int .i64 a0_1, .int .i64 a0_2, .slice A0_3 l0_3.length c0_3]] rfl (by (try simp only [List.map_toArray, List.map_cons, List.map_nil]); first | done | rfl | (simp only [List.length_drop, List.length_take]; rfl)) ?_; (with_reducible refine (symbolonlaw04_Great.calls a0_0 a0_1 a0_2 _ _ l0_3 true _ ?side1 ?side2 A3.out).mono ?_); (case side1 => repeat (first | exact (Kd.C_below HR0_3.out HB.out) | (with_reducible refine Kd.C_alloc ?_ _) | (with_reducible refine Kd.C_drewN ?_ _) | (with_reducible refine Kd.C_drew ?_))); (case side2 => exact HC0_3.out); rintro e w8 ⟨rfl, hb⟩; refine ⟨_, rfl, ?_⟩; have n0_ := Aside0.mk (blk_below (g := gb399) (o := .cells #[.int .i64 a0_0, .int .i64 a0_1, .int .i64 a0_2, .slice A0_3 l0_3.length c0_3] 26 (0, 0)) (by (with_reducible repeat (first | refine blk_drewN ?_ _ | refine blk_drew ?_ | refine blk_alloc ?_ _)); exact BK399.out) hb); have n1_ := Aside0.mk (below_step (by repeat (first | (with_reducible first | exact HB.out | apply below_alloc | apply pw_below_drewN | apply below_drew1 | refine below_set ?_ GE399.out) | exact HB.out)) hb); clear BK399; clear HB; have BK399 := n0_; have HB := n1_; clear n0_ n1_; (try clear hb); (try clear hb2); (try clear hk); (try clear hi)))
    go_ret
    exact ⟨by first | rfl | (simp [errW_none, errW_some] <;> rfl) | (simp [*, errW_none, errW_some] <;> rfl), by repeat (first | (with_reducible first | exact HB.out | apply below_alloc | apply pw_below_drewN | apply below_drew1 | refine below_set ?_ GE399.out) | exact HB.out)⟩
  · replace c4 := Bool.eq_false_iff.mpr c4
    subst c4
    have H1 : ((check_All.f k a0_0 a0_1 a0_2 l0_3).bind fun bt402 => ((check_Right.f a0_0 a0_1 a0_2 l0_3).bind fun t404 => (if t404 = true then (symbolonlaw05_CheckWeights.l0 k t400 bt402.1 bt402.2 0 0 0 a0_0 a0_1 a0_2 l0_3) else ((check_Weights.f k a0_0 a0_1 a0_2 l0_3 0).bind fun bt405 => (if t400 = true then (if bt402.1 = 0 then (if bt402.2 = 0 then (if bt405.1 = 0 then (if bt405.2 = 0 then ((check_Products.f a0_0 a0_1 a0_2 l0_3 0).bind fun t407 => (some (t407 == 0))) else (none)) else (none)) else (none)) else (none)) else (none)))))) = some r := by rw [if_neg (show ¬ (false = true) by decide)] at H; exact H
    clear H
    have H := H1
    clear H1
    replace H := Option.bind_eq_some_iff.mp H
    obtain ⟨⟨t402, t403⟩, A90, H⟩ := H
    replace H : ((check_Right.f a0_0 a0_1 a0_2 l0_3).bind fun t404 => (if t404 = true then (symbolonlaw05_CheckWeights.l0 k t400 t402 t403 0 0 0 a0_0 a0_1 a0_2 l0_3) else ((check_Weights.f k a0_0 a0_1 a0_2 l0_3 0).bind fun bt405 => (if t400 = true then (if t402 = 0 then (if t403 = 0 then (if bt405.1 = 0 then (if bt405.2 = 0 then ((check_Products.f a0_0 a0_1 a0_2 l0_3 0).bind fun t407 => (some (t407 == 0))) else (none)) else (none)) else (none)) else (none)) else (none))))) = some r := H
    have A9 := Aside0.mk A90
    clear A90
    replace H := Option.bind_eq_some_iff.mp H
    obtain ⟨t404, A100, H⟩ := H
    replace H : (if t404 = true then (symbolonlaw05_CheckWeights.l0 k t400 t402 t403 0 0 0 a0_0 a0_1 a0_2 l0_3) else ((check_Weights.f k a0_0 a0_1 a0_2 l0_3 0).bind fun bt405 => (if t400 = true then (if t402 = 0 then (if t403 = 0 then (if bt405.1 = 0 then (if bt405.2 = 0 then ((check_Products.f a0_0 a0_1 a0_2 l0_3 0).bind fun t407 => (some (t407 == 0))) else (none)) else (none)) else (none)) else (none)) else (none)))) = some r := H
    have A10 := Aside0.mk A100
    clear A100
    by_cases c11 : t404 = true
    · subst c11
      have H1 : (symbolonlaw05_CheckWeights.l0 k t400 t402 t403 0 0 0 a0_0 a0_1 a0_2 l0_3) = some r := by rw [if_pos rfl] at H; exact H
      clear H
      have H := H1
      clear H1
      have H' := Aside0.mk H
      clear H
      go_enter Try.func6, Try.ntmps6
      go_wp2_with (first | ((with_reducible refine gate_dst (N := 1) rfl ?_); refine box_event ?hg (N := 1) ?hd (cs := #[.int .i64 a0_0, .int .i64 a0_1, .int .i64 a0_2, .slice A0_3 l0_3.length c0_3]) (t := 26) ?hr ?_; (case hd => rfl); (case hg => rfl); (case hr => first | (go_simp; done) | (go_simp; rfl)); intro gb399 hg w12 hbox hb; have n0_ := Aside0.mk (below_step (by repeat (first | (with_reducible first | exact HB.out | apply below_alloc | apply pw_below_drewN | apply below_drew1) | exact HB.out)) hb); have n1_ := Aside0.mk (hbox); have n2_ := Aside0.mk ((by rw [hg]; exact (below_size (by repeat (first | (with_reducible first | exact HB.out | apply below_alloc | apply pw_below_drewN | apply below_drew1) | exact HB.out))) : w.heap.size ≤ gb399)); have n3_ := Aside0.mk ((by rw [hg]; exact (below_size (by repeat (first | (with_reducible first | exact HB.out | apply below_alloc | apply pw_below_drewN | apply below_drew1) | exact HB.out))) : w.heap.size ≤ gb399)); clear HB; have HB := n0_; have BK399 := n1_; have GW399 := n2_; have GE399 := n3_; clear n0_ n1_ n2_ n3_; clear hb hbox hg) | ((with_reducible refine gate_callee (f := 25) rfl ?_); refine goesL_ (some 14) rfl rfl Try.func25 (by kernel_rfl) rfl #[] rfl (by (try simp only [List.map_toArray, List.map_cons, List.map_nil]); first | done | rfl | (simp only [List.length_drop, List.length_take]; rfl)) ?_; (with_reducible refine (symbolonlaw05_head.calls k  t400 _ A2.out).mono ?_); rintro e w13 ⟨rfl, hb⟩; refine ⟨_, rfl, ?_⟩; have n0_ := Aside0.mk (blk_below (g := gb399) (o := .cells #[.int .i64 a0_0, .int .i64 a0_1, .int .i64 a0_2, .slice A0_3 l0_3.length c0_3] 26 (0, 0)) (by (with_reducible repeat (first | refine blk_drewN ?_ _ | refine blk_drew ?_ | refine blk_alloc ?_ _)); exact BK399.out) hb); have n1_ := Aside0.mk (below_step (by repeat (first | (with_reducible first | exact HB.out | apply below_alloc | apply pw_below_drewN | apply below_drew1 | refine below_set ?_ GE399.out) | exact HB.out)) hb); clear BK399; clear HB; have BK399 := n0_; have HB := n1_; clear n0_ n1_; (try clear hb); (try clear hb2); (try clear hk); (try clear hi); have hcz14_0 : w13.cell? ⟨gb399, 0, none⟩ = some (.int .i64 a0_0) := (blk_cell BK399.out 0).trans rfl; have hcz14_1 : w13.cell? ⟨gb399, 1, none⟩ = some (.int .i64 a0_1) := (blk_cell BK399.out 1).trans rfl; have hcz14_2 : w13.cell? ⟨gb399, 2, none⟩ = some (.int .i64 a0_2) := (blk_cell BK399.out 2).trans rfl; have hcz14_3 : w13.cell? ⟨gb399, 3, none⟩ = some (.slice A0_3 l0_3.length c0_3) := (blk_cell BK399.out 3).trans rfl; have hfz14_0 := blk_frozen BK399.out 0; have hfz14_1 := blk_frozen BK399.out 1; have hfz14_2 := blk_frozen BK399.out 2; have hfz14_3 := blk_frozen BK399.out 3) | ((with_reducible refine gate_callee (f := 26) rfl ?_); refine goesL_ (some 16) rfl rfl Try.func26 (by kernel_rfl) rfl #[.agg #[.int .i64 a0_0, .int .i64 a0_1, .int .i64 a0_2, .slice A0_3 l0_3.length c0_3]] rfl (by (try simp only [List.map_toArray, List.map_cons, List.map_nil]); first | done | rfl | (simp only [List.length_drop, List.length_take]; rfl)) ?_; (with_reducible refine (symbolonlaw04_Great.calls a0_0 a0_1 a0_2 _ _ l0_3 false _ ?side1 ?side2 A3.out).mono ?_); (case side1 => repeat (first | exact (Kd.C_below HR0_3.out HB.out) | (with_reducible refine Kd.C_alloc ?_ _) | (with_reducible refine Kd.C_drewN ?_ _) | (with_reducible refine Kd.C_drew ?_))); (case side2 => exact HC0_3.out); rintro e w15 ⟨rfl, hb⟩; refine ⟨_, rfl, ?_⟩; have n0_ := Aside0.mk (blk_below (g := gb399) (o := .cells #[.int .i64 a0_0, .int .i64 a0_1, .int .i64 a0_2, .slice A0_3 l0_3.length c0_3] 26 (0, 0)) (by (with_reducible repeat (first | refine blk_drewN ?_ _ | refine blk_drew ?_ | refine blk_alloc ?_ _)); exact BK399.out) hb); have n1_ := Aside0.mk (below_step (by repeat (first | (with_reducible first | exact HB.out | apply below_alloc | apply pw_below_drewN | apply below_drew1 | refine below_set ?_ GE399.out) | exact HB.out)) hb); clear BK399; clear HB; have BK399 := n0_; have HB := n1_; clear n0_ n1_; (try clear hb); (try clear hb2); (try clear hk); (try clear hi); have hcz16_0 : w15.cell? ⟨gb399, 0, none⟩ = some (.int .i64 a0_0) := (blk_cell BK399.out 0).trans rfl; have hcz16_1 : w15.cell? ⟨gb399, 1, none⟩ = some (.int .i64 a0_1) := (blk_cell BK399.out 1).trans rfl; have hcz16_2 : w15.cell? ⟨gb399, 2, none⟩ = some (.int .i64 a0_2) := (blk_cell BK399.out 2).trans rfl; have hcz16_3 : w15.cell? ⟨gb399, 3, none⟩ = some (.slice A0_3 l0_3.length c0_3) := (blk_cell BK399.out 3).trans rfl; have hfz16_0 := blk_frozen BK399.out 0; have hfz16_1 := blk_frozen BK399.out 1; have hfz16_2 := blk_frozen BK399.out 2; have hfz16_3 := blk_frozen BK399.out 3) | ((with_reducible refine gate_callee (f := 31) rfl ?_); refine goesL_ (some 20) rfl rfl Try.func31 (by kernel_rfl) rfl #[.agg #[.int .i64 a0_0, .int .i64 a0_1, .int .i64 a0_2, .slice A0_3 l0_3.length c0_3]] rfl (by (try simp only [List.map_toArray, List.map_cons, List.map_nil]); first | done | rfl | (simp only [List.length_drop, List.length_take]; rfl)) ?_; (with_reducible refine (check_All.calls k a0_0 a0_1 a0_2 _ _ l0_3 t402 t403 _ ?side1 ?side2 A9.out).mono ?_); (case side1 => repeat (first | exact (Kd.C_below HR0_3.out HB.out) | (with_reducible refine Kd.C_alloc ?_ _) | (with_reducible refine Kd.C_drewN ?_ _) | (with_reducible refine Kd.C_drew ?_))); (case side2 => exact HC0_3.out); rintro e w17 ⟨rfl, hb⟩; refine ⟨_, rfl, ?_⟩; have n0_ := Aside0.mk (blk_below (g := gb399) (o := .cells #[.int .i64 a0_0, .int .i64 a0_1, .int .i64 a0_2, .slice A0_3 l0_3.length c0_3] 26 (0, 0)) (by (with_reducible repeat (first | refine blk_drewN ?_ _ | refine blk_drew ?_ | refine blk_alloc ?_ _)); exact BK399.out) hb); have n1_ := Aside0.mk (below_step (by repeat (first | (with_reducible first | exact HB.out | apply below_alloc | apply pw_below_drewN | apply below_drew1 | refine below_set ?_ GE399.out) | exact HB.out)) hb); clear BK399; clear HB; have BK399 := n0_; have HB := n1_; clear n0_ n1_; (try clear hb); (try clear hb2); (try clear hk); (try clear hi); have hcz18_0 : w17.cell? ⟨gb399, 0, none⟩ = some (.int .i64 a0_0) := (blk_cell BK399.out 0).trans rfl; have hcz18_1 : w17.cell? ⟨gb399, 1, none⟩ = some (.int .i64 a0_1) := (blk_cell BK399.out 1).trans rfl; have hcz18_2 : w17.cell? ⟨gb399, 2, none⟩ = some (.int .i64 a0_2) := (blk_cell BK399.out 2).trans rfl; have hcz18_3 : w17.cell? ⟨gb399, 3, none⟩ = some (.slice A0_3 l0_3.length c0_3) := (blk_cell BK399.out 3).trans rfl; have hfz18_0 := blk_frozen BK399.out 0; have hfz18_1 := blk_frozen BK399.out 1; have hfz18_2 := blk_frozen BK399.out 2; have hfz18_3 := blk_frozen BK399.out 3) | ((with_reducible refine gate_callee (f := 34) rfl ?_); refine goesL_ (some 24) rfl rfl Try.func34 (by kernel_rfl) rfl #[.agg #[.int .i64 a0_0, .int .i64 a0_1, .int .i64 a0_2, .slice A0_3 l0_3.length c0_3]] rfl (by (try simp only [List.map_toArray, List.map_cons, List.map_nil]); first | done | rfl | (simp only [List.length_drop, List.length_take]; rfl)) ?_; (with_reducible refine (check_Right.calls a0_0 a0_1 a0_2 _ _ l0_3 true _ ?side1 ?side2 A10.out).mono ?_); (case side1 => repeat (first | exact (Kd.C_below HR0_3.out HB.out) | (with_reducible refine Kd.C_alloc ?_ _) | (with_reducible refine Kd.C_drewN ?_ _) | (with_reducible refine Kd.C_drew ?_))); (case side2 => exact HC0_3.out); rintro e w19 ⟨rfl, hb⟩; refine ⟨_, rfl, ?_⟩; have n0_ := Aside0.mk (blk_below (g := gb399) (o := .cells #[.int .i64 a0_0, .int .i64 a0_1, .int .i64 a0_2, .slice A0_3 l0_3.length c0_3] 26 (0, 0)) (by (with_reducible repeat (first | refine blk_drewN ?_ _ | refine blk_drew ?_ | refine blk_alloc ?_ _)); exact BK399.out) hb); have n1_ := Aside0.mk (below_step (by repeat (first | (with_reducible first | exact HB.out | apply below_alloc | apply pw_below_drewN | apply below_drew1 | refine below_set ?_ GE399.out) | exact HB.out)) hb); clear BK399; clear HB; have BK399 := n0_; have HB := n1_; clear n0_ n1_; (try clear hb); (try clear hb2); (try clear hk); (try clear hi)))
      go_loopg [8, 9, 10] k (fun kq v8 v9 v10 w' => ∃ (x8_1 : Int) (x9_1 : Int) (x10_1 : Int), v8 = .int .i64 x8_1 ∧ v9 = .int .i64 x9_1 ∧ v10 = .int .i64 x10_1 ∧ Aside0 (symbolonlaw05_CheckWeights.l0 kq t400 t402 t403 x8_1 x9_1 x10_1 a0_0 a0_1 a0_2 l0_3 = some r) ∧ Aside0 (kq ≤ k) ∧ Aside0 (w'.heap[gb399]? = some (.cells #[.int .i64 a0_0, .int .i64 a0_1, .int .i64 a0_2, (.slice A0_3 l0_3.length c0_3)] 26 (0, 0))) ∧ Aside0 (Below w.heap.size w w'))
      case atStart => exact ⟨(0), (0), (0), (by first | rfl | (simp; done) | (simp [*]; done)), (by first | rfl | (simp; done) | (simp [*]; done)), (by first | rfl | (simp; done) | (simp [*]; done)), H', ⟨Nat.le_refl _⟩, ⟨by (with_reducible repeat (first | refine blk_drewN ?_ _ | refine blk_drew ?_ | refine blk_alloc ?_ _)); exact BK399.out⟩, ⟨by repeat (first | (with_reducible first | exact HB.out | apply below_alloc | apply pw_below_drewN | apply below_drew1 | refine below_set ?_ GE399.out) | exact HB.out)⟩⟩
      case round =>
        clear H'
        try clear c1
        try clear c2
        try clear p2
        try clear c3
        try clear c4
        try clear c6
        try clear c11
        try clear hcz14_0
        try clear hcz14_1
        try clear hcz14_2
        try clear hcz14_3
        try clear hcz16_0
        try clear hcz16_1
        try clear hcz16_2
        try clear hcz16_3
        try clear hcz18_0
        try clear hcz18_1
        try clear hcz18_2
        try clear hcz18_3
        try clear hcz7_0
        try clear hcz7_1
        try clear hcz7_2
        try clear hcz7_3
        try clear hfz14_0
        try clear hfz14_1
        try clear hfz14_2
        try clear hfz14_3
        try clear hfz16_0
        try clear hfz16_1
        try clear hfz16_2
        try clear hfz16_3
        try clear hfz18_0
        try clear hfz18_1
        try clear hfz18_2
        try clear hfz18_3
        try clear hfz7_0
        try clear hfz7_1
        try clear hfz7_2
        try clear hfz7_3
        obtain ⟨x8_1, x9_1, x10_1, rfl, rfl, rfl, HA, HK1, BK399, HB⟩ := hrel
        cases gk with
        | zero => exact absurd HA.out (by simp [symbolonlaw05_CheckWeights.l0])
        | succ k1 =>
          have H := HA.out
          clear HA
          simp only [symbolonlaw05_CheckWeights.l0] at H
          by_cases c20 : x10_1 < (l0_3.length : Int)
          · rw [if_pos c20] at H
            have c20b0 : decide (x10_1 < (l0_3.length : Int)) = true := decide_eq_true c20
            clear c20
            replace H := Option.bind_eq_some_iff.mp H
            obtain ⟨⟨t408, t409⟩, A210, H⟩ := H
            replace H : ((check_Products.f a0_0 a0_1 a0_2 l0_3 x10_1).bind fun t410 => (if t408 = x8_1 then (if t409 < 0 then (none) else (if t410 < t409 then (none) else (if 0 ≤ x10_1 then (if ((rd_T40 l0_3 x10_1).f0) = 2 then (if ((t409 == 0) != true) = true then (none) else (if ((t410 == 0) != (((rd_T40 l0_3 x10_1).f0) == 3)) = true then (none) else (symbolonlaw05_CheckWeights.l0 k1 t400 t402 t403 (wrap64 (x8_1 + t409)) (wrap64 (x9_1 + t410)) (wrap64 (x10_1 + 1)) a0_0 a0_1 a0_2 l0_3))) else (if ((t409 == 0) != (((rd_T40 l0_3 x10_1).f0) == 3)) = true then (none) else (if ((t410 == 0) != (((rd_T40 l0_3 x10_1).f0) == 3)) = true then (none) else (symbolonlaw05_CheckWeights.l0 k1 t400 t402 t403 (wrap64 (x8_1 + t409)) (wrap64 (x9_1 + t410)) (wrap64 (x10_1 + 1)) a0_0 a0_1 a0_2 l0_3)))) else (none)))) else (none))) = some r := H
            have A21 := Aside0.mk A210
            clear A210
            replace H := Option.bind_eq_some_iff.mp H
            obtain ⟨t410, A220, H⟩ := H
            replace H : (if t408 = x8_1 then (if t409 < 0 then (none) else (if t410 < t409 then (none) else (if 0 ≤ x10_1 then (if ((rd_T40 l0_3 x10_1).f0) = 2 then (if ((t409 == 0) != true) = true then (none) else (if ((t410 == 0) != (((rd_T40 l0_3 x10_1).f0) == 3)) = true then (none) else (symbolonlaw05_CheckWeights.l0 k1 t400 t402 t403 (wrap64 (x8_1 + t409)) (wrap64 (x9_1 + t410)) (wrap64 (x10_1 + 1)) a0_0 a0_1 a0_2 l0_3))) else (if ((t409 == 0) != (((rd_T40 l0_3 x10_1).f0) == 3)) = true then (none) else (if ((t410 == 0) != (((rd_T40 l0_3 x10_1).f0) == 3)) = true then (none) else (symbolonlaw05_CheckWeights.l0 k1 t400 t402 t403 (wrap64 (x8_1 + t409)) (wrap64 (x9_1 + t410)) (wrap64 (x10_1 + 1)) a0_0 a0_1 a0_2 l0_3)))) else (none)))) else (none)) = some r := H
            have A22 := Aside0.mk A220
            clear A220
            by_cases c23 : t408 = x8_1
            · rw [if_pos c23] at H
              have c23b0 : (t408 == x8_1) = true := beq_iff_eq.mpr c23
              have c23b1 : (t408 != x8_1) = false := bne_eq_false_iff_eq.mpr c23
              clear c23
              by_cases c24 : t409 < 0
              · rw [if_pos c24] at H
                exact absurd H (by simp)
              · rw [if_neg c24] at H
                have c24b0 : decide (t409 < 0) = false := decide_eq_false c24
                clear c24
                by_cases c25 : t410 < t409
                · rw [if_pos c25] at H
                  exact absurd H (by simp)
                · rw [if_neg c25] at H
                  have c25b0 : decide (t410 < t409) = false := decide_eq_false c25
                  clear c25
                  by_cases c26 : 0 ≤ x10_1
                  · rw [if_pos c26] at H
                    have c26b0 : decide (0 ≤ x10_1) = true := decide_eq_true c26
                    clear c26
                    by_cases c27 : ((rd_T40 l0_3 x10_1).f0) = 2
                    · rw [if_pos c27] at H
                      have c27b0 : (((rd_T40 l0_3 x10_1).f0) == 2) = true := beq_iff_eq.mpr c27
                      have c27b1 : (((rd_T40 l0_3 x10_1).f0) != 2) = false := bne_eq_false_iff_eq.mpr c27
                      clear c27
                      by_cases c28 : ((t409 == 0) != true) = true
                      · rw [if_pos c28] at H
                        exact absurd H (by simp)
                      · rw [if_neg c28] at H
                        have c28b0 : ((t409 == 0) != true) = false := by simpa using c28
                        (try (have c28b1 : decide ((t409 == 0) = true) = true := by simpa using c28))
                        (try (have c28b2 : ((t409 == 0) == true) = true := by simpa using c28))
                        clear c28
                        by_cases c29 : ((t410 == 0) != (((rd_T40 l0_3 x10_1).f0) == 3)) = true
                        · rw [if_pos c29] at H
                          exact absurd H (by simp)
                        · rw [if_neg c29] at H
                          have c29b0 : ((t410 == 0) != (((rd_T40 l0_3 x10_1).f0) == 3)) = false := by simpa using c29
                          (try (have c29b1 : decide ((t410 == 0) = (((rd_T40 l0_3 x10_1).f0) == 3)) = true := by simpa using c29))
                          (try (have c29b2 : ((t410 == 0) == (((rd_T40 l0_3 x10_1).f0) == 3)) = true := by simpa using c29))
                          clear c29
                          have H' := Aside0.mk H
                          clear H
                          have hcz30_0 : wr.cell? ⟨gb399, 0, none⟩ = some (.int .i64 a0_0) := (blk_cell BK399.out 0).trans rfl
                          have hcz30_1 : wr.cell? ⟨gb399, 1, none⟩ = some (.int .i64 a0_1) := (blk_cell BK399.out 1).trans rfl
                          have hcz30_2 : wr.cell? ⟨gb399, 2, none⟩ = some (.int .i64 a0_2) := (blk_cell BK399.out 2).trans rfl
                          have hcz30_3 : wr.cell? ⟨gb399, 3, none⟩ = some (.slice A0_3 l0_3.length c0_3) := (blk_cell BK399.out 3).trans rfl
                          have hfz30_0 := blk_frozen BK399.out 0
                          have hfz30_1 := blk_frozen BK399.out 1
                          have hfz30_2 := blk_frozen BK399.out 2
                          have hfz30_3 := blk_frozen BK399.out 3
                          go_wp2_with (first | ((with_reducible refine gate_callee (f := 29) rfl ?_); refine goesL_ (some 63) rfl rfl Try.func29 (by kernel_rfl) rfl #[.agg #[.int .i64 a0_0, .int .i64 a0_1, .int .i64 a0_2, .slice A0_3 l0_3.length c0_3], .int .i64 x10_1] rfl (by (try simp only [List.map_toArray, List.map_cons, List.map_nil]); first | done | rfl | (simp only [List.length_drop, List.length_take]; rfl)) ?_; (with_reducible refine (check_Weights.calls k1 a0_0 a0_1 a0_2 _ _ l0_3 x10_1 t408 t409 _ ?side1 ?side2 A21.out).mono ?_); (case side1 => repeat (first | exact (Kd.C_below HR0_3.out HB.out) | (with_reducible refine Kd.C_alloc ?_ _) | (with_reducible refine Kd.C_drewN ?_ _) | (with_reducible refine Kd.C_drew ?_))); (case side2 => exact HC0_3.out); rintro e w31 ⟨rfl, hb⟩; refine ⟨_, rfl, ?_⟩; have n0_ := Aside0.mk (blk_below (g := gb399) (o := .cells #[.int .i64 a0_0, .int .i64 a0_1, .int .i64 a0_2, .slice A0_3 l0_3.length c0_3] 26 (0, 0)) (by (with_reducible repeat (first | refine blk_drewN ?_ _ | refine blk_drew ?_ | refine blk_alloc ?_ _)); exact BK399.out) hb); have n1_ := Aside0.mk (below_step (by repeat (first | (with_reducible first | exact HB.out | apply below_alloc | apply pw_below_drewN | apply below_drew1 | refine below_set ?_ GE399.out) | exact HB.out)) hb); clear BK399; clear HB; have BK399 := n0_; have HB := n1_; clear n0_ n1_; (try clear hb); (try clear hb2); (try clear hk); (try clear hi); have hcz32_0 : w31.cell? ⟨gb399, 0, none⟩ = some (.int .i64 a0_0) := (blk_cell BK399.out 0).trans rfl; have hcz32_1 : w31.cell? ⟨gb399, 1, none⟩ = some (.int .i64 a0_1) := (blk_cell BK399.out 1).trans rfl; have hcz32_2 : w31.cell? ⟨gb399, 2, none⟩ = some (.int .i64 a0_2) := (blk_cell BK399.out 2).trans rfl; have hcz32_3 : w31.cell? ⟨gb399, 3, none⟩ = some (.slice A0_3 l0_3.length c0_3) := (blk_cell BK399.out 3).trans rfl; have hfz32_0 := blk_frozen BK399.out 0; have hfz32_1 := blk_frozen BK399.out 1; have hfz32_2 := blk_frozen BK399.out 2; have hfz32_3 := blk_frozen BK399.out 3) | ((with_reducible refine gate_callee (f := 36) rfl ?_); refine goesL_ (some 68) rfl rfl Try.func36 (by kernel_rfl) rfl #[.agg #[.int .i64 a0_0, .int .i64 a0_1, .int .i64 a0_2, .slice A0_3 l0_3.length c0_3], .int .i64 x10_1] rfl (by (try simp only [List.map_toArray, List.map_cons, List.map_nil]); first | done | rfl | (simp only [List.length_drop, List.length_take]; rfl)) ?_; (with_reducible refine (check_Products.calls a0_0 a0_1 a0_2 _ _ l0_3 x10_1 t410 _ ?side1 ?side2 A22.out).mono ?_); (case side1 => repeat (first | exact (Kd.C_below HR0_3.out HB.out) | (with_reducible refine Kd.C_alloc ?_ _) | (with_reducible refine Kd.C_drewN ?_ _) | (with_reducible refine Kd.C_drew ?_))); (case side2 => exact HC0_3.out); rintro e w33 ⟨rfl, hb⟩; refine ⟨_, rfl, ?_⟩; have n0_ := Aside0.mk (blk_below (g := gb399) (o := .cells #[.int .i64 a0_0, .int .i64 a0_1, .int .i64 a0_2, .slice A0_3 l0_3.length c0_3] 26 (0, 0)) (by (with_reducible repeat (first | refine blk_drewN ?_ _ | refine blk_drew ?_ | refine blk_alloc ?_ _)); exact BK399.out) hb); have n1_ := Aside0.mk (below_step (by repeat (first | (with_reducible first | exact HB.out | apply below_alloc | apply pw_below_drewN | apply below_drew1 | refine below_set ?_ GE399.out) | exact HB.out)) hb); clear BK399; clear HB; have BK399 := n0_; have HB := n1_; clear n0_ n1_; (try clear hb); (try clear hb2); (try clear hk); (try clear hi); have hcz34_0 : w33.cell? ⟨gb399, 0, none⟩ = some (.int .i64 a0_0) := (blk_cell BK399.out 0).trans rfl; have hcz34_1 : w33.cell? ⟨gb399, 1, none⟩ = some (.int .i64 a0_1) := (blk_cell BK399.out 1).trans rfl; have hcz34_2 : w33.cell? ⟨gb399, 2, none⟩ = some (.int .i64 a0_2) := (blk_cell BK399.out 2).trans rfl; have hcz34_3 : w33.cell? ⟨gb399, 3, none⟩ = some (.slice A0_3 l0_3.length c0_3) := (blk_cell BK399.out 3).trans rfl; have hfz34_0 := blk_frozen BK399.out 0; have hfz34_1 := blk_frozen BK399.out 1; have hfz34_2 := blk_frozen BK399.out 2; have hfz34_3 := blk_frozen BK399.out 3; have p411 : 0 ≤ (x10_1 : Int) := of_decide_eq_true (by first | (with_reducible assumption) | assumption); have q411 : x10_1 < (l0_3.length : Int) := of_decide_eq_true (by first | (with_reducible assumption) | assumption); obtain ⟨ad411, e411, hx411_0, hx411_1, hx411_2, hx411_3⟩ := at_T40 HR0_3.out x10_1 p411 q411; cases e411; replace hx411_0 := (HB.out.cell (World.block_lt_of_cell? w _ hx411_0)).trans hx411_0; replace hx411_1 := (HB.out.cell (World.block_lt_of_cell? w _ hx411_1)).trans hx411_1; replace hx411_2 := (HB.out.cell (World.block_lt_of_cell? w _ hx411_2)).trans hx411_2; replace hx411_3 := (HB.out.cell (World.block_lt_of_cell? w _ hx411_3)).trans hx411_3; replace p411 := eq_true p411; replace q411 := eq_true q411; have p412 : 0 ≤ (x10_1 : Int) := of_decide_eq_true (by first | (with_reducible assumption) | assumption); have q412 : x10_1 < (l0_3.length : Int) := of_decide_eq_true (by first | (with_reducible assumption) | assumption); obtain ⟨ad412, e412, hx412_0, hx412_1, hx412_2, hx412_3⟩ := at_T40 HR0_3.out x10_1 p412 q412; obtain rfl : ad411 = ad412 := (by injection e412); replace hx412_0 := (HB.out.cell (World.block_lt_of_cell? w _ hx412_0)).trans hx412_0; replace hx412_1 := (HB.out.cell (World.block_lt_of_cell? w _ hx412_1)).trans hx412_1; replace hx412_2 := (HB.out.cell (World.block_lt_of_cell? w _ hx412_2)).trans hx412_2; replace hx412_3 := (HB.out.cell (World.block_lt_of_cell? w _ hx412_3)).trans hx412_3; replace p412 := eq_true p412; replace q412 := eq_true q412))
                          go_roundg k1
                          case measure => have := HK1.out; omega
                          case rel => exact ⟨(wrap64 (x8_1 + t409)), (wrap64 (x9_1 + t410)), (wrap64 (x10_1 + 1)), (by first | rfl | (simp; done) | (simp [*]; done)), (by first | rfl | (simp; done) | (simp [*]; done)), (by first | rfl | (simp; done) | (simp [*]; done)), H', ⟨by have := HK1.out; omega⟩, ⟨by (with_reducible repeat (first | refine blk_drewN ?_ _ | refine blk_drew ?_ | refine blk_alloc ?_ _)); exact BK399.out⟩, ⟨by repeat (first | (with_reducible first | exact HB.out | apply below_alloc | apply pw_below_drewN | apply below_drew1 | refine below_set ?_ GE399.out) | exact HB.out)⟩⟩
                    · rw [if_neg c27] at H
                      have c27b0 : (((rd_T40 l0_3 x10_1).f0) == 2) = false := beq_eq_false_iff_ne.mpr c27
                      have c27b1 : (((rd_T40 l0_3 x10_1).f0) != 2) = true := bne_iff_ne.mpr c27
                      by_cases c35 : ((t409 == 0) != (((rd_T40 l0_3 x10_1).f0) == 3)) = true
                      · rw [if_pos c35] at H
                        exact absurd H (by simp)
                      · rw [if_neg c35] at H
                        have c35b0 : ((t409 == 0) != (((rd_T40 l0_3 x10_1).f0) == 3)) = false := by simpa using c35
                        (try (have c35b1 : decide ((t409 == 0) = (((rd_T40 l0_3 x10_1).f0) == 3)) = true := by simpa using c35))
                        (try (have c35b2 : ((t409 == 0) == (((rd_T40 l0_3 x10_1).f0) == 3)) = true := by simpa using c35))
                        clear c35
                        by_cases c36 : ((t410 == 0) != (((rd_T40 l0_3 x10_1).f0) == 3)) = true
                        · rw [if_pos c36] at H
                          exact absurd H (by simp)
                        · rw [if_neg c36] at H
                          have c36b0 : ((t410 == 0) != (((rd_T40 l0_3 x10_1).f0) == 3)) = false := by simpa using c36
                          (try (have c36b1 : decide ((t410 == 0) = (((rd_T40 l0_3 x10_1).f0) == 3)) = true := by simpa using c36))
                          (try (have c36b2 : ((t410 == 0) == (((rd_T40 l0_3 x10_1).f0) == 3)) = true := by simpa using c36))
                          clear c36
                          have H' := Aside0.mk H
                          clear H
                          have hcz37_0 : wr.cell? ⟨gb399, 0, none⟩ = some (.int .i64 a0_0) := (blk_cell BK399.out 0).trans rfl
                          have hcz37_1 : wr.cell? ⟨gb399, 1, none⟩ = some (.int .i64 a0_1) := (blk_cell BK399.out 1).trans rfl
                          have hcz37_2 : wr.cell? ⟨gb399, 2, none⟩ = some (.int .i64 a0_2) := (blk_cell BK399.out 2).trans rfl
                          have hcz37_3 : wr.cell? ⟨gb399, 3, none⟩ = some (.slice A0_3 l0_3.length c0_3) := (blk_cell BK399.out 3).trans rfl
                          have hfz37_0 := blk_frozen BK399.out 0
                          have hfz37_1 := blk_frozen BK399.out 1
                          have hfz37_2 := blk_frozen BK399.out 2
                          have hfz37_3 := blk_frozen BK399.out 3
                          go_wp2_with (first | ((with_reducible refine gate_callee (f := 29) rfl ?_); refine goesL_ (some 63) rfl rfl Try.func29 (by kernel_rfl) rfl #[.agg #[.int .i64 a0_0, .int .i64 a0_1, .int .i64 a0_2, .slice A0_3 l0_3.length c0_3], .int .i64 x10_1] rfl (by (try simp only [List.map_toArray, List.map_cons, List.map_nil]); first | done | rfl | (simp only [List.length_drop, List.length_take]; rfl)) ?_; (with_reducible refine (check_Weights.calls k1 a0_0 a0_1 a0_2 _ _ l0_3 x10_1 t408 t409 _ ?side1 ?side2 A21.out).mono ?_); (case side1 => repeat (first | exact (Kd.C_below HR0_3.out HB.out) | (with_reducible refine Kd.C_alloc ?_ _) | (with_reducible refine Kd.C_drewN ?_ _) | (with_reducible refine Kd.C_drew ?_))); (case side2 => exact HC0_3.out); rintro e w38 ⟨rfl, hb⟩; refine ⟨_, rfl, ?_⟩; have n0_ := Aside0.mk (blk_below (g := gb399) (o := .cells #[.int .i64 a0_0, .int .i64 a0_1, .int .i64 a0_2, .slice A0_3 l0_3.length c0_3] 26 (0, 0)) (by (with_reducible repeat (first | refine blk_drewN ?_ _ | refine blk_drew ?_ | refine blk_alloc ?_ _)); exact BK399.out) hb); have n1_ := Aside0.mk (below_step (by repeat (first | (with_reducible first | exact HB.out | apply below_alloc | apply pw_below_drewN | apply below_drew1 | refine below_set ?_ GE399.out) | exact HB.out)) hb); clear BK399; clear HB; have BK399 := n0_; have HB := n1_; clear n0_ n1_; (try clear hb); (try clear hb2); (try clear hk); (try clear hi); have hcz39_0 : w38.cell? ⟨gb399, 0, none⟩ = some (.int .i64 a0_0) := (blk_cell BK399.out 0).trans rfl; have hcz39_1 : w38.cell? ⟨gb399, 1, none⟩ = some (.int .i64 a0_1) := (blk_cell BK399.out 1).trans rfl; have hcz39_2 : w38.cell? ⟨gb399, 2, none⟩ = some (.int .i64 a0_2) := (blk_cell BK399.out 2).trans rfl; have hcz39_3 : w38.cell? ⟨gb399, 3, none⟩ = some (.slice A0_3 l0_3.length c0_3) := (blk_cell BK399.out 3).trans rfl; have hfz39_0 := blk_frozen BK399.out 0; have hfz39_1 := blk_frozen BK399.out 1; have hfz39_2 := blk_frozen BK399.out 2; have hfz39_3 := blk_frozen BK399.out 3) | ((with_reducible refine gate_callee (f := 36) rfl ?_); refine goesL_ (some 68) rfl rfl Try.func36 (by kernel_rfl) rfl #[.agg #[.int .i64 a0_0, .int .i64 a0_1, .int .i64 a0_2, .slice A0_3 l0_3.length c0_3], .int .i64 x10_1] rfl (by (try simp only [List.map_toArray, List.map_cons, List.map_nil]); first | done | rfl | (simp only [List.length_drop, List.length_take]; rfl)) ?_; (with_reducible refine (check_Products.calls a0_0 a0_1 a0_2 _ _ l0_3 x10_1 t410 _ ?side1 ?side2 A22.out).mono ?_); (case side1 => repeat (first | exact (Kd.C_below HR0_3.out HB.out) | (with_reducible refine Kd.C_alloc ?_ _) | (with_reducible refine Kd.C_drewN ?_ _) | (with_reducible refine Kd.C_drew ?_))); (case side2 => exact HC0_3.out); rintro e w40 ⟨rfl, hb⟩; refine ⟨_, rfl, ?_⟩; have n0_ := Aside0.mk (blk_below (g := gb399) (o := .cells #[.int .i64 a0_0, .int .i64 a0_1, .int .i64 a0_2, .slice A0_3 l0_3.length c0_3] 26 (0, 0)) (by (with_reducible repeat (first | refine blk_drewN ?_ _ | refine blk_drew ?_ | refine blk_alloc ?_ _)); exact BK399.out) hb); have n1_ := Aside0.mk (below_step (by repeat (first | (with_reducible first | exact HB.out | apply below_alloc | apply pw_below_drewN | apply below_drew1 | refine below_set ?_ GE399.out) | exact HB.out)) hb); clear BK399; clear HB; have BK399 := n0_; have HB := n1_; clear n0_ n1_; (try clear hb); (try clear hb2); (try clear hk); (try clear hi); have hcz41_0 : w40.cell? ⟨gb399, 0, none⟩ = some (.int .i64 a0_0) := (blk_cell BK399.out 0).trans rfl; have hcz41_1 : w40.cell? ⟨gb399, 1, none⟩ = some (.int .i64 a0_1) := (blk_cell BK399.out 1).trans rfl; have hcz41_2 : w40.cell? ⟨gb399, 2, none⟩ = some (.int .i64 a0_2) := (blk_cell BK399.out 2).trans rfl; have hcz41_3 : w40.cell? ⟨gb399, 3, none⟩ = some (.slice A0_3 l0_3.length c0_3) := (blk_cell BK399.out 3).trans rfl; have hfz41_0 := blk_frozen BK399.out 0; have hfz41_1 := blk_frozen BK399.out 1; have hfz41_2 := blk_frozen BK399.out 2; have hfz41_3 := blk_frozen BK399.out 3; have p411 : 0 ≤ (x10_1 : Int) := of_decide_eq_true (by first | (with_reducible assumption) | assumption); have q411 : x10_1 < (l0_3.length : Int) := of_decide_eq_true (by first | (with_reducible assumption) | assumption); obtain ⟨ad411, e411, hx411_0, hx411_1, hx411_2, hx411_3⟩ := at_T40 HR0_3.out x10_1 p411 q411; cases e411; replace hx411_0 := (HB.out.cell (World.block_lt_of_cell? w _ hx411_0)).trans hx411_0; replace hx411_1 := (HB.out.cell (World.block_lt_of_cell? w _ hx411_1)).trans hx411_1; replace hx411_2 := (HB.out.cell (World.block_lt_of_cell? w _ hx411_2)).trans hx411_2; replace hx411_3 := (HB.out.cell (World.block_lt_of_cell? w _ hx411_3)).trans hx411_3; replace p411 := eq_true p411; replace q411 := eq_true q411; have p413 : 0 ≤ (x10_1 : Int) := of_decide_eq_true (by first | (with_reducible assumption) | assumption); have q413 : x10_1 < (l0_3.length : Int) := of_decide_eq_true (by first | (with_reducible assumption) | assumption); obtain ⟨ad413, e413, hx413_0, hx413_1, hx413_2, hx413_3⟩ := at_T40 HR0_3.out x10_1 p413 q413; obtain rfl : ad411 = ad413 := (by injection e413); replace hx413_0 := (HB.out.cell (World.block_lt_of_cell? w _ hx413_0)).trans hx413_0; replace hx413_1 := (HB.out.cell (World.block_lt_of_cell? w _ hx413_1)).trans hx413_1; replace hx413_2 := (HB.out.cell (World.block_lt_of_cell? w _ hx413_2)).trans hx413_2; replace hx413_3 := (HB.out.cell (World.block_lt_of_cell? w _ hx413_3)).trans hx413_3; replace p413 := eq_true p413; replace q413 := eq_true q413; have p414 : 0 ≤ (x10_1 : Int) := of_decide_eq_true (by first | (with_reducible assumption) | assumption); have q414 : x10_1 < (l0_3.length : Int) := of_decide_eq_true (by first | (with_reducible assumption) | assumption); obtain ⟨ad414, e414, hx414_0, hx414_1, hx414_2, hx414_3⟩ := at_T40 HR0_3.out x10_1 p414 q414; obtain rfl : ad411 = ad414 := (by injection e414); replace hx414_0 := (HB.out.cell (World.block_lt_of_cell? w _ hx414_0)).trans hx414_0; replace hx414_1 := (HB.out.cell (World.block_lt_of_cell? w _ hx414_1)).trans hx414_1; replace hx414_2 := (HB.out.cell (World.block_lt_of_cell? w _ hx414_2)).trans hx414_2; replace hx414_3 := (HB.out.cell (World.block_lt_of_cell? w _ hx414_3)).trans hx414_3; replace p414 := eq_true p414; replace q414 := eq_true q414))
                          go_roundg k1
                          case measure => have := HK1.out; omega
                          case rel => exact ⟨(wrap64 (x8_1 + t409)), (wrap64 (x9_1 + t410)), (wrap64 (x10_1 + 1)), (by first | rfl | (simp; done) | (simp [*]; done)), (by first | rfl | (simp; done) | (simp [*]; done)), (by first | rfl | (simp; done) | (simp [*]; done)), H', ⟨by have := HK1.out; omega⟩, ⟨by (with_reducible repeat (first | refine blk_drewN ?_ _ | refine blk_drew ?_ | refine blk_alloc ?_ _)); exact BK399.out⟩, ⟨by repeat (first | (with_reducible first | exact HB.out | apply below_alloc | apply pw_below_drewN | apply below_drew1 | refine below_set ?_ GE399.out) | exact HB.out)⟩⟩
                  · rw [if_neg c26] at H
                    exact absurd H (by simp)
            · rw [if_neg c23] at H
              exact absurd H (by simp)
          · rw [if_neg c20] at H
            have c20b0 : decide (x10_1 < (l0_3.length : Int)) = false := decide_eq_false c20
            clear c20
            by_cases c42 : t400 = true
            · subst c42
              have H1 : (if x8_1 = t402 then (if x9_1 = t403 then (if t402 ≤ 512 then (some (decide (t403 ≤ 512))) else (none)) else (none)) else (none)) = some r := by rw [if_pos rfl] at H; exact H
              clear H
              have H := H1
              clear H1
              by_cases c43 : x8_1 = t402
              · rw [if_pos c43] at H
                have c43b0 : (x8_1 == t402) = true := beq_iff_eq.mpr c43
                have c43b1 : (x8_1 != t402) = false := bne_eq_false_iff_eq.mpr c43
                clear c43
                by_cases c44 : x9_1 = t403
                · rw [if_pos c44] at H
                  have c44b0 : (x9_1 == t403) = true := beq_iff_eq.mpr c44
                  have c44b1 : (x9_1 != t403) = false := bne_eq_false_iff_eq.mpr c44
                  clear c44
                  by_cases c45 : t402 ≤ 512
                  · rw [if_pos c45] at H
                    have c45b0 : decide (t402 ≤ 512) = true := decide_eq_true c45
                    clear c45
                    obtain rfl := Option.some.inj H
                    have hcz46_0 : wr.cell? ⟨gb399, 0, none⟩ = some (.int .i64 a0_0) := (blk_cell BK399.out 0).trans rfl
                    have hcz46_1 : wr.cell? ⟨gb399, 1, none⟩ = some (.int .i64 a0_1) := (blk_cell BK399.out 1).trans rfl
                    have hcz46_2 : wr.cell? ⟨gb399, 2, none⟩ = some (.int .i64 a0_2) := (blk_cell BK399.out 2).trans rfl
                    have hcz46_3 : wr.cell? ⟨gb399, 3, none⟩ = some (.slice A0_3 l0_3.length c0_3) := (blk_cell BK399.out 3).trans rfl
                    have hfz46_0 := blk_frozen BK399.out 0
                    have hfz46_1 := blk_frozen BK399.out 1
                    have hfz46_2 := blk_frozen BK399.out 2
                    have hfz46_3 := blk_frozen BK399.out 3
                    go_wp2
                    go_ret
                    exact ⟨by first | rfl | (simp [errW_none, errW_some] <;> rfl) | (simp [*, errW_none, errW_some] <;> rfl), by repeat (first | (with_reducible first | exact HB.out | apply below_alloc | apply pw_below_drewN | apply below_drew1 | refine below_set ?_ GE399.out) | exact HB.out)⟩
                  · rw [if_neg c45] at H
                    exact absurd H (by simp)
                · rw [if_neg c44] at H
                  exact absurd H (by simp)
              · rw [if_neg c43] at H
                exact absurd H (by simp)
            · replace c42 := Bool.eq_false_iff.mpr c42
              subst c42
              have H1 : (none) = some r := by rw [if_neg (show ¬ (false = true) by decide)] at H; exact H
              clear H
              have H := H1
              clear H1
              exact absurd H (by simp)
    · replace c11 := Bool.eq_false_iff.mpr c11
      subst c11
      have H1 : ((check_Weights.f k a0_0 a0_1 a0_2 l0_3 0).bind fun bt405 => (if t400 = true then (if t402 = 0 then (if t403 = 0 then (if bt405.1 = 0 then (if bt405.2 = 0 then ((check_Products.f a0_0 a0_1 a0_2 l0_3 0).bind fun t407 => (some (t407 == 0))) else (none)) else (none)) else (none)) else (none)) else (none))) = some r := by rw [if_neg (show ¬ (false = true) by decide)] at H; exact H
      clear H
      have H := H1
      clear H1
      replace H := Option.bind_eq_some_iff.mp H
      obtain ⟨⟨t405, t406⟩, A470, H⟩ := H
      replace H : (if t400 = true then (if t402 = 0 then (if t403 = 0 then (if t405 = 0 then (if t406 = 0 then ((check_Products.f a0_0 a0_1 a0_2 l0_3 0).bind fun t407 => (some (t407 == 0))) else (none)) else (none)) else (none)) else (none)) else (none)) = some r := H
      have A47 := Aside0.mk A470
      clear A470
      by_cases c48 : t400 = true
      · subst c48
        have H1 : (if t402 = 0 then (if t403 = 0 then (if t405 = 0 then (if t406 = 0 then ((check_Products.f a0_0 a0_1 a0_2 l0_3 0).bind fun t407 => (some (t407 == 0))) else (none)) else (none)) else (none)) else (none)) = some r := by rw [if_pos rfl] at H; exact H
        clear H
        have H := H1
        clear H1
        by_cases c49 : t402 = 0
        · rw [if_pos c49] at H
          have c49b0 : (t402 == 0) = true := beq_iff_eq.mpr c49
          have c49b1 : (t402 != 0) = false := bne_eq_false_iff_eq.mpr c49
          clear c49
          by_cases c50 : t403 = 0
          · rw [if_pos c50] at H
            have c50b0 : (t403 == 0) = true := beq_iff_eq.mpr c50
            have c50b1 : (t403 != 0) = false := bne_eq_false_iff_eq.mpr c50
            clear c50
            by_cases c51 : t405 = 0
            · rw [if_pos c51] at H
              have c51b0 : (t405 == 0) = true := beq_iff_eq.mpr c51
              have c51b1 : (t405 != 0) = false := bne_eq_false_iff_eq.mpr c51
              clear c51
              by_cases c52 : t406 = 0
              · rw [if_pos c52] at H
                have c52b0 : (t406 == 0) = true := beq_iff_eq.mpr c52
                have c52b1 : (t406 != 0) = false := bne_eq_false_iff_eq.mpr c52
                clear c52
                replace H := Option.bind_eq_some_iff.mp H
                obtain ⟨t407, A530, H⟩ := H
                replace H : (some (t407 == 0)) = some r := H
                have A53 := Aside0.mk A530
                clear A530
                obtain rfl := Option.some.inj H
                go_enter Try.func6, Try.ntmps6
                go_wp2_with (first | ((with_reducible refine gate_dst (N := 1) rfl ?_); refine box_event ?hg (N := 1) ?hd (cs := #[.int .i64 a0_0, .int .i64 a0_1, .int .i64 a0_2, .slice A0_3 l0_3.length c0_3]) (t := 26) ?hr ?_; (case hd => rfl); (case hg => rfl); (case hr => first | (go_simp; done) | (go_simp; rfl)); intro gb399 hg w54 hbox hb; have n0_ := Aside0.mk (below_step (by repeat (first | (with_reducible first | exact HB.out | apply below_alloc | apply pw_below_drewN | apply below_drew1) | exact HB.out)) hb); have n1_ := Aside0.mk (hbox); have n2_ := Aside0.mk ((by rw [hg]; exact (below_size (by repeat (first | (with_reducible first | exact HB.out | apply below_alloc | apply pw_below_drewN | apply below_drew1) | exact HB.out))) : w.heap.size ≤ gb399)); have n3_ := Aside0.mk ((by rw [hg]; exact (below_size (by repeat (first | (with_reducible first | exact HB.out | apply below_alloc | apply pw_below_drewN | apply below_drew1) | exact HB.out))) : w.heap.size ≤ gb399)); clear HB; have HB := n0_; have BK399 := n1_; have GW399 := n2_; have GE399 := n3_; clear n0_ n1_ n2_ n3_; clear hb hbox hg) | ((with_reducible refine gate_callee (f := 25) rfl ?_); refine goesL_ (some 14) rfl rfl Try.func25 (by kernel_rfl) rfl #[] rfl (by (try simp only [List.map_toArray, List.map_cons, List.map_nil]); first | done | rfl | (simp only [List.length_drop, List.length_take]; rfl)) ?_; (with_reducible refine (symbolonlaw05_head.calls k  true _ A2.out).mono ?_); rintro e w55 ⟨rfl, hb⟩; refine ⟨_, rfl, ?_⟩; have n0_ := Aside0.mk (blk_below (g := gb399) (o := .cells #[.int .i64 a0_0, .int .i64 a0_1, .int .i64 a0_2, .slice A0_3 l0_3.length c0_3] 26 (0, 0)) (by (with_reducible repeat (first | refine blk_drewN ?_ _ | refine blk_drew ?_ | refine blk_alloc ?_ _)); exact BK399.out) hb); have n1_ := Aside0.mk (below_step (by repeat (first | (with_reducible first | exact HB.out | apply below_alloc | apply pw_below_drewN | apply below_drew1 | refine below_set ?_ GE399.out) | exact HB.out)) hb); clear BK399; clear HB; have BK399 := n0_; have HB := n1_; clear n0_ n1_; (try clear hb); (try clear hb2); (try clear hk); (try clear hi); have hcz56_0 : w55.cell? ⟨gb399, 0, none⟩ = some (.int .i64 a0_0) := (blk_cell BK399.out 0).trans rfl; have hcz56_1 : w55.cell? ⟨gb399, 1, none⟩ = some (.int .i64 a0_1) := (blk_cell BK399.out 1).trans rfl; have hcz56_2 : w55.cell? ⟨gb399, 2, none⟩ = some (.int .i64 a0_2) := (blk_cell BK399.out 2).trans rfl; have hcz56_3 : w55.cell? ⟨gb399, 3, none⟩ = some (.slice A0_3 l0_3.length c0_3) := (blk_cell BK399.out 3).trans rfl; have hfz56_0 := blk_frozen BK399.out 0; have hfz56_1 := blk_frozen BK399.out 1; have hfz56_2 := blk_frozen BK399.out 2; have hfz56_3 := blk_frozen BK399.out 3) | ((with_reducible refine gate_callee (f := 26) rfl ?_); refine goesL_ (some 16) rfl rfl Try.func26 (by kernel_rfl) rfl #[.agg #[.int .i64 a0_0, .int .i64 a0_1, .int .i64 a0_2, .slice A0_3 l0_3.length c0_3]] rfl (by (try simp only [List.map_toArray, List.map_cons, List.map_nil]); first | done | rfl | (simp only [List.length_drop, List.length_take]; rfl)) ?_; (with_reducible refine (symbolonlaw04_Great.calls a0_0 a0_1 a0_2 _ _ l0_3 false _ ?side1 ?side2 A3.out).mono ?_); (case side1 => repeat (first | exact (Kd.C_below HR0_3.out HB.out) | (with_reducible refine Kd.C_alloc ?_ _) | (with_reducible refine Kd.C_drewN ?_ _) | (with_reducible refine Kd.C_drew ?_))); (case side2 => exact HC0_3.out); rintro e w57 ⟨rfl, hb⟩; refine ⟨_, rfl, ?_⟩; have n0_ := Aside0.mk (blk_below (g := gb399) (o := .cells #[.int .i64 a0_0, .int .i64 a0_1, .int .i64 a0_2, .slice A0_3 l0_3.length c0_3] 26 (0, 0)) (by (with_reducible repeat (first | refine blk_drewN ?_ _ | refine blk_drew ?_ | refine blk_alloc ?_ _)); exact BK399.out) hb); have n1_ := Aside0.mk (below_step (by repeat (first | (with_reducible first | exact HB.out | apply below_alloc | apply pw_below_drewN | apply below_drew1 | refine below_set ?_ GE399.out) | exact HB.out)) hb); clear BK399; clear HB; have BK399 := n0_; have HB := n1_; clear n0_ n1_; (try clear hb); (try clear hb2); (try clear hk); (try clear hi); have hcz58_0 : w57.cell? ⟨gb399, 0, none⟩ = some (.int .i64 a0_0) := (blk_cell BK399.out 0).trans rfl; have hcz58_1 : w57.cell? ⟨gb399, 1, none⟩ = some (.int .i64 a0_1) := (blk_cell BK399.out 1).trans rfl; have hcz58_2 : w57.cell? ⟨gb399, 2, none⟩ = some (.int .i64 a0_2) := (blk_cell BK399.out 2).trans rfl; have hcz58_3 : w57.cell? ⟨gb399, 3, none⟩ = some (.slice A0_3 l0_3.length c0_3) := (blk_cell BK399.out 3).trans rfl; have hfz58_0 := blk_frozen BK399.out 0; have hfz58_1 := blk_frozen BK399.out 1; have hfz58_2 := blk_frozen BK399.out 2; have hfz58_3 := blk_frozen BK399.out 3) | ((with_reducible refine gate_callee (f := 31) rfl ?_); refine goesL_ (some 20) rfl rfl Try.func31 (by kernel_rfl) rfl #[.agg #[.int .i64 a0_0, .int .i64 a0_1, .int .i64 a0_2, .slice A0_3 l0_3.length c0_3]] rfl (by (try simp only [List.map_toArray, List.map_cons, List.map_nil]); first | done | rfl | (simp only [List.length_drop, List.length_take]; rfl)) ?_; (with_reducible refine (check_All.calls k a0_0 a0_1 a0_2 _ _ l0_3 t402 t403 _ ?side1 ?side2 A9.out).mono ?_); (case side1 => repeat (first | exact (Kd.C_below HR0_3.out HB.out) | (with_reducible refine Kd.C_alloc ?_ _) | (with_reducible refine Kd.C_drewN ?_ _) | (with_reducible refine Kd.C_drew ?_))); (case side2 => exact HC0_3.out); rintro e w59 ⟨rfl, hb⟩; refine ⟨_, rfl, ?_⟩; have n0_ := Aside0.mk (blk_below (g := gb399) (o := .cells #[.int .i64 a0_0, .int .i64 a0_1, .int .i64 a0_2, .slice A0_3 l0_3.length c0_3] 26 (0, 0)) (by (with_reducible repeat (first | refine blk_drewN ?_ _ | refine blk_drew ?_ | refine blk_alloc ?_ _)); exact BK399.out) hb); have n1_ := Aside0.mk (below_step (by repeat (first | (with_reducible first | exact HB.out | apply below_alloc | apply pw_below_drewN | apply below_drew1 | refine below_set ?_ GE399.out) | exact HB.out)) hb); clear BK399; clear HB; have BK399 := n0_; have HB := n1_; clear n0_ n1_; (try clear hb); (try clear hb2); (try clear hk); (try clear hi); have hcz60_0 : w59.cell? ⟨gb399, 0, none⟩ = some (.int .i64 a0_0) := (blk_cell BK399.out 0).trans rfl; have hcz60_1 : w59.cell? ⟨gb399, 1, none⟩ = some (.int .i64 a0_1) := (blk_cell BK399.out 1).trans rfl; have hcz60_2 : w59.cell? ⟨gb399, 2, none⟩ = some (.int .i64 a0_2) := (blk_cell BK399.out 2).trans rfl; have hcz60_3 : w59.cell? ⟨gb399, 3, none⟩ = some (.slice A0_3 l0_3.length c0_3) := (blk_cell BK399.out 3).trans rfl; have hfz60_0 := blk_frozen BK399.out 0; have hfz60_1 := blk_frozen BK399.out 1; have hfz60_2 := blk_frozen BK399.out 2; have hfz60_3 := blk_frozen BK399.out 3) | ((with_reducible refine gate_callee (f := 34) rfl ?_); refine goesL_ (some 24) rfl rfl Try.func34 (by kernel_rfl) rfl #[.agg #[.int .i64 a0_0, .int .i64 a0_1, .int .i64 a0_2, .slice A0_3 l0_3.length c0_3]] rfl (by (try simp only [List.map_toArray, List.map_cons, List.map_nil]); first | done | rfl | (simp only [List.length_drop, List.length_take]; rfl)) ?_; (with_reducible refine (check_Right.calls a0_0 a0_1 a0_2 _ _ l0_3 false _ ?side1 ?side2 A10.out).mono ?_); (case side1 => repeat (first | exact (Kd.C_below HR0_3.out HB.out) | (with_reducible refine Kd.C_alloc ?_ _) | (with_reducible refine Kd.C_drewN ?_ _) | (with_reducible refine Kd.C_drew ?_))); (case side2 => exact HC0_3.out); rintro e w61 ⟨rfl, hb⟩; refine ⟨_, rfl, ?_⟩; have n0_ := Aside0.mk (blk_below (g := gb399) (o := .cells #[.int .i64 a0_0, .int .i64 a0_1, .int .i64 a0_2, .slice A0_3 l0_3.length c0_3] 26 (0, 0)) (by (with_reducible repeat (first | refine blk_drewN ?_ _ | refine blk_drew ?_ | refine blk_alloc ?_ _)); exact BK399.out) hb); have n1_ := Aside0.mk (below_step (by repeat (first | (with_reducible first | exact HB.out | apply below_alloc | apply pw_below_drewN | apply below_drew1 | refine below_set ?_ GE399.out) | exact HB.out)) hb); clear BK399; clear HB; have BK399 := n0_; have HB := n1_; clear n0_ n1_; (try clear hb); (try clear hb2); (try clear hk); (try clear hi); have hcz62_0 : w61.cell? ⟨gb399, 0, none⟩ = some (.int .i64 a0_0) := (blk_cell BK399.out 0).trans rfl; have hcz62_1 : w61.cell? ⟨gb399, 1, none⟩ = some (.int .i64 a0_1) := (blk_cell BK399.out 1).trans rfl; have hcz62_2 : w61.cell? ⟨gb399, 2, none⟩ = some (.int .i64 a0_2) := (blk_cell BK399.out 2).trans rfl; have hcz62_3 : w61.cell? ⟨gb399, 3, none⟩ = some (.slice A0_3 l0_3.length c0_3) := (blk_cell BK399.out 3).trans rfl; have hfz62_0 := blk_frozen BK399.out 0; have hfz62_1 := blk_frozen BK399.out 1; have hfz62_2 := blk_frozen BK399.out 2; have hfz62_3 := blk_frozen BK399.out 3) | ((with_reducible refine gate_callee (f := 29) rfl ?_); refine goesL_ (some 28) rfl rfl Try.func29 (by kernel_rfl) rfl #[.agg #[.int .i64 a0_0, .int .i64 a0_1, .int .i64 a0_2, .slice A0_3 l0_3.length c0_3], .int .i64 0] rfl (by (try simp only [List.map_toArray, List.map_cons, List.map_nil]); first | done | rfl | (simp only [List.length_drop, List.length_take]; rfl)) ?_; (with_reducible refine (check_Weights.calls k a0_0 a0_1 a0_2 _ _ l0_3 0 t405 t406 _ ?side1 ?side2 A47.out).mono ?_); (case side1 => repeat (first | exact (Kd.C_below HR0_3.out HB.out) | (with_reducible refine Kd.C_alloc ?_ _) | (with_reducible refine Kd.C_drewN ?_ _) | (with_reducible refine Kd.C_drew ?_))); (case side2 => exact HC0_3.out); rintro e w63 ⟨rfl, hb⟩; refine ⟨_, rfl, ?_⟩; have n0_ := Aside0.mk (blk_below (g := gb399) (o := .cells #[.int .i64 a0_0, .int .i64 a0_1, .int .i64 a0_2, .slice A0_3 l0_3.length c0_3] 26 (0, 0)) (by (with_reducible repeat (first | refine blk_drewN ?_ _ | refine blk_drew ?_ | refine blk_alloc ?_ _)); exact BK399.out) hb); have n1_ := Aside0.mk (below_step (by repeat (first | (with_reducible first | exact HB.out | apply below_alloc | apply pw_below_drewN | apply below_drew1 | refine below_set ?_ GE399.out) | exact HB.out)) hb); clear BK399; clear HB; have BK399 := n0_; have HB := n1_; clear n0_ n1_; (try clear hb); (try clear hb2); (try clear hk); (try clear hi); have hcz64_0 : w63.cell? ⟨gb399, 0, none⟩ = some (.int .i64 a0_0) := (blk_cell BK399.out 0).trans rfl; have hcz64_1 : w63.cell? ⟨gb399, 1, none⟩ = some (.int .i64 a0_1) := (blk_cell BK399.out 1).trans rfl; have hcz64_2 : w63.cell? ⟨gb399, 2, none⟩ = some (.int .i64 a0_2) := (blk_cell BK399.out 2).trans rfl; have hcz64_3 : w63.cell? ⟨gb399, 3, none⟩ = some (.slice A0_3 l0_3.length c0_3) := (blk_cell BK399.out 3).trans rfl; have hfz64_0 := blk_frozen BK399.out 0; have hfz64_1 := blk_frozen BK399.out 1; have hfz64_2 := blk_frozen BK399.out 2; have hfz64_3 := blk_frozen BK399.out 3) | (go_at_call 36; (with_reducible refine (check_Products.calls a0_0 a0_1 a0_2 _ _ l0_3 0 t407 _ ?side1 ?side2 A53.out).mono ?_); (case side1 => repeat (first | exact (Kd.C_below HR0_3.out HB.out) | (with_reducible refine Kd.C_alloc ?_ _) | (with_reducible refine Kd.C_drewN ?_ _) | (with_reducible refine Kd.C_drew ?_))); (case side2 => exact HC0_3.out); rintro e w65 ⟨rfl, hb⟩; have n0_ := Aside0.mk (blk_below (g := gb399) (o := .cells #[.int .i64 a0_0, .int .i64 a0_1, .int .i64 a0_2, .slice A0_3 l0_3.length c0_3] 26 (0, 0)) (by (with_reducible repeat (first | refine blk_drewN ?_ _ | refine blk_drew ?_ | refine blk_alloc ?_ _)); exact BK399.out) hb); have n1_ := Aside0.mk (below_step (by repeat (first | (with_reducible first | exact HB.out | apply below_alloc | apply pw_below_drewN | apply below_drew1 | refine below_set ?_ GE399.out) | exact HB.out)) hb); clear BK399; clear HB; have BK399 := n0_; have HB := n1_; clear n0_ n1_; (try clear hb); (try clear hb2); (try clear hk); (try clear hi)))
                go_ret
                exact ⟨by first | rfl | (simp [errW_none, errW_some] <;> rfl) | (simp [*, errW_none, errW_some] <;> rfl), by repeat (first | (with_reducible first | exact HB.out | apply below_alloc | apply pw_below_drewN | apply below_drew1 | refine below_set ?_ GE399.out) | exact HB.out)⟩
              · rw [if_neg c52] at H
                exact absurd H (by simp)
            · rw [if_neg c51] at H
              exact absurd H (by simp)
          · rw [if_neg c50] at H
            exact absurd H (by simp)
        · rw [if_neg c49] at H
          exact absurd H (by simp)
      · replace c48 := Bool.eq_false_iff.mpr c48
        subst c48
        have H1 : (none) = some r := by rw [if_neg (show ¬ (false = true) by decide)] at H; exact H
        clear H
        have H := H1
        clear H1
        exact absurd H (by simp)

end Go.Proofs.Ytnfcadjckoebkaa.P
