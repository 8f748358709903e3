-- Laid by laygen.py (this session's own, in its repo) over the kit's print. Not trusted: Lean checks it.
import Derived.Test.YtnfcadjckoebkaaCX0
import Derived.Test.YtnfcadjckoebkaaCXRD
import Derived.Test.YtnfcadjckoebkaaCXRi
import Derived.Test.YtnfcadjckoebkaaCXTm
import Derived.Test.YtnfcadjckoebkaaCXLF
import Derived.Test.YtnfcadjckoebkaaCXLFs
namespace Go.Proofs.Ytnfcadjckoebkaa.P
open Go.RowKit Go.Proofs.YtnfcadjckoebkaaW.PrintWords Go.Proofs.YtnfcadjckoebkaaW.PrintLast Go.Proofs.YtnfcadjckoebkaaW.PrintMore
attribute [local go_sem] min2_int min_two
set_option linter.unusedVariables false
set_option linter.unusedSimpArgs false

/-! ### symbolonlaw06_TermsCount: function 10 -/
mutual
def symbolonlaw06_TermsCount.l0 : Nat → Bool → Int → Int → Int → Int → Int → Int → Int → Int → Int → Int → List (S40) → Option (Bool)
  | 0, _, _, _, _, _, _, _, _, _, _, _, _ => none
  | k + 1, x5, x6, x7, x8, x10, x11, x12, x13, x586000, x586001, x586002, x586003 => if x13 < x8 then ((terms_Terms.f k x586000 x586001 x586002 x586003 x6 x13).bind fun t603 => (symbolonlaw06_TermsCount.l1 k x5 x6 x7 x8 x10 x11 (wrap64 (x12 + (t603.length : Int))) x13 t603 0 x586000 x586001 x586002 x586003)) else (if x5 = true then ((h05_Products.f x586000 x586001 x586002 x586003 x6).bind fun t596 => (if x12 = t596 then ((terms_Terms.f k x586000 x586001 x586002 x586003 x6 x8).bind fun t597 => (if (t597.length : Int) = 0 then ((terms_Terms.f k x586000 x586001 x586002 x586003 x6 (-1)).bind fun t600 => (some ((t600.length : Int) == 0))) else (none))) else (none))) else (none))
def symbolonlaw06_TermsCount.l1 : Nat → Bool → Int → Int → Int → Int → Int → Int → Int → List (S58) → Int → Int → Int → Int → List (S40) → Option (Bool)
  | 0, _, _, _, _, _, _, _, _, _, _, _, _, _, _ => none
  | k + 1, x5, x6, x7, x8, x10, x11, x12, x13, x14, x15, x586000, x586001, x586002, x586003 => if x15 < (x14.length : Int) then (if 0 ≤ x15 then (if ((rd_T58 x14 x15).f0) < 0 then (none) else (if ((rd_T58 x14 x15).f0) ≥ x7 then (none) else (if x11 = 0 then (if ((rd_T58 x14 x15).f1) = (-1) then (if x11 > 0 then (if ((rd_T58 x14 x15).f1) < x10 then (none) else (if ((rd_T58 x14 x15).f1) ≥ (wrap64 (x10 + x11)) then (none) else (symbolonlaw06_TermsCount.l1 k x5 x6 x7 x8 x10 x11 x12 x13 x14 (wrap64 (x15 + 1)) x586000 x586001 x586002 x586003))) else (symbolonlaw06_TermsCount.l1 k x5 x6 x7 x8 x10 x11 x12 x13 x14 (wrap64 (x15 + 1)) x586000 x586001 x586002 x586003)) else (none)) else (if x11 > 0 then (if ((rd_T58 x14 x15).f1) < x10 then (none) else (if ((rd_T58 x14 x15).f1) ≥ (wrap64 (x10 + x11)) then (none) else (symbolonlaw06_TermsCount.l1 k x5 x6 x7 x8 x10 x11 x12 x13 x14 (wrap64 (x15 + 1)) x586000 x586001 x586002 x586003))) else (symbolonlaw06_TermsCount.l1 k x5 x6 x7 x8 x10 x11 x12 x13 x14 (wrap64 (x15 + 1)) x586000 x586001 x586002 x586003))))) else (none)) else (symbolonlaw06_TermsCount.l0 k x5 x6 x7 x8 x10 x11 x12 (wrap64 (x13 + 1)) x586000 x586001 x586002 x586003)
end
def symbolonlaw06_TermsCount.f (k : Nat) (a0_0 : Int) (a0_1 : Int) (a0_2 : Int) (l0_3 : List (S40)) (a1 : Int) : Option (Bool) := (symbolonlaw06_head.f k).bind fun t586 => ((symbolonlaw04_Great.f a0_0 a0_1 a0_2 l0_3).bind fun t587 => (if t587 = true then (some t586) else ((symbolonlaw06_sizes.f k a0_0 a0_1 a0_2 l0_3 (Int.tmod (wrap64 (a1)) 8)).bind fun bt588 => (if bt588.2.2 = true then ((h05_Weights.f a0_0 a0_1 a0_2 l0_3 (Int.tmod (wrap64 (a1)) 8)).bind fun bt594 => (symbolonlaw06_TermsCount.l0 k t586 (Int.tmod (wrap64 (a1)) 8) bt588.1 bt588.2.1 bt594.1 bt594.2 0 0 a0_0 a0_1 a0_2 l0_3)) else (if t586 = true then ((terms_Terms.f k a0_0 a0_1 a0_2 l0_3 (Int.tmod (wrap64 (a1)) 8) 0).bind fun t591 => (some ((t591.length : Int) == 0))) else (none))))))
set_option maxHeartbeats 8000000 in
set_option maxRecDepth 100000 in
theorem symbolonlaw06_TermsCount.calls (k : Nat) (a0_0 : Int) (a0_1 : Int) (a0_2 : Int) (A0_3 : Option Addr) (c0_3 : Nat) (l0_3 : List (S40)) (a1 : Int) (r : Bool) (w : World) (hr0_3 : Kd.C k40 w A0_3 l0_3.length l0_3) (hc0_3 : l0_3.length ≤ c0_3) (h : symbolonlaw06_TermsCount.f k a0_0 a0_1 a0_2 l0_3 a1 = some r) :
    Calls Try.prog 10 #[.agg #[.int .i64 a0_0, .int .i64 a0_1, .int .i64 a0_2, .slice A0_3 l0_3.length c0_3], .int .u8 a1] w fun e w' => e = .returned (.bool r) ∧ Below w.heap.size w w' := by
  have hu26 := Try.underlying26
  have HR0_3 := Aside0.mk hr0_3
  have HC0_3 := Aside0.mk hc0_3
  clear hr0_3 hc0_3
  have HB := Aside0.mk (Below.refl w.heap.size w)
  have H : ((symbolonlaw06_head.f k).bind fun t586 => ((symbolonlaw04_Great.f a0_0 a0_1 a0_2 l0_3).bind fun t587 => (if t587 = true then (some t586) else ((symbolonlaw06_sizes.f k a0_0 a0_1 a0_2 l0_3 (Int.tmod (wrap64 (a1)) 8)).bind fun bt588 => (if bt588.2.2 = true then ((h05_Weights.f a0_0 a0_1 a0_2 l0_3 (Int.tmod (wrap64 (a1)) 8)).bind fun bt594 => (symbolonlaw06_TermsCount.l0 k t586 (Int.tmod (wrap64 (a1)) 8) bt588.1 bt588.2.1 bt594.1 bt594.2 0 0 a0_0 a0_1 a0_2 l0_3)) else (if t586 = true then ((terms_Terms.f k a0_0 a0_1 a0_2 l0_3 (Int.tmod (wrap64 (a1)) 8) 0).bind fun t591 => (some ((t591.length : Int) == 0))) else (none))))))) = some r := h
  clear h
  replace H := Option.bind_eq_some_iff.mp H
  obtain ⟨t586, A30, H⟩ := H
  replace H : ((symbolonlaw04_Great.f a0_0 a0_1 a0_2 l0_3).bind fun t587 => (if t587 = true then (some t586) else ((symbolonlaw06_sizes.f k a0_0 a0_1 a0_2 l0_3 (Int.tmod (wrap64 (a1)) 8)).bind fun bt588 => (if bt588.2.2 = true then ((h05_Weights.f a0_0 a0_1 a0_2 l0_3 (Int.tmod (wrap64 (a1)) 8)).bind fun bt594 => (symbolonlaw06_TermsCount.l0 k t586 (Int.tmod (wrap64 (a1)) 8) bt588.1 bt588.2.1 bt594.1 bt594.2 0 0 a0_0 a0_1 a0_2 l0_3)) else (if t586 = true then ((terms_Terms.f k a0_0 a0_1 a0_2 l0_3 (Int.tmod (wrap64 (a1)) 8) 0).bind fun t591 => (some ((t591.length : Int) == 0))) else (none)))))) = some r := H
  have A3 := Aside0.mk A30
  clear A30
  replace H := Option.bind_eq_some_iff.mp H
  obtain ⟨t587, A40, H⟩ := H
  replace H : (if t587 = true then (some t586) else ((symbolonlaw06_sizes.f k a0_0 a0_1 a0_2 l0_3 (Int.tmod (wrap64 (a1)) 8)).bind fun bt588 => (if bt588.2.2 = true then ((h05_Weights.f a0_0 a0_1 a0_2 l0_3 (Int.tmod (wrap64 (a1)) 8)).bind fun bt594 => (symbolonlaw06_TermsCount.l0 k t586 (Int.tmod (wrap64 (a1)) 8) bt588.1 bt588.2.1 bt594.1 bt594.2 0 0 a0_0 a0_1 a0_2 l0_3)) else (if t586 = true then ((terms_Terms.f k a0_0 a0_1 a0_2 l0_3 (Int.tmod (wrap64 (a1)) 8) 0).bind fun t591 => (some ((t591.length : Int) == 0))) else (none))))) = some r := H
  have A4 := Aside0.mk A40
  clear A40
  by_cases c5 : t587 = true
  · subst c5
    have H1 : (some t586) = some r := by rw [if_pos rfl] at H; exact H
    clear H
    have H := H1
    clear H1
    obtain rfl := Option.some.inj H
    go_enter Try.func10, Try.ntmps10
    go_wp2_with (first | ((with_reducible refine gate_dst (N := 2) rfl ?_); (try (refine gate_guard (by rfl) ?_; dsimp only)); refine box_event ?hg (N := 2) ?hd (cs := #[.int .i64 a0_0, .int .i64 a0_1, .int .i64 a0_2, .slice A0_3 l0_3.length c0_3]) (t := 26) ?hr ?_; (case hd => rfl); (case hg => rfl); (case hr => first | (go_simp; done) | (go_simp; rfl)); intro gb585 hg w6 hbox hb; have n0_ := Aside0.mk (below_step (by repeat (first | (with_reducible first | exact HB.out | apply below_alloc | apply pw_below_drewN | apply below_drew1) | exact HB.out)) hb); have n1_ := Aside0.mk (hbox); have n2_ := Aside0.mk ((by rw [hg]; exact (below_size (by repeat (first | (with_reducible first | exact HB.out | apply below_alloc | apply pw_below_drewN | apply below_drew1) | exact HB.out))) : w.heap.size ≤ gb585)); have n3_ := Aside0.mk ((by rw [hg]; exact (below_size (by repeat (first | (with_reducible first | exact HB.out | apply below_alloc | apply pw_below_drewN | apply below_drew1) | exact HB.out))) : w.heap.size ≤ gb585)); clear HB; have HB := n0_; have BK585 := n1_; have GW585 := n2_; have GE585 := n3_; clear n0_ n1_ n2_ n3_; clear hb hbox hg) | ((with_reducible refine gate_callee (f := 43) rfl ?_); refine goesL_ (some 16) rfl rfl Try.func43 (by kernel_rfl) rfl #[] rfl (by (try simp only [List.map_toArray, List.map_cons, List.map_nil]); first | done | rfl | (simp only [List.length_drop, List.length_take]; rfl)) ?_; (with_reducible refine (symbolonlaw06_head.calls k  t586 _ A3.out).mono ?_); rintro e w7 ⟨rfl, hb⟩; refine ⟨_, rfl, ?_⟩; have n0_ := Aside0.mk (blk_below (g := gb585) (o := .cells #[.int .i64 a0_0, .int .i64 a0_1, .int .i64 a0_2, .slice A0_3 l0_3.length c0_3] 26 (0, 0)) (by (with_reducible repeat (first | refine blk_drewN ?_ _ | refine blk_drew ?_ | refine blk_alloc ?_ _)); exact BK585.out) hb); have n1_ := Aside0.mk (below_step (by repeat (first | (with_reducible first | exact HB.out | apply below_alloc | apply pw_below_drewN | apply below_drew1 | refine below_set ?_ GE585.out) | exact HB.out)) hb); clear BK585; clear HB; have BK585 := n0_; have HB := n1_; clear n0_ n1_; (try clear hb); (try clear hb2); (try clear hk); (try clear hi); have hcz8_0 : w7.cell? ⟨gb585, 0, none⟩ = some (.int .i64 a0_0) := (blk_cell BK585.out 0).trans rfl; have hcz8_1 : w7.cell? ⟨gb585, 1, none⟩ = some (.int .i64 a0_1) := (blk_cell BK585.out 1).trans rfl; have hcz8_2 : w7.cell? ⟨gb585, 2, none⟩ = some (.int .i64 a0_2) := (blk_cell BK585.out 2).trans rfl; have hcz8_3 : w7.cell? ⟨gb585, 3, none⟩ = some (.slice A0_3 l0_3.length c0_3) := (blk_cell BK585.out 3).trans rfl; have hfz8_0 := blk_frozen BK585.out 0; have hfz8_1 := blk_frozen BK585.out 1; have hfz8_2 := blk_frozen BK585.out 2; have hfz8_3 := blk_frozen BK585.out 3) | ((with_reducible refine gate_callee (f := 26) rfl ?_); refine goesL_ (some 21) rfl rfl Try.func26 (by kernel_rfl) rfl #[.agg #[.int .i64 a0_0, .int .i64 a0_1, .int .i64 a0_2, .slice A0_3 l0_3.length c0_3]] rfl (by (try simp only [List.map_toArray, List.map_cons, List.map_nil]); first | done | rfl | (simp only [List.length_drop, List.length_take]; rfl)) ?_; (with_reducible refine (symbolonlaw04_Great.calls a0_0 a0_1 a0_2 _ _ l0_3 true _ ?side1 ?side2 A4.out).mono ?_); (case side1 => repeat (first | exact (Kd.C_below HR0_3.out HB.out) | (with_reducible refine Kd.C_alloc ?_ _) | (with_reducible refine Kd.C_drewN ?_ _) | (with_reducible refine Kd.C_drew ?_))); (case side2 => exact HC0_3.out); rintro e w9 ⟨rfl, hb⟩; refine ⟨_, rfl, ?_⟩; have n0_ := Aside0.mk (blk_below (g := gb585) (o := .cells #[.int .i64 a0_0, .int .i64 a0_1, .int .i64 a0_2, .slice A0_3 l0_3.length c0_3] 26 (0, 0)) (by (with_reducible repeat (first | refine blk_drewN ?_ _ | refine blk_drew ?_ | refine blk_alloc ?_ _)); exact BK585.out) hb); have n1_ := Aside0.mk (below_step (by repeat (first | (with_reducible first | exact HB.out | apply below_alloc | apply pw_below_drewN | apply below_drew1 | refine below_set ?_ GE585.out) | exact HB.out)) hb); clear BK585; clear HB; have BK585 := n0_; have HB := n1_; clear n0_ n1_; (try clear hb); (try clear hb2); (try clear hk); (try clear hi)))
    go_ret
    exact ⟨by first | rfl | (simp [errW_none, errW_some] <;> rfl) | (simp [*, errW_none, errW_some] <;> rfl), by repeat (first | (with_reducible first | exact HB.out | apply below_alloc | apply pw_below_drewN | apply below_drew1 | refine below_set ?_ GE585.out) | exact HB.out)⟩
  · replace c5 := Bool.eq_false_iff.mpr c5
    subst c5
    have H1 : ((symbolonlaw06_sizes.f k a0_0 a0_1 a0_2 l0_3 (Int.tmod (wrap64 (a1)) 8)).bind fun bt588 => (if bt588.2.2 = true then ((h05_Weights.f a0_0 a0_1 a0_2 l0_3 (Int.tmod (wrap64 (a1)) 8)).bind fun bt594 => (symbolonlaw06_TermsCount.l0 k t586 (Int.tmod (wrap64 (a1)) 8) bt588.1 bt588.2.1 bt594.1 bt594.2 0 0 a0_0 a0_1 a0_2 l0_3)) else (if t586 = true then ((terms_Terms.f k a0_0 a0_1 a0_2 l0_3 (Int.tmod (wrap64 (a1)) 8) 0).bind fun t591 => (some ((t591.length : Int) == 0))) else (none)))) = some r := by rw [if_neg (show ¬ (false = true) by decide)] at H; exact H
    clear H
    have H := H1
    clear H1
    replace H := Option.bind_eq_some_iff.mp H
    obtain ⟨⟨t588, t589, t590⟩, A100, H⟩ := H
    replace H : (if t590 = true then ((h05_Weights.f a0_0 a0_1 a0_2 l0_3 (Int.tmod (wrap64 (a1)) 8)).bind fun bt594 => (symbolonlaw06_TermsCount.l0 k t586 (Int.tmod (wrap64 (a1)) 8) t588 t589 bt594.1 bt594.2 0 0 a0_0 a0_1 a0_2 l0_3)) else (if t586 = true then ((terms_Terms.f k a0_0 a0_1 a0_2 l0_3 (Int.tmod (wrap64 (a1)) 8) 0).bind fun t591 => (some ((t591.length : Int) == 0))) else (none))) = some r := H
    have A10 := Aside0.mk A100
    clear A100
    by_cases c11 : t590 = true
    · subst c11
      have H1 : ((h05_Weights.f a0_0 a0_1 a0_2 l0_3 (Int.tmod (wrap64 (a1)) 8)).bind fun bt594 => (symbolonlaw06_TermsCount.l0 k t586 (Int.tmod (wrap64 (a1)) 8) t588 t589 bt594.1 bt594.2 0 0 a0_0 a0_1 a0_2 l0_3)) = some r := by rw [if_pos rfl] at H; exact H
      clear H
      have H := H1
      clear H1
      replace H := Option.bind_eq_some_iff.mp H
      obtain ⟨⟨t594, t595⟩, A120, H⟩ := H
      replace H : (symbolonlaw06_TermsCount.l0 k t586 (Int.tmod (wrap64 (a1)) 8) t588 t589 t594 t595 0 0 a0_0 a0_1 a0_2 l0_3) = some r := H
      have A12 := Aside0.mk A120
      clear A120
      have H' := Aside0.mk H
      clear H
      go_enter Try.func10, Try.ntmps10
      go_wp2_with (first | ((with_reducible refine gate_dst (N := 2) rfl ?_); (try (refine gate_guard (by rfl) ?_; dsimp only)); refine box_event ?hg (N := 2) ?hd (cs := #[.int .i64 a0_0, .int .i64 a0_1, .int .i64 a0_2, .slice A0_3 l0_3.length c0_3]) (t := 26) ?hr ?_; (case hd => rfl); (case hg => rfl); (case hr => first | (go_simp; done) | (go_simp; rfl)); intro gb585 hg w13 hbox hb; have n0_ := Aside0.mk (below_step (by repeat (first | (with_reducible first | exact HB.out | apply below_alloc | apply pw_below_drewN | apply below_drew1) | exact HB.out)) hb); have n1_ := Aside0.mk (hbox); have n2_ := Aside0.mk ((by rw [hg]; exact (below_size (by repeat (first | (with_reducible first | exact HB.out | apply below_alloc | apply pw_below_drewN | apply below_drew1) | exact HB.out))) : w.heap.size ≤ gb585)); have n3_ := Aside0.mk ((by rw [hg]; exact (below_size (by repeat (first | (with_reducible first | exact HB.out | apply below_alloc | apply pw_below_drewN | apply below_drew1) | exact HB.out))) : w.heap.size ≤ gb585)); clear HB; have HB := n0_; have BK585 := n1_; have GW585 := n2_; have GE585 := n3_; clear n0_ n1_ n2_ n3_; clear hb hbox hg) | ((with_reducible refine gate_callee (f := 43) rfl ?_); refine goesL_ (some 16) rfl rfl Try.func43 (by kernel_rfl) rfl #[] rfl (by (try simp only [List.map_toArray, List.map_cons, List.map_nil]); first | done | rfl | (simp only [List.length_drop, List.length_take]; rfl)) ?_; (with_reducible refine (symbolonlaw06_head.calls k  t586 _ A3.out).mono ?_); rintro e w14 ⟨rfl, hb⟩; refine ⟨_, rfl, ?_⟩; have n0_ := Aside0.mk (blk_below (g := gb585) (o := .cells #[.int .i64 a0_0, .int .i64 a0_1, .int .i64 a0_2, .slice A0_3 l0_3.length c0_3] 26 (0, 0)) (by (with_reducible repeat (first | refine blk_drewN ?_ _ | refine blk_drew ?_ | refine blk_alloc ?_ _)); exact BK585.out) hb); have n1_ := Aside0.mk (below_step (by repeat (first | (with_reducible first | exact HB.out | apply below_alloc | apply pw_below_drewN | apply below_drew1 | refine below_set ?_ GE585.out) | exact HB.out)) hb); clear BK585; clear HB; have BK585 := n0_; have HB := n1_; clear n0_ n1_; (try clear hb); (try clear hb2); (try clear hk); (try clear hi); have hcz15_0 : w14.cell? ⟨gb585, 0, none⟩ = some (.int .i64 a0_0) := (blk_cell BK585.out 0).trans rfl; have hcz15_1 : w14.cell? ⟨gb585, 1, none⟩ = some (.int .i64 a0_1) := (blk_cell BK585.out 1).trans rfl; have hcz15_2 : w14.cell? ⟨gb585, 2, none⟩ = some (.int .i64 a0_2) := (blk_cell BK585.out 2).trans rfl; have hcz15_3 : w14.cell? ⟨gb585, 3, none⟩ = some (.slice A0_3 l0_3.length c0_3) := (blk_cell BK585.out 3).trans rfl; have hfz15_0 := blk_frozen BK585.out 0; have hfz15_1 := blk_frozen BK585.out 1; have hfz15_2 := blk_frozen BK585.out 2; have hfz15_3 := blk_frozen BK585.out 3) | ((with_reducible refine gate_callee (f := 26) rfl ?_); refine goesL_ (some 21) rfl rfl Try.func26 (by kernel_rfl) rfl #[.agg #[.int .i64 a0_0, .int .i64 a0_1, .int .i64 a0_2, .slice A0_3 l0_3.length c0_3]] rfl (by (try simp only [List.map_toArray, List.map_cons, List.map_nil]); first | done | rfl | (simp only [List.length_drop, List.length_take]; rfl)) ?_; (with_reducible refine (symbolonlaw04_Great.calls a0_0 a0_1 a0_2 _ _ l0_3 false _ ?side1 ?side2 A4.out).mono ?_); (case side1 => repeat (first | exact (Kd.C_below HR0_3.out HB.out) | (with_reducible refine Kd.C_alloc ?_ _) | (with_reducible refine Kd.C_drewN ?_ _) | (with_reducible refine Kd.C_drew ?_))); (case side2 => exact HC0_3.out); rintro e w16 ⟨rfl, hb⟩; refine ⟨_, rfl, ?_⟩; have n0_ := Aside0.mk (blk_below (g := gb585) (o := .cells #[.int .i64 a0_0, .int .i64 a0_1, .int .i64 a0_2, .slice A0_3 l0_3.length c0_3] 26 (0, 0)) (by (with_reducible repeat (first | refine blk_drewN ?_ _ | refine blk_drew ?_ | refine blk_alloc ?_ _)); exact BK585.out) hb); have n1_ := Aside0.mk (below_step (by repeat (first | (with_reducible first | exact HB.out | apply below_alloc | apply pw_below_drewN | apply below_drew1 | refine below_set ?_ GE585.out) | exact HB.out)) hb); clear BK585; clear HB; have BK585 := n0_; have HB := n1_; clear n0_ n1_; (try clear hb); (try clear hb2); (try clear hk); (try clear hi); have hcz17_0 : w16.cell? ⟨gb585, 0, none⟩ = some (.int .i64 a0_0) := (blk_cell BK585.out 0).trans rfl; have hcz17_1 : w16.cell? ⟨gb585, 1, none⟩ = some (.int .i64 a0_1) := (blk_cell BK585.out 1).trans rfl; have hcz17_2 : w16.cell? ⟨gb585, 2, none⟩ = some (.int .i64 a0_2) := (blk_cell BK585.out 2).trans rfl; have hcz17_3 : w16.cell? ⟨gb585, 3, none⟩ = some (.slice A0_3 l0_3.length c0_3) := (blk_cell BK585.out 3).trans rfl; have hfz17_0 := blk_frozen BK585.out 0; have hfz17_1 := blk_frozen BK585.out 1; have hfz17_2 := blk_frozen BK585.out 2; have hfz17_3 := blk_frozen BK585.out 3) | ((with_reducible refine gate_callee (f := 50) rfl ?_); refine goesL_ (some 26) rfl rfl Try.func50 (by kernel_rfl) rfl #[.agg #[.int .i64 a0_0, .int .i64 a0_1, .int .i64 a0_2, .slice A0_3 l0_3.length c0_3], .int .i64 (Int.tmod (wrap64 (a1)) 8)] rfl (by (try simp only [List.map_toArray, List.map_cons, List.map_nil]); first | done | rfl | (simp only [List.length_drop, List.length_take]; rfl)) ?_; (with_reducible refine (symbolonlaw06_sizes.calls k a0_0 a0_1 a0_2 _ _ l0_3 (Int.tmod (wrap64 (a1)) 8) t588 t589 true _ ?side1 ?side2 A10.out).mono ?_); (case side1 => repeat (first | exact (Kd.C_below HR0_3.out HB.out) | (with_reducible refine Kd.C_alloc ?_ _) | (with_reducible refine Kd.C_drewN ?_ _) | (with_reducible refine Kd.C_drew ?_))); (case side2 => exact HC0_3.out); rintro e w18 ⟨rfl, hb⟩; refine ⟨_, rfl, ?_⟩; have n0_ := Aside0.mk (blk_below (g := gb585) (o := .cells #[.int .i64 a0_0, .int .i64 a0_1, .int .i64 a0_2, .slice A0_3 l0_3.length c0_3] 26 (0, 0)) (by (with_reducible repeat (first | refine blk_drewN ?_ _ | refine blk_drew ?_ | refine blk_alloc ?_ _)); exact BK585.out) hb); have n1_ := Aside0.mk (below_step (by repeat (first | (with_reducible first | exact HB.out | apply below_alloc | apply pw_below_drewN | apply below_drew1 | refine below_set ?_ GE585.out) | exact HB.out)) hb); clear BK585; clear HB; have BK585 := n0_; have HB := n1_; clear n0_ n1_; (try clear hb); (try clear hb2); (try clear hk); (try clear hi); have hcz19_0 : w18.cell? ⟨gb585, 0, none⟩ = some (.int .i64 a0_0) := (blk_cell BK585.out 0).trans rfl; have hcz19_1 : w18.cell? ⟨gb585, 1, none⟩ = some (.int .i64 a0_1) := (blk_cell BK585.out 1).trans rfl; have hcz19_2 : w18.cell? ⟨gb585, 2, none⟩ = some (.int .i64 a0_2) := (blk_cell BK585.out 2).trans rfl; have hcz19_3 : w18.cell? ⟨gb585, 3, none⟩ = some (.slice A0_3 l0_3.length c0_3) := (blk_cell BK585.out 3).trans rfl; have hfz19_0 := blk_frozen BK585.out 0; have hfz19_1 := blk_frozen BK585.out 1; have hfz19_2 := blk_frozen BK585.out 2; have hfz19_3 := blk_frozen BK585.out 3) | ((with_reducible refine gate_callee (f := 30) rfl ?_); refine goesL_ (some 43) rfl rfl Try.func30 (by kernel_rfl) rfl #[.agg #[.int .i64 a0_0, .int .i64 a0_1, .int .i64 a0_2, .slice A0_3 l0_3.length c0_3], .int .i64 (Int.tmod (wrap64 (a1)) 8)] rfl (by (try simp only [List.map_toArray, List.map_cons, List.map_nil]); first | done | rfl | (simp only [List.length_drop, List.length_take]; rfl)) ?_; (with_reducible refine (h05_Weights.calls a0_0 a0_1 a0_2 _ _ l0_3 (Int.tmod (wrap64 (a1)) 8) t594 t595 _ ?side1 ?side2 A12.out).mono ?_); (case side1 => repeat (first | exact (Kd.C_below HR0_3.out HB.out) | (with_reducible refine Kd.C_alloc ?_ _) | (with_reducible refine Kd.C_drewN ?_ _) | (with_reducible refine Kd.C_drew ?_))); (case side2 => exact HC0_3.out); rintro e w20 ⟨rfl, hb⟩; refine ⟨_, rfl, ?_⟩; have n0_ := Aside0.mk (blk_below (g := gb585) (o := .cells #[.int .i64 a0_0, .int .i64 a0_1, .int .i64 a0_2, .slice A0_3 l0_3.length c0_3] 26 (0, 0)) (by (with_reducible repeat (first | refine blk_drewN ?_ _ | refine blk_drew ?_ | refine blk_alloc ?_ _)); exact BK585.out) hb); have n1_ := Aside0.mk (below_step (by repeat (first | (with_reducible first | exact HB.out | apply below_alloc | apply pw_below_drewN | apply below_drew1 | refine below_set ?_ GE585.out) | exact HB.out)) hb); clear BK585; clear HB; have BK585 := n0_; have HB := n1_; clear n0_ n1_; (try clear hb); (try clear hb2); (try clear hk); (try clear hi)))
      go_loopg [12, 13] k (fun kq v12 v13 w' => ∃ (x12_1 : Int) (x13_1 : Int), v12 = .int .i64 x12_1 ∧ v13 = .int .i64 x13_1 ∧ Aside0 (symbolonlaw06_TermsCount.l0 kq t586 (Int.tmod (wrap64 (a1)) 8) t588 t589 t594 t595 x12_1 x13_1 a0_0 a0_1 a0_2 l0_3 = some r) ∧ Aside0 (kq ≤ k) ∧ Aside0 (w'.heap[gb585]? = some (.cells #[.int .i64 a0_0, .int .i64 a0_1, .int .i64 a0_2, (.slice A0_3 l0_3.length c0_3)] 26 (0, 0))) ∧ Aside0 (Below w.heap.size w w'))
      case atStart => exact ⟨(0), (0), (by first | rfl | (simp; done) | (simp [*]; done)), (by first | rfl | (simp; done) | (simp [*]; done)), H', ⟨Nat.le_refl _⟩, ⟨by (with_reducible repeat (first | refine blk_drewN ?_ _ | refine blk_drew ?_ | refine blk_alloc ?_ _)); exact BK585.out⟩, ⟨by repeat (first | (with_reducible first | exact HB.out | apply below_alloc | apply pw_below_drewN | apply below_drew1 | refine below_set ?_ GE585.out) | exact HB.out)⟩⟩
      case round =>
        clear H'
        try clear c1
        try clear c2
        try clear p2
        try clear c3
        try clear c4
        try clear c5
        try clear p6
        try clear c10
        try clear c11
        try clear hcz15_0
        try clear hcz15_1
        try clear hcz15_2
        try clear hcz15_3
        try clear hcz17_0
        try clear hcz17_1
        try clear hcz17_2
        try clear hcz17_3
        try clear hcz19_0
        try clear hcz19_1
        try clear hcz19_2
        try clear hcz19_3
        try clear hcz8_0
        try clear hcz8_1
        try clear hcz8_2
        try clear hcz8_3
        try clear hfz15_0
        try clear hfz15_1
        try clear hfz15_2
        try clear hfz15_3
        try clear hfz17_0
        try clear hfz17_1
        try clear hfz17_2
        try clear hfz17_3
        try clear hfz19_0
        try clear hfz19_1
        try clear hfz19_2
        try clear hfz19_3
        try clear hfz8_0
        try clear hfz8_1
        try clear hfz8_2
        try clear hfz8_3
        obtain ⟨x12_1, x13_1, rfl, rfl, HA, HK1, BK585, HB⟩ := hrel
        cases gk with
        | zero => exact absurd HA.out (by simp [symbolonlaw06_TermsCount.l0])
        | succ k1 =>
          have H := HA.out
          clear HA
          simp only [symbolonlaw06_TermsCount.l0] at H
          by_cases c21 : x13_1 < t589
          · rw [if_pos c21] at H
            have c21b0 : decide (x13_1 < t589) = true := decide_eq_true c21
            clear c21
            replace H := Option.bind_eq_some_iff.mp H
            obtain ⟨t603, A220, H⟩ := H
            replace H : (symbolonlaw06_TermsCount.l1 k1 t586 (Int.tmod (wrap64 (a1)) 8) t588 t589 t594 t595 (wrap64 (x12_1 + (t603.length : Int))) x13_1 t603 0 a0_0 a0_1 a0_2 l0_3) = some r := H
            have A22 := Aside0.mk A220
            clear A220
            have H' := Aside0.mk H
            clear H
            have hcz23_0 : wr.cell? ⟨gb585, 0, none⟩ = some (.int .i64 a0_0) := (blk_cell BK585.out 0).trans rfl
            have hcz23_1 : wr.cell? ⟨gb585, 1, none⟩ = some (.int .i64 a0_1) := (blk_cell BK585.out 1).trans rfl
            have hcz23_2 : wr.cell? ⟨gb585, 2, none⟩ = some (.int .i64 a0_2) := (blk_cell BK585.out 2).trans rfl
            have hcz23_3 : wr.cell? ⟨gb585, 3, none⟩ = some (.slice A0_3 l0_3.length c0_3) := (blk_cell BK585.out 3).trans rfl
            have hfz23_0 := blk_frozen BK585.out 0
            have hfz23_1 := blk_frozen BK585.out 1
            have hfz23_2 := blk_frozen BK585.out 2
            have hfz23_3 := blk_frozen BK585.out 3
            go_wp2_with (first | ((with_reducible refine gate_callee (f := 45) rfl ?_); refine goesL_ (some 54) rfl rfl Try.func45 (by kernel_rfl) rfl #[.agg #[.int .i64 a0_0, .int .i64 a0_1, .int .i64 a0_2, .slice A0_3 l0_3.length c0_3], .int .i64 (Int.tmod (wrap64 (a1)) 8), .int .i64 x13_1] rfl (by (try simp only [List.map_toArray, List.map_cons, List.map_nil]); first | done | rfl | (simp only [List.length_drop, List.length_take]; rfl)) ?_; (with_reducible refine (terms_Terms.calls k1 a0_0 a0_1 a0_2 _ _ l0_3 (Int.tmod (wrap64 (a1)) 8) x13_1 t603 _ ?side1 ?side2 A22.out).mono ?_); (case side1 => repeat (first | exact (Kd.C_below HR0_3.out HB.out) | (with_reducible refine Kd.C_alloc ?_ _) | (with_reducible refine Kd.C_drewN ?_ _) | (with_reducible refine Kd.C_drew ?_))); (case side2 => exact HC0_3.out); rintro e w24 ⟨v604, rfl, ho0, hb⟩; refine ⟨_, rfl, ?_⟩; have n0_ := Aside0.mk (Kd.R_lower ho0 (below_size (by repeat (first | (with_reducible first | exact HB.out | apply below_alloc | apply pw_below_drewN | apply below_drew1 | refine below_set ?_ GE585.out) | exact HB.out)))); have n1_ := Aside0.mk (blk_below (g := gb585) (o := .cells #[.int .i64 a0_0, .int .i64 a0_1, .int .i64 a0_2, .slice A0_3 l0_3.length c0_3] 26 (0, 0)) (by (with_reducible repeat (first | refine blk_drewN ?_ _ | refine blk_drew ?_ | refine blk_alloc ?_ _)); exact BK585.out) hb); have n2_ := Aside0.mk (below_step (by repeat (first | (with_reducible first | exact HB.out | apply below_alloc | apply pw_below_drewN | apply below_drew1 | refine below_set ?_ GE585.out) | exact HB.out)) hb); clear BK585; clear HB; have HO605 := n0_; have BK585 := n1_; have HB := n2_; clear n0_ n1_ n2_; (try clear hb); (try clear hb2); (try clear hk); (try clear hi); (try clear ho0); obtain ⟨Ao25, co25, eo25⟩ := Kd.R_slice HO605.out; subst eo25))
            go_loopg [15] k1 (fun kq v15 w' => ∃ (x15_2 : Int), v15 = .int .i64 x15_2 ∧ Aside0 (symbolonlaw06_TermsCount.l1 kq t586 (Int.tmod (wrap64 (a1)) 8) t588 t589 t594 t595 (wrap64 (x12_1 + (t603.length : Int))) x13_1 t603 x15_2 a0_0 a0_1 a0_2 l0_3 = some r) ∧ Aside0 (kq ≤ k1) ∧ Aside0 (Kd.R k58 58 w' w.heap.size (fun _ => True) (.slice Ao25 t603.length co25) t603) ∧ Aside0 (w'.heap[gb585]? = some (.cells #[.int .i64 a0_0, .int .i64 a0_1, .int .i64 a0_2, (.slice A0_3 l0_3.length c0_3)] 26 (0, 0))) ∧ Aside0 (Below w.heap.size w w'))
            case atStart => exact ⟨(0), (by first | rfl | (simp; done) | (simp [*]; done)), H', ⟨Nat.le_refl _⟩, ⟨by (with_reducible repeat (first | apply Kd.R_alloc | apply Kd.R_drewN | apply Kd.R_drew)); exact HO605.out⟩, ⟨by (with_reducible repeat (first | refine blk_drewN ?_ _ | refine blk_drew ?_ | refine blk_alloc ?_ _)); exact BK585.out⟩, ⟨by repeat (first | (with_reducible first | exact HB.out | apply below_alloc | apply pw_below_drewN | apply below_drew1 | refine below_set ?_ GE585.out) | exact HB.out)⟩⟩
            case round =>
              clear H'
              try clear c1
              try clear c2
              try clear p2
              try clear c3
              try clear c4
              try clear c5
              try clear p6
              try clear c10
              try clear c11
              try clear c21
              try clear c21b0
              try clear hcz15_0
              try clear hcz15_1
              try clear hcz15_2
              try clear hcz15_3
              try clear hcz17_0
              try clear hcz17_1
              try clear hcz17_2
              try clear hcz17_3
              try clear hcz19_0
              try clear hcz19_1
              try clear hcz19_2
              try clear hcz19_3
              try clear hcz23_0
              try clear hcz23_1
              try clear hcz23_2
              try clear hcz23_3
              try clear hcz8_0
              try clear hcz8_1
              try clear hcz8_2
              try clear hcz8_3
              try clear hfz15_0
              try clear hfz15_1
              try clear hfz15_2
              try clear hfz15_3
              try clear hfz17_0
              try clear hfz17_1
              try clear hfz17_2
              try clear hfz17_3
              try clear hfz19_0
              try clear hfz19_1
              try clear hfz19_2
              try clear hfz19_3
              try clear hfz23_0
              try clear hfz23_1
              try clear hfz23_2
              try clear hfz23_3
              try clear hfz8_0
              try clear hfz8_1
              try clear hfz8_2
              try clear hfz8_3
              try clear p2
              try clear p6
              obtain ⟨x15_2, rfl, HA, HK2, HO_14, BK585, HB⟩ := hrel
              cases gk with
              | zero => exact absurd HA.out (by simp [symbolonlaw06_TermsCount.l1])
              | succ k2 =>
                have H := HA.out
                clear HA
                simp only [symbolonlaw06_TermsCount.l1] at H
                by_cases c26 : x15_2 < (t603.length : Int)
                · rw [if_pos c26] at H
                  have c26b0 : decide (x15_2 < (t603.length : Int)) = true := decide_eq_true c26
                  clear c26
                  by_cases c27 : 0 ≤ x15_2
                  · rw [if_pos c27] at H
                    have c27b0 : decide (0 ≤ x15_2) = true := decide_eq_true c27
                    clear c27
                    by_cases c28 : ((rd_T58 t603 x15_2).f0) < 0
                    · rw [if_pos c28] at H
                      exact absurd H (by simp)
                    · rw [if_neg c28] at H
                      have c28b0 : decide (((rd_T58 t603 x15_2).f0) < 0) = false := decide_eq_false c28
                      clear c28
                      by_cases c29 : ((rd_T58 t603 x15_2).f0) ≥ t588
                      · rw [if_pos c29] at H
                        exact absurd H (by simp)
                      · rw [if_neg c29] at H
                        have c29b0 : decide (t588 ≤ ((rd_T58 t603 x15_2).f0)) = false := decide_eq_false c29
                        clear c29
                        by_cases c30 : t595 = 0
                        · rw [if_pos c30] at H
                          have c30b0 : (t595 == 0) = true := beq_iff_eq.mpr c30
                          have c30b1 : (t595 != 0) = false := bne_eq_false_iff_eq.mpr c30
                          clear c30
                          by_cases c31 : ((rd_T58 t603 x15_2).f1) = (-1)
                          · rw [if_pos c31] at H
                            have c31b0 : (((rd_T58 t603 x15_2).f1) == (-1)) = true := beq_iff_eq.mpr c31
                            have c31b1 : (((rd_T58 t603 x15_2).f1) != (-1)) = false := bne_eq_false_iff_eq.mpr c31
                            clear c31
                            by_cases c32 : t595 > 0
                            · rw [if_pos c32] at H
                              have c32b0 : decide (0 < t595) = true := decide_eq_true c32
                              clear c32
                              by_cases c33 : ((rd_T58 t603 x15_2).f1) < t594
                              · rw [if_pos c33] at H
                                exact absurd H (by simp)
                              · rw [if_neg c33] at H
                                have c33b0 : decide (((rd_T58 t603 x15_2).f1) < t594) = false := decide_eq_false c33
                                clear c33
                                by_cases c34 : ((rd_T58 t603 x15_2).f1) ≥ (wrap64 (t594 + t595))
                                · rw [if_pos c34] at H
                                  exact absurd H (by simp)
                                · rw [if_neg c34] at H
                                  have c34b0 : decide ((wrap64 (t594 + t595)) ≤ ((rd_T58 t603 x15_2).f1)) = false := decide_eq_false c34
                                  clear c34
                                  have H' := Aside0.mk H
                                  clear H
                                  have p606 : 0 ≤ (x15_2 : Int) := of_decide_eq_true (by first | (with_reducible assumption) | assumption)
                                  have q606 : x15_2 < (t603.length : Int) := of_decide_eq_true (by first | (with_reducible assumption) | assumption)
                                  obtain ⟨ad606, e606, hx606_0, hx606_1⟩ := at_T58 (Kd.R_reads' HO_14.out).2.2 x15_2 p606 q606
                                  cases e606
                                  replace p606 := eq_true p606
                                  replace q606 := eq_true q606
                                  have p607 : 0 ≤ (x15_2 : Int) := of_decide_eq_true (by first | (with_reducible assumption) | assumption)
                                  have q607 : x15_2 < (t603.length : Int) := of_decide_eq_true (by first | (with_reducible assumption) | assumption)
                                  obtain ⟨ad607, e607, hx607_0, hx607_1⟩ := at_T58 (Kd.R_reads' HO_14.out).2.2 x15_2 p607 q607
                                  obtain rfl : ad606 = ad607 := (by injection e607)
                                  replace p607 := eq_true p607
                                  replace q607 := eq_true q607
                                  have p608 : 0 ≤ (x15_2 : Int) := of_decide_eq_true (by first | (with_reducible assumption) | assumption)
                                  have q608 : x15_2 < (t603.length : Int) := of_decide_eq_true (by first | (with_reducible assumption) | assumption)
                                  obtain ⟨ad608, e608, hx608_0, hx608_1⟩ := at_T58 (Kd.R_reads' HO_14.out).2.2 x15_2 p608 q608
                                  obtain rfl : ad606 = ad608 := (by injection e608)
                                  replace p608 := eq_true p608
                                  replace q608 := eq_true q608
                                  have p609 : 0 ≤ (x15_2 : Int) := of_decide_eq_true (by first | (with_reducible assumption) | assumption)
                                  have q609 : x15_2 < (t603.length : Int) := of_decide_eq_true (by first | (with_reducible assumption) | assumption)
                                  obtain ⟨ad609, e609, hx609_0, hx609_1⟩ := at_T58 (Kd.R_reads' HO_14.out).2.2 x15_2 p609 q609
                                  obtain rfl : ad606 = ad609 := (by injection e609)
                                  replace p609 := eq_true p609
                                  replace q609 := eq_true q609
                                  have p610 : 0 ≤ (x15_2 : Int) := of_decide_eq_true (by first | (with_reducible assumption) | assumption)
                                  have q610 : x15_2 < (t603.length : Int) := of_decide_eq_true (by first | (with_reducible assumption) | assumption)
                                  obtain ⟨ad610, e610, hx610_0, hx610_1⟩ := at_T58 (Kd.R_reads' HO_14.out).2.2 x15_2 p610 q610
                                  obtain rfl : ad606 = ad610 := (by injection e610)
                                  replace p610 := eq_true p610
                                  replace q610 := eq_true q610
                                  go_wp2
                                  go_roundg k2
                                  case measure => have := HK1.out; have := HK2.out; omega
                                  case rel => exact ⟨(wrap64 (x15_2 + 1)), (by first | rfl | (simp; done) | (simp [*]; done)), H', ⟨by have := HK1.out; have := HK2.out; omega⟩, ⟨by (with_reducible repeat (first | apply Kd.R_alloc | apply Kd.R_drewN | apply Kd.R_drew)); exact HO_14.out⟩, ⟨by (with_reducible repeat (first | refine blk_drewN ?_ _ | refine blk_drew ?_ | refine blk_alloc ?_ _)); exact BK585.out⟩, ⟨by repeat (first | (with_reducible first | exact HB.out | apply below_alloc | apply pw_below_drewN | apply below_drew1 | refine below_set ?_ GE585.out) | exact HB.out)⟩⟩
                            · rw [if_neg c32] at H
                              have c32b0 : decide (0 < t595) = false := decide_eq_false c32
                              clear c32
                              have H' := Aside0.mk H
                              clear H
                              have p606 : 0 ≤ (x15_2 : Int) := of_decide_eq_true (by first | (with_reducible assumption) | assumption)
                              have q606 : x15_2 < (t603.length : Int) := of_decide_eq_true (by first | (with_reducible assumption) | assumption)
                              obtain ⟨ad606, e606, hx606_0, hx606_1⟩ := at_T58 (Kd.R_reads' HO_14.out).2.2 x15_2 p606 q606
                              cases e606
                              replace p606 := eq_true p606
                              replace q606 := eq_true q606
                              have p607 : 0 ≤ (x15_2 : Int) := of_decide_eq_true (by first | (with_reducible assumption) | assumption)
                              have q607 : x15_2 < (t603.length : Int) := of_decide_eq_true (by first | (with_reducible assumption) | assumption)
                              obtain ⟨ad607, e607, hx607_0, hx607_1⟩ := at_T58 (Kd.R_reads' HO_14.out).2.2 x15_2 p607 q607
                              obtain rfl : ad606 = ad607 := (by injection e607)
                              replace p607 := eq_true p607
                              replace q607 := eq_true q607
                              have p608 : 0 ≤ (x15_2 : Int) := of_decide_eq_true (by first | (with_reducible assumption) | assumption)
                              have q608 : x15_2 < (t603.length : Int) := of_decide_eq_true (by first | (with_reducible assumption) | assumption)
                              obtain ⟨ad608, e608, hx608_0, hx608_1⟩ := at_T58 (Kd.R_reads' HO_14.out).2.2 x15_2 p608 q608
                              obtain rfl : ad606 = ad608 := (by injection e608)
                              replace p608 := eq_true p608
                              replace q608 := eq_true q608
                              go_wp2
                              go_roundg k2
                              case measure => have := HK1.out; have := HK2.out; omega
                              case rel => exact ⟨(wrap64 (x15_2 + 1)), (by first | rfl | (simp; done) | (simp [*]; done)), H', ⟨by have := HK1.out; have := HK2.out; omega⟩, ⟨by (with_reducible repeat (first | apply Kd.R_alloc | apply Kd.R_drewN | apply Kd.R_drew)); exact HO_14.out⟩, ⟨by (with_reducible repeat (first | refine blk_drewN ?_ _ | refine blk_drew ?_ | refine blk_alloc ?_ _)); exact BK585.out⟩, ⟨by repeat (first | (with_reducible first | exact HB.out | apply below_alloc | apply pw_below_drewN | apply below_drew1 | refine below_set ?_ GE585.out) | exact HB.out)⟩⟩
                          · rw [if_neg c31] at H
                            exact absurd H (by simp)
                        · rw [if_neg c30] at H
                          have c30b0 : (t595 == 0) = false := beq_eq_false_iff_ne.mpr c30
                          have c30b1 : (t595 != 0) = true := bne_iff_ne.mpr c30
                          by_cases c35 : t595 > 0
                          · rw [if_pos c35] at H
                            have c35b0 : decide (0 < t595) = true := decide_eq_true c35
                            clear c35
                            by_cases c36 : ((rd_T58 t603 x15_2).f1) < t594
                            · rw [if_pos c36] at H
                              exact absurd H (by simp)
                            · rw [if_neg c36] at H
                              have c36b0 : decide (((rd_T58 t603 x15_2).f1) < t594) = false := decide_eq_false c36
                              clear c36
                              by_cases c37 : ((rd_T58 t603 x15_2).f1) ≥ (wrap64 (t594 + t595))
                              · rw [if_pos c37] at H
                                exact absurd H (by simp)
                              · rw [if_neg c37] at H
                                have c37b0 : decide ((wrap64 (t594 + t595)) ≤ ((rd_T58 t603 x15_2).f1)) = false := decide_eq_false c37
                                clear c37
                                have H' := Aside0.mk H
                                clear H
                                have p606 : 0 ≤ (x15_2 : Int) := of_decide_eq_true (by first | (with_reducible assumption) | assumption)
                                have q606 : x15_2 < (t603.length : Int) := of_decide_eq_true (by first | (with_reducible assumption) | assumption)
                                obtain ⟨ad606, e606, hx606_0, hx606_1⟩ := at_T58 (Kd.R_reads' HO_14.out).2.2 x15_2 p606 q606
                                cases e606
                                replace p606 := eq_true p606
                                replace q606 := eq_true q606
                                have p607 : 0 ≤ (x15_2 : Int) := of_decide_eq_true (by first | (with_reducible assumption) | assumption)
                                have q607 : x15_2 < (t603.length : Int) := of_decide_eq_true (by first | (with_reducible assumption) | assumption)
                                obtain ⟨ad607, e607, hx607_0, hx607_1⟩ := at_T58 (Kd.R_reads' HO_14.out).2.2 x15_2 p607 q607
                                obtain rfl : ad606 = ad607 := (by injection e607)
                                replace p607 := eq_true p607
                                replace q607 := eq_true q607
                                have p611 : 0 ≤ (x15_2 : Int) := of_decide_eq_true (by first | (with_reducible assumption) | assumption)
                                have q611 : x15_2 < (t603.length : Int) := of_decide_eq_true (by first | (with_reducible assumption) | assumption)
                                obtain ⟨ad611, e611, hx611_0, hx611_1⟩ := at_T58 (Kd.R_reads' HO_14.out).2.2 x15_2 p611 q611
                                obtain rfl : ad606 = ad611 := (by injection e611)
                                replace p611 := eq_true p611
                                replace q611 := eq_true q611
                                have p612 : 0 ≤ (x15_2 : Int) := of_decide_eq_true (by first | (with_reducible assumption) | assumption)
                                have q612 : x15_2 < (t603.length : Int) := of_decide_eq_true (by first | (with_reducible assumption) | assumption)
                                obtain ⟨ad612, e612, hx612_0, hx612_1⟩ := at_T58 (Kd.R_reads' HO_14.out).2.2 x15_2 p612 q612
                                obtain rfl : ad606 = ad612 := (by injection e612)
                                replace p612 := eq_true p612
                                replace q612 := eq_true q612
                                go_wp2
                                go_roundg k2
                                case measure => have := HK1.out; have := HK2.out; omega
                                case rel => exact ⟨(wrap64 (x15_2 + 1)), (by first | rfl | (simp; done) | (simp [*]; done)), H', ⟨by have := HK1.out; have := HK2.out; omega⟩, ⟨by (with_reducible repeat (first | apply Kd.R_alloc | apply Kd.R_drewN | apply Kd.R_drew)); exact HO_14.out⟩, ⟨by (with_reducible repeat (first | refine blk_drewN ?_ _ | refine blk_drew ?_ | refine blk_alloc ?_ _)); exact BK585.out⟩, ⟨by repeat (first | (with_reducible first | exact HB.out | apply below_alloc | apply pw_below_drewN | apply below_drew1 | refine below_set ?_ GE585.out) | exact HB.out)⟩⟩
                          · rw [if_neg c35] at H
                            have c35b0 : decide (0 < t595) = false := decide_eq_false c35
                            clear c35
                            have H' := Aside0.mk H
                            clear H
                            have p606 : 0 ≤ (x15_2 : Int) := of_decide_eq_true (by first | (with_reducible assumption) | assumption)
                            have q606 : x15_2 < (t603.length : Int) := of_decide_eq_true (by first | (with_reducible assumption) | assumption)
                            obtain ⟨ad606, e606, hx606_0, hx606_1⟩ := at_T58 (Kd.R_reads' HO_14.out).2.2 x15_2 p606 q606
                            cases e606
                            replace p606 := eq_true p606
                            replace q606 := eq_true q606
                            have p607 : 0 ≤ (x15_2 : Int) := of_decide_eq_true (by first | (with_reducible assumption) | assumption)
                            have q607 : x15_2 < (t603.length : Int) := of_decide_eq_true (by first | (with_reducible assumption) | assumption)
                            obtain ⟨ad607, e607, hx607_0, hx607_1⟩ := at_T58 (Kd.R_reads' HO_14.out).2.2 x15_2 p607 q607
                            obtain rfl : ad606 = ad607 := (by injection e607)
                            replace p607 := eq_true p607
                            replace q607 := eq_true q607
                            go_wp2
                            go_roundg k2
                            case measure => have := HK1.out; have := HK2.out; omega
                            case rel => exact ⟨(wrap64 (x15_2 + 1)), (by first | rfl | (simp; done) | (simp [*]; done)), H', ⟨by have := HK1.out; have := HK2.out; omega⟩, ⟨by (with_reducible repeat (first | apply Kd.R_alloc | apply Kd.R_drewN | apply Kd.R_drew)); exact HO_14.out⟩, ⟨by (with_reducible repeat (first | refine blk_drewN ?_ _ | refine blk_drew ?_ | refine blk_alloc ?_ _)); exact BK585.out⟩, ⟨by repeat (first | (with_reducible first | exact HB.out | apply below_alloc | apply pw_below_drewN | apply below_drew1 | refine below_set ?_ GE585.out) | exact HB.out)⟩⟩
                  · rw [if_neg c27] at H
                    exact absurd H (by simp)
                · rw [if_neg c26] at H
                  have c26b0 : decide (x15_2 < (t603.length : Int)) = false := decide_eq_false c26
                  clear c26
                  have H' := Aside0.mk H
                  clear H
                  go_wp2
                  go_roundg k2
                  case measure => have := HK1.out; have := HK2.out; omega
                  case rel => exact ⟨((wrap64 (x12_1 + (t603.length : Int)))), (wrap64 (x13_1 + 1)), (by first | rfl | (simp; done) | (simp [*]; done)), (by first | rfl | (simp; done) | (simp [*]; done)), H', ⟨by have := HK1.out; have := HK2.out; omega⟩, ⟨by (with_reducible repeat (first | refine blk_drewN ?_ _ | refine blk_drew ?_ | refine blk_alloc ?_ _)); exact BK585.out⟩, ⟨by repeat (first | (with_reducible first | exact HB.out | apply below_alloc | apply pw_below_drewN | apply below_drew1 | refine below_set ?_ GE585.out) | exact HB.out)⟩⟩
          · rw [if_neg c21] at H
            have c21b0 : decide (x13_1 < t589) = false := decide_eq_false c21
            clear c21
            by_cases c38 : t586 = true
            · subst c38
              have H1 : ((h05_Products.f a0_0 a0_1 a0_2 l0_3 (Int.tmod (wrap64 (a1)) 8)).bind fun t596 => (if x12_1 = t596 then ((terms_Terms.f k1 a0_0 a0_1 a0_2 l0_3 (Int.tmod (wrap64 (a1)) 8) t589).bind fun t597 => (if (t597.length : Int) = 0 then ((terms_Terms.f k1 a0_0 a0_1 a0_2 l0_3 (Int.tmod (wrap64 (a1)) 8) (-1)).bind fun t600 => (some ((t600.length : Int) == 0))) else (none))) else (none))) = some r := by rw [if_pos rfl] at H; exact H
              clear H
              have H := H1
              clear H1
              replace H := Option.bind_eq_some_iff.mp H
              obtain ⟨t596, A390, H⟩ := H
              replace H : (if x12_1 = t596 then ((terms_Terms.f k1 a0_0 a0_1 a0_2 l0_3 (Int.tmod (wrap64 (a1)) 8) t589).bind fun t597 => (if (t597.length : Int) = 0 then ((terms_Terms.f k1 a0_0 a0_1 a0_2 l0_3 (Int.tmod (wrap64 (a1)) 8) (-1)).bind fun t600 => (some ((t600.length : Int) == 0))) else (none))) else (none)) = some r := H
              have A39 := Aside0.mk A390
              clear A390
              by_cases c40 : x12_1 = t596
              · rw [if_pos c40] at H
                have c40b0 : (x12_1 == t596) = true := beq_iff_eq.mpr c40
                have c40b1 : (x12_1 != t596) = false := bne_eq_false_iff_eq.mpr c40
                clear c40
                replace H := Option.bind_eq_some_iff.mp H
                obtain ⟨t597, A410, H⟩ := H
                replace H : (if (t597.length : Int) = 0 then ((terms_Terms.f k1 a0_0 a0_1 a0_2 l0_3 (Int.tmod (wrap64 (a1)) 8) (-1)).bind fun t600 => (some ((t600.length : Int) == 0))) else (none)) = some r := H
                have A41 := Aside0.mk A410
                clear A410
                by_cases c42 : (t597.length : Int) = 0
                · rw [if_pos c42] at H
                  have c42b0 : ((t597.length : Int) == 0) = true := beq_iff_eq.mpr c42
                  have c42b1 : ((t597.length : Int) != 0) = false := bne_eq_false_iff_eq.mpr c42
                  clear c42
                  replace H := Option.bind_eq_some_iff.mp H
                  obtain ⟨t600, A430, H⟩ := H
                  replace H : (some ((t600.length : Int) == 0)) = some r := H
                  have A43 := Aside0.mk A430
                  clear A430
                  obtain rfl := Option.some.inj H
                  have hcz44_0 : wr.cell? ⟨gb585, 0, none⟩ = some (.int .i64 a0_0) := (blk_cell BK585.out 0).trans rfl
                  have hcz44_1 : wr.cell? ⟨gb585, 1, none⟩ = some (.int .i64 a0_1) := (blk_cell BK585.out 1).trans rfl
                  have hcz44_2 : wr.cell? ⟨gb585, 2, none⟩ = some (.int .i64 a0_2) := (blk_cell BK585.out 2).trans rfl
                  have hcz44_3 : wr.cell? ⟨gb585, 3, none⟩ = some (.slice A0_3 l0_3.length c0_3) := (blk_cell BK585.out 3).trans rfl
                  have hfz44_0 := blk_frozen BK585.out 0
                  have hfz44_1 := blk_frozen BK585.out 1
                  have hfz44_2 := blk_frozen BK585.out 2
                  have hfz44_3 := blk_frozen BK585.out 3
                  go_wp2_with (first | (go_at_call 37; (with_reducible refine (h05_Products.calls a0_0 a0_1 a0_2 _ _ l0_3 (Int.tmod (wrap64 (a1)) 8) t596 _ ?side1 ?side2 A39.out).mono ?_); (case side1 => repeat (first | exact (Kd.C_below HR0_3.out HB.out) | (with_reducible refine Kd.C_alloc ?_ _) | (with_reducible refine Kd.C_drewN ?_ _) | (with_reducible refine Kd.C_drew ?_))); (case side2 => exact HC0_3.out); rintro e w45 ⟨rfl, hb⟩; have n0_ := Aside0.mk (blk_below (g := gb585) (o := .cells #[.int .i64 a0_0, .int .i64 a0_1, .int .i64 a0_2, .slice A0_3 l0_3.length c0_3] 26 (0, 0)) (by (with_reducible repeat (first | refine blk_drewN ?_ _ | refine blk_drew ?_ | refine blk_alloc ?_ _)); exact BK585.out) hb); have n1_ := Aside0.mk (below_step (by repeat (first | (with_reducible first | exact HB.out | apply below_alloc | apply pw_below_drewN | apply below_drew1 | refine below_set ?_ GE585.out) | exact HB.out)) hb); clear BK585; clear HB; have BK585 := n0_; have HB := n1_; clear n0_ n1_; (try clear hb); (try clear hb2); (try clear hk); (try clear hi); have hcz46_0 : w45.cell? ⟨gb585, 0, none⟩ = some (.int .i64 a0_0) := (blk_cell BK585.out 0).trans rfl; have hcz46_1 : w45.cell? ⟨gb585, 1, none⟩ = some (.int .i64 a0_1) := (blk_cell BK585.out 1).trans rfl; have hcz46_2 : w45.cell? ⟨gb585, 2, none⟩ = some (.int .i64 a0_2) := (blk_cell BK585.out 2).trans rfl; have hcz46_3 : w45.cell? ⟨gb585, 3, none⟩ = some (.slice A0_3 l0_3.length c0_3) := (blk_cell BK585.out 3).trans rfl; have hfz46_0 := blk_frozen BK585.out 0; have hfz46_1 := blk_frozen BK585.out 1; have hfz46_2 := blk_frozen BK585.out 2; have hfz46_3 := blk_frozen BK585.out 3) | (go_at_call 45; (with_reducible refine (terms_Terms.calls k1 a0_0 a0_1 a0_2 _ _ l0_3 (Int.tmod (wrap64 (a1)) 8) t589 t597 _ ?side1 ?side2 A41.out).mono ?_); (case side1 => repeat (first | exact (Kd.C_below HR0_3.out HB.out) | (with_reducible refine Kd.C_alloc ?_ _) | (with_reducible refine Kd.C_drewN ?_ _) | (with_reducible refine Kd.C_drew ?_))); (case side2 => exact HC0_3.out); rintro e w47 ⟨v598, rfl, ho0, hb⟩; have n0_ := Aside0.mk (Kd.R_lower ho0 (below_size (by repeat (first | (with_reducible first | exact HB.out | apply below_alloc | apply pw_below_drewN | apply below_drew1 | refine below_set ?_ GE585.out) | exact HB.out)))); have n1_ := Aside0.mk (blk_below (g := gb585) (o := .cells #[.int .i64 a0_0, .int .i64 a0_1, .int .i64 a0_2, .slice A0_3 l0_3.length c0_3] 26 (0, 0)) (by (with_reducible repeat (first | refine blk_drewN ?_ _ | refine blk_drew ?_ | refine blk_alloc ?_ _)); exact BK585.out) hb); have n2_ := Aside0.mk (below_step (by repeat (first | (with_reducible first | exact HB.out | apply below_alloc | apply pw_below_drewN | apply below_drew1 | refine below_set ?_ GE585.out) | exact HB.out)) hb); clear BK585; clear HB; have HO599 := n0_; have BK585 := n1_; have HB := n2_; clear n0_ n1_ n2_; (try clear hb); (try clear hb2); (try clear hk); (try clear hi); (try clear ho0); obtain ⟨Ao48, co48, eo48⟩ := Kd.R_slice HO599.out; subst eo48; have hcz49_0 : w47.cell? ⟨gb585, 0, none⟩ = some (.int .i64 a0_0) := (blk_cell BK585.out 0).trans rfl; have hcz49_1 : w47.cell? ⟨gb585, 1, none⟩ = some (.int .i64 a0_1) := (blk_cell BK585.out 1).trans rfl; have hcz49_2 : w47.cell? ⟨gb585, 2, none⟩ = some (.int .i64 a0_2) := (blk_cell BK585.out 2).trans rfl; have hcz49_3 : w47.cell? ⟨gb585, 3, none⟩ = some (.slice A0_3 l0_3.length c0_3) := (blk_cell BK585.out 3).trans rfl; have hfz49_0 := blk_frozen BK585.out 0; have hfz49_1 := blk_frozen BK585.out 1; have hfz49_2 := blk_frozen BK585.out 2; have hfz49_3 := blk_frozen BK585.out 3) | (go_at_call 45; (with_reducible refine (terms_Terms.calls k1 a0_0 a0_1 a0_2 _ _ l0_3 (Int.tmod (wrap64 (a1)) 8) (-1) t600 _ ?side1 ?side2 A43.out).mono ?_); (case side1 => repeat (first | exact (Kd.C_below HR0_3.out HB.out) | (with_reducible refine Kd.C_alloc ?_ _) | (with_reducible refine Kd.C_drewN ?_ _) | (with_reducible refine Kd.C_drew ?_))); (case side2 => exact HC0_3.out); rintro e w50 ⟨v601, rfl, ho0, hb⟩; have n0_ := Aside0.mk (Kd.R_elder' (by (with_reducible repeat (first | apply Kd.R_alloc | apply Kd.R_drewN | apply Kd.R_drew)); exact HO599.out) (Kd.R_base ho0) hb); have n1_ := Aside0.mk (Kd.R_lower (Kd.R_new' ho0 (Kd.R_lt (by (with_reducible repeat (first | apply Kd.R_alloc | apply Kd.R_drewN | apply Kd.R_drew)); exact HO599.out))) (below_size (by repeat (first | (with_reducible first | exact HB.out | apply below_alloc | apply pw_below_drewN | apply below_drew1 | refine below_set ?_ GE585.out) | exact HB.out)))); have n2_ := Aside0.mk (blk_below (g := gb585) (o := .cells #[.int .i64 a0_0, .int .i64 a0_1, .int .i64 a0_2, .slice A0_3 l0_3.length c0_3] 26 (0, 0)) (by (with_reducible repeat (first | refine blk_drewN ?_ _ | refine blk_drew ?_ | refine blk_alloc ?_ _)); exact BK585.out) hb); have n3_ := Aside0.mk (below_step (by repeat (first | (with_reducible first | exact HB.out | apply below_alloc | apply pw_below_drewN | apply below_drew1 | refine below_set ?_ GE585.out) | exact HB.out)) hb); clear HO599; clear BK585; clear HB; have HO599 := n0_; have HO602 := n1_; have BK585 := n2_; have HB := n3_; clear n0_ n1_ n2_ n3_; (try clear hb); (try clear hb2); (try clear hk); (try clear hi); (try clear ho0); obtain ⟨Ao51, co51, eo51⟩ := Kd.R_slice HO602.out; subst eo51))
                  go_ret
                  exact ⟨by first | rfl | (simp [errW_none, errW_some] <;> rfl) | (simp [*, errW_none, errW_some] <;> rfl), by repeat (first | (with_reducible first | exact HB.out | apply below_alloc | apply pw_below_drewN | apply below_drew1 | refine below_set ?_ GE585.out) | exact HB.out)⟩
                · rw [if_neg c42] at H
                  exact absurd H (by simp)
              · rw [if_neg c40] at H
                exact absurd H (by simp)
            · replace c38 := Bool.eq_false_iff.mpr c38
              subst c38
              have H1 : (none) = some r := by rw [if_neg (show ¬ (false = true) by decide)] at H; exact H
              clear H
              have H := H1
              clear H1
              exact absurd H (by simp)
    · replace c11 := Bool.eq_false_iff.mpr c11
      subst c11
      have H1 : (if t586 = true then ((terms_Terms.f k a0_0 a0_1 a0_2 l0_3 (Int.tmod (wrap64 (a1)) 8) 0).bind fun t591 => (some ((t591.length : Int) == 0))) else (none)) = some r := by rw [if_neg (show ¬ (false = true) by decide)] at H; exact H
      clear H
      have H := H1
      clear H1
      by_cases c52 : t586 = true
      · subst c52
        have H1 : ((terms_Terms.f k a0_0 a0_1 a0_2 l0_3 (Int.tmod (wrap64 (a1)) 8) 0).bind fun t591 => (some ((t591.length : Int) == 0))) = some r := by rw [if_pos rfl] at H; exact H
        clear H
        have H := H1
        clear H1
        replace H := Option.bind_eq_some_iff.mp H
        obtain ⟨t591, A530, H⟩ := H
        replace H : (some ((t591.length : Int) == 0)) = some r := H
        have A53 := Aside0.mk A530
        clear A530
        obtain rfl := Option.some.inj H
        go_enter Try.func10, Try.ntmps10
        go_wp2_with (first | ((with_reducible refine gate_dst (N := 2) rfl ?_); (try (refine gate_guard (by rfl) ?_; dsimp only)); refine box_event ?hg (N := 2) ?hd (cs := #[.int .i64 a0_0, .int .i64 a0_1, .int .i64 a0_2, .slice A0_3 l0_3.length c0_3]) (t := 26) ?hr ?_; (case hd => rfl); (case hg => rfl); (case hr => first | (go_simp; done) | (go_simp; rfl)); intro gb585 hg w54 hbox hb; have n0_ := Aside0.mk (below_step (by repeat (first | (with_reducible first | exact HB.out | apply below_alloc | apply pw_below_drewN | apply below_drew1) | exact HB.out)) hb); have n1_ := Aside0.mk (hbox); have n2_ := Aside0.mk ((by rw [hg]; exact (below_size (by repeat (first | (with_reducible first | exact HB.out | apply below_alloc | apply pw_below_drewN | apply below_drew1) | exact HB.out))) : w.heap.size ≤ gb585)); have n3_ := Aside0.mk ((by rw [hg]; exact (below_size (by repeat (first | (with_reducible first | exact HB.out | apply below_alloc | apply pw_below_drewN | apply below_drew1) | exact HB.out))) : w.heap.size ≤ gb585)); clear HB; have HB := n0_; have BK585 := n1_; have GW585 := n2_; have GE585 := n3_; clear n0_ n1_ n2_ n3_; clear hb hbox hg) | ((with_reducible refine gate_callee (f := 43) rfl ?_); refine goesL_ (some 16) rfl rfl Try.func43 (by kernel_rfl) rfl #[] rfl (by (try simp only [List.map_toArray, List.map_cons, List.map_nil]); first | done | rfl | (simp only [List.length_drop, List.length_take]; rfl)) ?_; (with_reducible refine (symbolonlaw06_head.calls k  true _ A3.out).mono ?_); rintro e w55 ⟨rfl, hb⟩; refine ⟨_, rfl, ?_⟩; have n0_ := Aside0.mk (blk_below (g := gb585) (o := .cells #[.int .i64 a0_0, .int .i64 a0_1, .int .i64 a0_2, .slice A0_3 l0_3.length c0_3] 26 (0, 0)) (by (with_reducible repeat (first | refine blk_drewN ?_ _ | refine blk_drew ?_ | refine blk_alloc ?_ _)); exact BK585.out) hb); have n1_ := Aside0.mk (below_step (by repeat (first | (with_reducible first | exact HB.out | apply below_alloc | apply pw_below_drewN | apply below_drew1 | refine below_set ?_ GE585.out) | exact HB.out)) hb); clear BK585; clear HB; have BK585 := n0_; have HB := n1_; clear n0_ n1_; (try clear hb); (try clear hb2); (try clear hk); (try clear hi); have hcz56_0 : w55.cell? ⟨gb585, 0, none⟩ = some (.int .i64 a0_0) := (blk_cell BK585.out 0).trans rfl; have hcz56_1 : w55.cell? ⟨gb585, 1, none⟩ = some (.int .i64 a0_1) := (blk_cell BK585.out 1).trans rfl; have hcz56_2 : w55.cell? ⟨gb585, 2, none⟩ = some (.int .i64 a0_2) := (blk_cell BK585.out 2).trans rfl; have hcz56_3 : w55.cell? ⟨gb585, 3, none⟩ = some (.slice A0_3 l0_3.length c0_3) := (blk_cell BK585.out 3).trans rfl; have hfz56_0 := blk_frozen BK585.out 0; have hfz56_1 := blk_frozen BK585.out 1; have hfz56_2 := blk_frozen BK585.out 2; have hfz56_3 := blk_frozen BK585.out 3) | ((with_reducible refine gate_callee (f := 26) rfl ?_); refine goesL_ (some 21) rfl rfl Try.func26 (by kernel_rfl) rfl #[.agg #[.int .i64 a0_0, .int .i64 a0_1, .int .i64 a0_2, .slice A0_3 l0_3.length c0_3]] rfl (by (try simp only [List.map_toArray, List.map_cons, List.map_nil]); first | done | rfl | (simp only [List.length_drop, List.length_take]; rfl)) ?_; (with_reducible refine (symbolonlaw04_Great.calls a0_0 a0_1 a0_2 _ _ l0_3 false _ ?side1 ?side2 A4.out).mono ?_); (case side1 => repeat (first | exact (Kd.C_below HR0_3.out HB.out) | (with_reducible refine Kd.C_alloc ?_ _) | (with_reducible refine Kd.C_drewN ?_ _) | (with_reducible refine Kd.C_drew ?_))); (case side2 => exact HC0_3.out); rintro e w57 ⟨rfl, hb⟩; refine ⟨_, rfl, ?_⟩; have n0_ := Aside0.mk (blk_below (g := gb585) (o := .cells #[.int .i64 a0_0, .int .i64 a0_1, .int .i64 a0_2, .slice A0_3 l0_3.length c0_3] 26 (0, 0)) (by (with_reducible repeat (first | refine blk_drewN ?_ _ | refine blk_drew ?_ | refine blk_alloc ?_ _)); exact BK585.out) hb); have n1_ := Aside0.mk (below_step (by repeat (first | (with_reducible first | exact HB.out | apply below_alloc | apply pw_below_drewN | apply below_drew1 | refine below_set ?_ GE585.out) | exact HB.out)) hb); clear BK585; clear HB; have BK585 := n0_; have HB := n1_; clear n0_ n1_; (try clear hb); (try clear hb2); (try clear hk); (try clear hi); have hcz58_0 : w57.cell? ⟨gb585, 0, none⟩ = some (.int .i64 a0_0) := (blk_cell BK585.out 0).trans rfl; have hcz58_1 : w57.cell? ⟨gb585, 1, none⟩ = some (.int .i64 a0_1) := (blk_cell BK585.out 1).trans rfl; have hcz58_2 : w57.cell? ⟨gb585, 2, none⟩ = some (.int .i64 a0_2) := (blk_cell BK585.out 2).trans rfl; have hcz58_3 : w57.cell? ⟨gb585, 3, none⟩ = some (.slice A0_3 l0_3.length c0_3) := (blk_cell BK585.out 3).trans rfl; have hfz58_0 := blk_frozen BK585.out 0; have hfz58_1 := blk_frozen BK585.out 1; have hfz58_2 := blk_frozen BK585.out 2; have hfz58_3 := blk_frozen BK585.out 3) | ((with_reducible refine gate_callee (f := 50) rfl ?_); refine goesL_ (some 26) rfl rfl Try.func50 (by kernel_rfl) rfl #[.agg #[.int .i64 a0_0, .int .i64 a0_1, .int .i64 a0_2, .slice A0_3 l0_3.length c0_3], .int .i64 (Int.tmod (wrap64 (a1)) 8)] rfl (by (try simp only [List.map_toArray, List.map_cons, List.map_nil]); first | done | rfl | (simp only [List.length_drop, List.length_take]; rfl)) ?_; (with_reducible refine (symbolonlaw06_sizes.calls k a0_0 a0_1 a0_2 _ _ l0_3 (Int.tmod (wrap64 (a1)) 8) t588 t589 false _ ?side1 ?side2 A10.out).mono ?_); (case side1 => repeat (first | exact (Kd.C_below HR0_3.out HB.out) | (with_reducible refine Kd.C_alloc ?_ _) | (with_reducible refine Kd.C_drewN ?_ _) | (with_reducible refine Kd.C_drew ?_))); (case side2 => exact HC0_3.out); rintro e w59 ⟨rfl, hb⟩; refine ⟨_, rfl, ?_⟩; have n0_ := Aside0.mk (blk_below (g := gb585) (o := .cells #[.int .i64 a0_0, .int .i64 a0_1, .int .i64 a0_2, .slice A0_3 l0_3.length c0_3] 26 (0, 0)) (by (with_reducible repeat (first | refine blk_drewN ?_ _ | refine blk_drew ?_ | refine blk_alloc ?_ _)); exact BK585.out) hb); have n1_ := Aside0.mk (below_step (by repeat (first | (with_reducible first | exact HB.out | apply below_alloc | apply pw_below_drewN | apply below_drew1 | refine below_set ?_ GE585.out) | exact HB.out)) hb); clear BK585; clear HB; have BK585 := n0_; have HB := n1_; clear n0_ n1_; (try clear hb); (try clear hb2); (try clear hk); (try clear hi); have hcz60_0 : w59.cell? ⟨gb585, 0, none⟩ = some (.int .i64 a0_0) := (blk_cell BK585.out 0).trans rfl; have hcz60_1 : w59.cell? ⟨gb585, 1, none⟩ = some (.int .i64 a0_1) := (blk_cell BK585.out 1).trans rfl; have hcz60_2 : w59.cell? ⟨gb585, 2, none⟩ = some (.int .i64 a0_2) := (blk_cell BK585.out 2).trans rfl; have hcz60_3 : w59.cell? ⟨gb585, 3, none⟩ = some (.slice A0_3 l0_3.length c0_3) := (blk_cell BK585.out 3).trans rfl; have hfz60_0 := blk_frozen BK585.out 0; have hfz60_1 := blk_frozen BK585.out 1; have hfz60_2 := blk_frozen BK585.out 2; have hfz60_3 := blk_frozen BK585.out 3) | (go_at_call 45; (with_reducible refine (terms_Terms.calls k a0_0 a0_1 a0_2 _ _ l0_3 (Int.tmod (wrap64 (a1)) 8) 0 t591 _ ?side1 ?side2 A53.out).mono ?_); (case side1 => repeat (first | exact (Kd.C_below HR0_3.out HB.out) | (with_reducible refine Kd.C_alloc ?_ _) | (with_reducible refine Kd.C_drewN ?_ _) | (with_reducible refine Kd.C_drew ?_))); (case side2 => exact HC0_3.out); rintro e w61 ⟨v592, rfl, ho0, hb⟩; have n0_ := Aside0.mk (Kd.R_lower ho0 (below_size (by repeat (first | (with_reducible first | exact HB.out | apply below_alloc | apply pw_below_drewN | apply below_drew1 | refine below_set ?_ GE585.out) | exact HB.out)))); have n1_ := Aside0.mk (blk_below (g := gb585) (o := .cells #[.int .i64 a0_0, .int .i64 a0_1, .int .i64 a0_2, .slice A0_3 l0_3.length c0_3] 26 (0, 0)) (by (with_reducible repeat (first | refine blk_drewN ?_ _ | refine blk_drew ?_ | refine blk_alloc ?_ _)); exact BK585.out) hb); have n2_ := Aside0.mk (below_step (by repeat (first | (with_reducible first | exact HB.out | apply below_alloc | apply pw_below_drewN | apply below_drew1 | refine below_set ?_ GE585.out) | exact HB.out)) hb); clear BK585; clear HB; have HO593 := n0_; have BK585 := n1_; have HB := n2_; clear n0_ n1_ n2_; (try clear hb); (try clear hb2); (try clear hk); (try clear hi); (try clear ho0); obtain ⟨Ao62, co62, eo62⟩ := Kd.R_slice HO593.out; subst eo62))
        go_ret
        exact ⟨by first | rfl | (simp [errW_none, errW_some] <;> rfl) | (simp [*, errW_none, errW_some] <;> rfl), by repeat (first | (with_reducible first | exact HB.out | apply below_alloc | apply pw_below_drewN | apply below_drew1 | refine below_set ?_ GE585.out) | exact HB.out)⟩
      · replace c52 := Bool.eq_false_iff.mpr c52
        subst c52
        have H1 : (none) = some r := by rw [if_neg (show ¬ (false = true) by decide)] at H; exact H
        clear H
        have H := H1
        clear H1
        exact absurd H (by simp)

end Go.Proofs.Ytnfcadjckoebkaa.P
