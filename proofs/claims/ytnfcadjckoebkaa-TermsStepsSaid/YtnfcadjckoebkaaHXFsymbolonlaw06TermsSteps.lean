
import Derived.Test.YtnfcadjckoebkaaHX0
import Derived.Test.YtnfcadjckoebkaaHXRD
import Derived.Test.YtnfcadjckoebkaaHXRi
import Derived.Test.YtnfcadjckoebkaaHXTm
import Derived.Test.YtnfcadjckoebkaaHXLF
import Derived.Test.YtnfcadjckoebkaaHXRBo
import Derived.Test.YtnfcadjckoebkaaHXLFs
namespace Go.Proofs.Ytnfcadjckoebkaa.P
open Go.RowKit Go.Proofs.YtnfcadjckoebkaaW.PrintWords Go.Proofs.YtnfcadjckoebkaaW.PrintLast Go.Proofs.YtnfcadjckoebkaaW.PrintMore
attribute [local go_sem] min2_int min_two
set_option linter.unusedVariables false
set_option linter.unusedSimpArgs false
mutual
def symbolonlaw06_TermsSteps.j0 : Nat → Int → Bool → Int → Int → Bool → Int → Int → Int → List (S40) → Option (Bool)
  | 0, _, _, _, _, _, _, _, _, _ => none
  | k + 1, x2, x7, x8, x10, x46, x692000, x692001, x692002, x692003 => if x46 = true then (some x7) else ((h05_Shapes.f x692000 x692001 x692002 x692003).bind fun bt698 => (if x10 = 0 then (none) else (if 0 ≤ (wrap64 (x8 + 1)) then (if (wrap64 (x8 + 1)) < (bt698.1.length : Int) then ((symbolonref02_Of.f k ((rd_T23 bt698.1 (wrap64 (x8 + 1))).f0) ((rd_T23 bt698.1 (wrap64 (x8 + 1))).f1) ((rd_T23 bt698.1 (wrap64 (x8 + 1))).f2) (Int.tmod (wrap64 (x2)) x10)).bind fun bt703 => (if (wrap64 (bt703.2.2.1 + 1)) ≥ ((rd_T23 bt698.1 (wrap64 (x8 + 1))).f2) then (some x7) else ((terms_Terms.f k x692000 x692001 x692002 x692003 x8 (Int.tmod (wrap64 (x2)) x10)).bind fun t708 => ((terms_Terms.f k x692000 x692001 x692002 x692003 x8 (wrap64 ((Int.tmod (wrap64 (x2)) x10) + 1))).bind fun t711 => (if (t708.length : Int) = (t711.length : Int) then (symbolonlaw06_TermsSteps.l0 k x7 x8 t708 t711 0 x692000 x692001 x692002 x692003) else (none)))))) else (none)) else (none))))
def symbolonlaw06_TermsSteps.l0 : Nat → Bool → Int → List (S58) → List (S58) → Int → Int → Int → Int → List (S40) → Option (Bool)
  | 0, _, _, _, _, _, _, _, _, _ => none
  | k + 1, x7, x8, x19, x20, x21, x692000, x692001, x692002, x692003 => if x21 < (x19.length : Int) then (if 0 ≤ x21 then (if x21 < (x20.length : Int) then (if 0 ≤ x8 then (if x8 < (x692003.length : Int) then (if ((rd_T58 x20 x21).f0) = (wrap64 (((rd_T58 x19 x21).f0) + ((rd_T40 x692003 x8).f3))) then (if ((rd_T58 x20 x21).f1) = ((rd_T58 x19 x21).f1) then (symbolonlaw06_TermsSteps.l0 k x7 x8 x19 x20 (wrap64 (x21 + 1)) x692000 x692001 x692002 x692003) else (none)) else (none)) else (none)) else (none)) else (none)) else (none)) else (some x7)
end
def symbolonlaw06_TermsSteps.f (k : Nat) (a0_0 : Int) (a0_1 : Int) (a0_2 : Int) (l0_3 : List (S40)) (a1 : Int) (a2 : Int) : Option (Bool) := (symbolonlaw06_head.f k).bind fun t692 => ((symbolonlaw04_Great.f a0_0 a0_1 a0_2 l0_3).bind fun t693 => (if t693 = true then (some t692) else ((symbolonlaw06_sizes.f k a0_0 a0_1 a0_2 l0_3 (Int.tmod (wrap64 (a1)) 8)).bind fun bt694 => (if bt694.2.2 = true then (if 0 ≤ (Int.tmod (wrap64 (a1)) 8) then (if (Int.tmod (wrap64 (a1)) 8) < (l0_3.length : Int) then (symbolonlaw06_TermsSteps.j0 k a2 t692 (Int.tmod (wrap64 (a1)) 8) bt694.2.1 (((rd_T40 l0_3 (Int.tmod (wrap64 (a1)) 8)).f0) != 1) a0_0 a0_1 a0_2 l0_3) else (none)) else (none)) else (symbolonlaw06_TermsSteps.j0 k a2 t692 (Int.tmod (wrap64 (a1)) 8) bt694.2.1 true a0_0 a0_1 a0_2 l0_3)))))
set_option maxHeartbeats 8000000 in
set_option maxRecDepth 100000 in
theorem symbolonlaw06_TermsSteps.calls (k : Nat) (a0_0 : Int) (a0_1 : Int) (a0_2 : Int) (A0_3 : Option Addr) (c0_3 : Nat) (l0_3 : List (S40)) (a1 : Int) (a2 : Int) (r : Bool) (w : World) (hr0_3 : Kd.C k40 w A0_3 l0_3.length l0_3) (hc0_3 : l0_3.length ≤ c0_3) (h : symbolonlaw06_TermsSteps.f k a0_0 a0_1 a0_2 l0_3 a1 a2 = some r) :
    Calls Try.prog 14 #[.agg #[.int .i64 a0_0, .int .i64 a0_1, .int .i64 a0_2, .slice A0_3 l0_3.length c0_3], .int .u8 a1, .int .u8 a2] w fun e w' => e = .returned (.bool r) ∧ Below w.heap.size w w' := by
  have hu26 := Try.underlying26
  have hu23 := Try.underlying23
  have HR0_3 := Aside0.mk hr0_3
  have HC0_3 := Aside0.mk hc0_3
  clear hr0_3 hc0_3
  have HB := Aside0.mk (Below.refl w.heap.size w)
  have H : ((symbolonlaw06_head.f k).bind fun t692 => ((symbolonlaw04_Great.f a0_0 a0_1 a0_2 l0_3).bind fun t693 => (if t693 = true then (some t692) else ((symbolonlaw06_sizes.f k a0_0 a0_1 a0_2 l0_3 (Int.tmod (wrap64 (a1)) 8)).bind fun bt694 => (if bt694.2.2 = true then (if 0 ≤ (Int.tmod (wrap64 (a1)) 8) then (if (Int.tmod (wrap64 (a1)) 8) < (l0_3.length : Int) then (symbolonlaw06_TermsSteps.j0 k a2 t692 (Int.tmod (wrap64 (a1)) 8) bt694.2.1 (((rd_T40 l0_3 (Int.tmod (wrap64 (a1)) 8)).f0) != 1) a0_0 a0_1 a0_2 l0_3) else (none)) else (none)) else (symbolonlaw06_TermsSteps.j0 k a2 t692 (Int.tmod (wrap64 (a1)) 8) bt694.2.1 true a0_0 a0_1 a0_2 l0_3)))))) = some r := h
  clear h
  replace H := Option.bind_eq_some_iff.mp H
  obtain ⟨t692, A40, H⟩ := H
  replace H : ((symbolonlaw04_Great.f a0_0 a0_1 a0_2 l0_3).bind fun t693 => (if t693 = true then (some t692) else ((symbolonlaw06_sizes.f k a0_0 a0_1 a0_2 l0_3 (Int.tmod (wrap64 (a1)) 8)).bind fun bt694 => (if bt694.2.2 = true then (if 0 ≤ (Int.tmod (wrap64 (a1)) 8) then (if (Int.tmod (wrap64 (a1)) 8) < (l0_3.length : Int) then (symbolonlaw06_TermsSteps.j0 k a2 t692 (Int.tmod (wrap64 (a1)) 8) bt694.2.1 (((rd_T40 l0_3 (Int.tmod (wrap64 (a1)) 8)).f0) != 1) a0_0 a0_1 a0_2 l0_3) else (none)) else (none)) else (symbolonlaw06_TermsSteps.j0 k a2 t692 (Int.tmod (wrap64 (a1)) 8) bt694.2.1 true a0_0 a0_1 a0_2 l0_3))))) = some r := H
  have A4 := Aside0.mk A40
  clear A40
  replace H := Option.bind_eq_some_iff.mp H
  obtain ⟨t693, A50, H⟩ := H
  replace H : (if t693 = true then (some t692) else ((symbolonlaw06_sizes.f k a0_0 a0_1 a0_2 l0_3 (Int.tmod (wrap64 (a1)) 8)).bind fun bt694 => (if bt694.2.2 = true then (if 0 ≤ (Int.tmod (wrap64 (a1)) 8) then (if (Int.tmod (wrap64 (a1)) 8) < (l0_3.length : Int) then (symbolonlaw06_TermsSteps.j0 k a2 t692 (Int.tmod (wrap64 (a1)) 8) bt694.2.1 (((rd_T40 l0_3 (Int.tmod (wrap64 (a1)) 8)).f0) != 1) a0_0 a0_1 a0_2 l0_3) else (none)) else (none)) else (symbolonlaw06_TermsSteps.j0 k a2 t692 (Int.tmod (wrap64 (a1)) 8) bt694.2.1 true a0_0 a0_1 a0_2 l0_3)))) = some r := H
  have A5 := Aside0.mk A50
  clear A50
  by_cases c6 : t693 = true
  · subst c6
    have H1 : (some t692) = some r := by rw [if_pos rfl] at H; exact H
    clear H
    have H := H1
    clear H1
    obtain rfl := Option.some.inj H
    go_enter Try.func14, Try.ntmps14
    go_wp2_with (first | ((with_reducible refine gate_dst (N := 3) rfl ?_); refine box_event ?hg (N := 3) ?hd (cs := #[.int .i64 a0_0, .int .i64 a0_1, .int .i64 a0_2, .slice A0_3 l0_3.length c0_3]) (t := 26) ?hr ?_; (case hd => rfl); (case hg => rfl); (case hr => first | (go_simp; done) | (go_simp; rfl)); intro gb691 hg w7 hbox hb; have n0_ := Aside0.mk (below_step (by repeat (first | (with_reducible first | exact HB.out | apply below_alloc | apply pw_below_drewN | apply below_drew1) | exact HB.out)) hb); have n1_ := Aside0.mk (hbox); have n2_ := Aside0.mk ((by rw [hg]; exact (below_size (by repeat (first | (with_reducible first | exact HB.out | apply below_alloc | apply pw_below_drewN | apply below_drew1) | exact HB.out))) : w.heap.size ≤ gb691)); have n3_ := Aside0.mk ((by rw [hg]; exact (below_size (by repeat (first | (with_reducible first | exact HB.out | apply below_alloc | apply pw_below_drewN | apply below_drew1) | exact HB.out))) : w.heap.size ≤ gb691)); clear HB; have HB := n0_; have BK691 := n1_; have GW691 := n2_; have GE691 := n3_; clear n0_ n1_ n2_ n3_; clear hb hbox hg) | (go_at_call 43; (with_reducible refine (symbolonlaw06_head.calls k  t692 _ A4.out).mono ?_); rintro e w8 ⟨rfl, hb⟩; have n0_ := Aside0.mk (blk_below (g := gb691) (o := .cells #[.int .i64 a0_0, .int .i64 a0_1, .int .i64 a0_2, .slice A0_3 l0_3.length c0_3] 26 (0, 0)) (by (with_reducible repeat (first | refine blk_drewN ?_ _ | refine blk_drew ?_ | refine blk_alloc ?_ _)); exact BK691.out) hb); have n1_ := Aside0.mk (below_step (by repeat (first | (with_reducible first | exact HB.out | apply below_alloc | apply pw_below_drewN | apply below_drew1 | refine below_set ?_ GE691.out) | exact HB.out)) hb); clear BK691; clear HB; have BK691 := n0_; have HB := n1_; clear n0_ n1_; (try clear hb); (try clear hb2); (try clear hk); (try clear hi); have hcz9_0 : w8.cell? ⟨gb691, 0, none⟩ = some (.int .i64 a0_0) := (blk_cell BK691.out 0).trans rfl; have hcz9_1 : w8.cell? ⟨gb691, 1, none⟩ = some (.int .i64 a0_1) := (blk_cell BK691.out 1).trans rfl; have hcz9_2 : w8.cell? ⟨gb691, 2, none⟩ = some (.int .i64 a0_2) := (blk_cell BK691.out 2).trans rfl; have hcz9_3 : w8.cell? ⟨gb691, 3, none⟩ = some (.slice A0_3 l0_3.length c0_3) := (blk_cell BK691.out 3).trans rfl; have hfz9_0 := blk_frozen BK691.out 0; have hfz9_1 := blk_frozen BK691.out 1; have hfz9_2 := blk_frozen BK691.out 2; have hfz9_3 := blk_frozen BK691.out 3) | (go_at_call 26; (with_reducible refine (symbolonlaw04_Great.calls a0_0 a0_1 a0_2 _ _ l0_3 true _ ?side1 ?side2 A5.out).mono ?_); (case side1 => repeat (first | exact (Kd.C_below HR0_3.out HB.out) | (with_reducible refine Kd.C_alloc ?_ _) | (with_reducible refine Kd.C_drewN ?_ _) | (with_reducible refine Kd.C_drew ?_))); (case side2 => exact HC0_3.out); rintro e w10 ⟨rfl, hb⟩; have n0_ := Aside0.mk (blk_below (g := gb691) (o := .cells #[.int .i64 a0_0, .int .i64 a0_1, .int .i64 a0_2, .slice A0_3 l0_3.length c0_3] 26 (0, 0)) (by (with_reducible repeat (first | refine blk_drewN ?_ _ | refine blk_drew ?_ | refine blk_alloc ?_ _)); exact BK691.out) hb); have n1_ := Aside0.mk (below_step (by repeat (first | (with_reducible first | exact HB.out | apply below_alloc | apply pw_below_drewN | apply below_drew1 | refine below_set ?_ GE691.out) | exact HB.out)) hb); clear BK691; clear HB; have BK691 := n0_; have HB := n1_; clear n0_ n1_; (try clear hb); (try clear hb2); (try clear hk); (try clear hi)))
    repeat (go_quiet (first | ((with_reducible refine gate_dst (N := 3) rfl ?_); refine box_event ?hg (N := 3) ?hd (cs := #[.int .i64 a0_0, .int .i64 a0_1, .int .i64 a0_2, .slice A0_3 l0_3.length c0_3]) (t := 26) ?hr ?_; (case hd => rfl); (case hg => rfl); (case hr => first | (go_simp; done) | (go_simp; rfl)); intro gb691 hg w7 hbox hb; have n0_ := Aside0.mk (below_step (by repeat (first | (with_reducible first | exact HB.out | apply below_alloc | apply pw_below_drewN | apply below_drew1) | exact HB.out)) hb); have n1_ := Aside0.mk (hbox); have n2_ := Aside0.mk ((by rw [hg]; exact (below_size (by repeat (first | (with_reducible first | exact HB.out | apply below_alloc | apply pw_below_drewN | apply below_drew1) | exact HB.out))) : w.heap.size ≤ gb691)); have n3_ := Aside0.mk ((by rw [hg]; exact (below_size (by repeat (first | (with_reducible first | exact HB.out | apply below_alloc | apply pw_below_drewN | apply below_drew1) | exact HB.out))) : w.heap.size ≤ gb691)); clear HB; have HB := n0_; have BK691 := n1_; have GW691 := n2_; have GE691 := n3_; clear n0_ n1_ n2_ n3_; clear hb hbox hg) | (go_at_call 43; (with_reducible refine (symbolonlaw06_head.calls k  t692 _ A4.out).mono ?_); rintro e w8 ⟨rfl, hb⟩; have n0_ := Aside0.mk (blk_below (g := gb691) (o := .cells #[.int .i64 a0_0, .int .i64 a0_1, .int .i64 a0_2, .slice A0_3 l0_3.length c0_3] 26 (0, 0)) (by (with_reducible repeat (first | refine blk_drewN ?_ _ | refine blk_drew ?_ | refine blk_alloc ?_ _)); exact BK691.out) hb); have n1_ := Aside0.mk (below_step (by repeat (first | (with_reducible first | exact HB.out | apply below_alloc | apply pw_below_drewN | apply below_drew1 | refine below_set ?_ GE691.out) | exact HB.out)) hb); clear BK691; clear HB; have BK691 := n0_; have HB := n1_; clear n0_ n1_; (try clear hb); (try clear hb2); (try clear hk); (try clear hi); have hcz9_0 : w8.cell? ⟨gb691, 0, none⟩ = some (.int .i64 a0_0) := (blk_cell BK691.out 0).trans rfl; have hcz9_1 : w8.cell? ⟨gb691, 1, none⟩ = some (.int .i64 a0_1) := (blk_cell BK691.out 1).trans rfl; have hcz9_2 : w8.cell? ⟨gb691, 2, none⟩ = some (.int .i64 a0_2) := (blk_cell BK691.out 2).trans rfl; have hcz9_3 : w8.cell? ⟨gb691, 3, none⟩ = some (.slice A0_3 l0_3.length c0_3) := (blk_cell BK691.out 3).trans rfl; have hfz9_0 := blk_frozen BK691.out 0; have hfz9_1 := blk_frozen BK691.out 1; have hfz9_2 := blk_frozen BK691.out 2; have hfz9_3 := blk_frozen BK691.out 3) | (go_at_call 26; (with_reducible refine (symbolonlaw04_Great.calls a0_0 a0_1 a0_2 _ _ l0_3 true _ ?side1 ?side2 A5.out).mono ?_); (case side1 => repeat (first | exact (Kd.C_below HR0_3.out HB.out) | (with_reducible refine Kd.C_alloc ?_ _) | (with_reducible refine Kd.C_drewN ?_ _) | (with_reducible refine Kd.C_drew ?_))); (case side2 => exact HC0_3.out); rintro e w10 ⟨rfl, hb⟩; have n0_ := Aside0.mk (blk_below (g := gb691) (o := .cells #[.int .i64 a0_0, .int .i64 a0_1, .int .i64 a0_2, .slice A0_3 l0_3.length c0_3] 26 (0, 0)) (by (with_reducible repeat (first | refine blk_drewN ?_ _ | refine blk_drew ?_ | refine blk_alloc ?_ _)); exact BK691.out) hb); have n1_ := Aside0.mk (below_step (by repeat (first | (with_reducible first | exact HB.out | apply below_alloc | apply pw_below_drewN | apply below_drew1 | refine below_set ?_ GE691.out) | exact HB.out)) hb); clear BK691; clear HB; have BK691 := n0_; have HB := n1_; clear n0_ n1_; (try clear hb); (try clear hb2); (try clear hk); (try clear hi))); try go_wp2_with (first | ((with_reducible refine gate_dst (N := 3) rfl ?_); refine box_event ?hg (N := 3) ?hd (cs := #[.int .i64 a0_0, .int .i64 a0_1, .int .i64 a0_2, .slice A0_3 l0_3.length c0_3]) (t := 26) ?hr ?_; (case hd => rfl); (case hg => rfl); (case hr => first | (go_simp; done) | (go_simp; rfl)); intro gb691 hg w7 hbox hb; have n0_ := Aside0.mk (below_step (by repeat (first | (with_reducible first | exact HB.out | apply below_alloc | apply pw_below_drewN | apply below_drew1) | exact HB.out)) hb); have n1_ := Aside0.mk (hbox); have n2_ := Aside0.mk ((by rw [hg]; exact (below_size (by repeat (first | (with_reducible first | exact HB.out | apply below_alloc | apply pw_below_drewN | apply below_drew1) | exact HB.out))) : w.heap.size ≤ gb691)); have n3_ := Aside0.mk ((by rw [hg]; exact (below_size (by repeat (first | (with_reducible first | exact HB.out | apply below_alloc | apply pw_below_drewN | apply below_drew1) | exact HB.out))) : w.heap.size ≤ gb691)); clear HB; have HB := n0_; have BK691 := n1_; have GW691 := n2_; have GE691 := n3_; clear n0_ n1_ n2_ n3_; clear hb hbox hg) | (go_at_call 43; (with_reducible refine (symbolonlaw06_head.calls k  t692 _ A4.out).mono ?_); rintro e w8 ⟨rfl, hb⟩; have n0_ := Aside0.mk (blk_below (g := gb691) (o := .cells #[.int .i64 a0_0, .int .i64 a0_1, .int .i64 a0_2, .slice A0_3 l0_3.length c0_3] 26 (0, 0)) (by (with_reducible repeat (first | refine blk_drewN ?_ _ | refine blk_drew ?_ | refine blk_alloc ?_ _)); exact BK691.out) hb); have n1_ := Aside0.mk (below_step (by repeat (first | (with_reducible first | exact HB.out | apply below_alloc | apply pw_below_drewN | apply below_drew1 | refine below_set ?_ GE691.out) | exact HB.out)) hb); clear BK691; clear HB; have BK691 := n0_; have HB := n1_; clear n0_ n1_; (try clear hb); (try clear hb2); (try clear hk); (try clear hi); have hcz9_0 : w8.cell? ⟨gb691, 0, none⟩ = some (.int .i64 a0_0) := (blk_cell BK691.out 0).trans rfl; have hcz9_1 : w8.cell? ⟨gb691, 1, none⟩ = some (.int .i64 a0_1) := (blk_cell BK691.out 1).trans rfl; have hcz9_2 : w8.cell? ⟨gb691, 2, none⟩ = some (.int .i64 a0_2) := (blk_cell BK691.out 2).trans rfl; have hcz9_3 : w8.cell? ⟨gb691, 3, none⟩ = some (.slice A0_3 l0_3.length c0_3) := (blk_cell BK691.out 3).trans rfl; have hfz9_0 := blk_frozen BK691.out 0; have hfz9_1 := blk_frozen BK691.out 1; have hfz9_2 := blk_frozen BK691.out 2; have hfz9_3 := blk_frozen BK691.out 3) | (go_at_call 26; (with_reducible refine (symbolonlaw04_Great.calls a0_0 a0_1 a0_2 _ _ l0_3 true _ ?side1 ?side2 A5.out).mono ?_); (case side1 => repeat (first | exact (Kd.C_below HR0_3.out HB.out) | (with_reducible refine Kd.C_alloc ?_ _) | (with_reducible refine Kd.C_drewN ?_ _) | (with_reducible refine Kd.C_drew ?_))); (case side2 => exact HC0_3.out); rintro e w10 ⟨rfl, hb⟩; have n0_ := Aside0.mk (blk_below (g := gb691) (o := .cells #[.int .i64 a0_0, .int .i64 a0_1, .int .i64 a0_2, .slice A0_3 l0_3.length c0_3] 26 (0, 0)) (by (with_reducible repeat (first | refine blk_drewN ?_ _ | refine blk_drew ?_ | refine blk_alloc ?_ _)); exact BK691.out) hb); have n1_ := Aside0.mk (below_step (by repeat (first | (with_reducible first | exact HB.out | apply below_alloc | apply pw_below_drewN | apply below_drew1 | refine below_set ?_ GE691.out) | exact HB.out)) hb); clear BK691; clear HB; have BK691 := n0_; have HB := n1_; clear n0_ n1_; (try clear hb); (try clear hb2); (try clear hk); (try clear hi))))
    go_ret
    exact ⟨by first | rfl | (simp [errW_none, errW_some] <;> rfl) | (simp [*, errW_none, errW_some] <;> rfl), by repeat (first | (with_reducible first | exact HB.out | apply below_alloc | apply pw_below_drewN | apply below_drew1 | refine below_set ?_ GE691.out) | exact HB.out)⟩
  · replace c6 := Bool.eq_false_iff.mpr c6
    subst c6
    have H1 : ((symbolonlaw06_sizes.f k a0_0 a0_1 a0_2 l0_3 (Int.tmod (wrap64 (a1)) 8)).bind fun bt694 => (if bt694.2.2 = true then (if 0 ≤ (Int.tmod (wrap64 (a1)) 8) then (if (Int.tmod (wrap64 (a1)) 8) < (l0_3.length : Int) then (symbolonlaw06_TermsSteps.j0 k a2 t692 (Int.tmod (wrap64 (a1)) 8) bt694.2.1 (((rd_T40 l0_3 (Int.tmod (wrap64 (a1)) 8)).f0) != 1) a0_0 a0_1 a0_2 l0_3) else (none)) else (none)) else (symbolonlaw06_TermsSteps.j0 k a2 t692 (Int.tmod (wrap64 (a1)) 8) bt694.2.1 true a0_0 a0_1 a0_2 l0_3))) = some r := by rw [if_neg (show ¬ (false = true) by decide)] at H; exact H
    clear H
    have H := H1
    clear H1
    replace H := Option.bind_eq_some_iff.mp H
    obtain ⟨⟨t694, t695, t696⟩, A110, H⟩ := H
    replace H : (if t696 = true then (if 0 ≤ (Int.tmod (wrap64 (a1)) 8) then (if (Int.tmod (wrap64 (a1)) 8) < (l0_3.length : Int) then (symbolonlaw06_TermsSteps.j0 k a2 t692 (Int.tmod (wrap64 (a1)) 8) t695 (((rd_T40 l0_3 (Int.tmod (wrap64 (a1)) 8)).f0) != 1) a0_0 a0_1 a0_2 l0_3) else (none)) else (none)) else (symbolonlaw06_TermsSteps.j0 k a2 t692 (Int.tmod (wrap64 (a1)) 8) t695 true a0_0 a0_1 a0_2 l0_3)) = some r := H
    have A11 := Aside0.mk A110
    clear A110
    have HC12 := Aside0.mk H
    clear H
    go_enter Try.func14, Try.ntmps14
    go_upto_region 6 with (first | ((with_reducible refine gate_dst (N := 3) rfl ?_); refine box_event ?hg (N := 3) ?hd (cs := #[.int .i64 a0_0, .int .i64 a0_1, .int .i64 a0_2, .slice A0_3 l0_3.length c0_3]) (t := 26) ?hr ?_; (case hd => rfl); (case hg => rfl); (case hr => first | (go_simp; done) | (go_simp; rfl)); intro gb691 hg w13 hbox hb; have n0_ := Aside0.mk (below_step (by repeat (first | (with_reducible first | exact HB.out | apply below_alloc | apply pw_below_drewN | apply below_drew1) | exact HB.out)) hb); have n1_ := Aside0.mk (hbox); have n2_ := Aside0.mk ((by rw [hg]; exact (below_size (by repeat (first | (with_reducible first | exact HB.out | apply below_alloc | apply pw_below_drewN | apply below_drew1) | exact HB.out))) : w.heap.size ≤ gb691)); have n3_ := Aside0.mk ((by rw [hg]; exact (below_size (by repeat (first | (with_reducible first | exact HB.out | apply below_alloc | apply pw_below_drewN | apply below_drew1) | exact HB.out))) : w.heap.size ≤ gb691)); clear HB; have HB := n0_; have BK691 := n1_; have GW691 := n2_; have GE691 := n3_; clear n0_ n1_ n2_ n3_; clear hb hbox hg) | (go_at_call 43; (with_reducible refine (symbolonlaw06_head.calls k  t692 _ A4.out).mono ?_); rintro e w14 ⟨rfl, hb⟩; have n0_ := Aside0.mk (blk_below (g := gb691) (o := .cells #[.int .i64 a0_0, .int .i64 a0_1, .int .i64 a0_2, .slice A0_3 l0_3.length c0_3] 26 (0, 0)) (by (with_reducible repeat (first | refine blk_drewN ?_ _ | refine blk_drew ?_ | refine blk_alloc ?_ _)); exact BK691.out) hb); have n1_ := Aside0.mk (below_step (by repeat (first | (with_reducible first | exact HB.out | apply below_alloc | apply pw_below_drewN | apply below_drew1 | refine below_set ?_ GE691.out) | exact HB.out)) hb); clear BK691; clear HB; have BK691 := n0_; have HB := n1_; clear n0_ n1_; (try clear hb); (try clear hb2); (try clear hk); (try clear hi); have hcz15_0 : w14.cell? ⟨gb691, 0, none⟩ = some (.int .i64 a0_0) := (blk_cell BK691.out 0).trans rfl; have hcz15_1 : w14.cell? ⟨gb691, 1, none⟩ = some (.int .i64 a0_1) := (blk_cell BK691.out 1).trans rfl; have hcz15_2 : w14.cell? ⟨gb691, 2, none⟩ = some (.int .i64 a0_2) := (blk_cell BK691.out 2).trans rfl; have hcz15_3 : w14.cell? ⟨gb691, 3, none⟩ = some (.slice A0_3 l0_3.length c0_3) := (blk_cell BK691.out 3).trans rfl; have hfz15_0 := blk_frozen BK691.out 0; have hfz15_1 := blk_frozen BK691.out 1; have hfz15_2 := blk_frozen BK691.out 2; have hfz15_3 := blk_frozen BK691.out 3) | (go_at_call 26; (with_reducible refine (symbolonlaw04_Great.calls a0_0 a0_1 a0_2 _ _ l0_3 false _ ?side1 ?side2 A5.out).mono ?_); (case side1 => repeat (first | exact (Kd.C_below HR0_3.out HB.out) | (with_reducible refine Kd.C_alloc ?_ _) | (with_reducible refine Kd.C_drewN ?_ _) | (with_reducible refine Kd.C_drew ?_))); (case side2 => exact HC0_3.out); rintro e w16 ⟨rfl, hb⟩; have n0_ := Aside0.mk (blk_below (g := gb691) (o := .cells #[.int .i64 a0_0, .int .i64 a0_1, .int .i64 a0_2, .slice A0_3 l0_3.length c0_3] 26 (0, 0)) (by (with_reducible repeat (first | refine blk_drewN ?_ _ | refine blk_drew ?_ | refine blk_alloc ?_ _)); exact BK691.out) hb); have n1_ := Aside0.mk (below_step (by repeat (first | (with_reducible first | exact HB.out | apply below_alloc | apply pw_below_drewN | apply below_drew1 | refine below_set ?_ GE691.out) | exact HB.out)) hb); clear BK691; clear HB; have BK691 := n0_; have HB := n1_; clear n0_ n1_; (try clear hb); (try clear hb2); (try clear hk); (try clear hi); have hcz17_0 : w16.cell? ⟨gb691, 0, none⟩ = some (.int .i64 a0_0) := (blk_cell BK691.out 0).trans rfl; have hcz17_1 : w16.cell? ⟨gb691, 1, none⟩ = some (.int .i64 a0_1) := (blk_cell BK691.out 1).trans rfl; have hcz17_2 : w16.cell? ⟨gb691, 2, none⟩ = some (.int .i64 a0_2) := (blk_cell BK691.out 2).trans rfl; have hcz17_3 : w16.cell? ⟨gb691, 3, none⟩ = some (.slice A0_3 l0_3.length c0_3) := (blk_cell BK691.out 3).trans rfl; have hfz17_0 := blk_frozen BK691.out 0; have hfz17_1 := blk_frozen BK691.out 1; have hfz17_2 := blk_frozen BK691.out 2; have hfz17_3 := blk_frozen BK691.out 3) | (go_at_call 50; (with_reducible refine (symbolonlaw06_sizes.calls k a0_0 a0_1 a0_2 _ _ l0_3 (Int.tmod (wrap64 (a1)) 8) t694 t695 t696 _ ?side1 ?side2 A11.out).mono ?_); (case side1 => repeat (first | exact (Kd.C_below HR0_3.out HB.out) | (with_reducible refine Kd.C_alloc ?_ _) | (with_reducible refine Kd.C_drewN ?_ _) | (with_reducible refine Kd.C_drew ?_))); (case side2 => exact HC0_3.out); rintro e w18 ⟨rfl, hb⟩; have n0_ := Aside0.mk (blk_below (g := gb691) (o := .cells #[.int .i64 a0_0, .int .i64 a0_1, .int .i64 a0_2, .slice A0_3 l0_3.length c0_3] 26 (0, 0)) (by (with_reducible repeat (first | refine blk_drewN ?_ _ | refine blk_drew ?_ | refine blk_alloc ?_ _)); exact BK691.out) hb); have n1_ := Aside0.mk (below_step (by repeat (first | (with_reducible first | exact HB.out | apply below_alloc | apply pw_below_drewN | apply below_drew1 | refine below_set ?_ GE691.out) | exact HB.out)) hb); clear BK691; clear HB; have BK691 := n0_; have HB := n1_; clear n0_ n1_; (try clear hb); (try clear hb2); (try clear hk); (try clear hi)))
    repeat (go_quiet (first | ((with_reducible refine gate_dst (N := 3) rfl ?_); refine box_event ?hg (N := 3) ?hd (cs := #[.int .i64 a0_0, .int .i64 a0_1, .int .i64 a0_2, .slice A0_3 l0_3.length c0_3]) (t := 26) ?hr ?_; (case hd => rfl); (case hg => rfl); (case hr => first | (go_simp; done) | (go_simp; rfl)); intro gb691 hg w13 hbox hb; have n0_ := Aside0.mk (below_step (by repeat (first | (with_reducible first | exact HB.out | apply below_alloc | apply pw_below_drewN | apply below_drew1) | exact HB.out)) hb); have n1_ := Aside0.mk (hbox); have n2_ := Aside0.mk ((by rw [hg]; exact (below_size (by repeat (first | (with_reducible first | exact HB.out | apply below_alloc | apply pw_below_drewN | apply below_drew1) | exact HB.out))) : w.heap.size ≤ gb691)); have n3_ := Aside0.mk ((by rw [hg]; exact (below_size (by repeat (first | (with_reducible first | exact HB.out | apply below_alloc | apply pw_below_drewN | apply below_drew1) | exact HB.out))) : w.heap.size ≤ gb691)); clear HB; have HB := n0_; have BK691 := n1_; have GW691 := n2_; have GE691 := n3_; clear n0_ n1_ n2_ n3_; clear hb hbox hg) | (go_at_call 43; (with_reducible refine (symbolonlaw06_head.calls k  t692 _ A4.out).mono ?_); rintro e w14 ⟨rfl, hb⟩; have n0_ := Aside0.mk (blk_below (g := gb691) (o := .cells #[.int .i64 a0_0, .int .i64 a0_1, .int .i64 a0_2, .slice A0_3 l0_3.length c0_3] 26 (0, 0)) (by (with_reducible repeat (first | refine blk_drewN ?_ _ | refine blk_drew ?_ | refine blk_alloc ?_ _)); exact BK691.out) hb); have n1_ := Aside0.mk (below_step (by repeat (first | (with_reducible first | exact HB.out | apply below_alloc | apply pw_below_drewN | apply below_drew1 | refine below_set ?_ GE691.out) | exact HB.out)) hb); clear BK691; clear HB; have BK691 := n0_; have HB := n1_; clear n0_ n1_; (try clear hb); (try clear hb2); (try clear hk); (try clear hi); have hcz15_0 : w14.cell? ⟨gb691, 0, none⟩ = some (.int .i64 a0_0) := (blk_cell BK691.out 0).trans rfl; have hcz15_1 : w14.cell? ⟨gb691, 1, none⟩ = some (.int .i64 a0_1) := (blk_cell BK691.out 1).trans rfl; have hcz15_2 : w14.cell? ⟨gb691, 2, none⟩ = some (.int .i64 a0_2) := (blk_cell BK691.out 2).trans rfl; have hcz15_3 : w14.cell? ⟨gb691, 3, none⟩ = some (.slice A0_3 l0_3.length c0_3) := (blk_cell BK691.out 3).trans rfl; have hfz15_0 := blk_frozen BK691.out 0; have hfz15_1 := blk_frozen BK691.out 1; have hfz15_2 := blk_frozen BK691.out 2; have hfz15_3 := blk_frozen BK691.out 3) | (go_at_call 26; (with_reducible refine (symbolonlaw04_Great.calls a0_0 a0_1 a0_2 _ _ l0_3 false _ ?side1 ?side2 A5.out).mono ?_); (case side1 => repeat (first | exact (Kd.C_below HR0_3.out HB.out) | (with_reducible refine Kd.C_alloc ?_ _) | (with_reducible refine Kd.C_drewN ?_ _) | (with_reducible refine Kd.C_drew ?_))); (case side2 => exact HC0_3.out); rintro e w16 ⟨rfl, hb⟩; have n0_ := Aside0.mk (blk_below (g := gb691) (o := .cells #[.int .i64 a0_0, .int .i64 a0_1, .int .i64 a0_2, .slice A0_3 l0_3.length c0_3] 26 (0, 0)) (by (with_reducible repeat (first | refine blk_drewN ?_ _ | refine blk_drew ?_ | refine blk_alloc ?_ _)); exact BK691.out) hb); have n1_ := Aside0.mk (below_step (by repeat (first | (with_reducible first | exact HB.out | apply below_alloc | apply pw_below_drewN | apply below_drew1 | refine below_set ?_ GE691.out) | exact HB.out)) hb); clear BK691; clear HB; have BK691 := n0_; have HB := n1_; clear n0_ n1_; (try clear hb); (try clear hb2); (try clear hk); (try clear hi); have hcz17_0 : w16.cell? ⟨gb691, 0, none⟩ = some (.int .i64 a0_0) := (blk_cell BK691.out 0).trans rfl; have hcz17_1 : w16.cell? ⟨gb691, 1, none⟩ = some (.int .i64 a0_1) := (blk_cell BK691.out 1).trans rfl; have hcz17_2 : w16.cell? ⟨gb691, 2, none⟩ = some (.int .i64 a0_2) := (blk_cell BK691.out 2).trans rfl; have hcz17_3 : w16.cell? ⟨gb691, 3, none⟩ = some (.slice A0_3 l0_3.length c0_3) := (blk_cell BK691.out 3).trans rfl; have hfz17_0 := blk_frozen BK691.out 0; have hfz17_1 := blk_frozen BK691.out 1; have hfz17_2 := blk_frozen BK691.out 2; have hfz17_3 := blk_frozen BK691.out 3) | (go_at_call 50; (with_reducible refine (symbolonlaw06_sizes.calls k a0_0 a0_1 a0_2 _ _ l0_3 (Int.tmod (wrap64 (a1)) 8) t694 t695 t696 _ ?side1 ?side2 A11.out).mono ?_); (case side1 => repeat (first | exact (Kd.C_below HR0_3.out HB.out) | (with_reducible refine Kd.C_alloc ?_ _) | (with_reducible refine Kd.C_drewN ?_ _) | (with_reducible refine Kd.C_drew ?_))); (case side2 => exact HC0_3.out); rintro e w18 ⟨rfl, hb⟩; have n0_ := Aside0.mk (blk_below (g := gb691) (o := .cells #[.int .i64 a0_0, .int .i64 a0_1, .int .i64 a0_2, .slice A0_3 l0_3.length c0_3] 26 (0, 0)) (by (with_reducible repeat (first | refine blk_drewN ?_ _ | refine blk_drew ?_ | refine blk_alloc ?_ _)); exact BK691.out) hb); have n1_ := Aside0.mk (below_step (by repeat (first | (with_reducible first | exact HB.out | apply below_alloc | apply pw_below_drewN | apply below_drew1 | refine below_set ?_ GE691.out) | exact HB.out)) hb); clear BK691; clear HB; have BK691 := n0_; have HB := n1_; clear n0_ n1_; (try clear hb); (try clear hb2); (try clear hk); (try clear hi))); go_upto_region 6 with (first | ((with_reducible refine gate_dst (N := 3) rfl ?_); refine box_event ?hg (N := 3) ?hd (cs := #[.int .i64 a0_0, .int .i64 a0_1, .int .i64 a0_2, .slice A0_3 l0_3.length c0_3]) (t := 26) ?hr ?_; (case hd => rfl); (case hg => rfl); (case hr => first | (go_simp; done) | (go_simp; rfl)); intro gb691 hg w13 hbox hb; have n0_ := Aside0.mk (below_step (by repeat (first | (with_reducible first | exact HB.out | apply below_alloc | apply pw_below_drewN | apply below_drew1) | exact HB.out)) hb); have n1_ := Aside0.mk (hbox); have n2_ := Aside0.mk ((by rw [hg]; exact (below_size (by repeat (first | (with_reducible first | exact HB.out | apply below_alloc | apply pw_below_drewN | apply below_drew1) | exact HB.out))) : w.heap.size ≤ gb691)); have n3_ := Aside0.mk ((by rw [hg]; exact (below_size (by repeat (first | (with_reducible first | exact HB.out | apply below_alloc | apply pw_below_drewN | apply below_drew1) | exact HB.out))) : w.heap.size ≤ gb691)); clear HB; have HB := n0_; have BK691 := n1_; have GW691 := n2_; have GE691 := n3_; clear n0_ n1_ n2_ n3_; clear hb hbox hg) | (go_at_call 43; (with_reducible refine (symbolonlaw06_head.calls k  t692 _ A4.out).mono ?_); rintro e w14 ⟨rfl, hb⟩; have n0_ := Aside0.mk (blk_below (g := gb691) (o := .cells #[.int .i64 a0_0, .int .i64 a0_1, .int .i64 a0_2, .slice A0_3 l0_3.length c0_3] 26 (0, 0)) (by (with_reducible repeat (first | refine blk_drewN ?_ _ | refine blk_drew ?_ | refine blk_alloc ?_ _)); exact BK691.out) hb); have n1_ := Aside0.mk (below_step (by repeat (first | (with_reducible first | exact HB.out | apply below_alloc | apply pw_below_drewN | apply below_drew1 | refine below_set ?_ GE691.out) | exact HB.out)) hb); clear BK691; clear HB; have BK691 := n0_; have HB := n1_; clear n0_ n1_; (try clear hb); (try clear hb2); (try clear hk); (try clear hi); have hcz15_0 : w14.cell? ⟨gb691, 0, none⟩ = some (.int .i64 a0_0) := (blk_cell BK691.out 0).trans rfl; have hcz15_1 : w14.cell? ⟨gb691, 1, none⟩ = some (.int .i64 a0_1) := (blk_cell BK691.out 1).trans rfl; have hcz15_2 : w14.cell? ⟨gb691, 2, none⟩ = some (.int .i64 a0_2) := (blk_cell BK691.out 2).trans rfl; have hcz15_3 : w14.cell? ⟨gb691, 3, none⟩ = some (.slice A0_3 l0_3.length c0_3) := (blk_cell BK691.out 3).trans rfl; have hfz15_0 := blk_frozen BK691.out 0; have hfz15_1 := blk_frozen BK691.out 1; have hfz15_2 := blk_frozen BK691.out 2; have hfz15_3 := blk_frozen BK691.out 3) | (go_at_call 26; (with_reducible refine (symbolonlaw04_Great.calls a0_0 a0_1 a0_2 _ _ l0_3 false _ ?side1 ?side2 A5.out).mono ?_); (case side1 => repeat (first | exact (Kd.C_below HR0_3.out HB.out) | (with_reducible refine Kd.C_alloc ?_ _) | (with_reducible refine Kd.C_drewN ?_ _) | (with_reducible refine Kd.C_drew ?_))); (case side2 => exact HC0_3.out); rintro e w16 ⟨rfl, hb⟩; have n0_ := Aside0.mk (blk_below (g := gb691) (o := .cells #[.int .i64 a0_0, .int .i64 a0_1, .int .i64 a0_2, .slice A0_3 l0_3.length c0_3] 26 (0, 0)) (by (with_reducible repeat (first | refine blk_drewN ?_ _ | refine blk_drew ?_ | refine blk_alloc ?_ _)); exact BK691.out) hb); have n1_ := Aside0.mk (below_step (by repeat (first | (with_reducible first | exact HB.out | apply below_alloc | apply pw_below_drewN | apply below_drew1 | refine below_set ?_ GE691.out) | exact HB.out)) hb); clear BK691; clear HB; have BK691 := n0_; have HB := n1_; clear n0_ n1_; (try clear hb); (try clear hb2); (try clear hk); (try clear hi); have hcz17_0 : w16.cell? ⟨gb691, 0, none⟩ = some (.int .i64 a0_0) := (blk_cell BK691.out 0).trans rfl; have hcz17_1 : w16.cell? ⟨gb691, 1, none⟩ = some (.int .i64 a0_1) := (blk_cell BK691.out 1).trans rfl; have hcz17_2 : w16.cell? ⟨gb691, 2, none⟩ = some (.int .i64 a0_2) := (blk_cell BK691.out 2).trans rfl; have hcz17_3 : w16.cell? ⟨gb691, 3, none⟩ = some (.slice A0_3 l0_3.length c0_3) := (blk_cell BK691.out 3).trans rfl; have hfz17_0 := blk_frozen BK691.out 0; have hfz17_1 := blk_frozen BK691.out 1; have hfz17_2 := blk_frozen BK691.out 2; have hfz17_3 := blk_frozen BK691.out 3) | (go_at_call 50; (with_reducible refine (symbolonlaw06_sizes.calls k a0_0 a0_1 a0_2 _ _ l0_3 (Int.tmod (wrap64 (a1)) 8) t694 t695 t696 _ ?side1 ?side2 A11.out).mono ?_); (case side1 => repeat (first | exact (Kd.C_below HR0_3.out HB.out) | (with_reducible refine Kd.C_alloc ?_ _) | (with_reducible refine Kd.C_drewN ?_ _) | (with_reducible refine Kd.C_drew ?_))); (case side2 => exact HC0_3.out); rintro e w18 ⟨rfl, hb⟩; have n0_ := Aside0.mk (blk_below (g := gb691) (o := .cells #[.int .i64 a0_0, .int .i64 a0_1, .int .i64 a0_2, .slice A0_3 l0_3.length c0_3] 26 (0, 0)) (by (with_reducible repeat (first | refine blk_drewN ?_ _ | refine blk_drew ?_ | refine blk_alloc ?_ _)); exact BK691.out) hb); have n1_ := Aside0.mk (below_step (by repeat (first | (with_reducible first | exact HB.out | apply below_alloc | apply pw_below_drewN | apply below_drew1 | refine below_set ?_ GE691.out) | exact HB.out)) hb); clear BK691; clear HB; have BK691 := n0_; have HB := n1_; clear n0_ n1_; (try clear hb); (try clear hb2); (try clear hk); (try clear hi))))
    (try simp only [Act.put, List.setIfInBounds_toArray, List.set_cons_zero, List.set_cons_succ])
    go_cut [46] (fun v46 wc => ∃ (kq : Nat) (x46_11 : Bool), v46 = .bool x46_11 ∧ Aside0 (symbolonlaw06_TermsSteps.j0 kq a2 t692 (Int.tmod (wrap64 (a1)) 8) t695 x46_11 a0_0 a0_1 a0_2 l0_3 = some r) ∧ Aside0 (kq ≤ k) ∧ Aside0 (wc.heap[gb691]? = some (.cells #[.int .i64 a0_0, .int .i64 a0_1, .int .i64 a0_2, (.slice A0_3 l0_3.length c0_3)] 26 (0, 0))) ∧ Aside0 (Below w.heap.size w wc))
    case first =>
      have H := HC12.out
      clear HC12
      by_cases c19 : t696 = true
      · subst c19
        have H1 : (if 0 ≤ (Int.tmod (wrap64 (a1)) 8) then (if (Int.tmod (wrap64 (a1)) 8) < (l0_3.length : Int) then (symbolonlaw06_TermsSteps.j0 k a2 t692 (Int.tmod (wrap64 (a1)) 8) t695 (((rd_T40 l0_3 (Int.tmod (wrap64 (a1)) 8)).f0) != 1) a0_0 a0_1 a0_2 l0_3) else (none)) else (none)) = some r := by rw [if_pos rfl] at H; exact H
        clear H
        have H := H1
        clear H1
        obtain ⟨ji20, hji20⟩ : ∃ j_ : Int, (Int.tmod (wrap64 (a1)) 8) = j_ := ⟨_, rfl⟩
        replace H : (if 0 ≤ (ji20) then (if (ji20) < (l0_3.length : Int) then (symbolonlaw06_TermsSteps.j0 k a2 t692 ji20 t695 (((rd_T40 l0_3 (ji20)).f0) != 1) a0_0 a0_1 a0_2 l0_3) else (none)) else (none)) = some r := by first | (rw [hji20] at H; exact H) | (simp only [hji20] at H ⊢; exact H)
        by_cases c21 : 0 ≤ (ji20)
        · rw [if_pos c21] at H
          have c21b0 : decide (0 ≤ (ji20)) = true := decide_eq_true c21
          clear c21
          (first | rw [c21b0] | (simp only [i64_w, i32_w]; rw [c21b0]) | skip)
          by_cases c22 : (ji20) < (l0_3.length : Int)
          · rw [if_pos c22] at H
            have c22b0 : decide ((ji20) < (l0_3.length : Int)) = true := decide_eq_true c22
            clear c22
            have H' := Aside0.mk H
            clear H
            have hcz23_0 : w18.cell? ⟨gb691, 0, none⟩ = some (.int .i64 a0_0) := (blk_cell BK691.out 0).trans rfl
            have hcz23_1 : w18.cell? ⟨gb691, 1, none⟩ = some (.int .i64 a0_1) := (blk_cell BK691.out 1).trans rfl
            have hcz23_2 : w18.cell? ⟨gb691, 2, none⟩ = some (.int .i64 a0_2) := (blk_cell BK691.out 2).trans rfl
            have hcz23_3 : w18.cell? ⟨gb691, 3, none⟩ = some (.slice A0_3 l0_3.length c0_3) := (blk_cell BK691.out 3).trans rfl
            have hfz23_0 := blk_frozen BK691.out 0
            have hfz23_1 := blk_frozen BK691.out 1
            have hfz23_2 := blk_frozen BK691.out 2
            have hfz23_3 := blk_frozen BK691.out 3
            have p697 : 0 ≤ ((ji20) : Int) := of_decide_eq_true (by first | (with_reducible assumption) | assumption)
            have q697 : (ji20) < (l0_3.length : Int) := of_decide_eq_true (by first | (with_reducible assumption) | assumption)
            obtain ⟨ad697, e697, hx697_0, hx697_1, hx697_2, hx697_3⟩ := at_T40 HR0_3.out (ji20) p697 q697
            cases e697
            replace hx697_0 := (HB.out.cell (World.block_lt_of_cell? w _ hx697_0)).trans hx697_0
            replace hx697_1 := (HB.out.cell (World.block_lt_of_cell? w _ hx697_1)).trans hx697_1
            replace hx697_2 := (HB.out.cell (World.block_lt_of_cell? w _ hx697_2)).trans hx697_2
            replace hx697_3 := (HB.out.cell (World.block_lt_of_cell? w _ hx697_3)).trans hx697_3
            replace p697 := eq_true p697
            replace q697 := eq_true q697
            go_wp2
            repeat (go_quiet (fail); try go_wp2)
            subst hji20
            go_meet
            case rel => exact ⟨_, ((((rd_T40 l0_3 (Int.tmod (wrap64 (a1)) 8)).f0) != 1)), (by first | rfl | (simp; done) | (simp only [← hji20] <;> (first | rfl | simp)) | (simp [*]; done)), H', ⟨by first | omega | exact Nat.le_refl _⟩, ⟨by (with_reducible repeat (first | refine blk_drewN ?_ _ | refine blk_drew ?_ | refine blk_alloc ?_ _)); exact BK691.out⟩, ⟨by repeat (first | (with_reducible first | exact HB.out | apply below_alloc | apply pw_below_drewN | apply below_drew1 | refine below_set ?_ GE691.out) | exact HB.out)⟩⟩
          · rw [if_neg c22] at H
            exact absurd H (by simp)
        · rw [if_neg c21] at H
          exact absurd H (by simp)
      · replace c19 := Bool.eq_false_iff.mpr c19
        subst c19
        have H1 : (symbolonlaw06_TermsSteps.j0 k a2 t692 (Int.tmod (wrap64 (a1)) 8) t695 true a0_0 a0_1 a0_2 l0_3) = some r := by rw [if_neg (show ¬ (false = true) by decide)] at H; exact H
        clear H
        have H := H1
        clear H1
        have H' := Aside0.mk H
        clear H
        go_wp2
        repeat (go_quiet (fail); try go_wp2)
        go_meet
        case rel => exact ⟨_, (true), (by first | rfl | (simp; done) | (simp [*]; done)), H', ⟨by first | omega | exact Nat.le_refl _⟩, ⟨by (with_reducible repeat (first | refine blk_drewN ?_ _ | refine blk_drew ?_ | refine blk_alloc ?_ _)); exact BK691.out⟩, ⟨by repeat (first | (with_reducible first | exact HB.out | apply below_alloc | apply pw_below_drewN | apply below_drew1 | refine below_set ?_ GE691.out) | exact HB.out)⟩⟩
    case rest =>
      clear HC12
      try clear c1
      try clear c2
      try clear p2
      try clear c6
      try clear p6
      try clear q6
      try clear hx6
      try clear c14
      try clear c19
      try clear c21
      try clear c21b0
      try clear c22
      try clear c22b0
      try clear hcz15_0
      try clear hcz15_1
      try clear hcz15_2
      try clear hcz15_3
      try clear hcz17_0
      try clear hcz17_1
      try clear hcz17_2
      try clear hcz17_3
      try clear hcz23_0
      try clear hcz23_1
      try clear hcz23_2
      try clear hcz23_3
      try clear hcz9_0
      try clear hcz9_1
      try clear hcz9_2
      try clear hcz9_3
      try clear hfz15_0
      try clear hfz15_1
      try clear hfz15_2
      try clear hfz15_3
      try clear hfz17_0
      try clear hfz17_1
      try clear hfz17_2
      try clear hfz17_3
      try clear hfz23_0
      try clear hfz23_1
      try clear hfz23_2
      try clear hfz23_3
      try clear hfz9_0
      try clear hfz9_1
      try clear hfz9_2
      try clear hfz9_3
      try clear hx697_0
      try clear hx697_1
      try clear hx697_2
      try clear hx697_3
      try clear p697
      try clear q697
      obtain ⟨kq, x46_11, rfl, HA, HJ11, BK691, HB⟩ := hcut
      cases kq with
      | zero => exact absurd HA.out (by simp [symbolonlaw06_TermsSteps.j0])
      | succ kj11 =>
        have H := HA.out
        clear HA
        simp only [symbolonlaw06_TermsSteps.j0] at H
        by_cases c24 : x46_11 = true
        · subst c24
          have H1 : (some t692) = some r := by rw [if_pos rfl] at H; exact H
          clear H
          have H := H1
          clear H1
          obtain rfl := Option.some.inj H
          go_wp2
          repeat (go_quiet (fail); try go_wp2)
          go_ret
          exact ⟨by first | rfl | (simp [errW_none, errW_some] <;> rfl) | (simp [*, errW_none, errW_some] <;> rfl), by repeat (first | (with_reducible first | exact HB.out | apply below_alloc | apply pw_below_drewN | apply below_drew1 | refine below_set ?_ GE691.out) | exact HB.out)⟩
        · replace c24 := Bool.eq_false_iff.mpr c24
          subst c24
          have H1 : ((h05_Shapes.f a0_0 a0_1 a0_2 l0_3).bind fun bt698 => (if t695 = 0 then (none) else (if 0 ≤ (wrap64 ((Int.tmod (wrap64 (a1)) 8) + 1)) then (if (wrap64 ((Int.tmod (wrap64 (a1)) 8) + 1)) < (bt698.1.length : Int) then ((symbolonref02_Of.f kj11 ((rd_T23 bt698.1 (wrap64 ((Int.tmod (wrap64 (a1)) 8) + 1))).f0) ((rd_T23 bt698.1 (wrap64 ((Int.tmod (wrap64 (a1)) 8) + 1))).f1) ((rd_T23 bt698.1 (wrap64 ((Int.tmod (wrap64 (a1)) 8) + 1))).f2) (Int.tmod (wrap64 (a2)) t695)).bind fun bt703 => (if (wrap64 (bt703.2.2.1 + 1)) ≥ ((rd_T23 bt698.1 (wrap64 ((Int.tmod (wrap64 (a1)) 8) + 1))).f2) then (some t692) else ((terms_Terms.f kj11 a0_0 a0_1 a0_2 l0_3 (Int.tmod (wrap64 (a1)) 8) (Int.tmod (wrap64 (a2)) t695)).bind fun t708 => ((terms_Terms.f kj11 a0_0 a0_1 a0_2 l0_3 (Int.tmod (wrap64 (a1)) 8) (wrap64 ((Int.tmod (wrap64 (a2)) t695) + 1))).bind fun t711 => (if (t708.length : Int) = (t711.length : Int) then (symbolonlaw06_TermsSteps.l0 kj11 t692 (Int.tmod (wrap64 (a1)) 8) t708 t711 0 a0_0 a0_1 a0_2 l0_3) else (none)))))) else (none)) else (none)))) = some r := by rw [if_neg (show ¬ (false = true) by decide)] at H; exact H
          clear H
          have H := H1
          clear H1
          replace H := Option.bind_eq_some_iff.mp H
          obtain ⟨⟨t698, t701⟩, A250, H⟩ := H
          replace H : (if t695 = 0 then (none) else (if 0 ≤ (wrap64 ((Int.tmod (wrap64 (a1)) 8) + 1)) then (if (wrap64 ((Int.tmod (wrap64 (a1)) 8) + 1)) < (t698.length : Int) then ((symbolonref02_Of.f kj11 ((rd_T23 t698 (wrap64 ((Int.tmod (wrap64 (a1)) 8) + 1))).f0) ((rd_T23 t698 (wrap64 ((Int.tmod (wrap64 (a1)) 8) + 1))).f1) ((rd_T23 t698 (wrap64 ((Int.tmod (wrap64 (a1)) 8) + 1))).f2) (Int.tmod (wrap64 (a2)) t695)).bind fun bt703 => (if (wrap64 (bt703.2.2.1 + 1)) ≥ ((rd_T23 t698 (wrap64 ((Int.tmod (wrap64 (a1)) 8) + 1))).f2) then (some t692) else ((terms_Terms.f kj11 a0_0 a0_1 a0_2 l0_3 (Int.tmod (wrap64 (a1)) 8) (Int.tmod (wrap64 (a2)) t695)).bind fun t708 => ((terms_Terms.f kj11 a0_0 a0_1 a0_2 l0_3 (Int.tmod (wrap64 (a1)) 8) (wrap64 ((Int.tmod (wrap64 (a2)) t695) + 1))).bind fun t711 => (if (t708.length : Int) = (t711.length : Int) then (symbolonlaw06_TermsSteps.l0 kj11 t692 (Int.tmod (wrap64 (a1)) 8) t708 t711 0 a0_0 a0_1 a0_2 l0_3) else (none)))))) else (none)) else (none))) = some r := H
          have A25 := Aside0.mk A250
          clear A250
          by_cases c26 : t695 = 0
          · rw [if_pos c26] at H
            exact absurd H (by simp)
          · rw [if_neg c26] at H
            have c26b0 : (t695 == 0) = false := beq_eq_false_iff_ne.mpr c26
            have c26b1 : (t695 != 0) = true := bne_iff_ne.mpr c26
            obtain ⟨ji27, hji27⟩ : ∃ j_ : Int, (wrap64 ((Int.tmod (wrap64 (a1)) 8) + 1)) = j_ := ⟨_, rfl⟩
            replace H : (if 0 ≤ (ji27) then (if (ji27) < (t698.length : Int) then ((symbolonref02_Of.f kj11 ((rd_T23 t698 (ji27)).f0) ((rd_T23 t698 (ji27)).f1) ((rd_T23 t698 (ji27)).f2) (Int.tmod (wrap64 (a2)) t695)).bind fun bt703 => (if (wrap64 (bt703.2.2.1 + 1)) ≥ ((rd_T23 t698 (ji27)).f2) then (some t692) else ((terms_Terms.f kj11 a0_0 a0_1 a0_2 l0_3 (Int.tmod (wrap64 (a1)) 8) (Int.tmod (wrap64 (a2)) t695)).bind fun t708 => ((terms_Terms.f kj11 a0_0 a0_1 a0_2 l0_3 (Int.tmod (wrap64 (a1)) 8) (wrap64 ((Int.tmod (wrap64 (a2)) t695) + 1))).bind fun t711 => (if (t708.length : Int) = (t711.length : Int) then (symbolonlaw06_TermsSteps.l0 kj11 t692 (Int.tmod (wrap64 (a1)) 8) t708 t711 0 a0_0 a0_1 a0_2 l0_3) else (none)))))) else (none)) else (none)) = some r := by first | (rw [hji27] at H; exact H) | (simp only [hji27] at H ⊢; exact H)
            (try rw [hji27] at A25)
            have hji27w : (IntKind.i64.wrap ((Int.tmod (wrap64 (a1)) 8) + 1)) = ji27 := (i64_w _).trans hji27
            by_cases c28 : 0 ≤ (ji27)
            · rw [if_pos c28] at H
              have c28b0 : decide (0 ≤ (ji27)) = true := decide_eq_true c28
              clear c28
              by_cases c29 : (ji27) < (t698.length : Int)
              · rw [if_pos c29] at H
                have c29b0 : decide ((ji27) < (t698.length : Int)) = true := decide_eq_true c29
                clear c29
                replace H := Option.bind_eq_some_iff.mp H
                obtain ⟨⟨t703, t704, t705, t706⟩, A300, H⟩ := H
                replace H : (if (wrap64 (t705 + 1)) ≥ ((rd_T23 t698 (ji27)).f2) then (some t692) else ((terms_Terms.f kj11 a0_0 a0_1 a0_2 l0_3 (Int.tmod (wrap64 (a1)) 8) (Int.tmod (wrap64 (a2)) t695)).bind fun t708 => ((terms_Terms.f kj11 a0_0 a0_1 a0_2 l0_3 (Int.tmod (wrap64 (a1)) 8) (wrap64 ((Int.tmod (wrap64 (a2)) t695) + 1))).bind fun t711 => (if (t708.length : Int) = (t711.length : Int) then (symbolonlaw06_TermsSteps.l0 kj11 t692 (Int.tmod (wrap64 (a1)) 8) t708 t711 0 a0_0 a0_1 a0_2 l0_3) else (none))))) = some r := H
                have A30 := Aside0.mk A300
                clear A300
                by_cases c31 : (wrap64 (t705 + 1)) ≥ ((rd_T23 t698 (ji27)).f2)
                · rw [if_pos c31] at H
                  have c31b0 : decide (((rd_T23 t698 (ji27)).f2) ≤ (wrap64 (t705 + 1))) = true := decide_eq_true c31
                  clear c31
                  obtain rfl := Option.some.inj H
                  have hcz32_0 : wc.cell? ⟨gb691, 0, none⟩ = some (.int .i64 a0_0) := (blk_cell BK691.out 0).trans rfl
                  have hcz32_1 : wc.cell? ⟨gb691, 1, none⟩ = some (.int .i64 a0_1) := (blk_cell BK691.out 1).trans rfl
                  have hcz32_2 : wc.cell? ⟨gb691, 2, none⟩ = some (.int .i64 a0_2) := (blk_cell BK691.out 2).trans rfl
                  have hcz32_3 : wc.cell? ⟨gb691, 3, none⟩ = some (.slice A0_3 l0_3.length c0_3) := (blk_cell BK691.out 3).trans rfl
                  have hfz32_0 := blk_frozen BK691.out 0
                  have hfz32_1 := blk_frozen BK691.out 1
                  have hfz32_2 := blk_frozen BK691.out 2
                  have hfz32_3 := blk_frozen BK691.out 3
                  go_wp2_with (first | (go_at_call 28; (with_reducible refine (h05_Shapes.calls a0_0 a0_1 a0_2 _ _ l0_3 t698 t701 _ ?side1 ?side2 A25.out).mono ?_); (case side1 => repeat (first | exact (Kd.C_below HR0_3.out HB.out) | (with_reducible refine Kd.C_alloc ?_ _) | (with_reducible refine Kd.C_drewN ?_ _) | (with_reducible refine Kd.C_drew ?_))); (case side2 => exact HC0_3.out); rintro e w33 ⟨v699, rfl, ho0, hb⟩; have n0_ := Aside0.mk (Kd.R_lower ho0 (below_size (by repeat (first | (with_reducible first | exact HB.out | apply below_alloc | apply pw_below_drewN | apply below_drew1 | refine below_set ?_ GE691.out) | exact HB.out)))); have n1_ := Aside0.mk (blk_below (g := gb691) (o := .cells #[.int .i64 a0_0, .int .i64 a0_1, .int .i64 a0_2, .slice A0_3 l0_3.length c0_3] 26 (0, 0)) (by (with_reducible repeat (first | refine blk_drewN ?_ _ | refine blk_drew ?_ | refine blk_alloc ?_ _)); exact BK691.out) hb); have n2_ := Aside0.mk (below_step (by repeat (first | (with_reducible first | exact HB.out | apply below_alloc | apply pw_below_drewN | apply below_drew1 | refine below_set ?_ GE691.out) | exact HB.out)) hb); clear BK691; clear HB; have HO700 := n0_; have BK691 := n1_; have HB := n2_; clear n0_ n1_ n2_; (try clear hb); (try clear hb2); (try clear hk); (try clear hi); (try clear ho0); obtain ⟨Ao34, co34, eo34⟩ := Kd.R_slice HO700.out; subst eo34; have p702 : 0 ≤ ((ji27) : Int) := of_decide_eq_true (by first | (with_reducible assumption) | assumption); have q702 : (ji27) < (t698.length : Int) := of_decide_eq_true (by first | (with_reducible assumption) | assumption); obtain ⟨ad702, e702, hx702_0, hx702_1, hx702_2⟩ := at_T23 (Kd.R_reads' HO700.out).2.2 (ji27) p702 q702; cases e702; replace p702 := eq_true p702; replace q702 := eq_true q702) | (go_at_call 51; (with_reducible refine (symbolonref02_Of.calls kj11 ((rd_T23 t698 (ji27)).f0) ((rd_T23 t698 (ji27)).f1) ((rd_T23 t698 (ji27)).f2) (Int.tmod (wrap64 (a2)) t695) t703 t704 t705 t706 _ A30.out).mono ?_); rintro e w35 ⟨rfl, hb⟩; have n0_ := Aside0.mk (Kd.R_below (by (with_reducible repeat (first | apply Kd.R_alloc | apply Kd.R_drewN | apply Kd.R_drew)); exact HO700.out) hb); have n1_ := Aside0.mk (blk_below (g := gb691) (o := .cells #[.int .i64 a0_0, .int .i64 a0_1, .int .i64 a0_2, .slice A0_3 l0_3.length c0_3] 26 (0, 0)) (by (with_reducible repeat (first | refine blk_drewN ?_ _ | refine blk_drew ?_ | refine blk_alloc ?_ _)); exact BK691.out) hb); have n2_ := Aside0.mk (below_step (by repeat (first | (with_reducible first | exact HB.out | apply below_alloc | apply pw_below_drewN | apply below_drew1 | refine below_set ?_ GE691.out) | exact HB.out)) hb); clear HO700; clear BK691; clear HB; have HO700 := n0_; have BK691 := n1_; have HB := n2_; clear n0_ n1_ n2_; (try clear hb); (try clear hb2); (try clear hk); (try clear hi); have p707 : 0 ≤ ((ji27) : Int) := of_decide_eq_true (by first | (with_reducible assumption) | assumption); have q707 : (ji27) < (t698.length : Int) := of_decide_eq_true (by first | (with_reducible assumption) | assumption); obtain ⟨ad707, e707, hx707_0, hx707_1, hx707_2⟩ := at_T23 (Kd.R_reads' HO700.out).2.2 (ji27) p707 q707; obtain rfl : ad702 = ad707 := (by injection e707); replace p707 := eq_true p707; replace q707 := eq_true q707))
                  repeat (go_quiet (first | (go_at_call 28; (with_reducible refine (h05_Shapes.calls a0_0 a0_1 a0_2 _ _ l0_3 t698 t701 _ ?side1 ?side2 A25.out).mono ?_); (case side1 => repeat (first | exact (Kd.C_below HR0_3.out HB.out) | (with_reducible refine Kd.C_alloc ?_ _) | (with_reducible refine Kd.C_drewN ?_ _) | (with_reducible refine Kd.C_drew ?_))); (case side2 => exact HC0_3.out); rintro e w33 ⟨v699, rfl, ho0, hb⟩; have n0_ := Aside0.mk (Kd.R_lower ho0 (below_size (by repeat (first | (with_reducible first | exact HB.out | apply below_alloc | apply pw_below_drewN | apply below_drew1 | refine below_set ?_ GE691.out) | exact HB.out)))); have n1_ := Aside0.mk (blk_below (g := gb691) (o := .cells #[.int .i64 a0_0, .int .i64 a0_1, .int .i64 a0_2, .slice A0_3 l0_3.length c0_3] 26 (0, 0)) (by (with_reducible repeat (first | refine blk_drewN ?_ _ | refine blk_drew ?_ | refine blk_alloc ?_ _)); exact BK691.out) hb); have n2_ := Aside0.mk (below_step (by repeat (first | (with_reducible first | exact HB.out | apply below_alloc | apply pw_below_drewN | apply below_drew1 | refine below_set ?_ GE691.out) | exact HB.out)) hb); clear BK691; clear HB; have HO700 := n0_; have BK691 := n1_; have HB := n2_; clear n0_ n1_ n2_; (try clear hb); (try clear hb2); (try clear hk); (try clear hi); (try clear ho0); obtain ⟨Ao34, co34, eo34⟩ := Kd.R_slice HO700.out; subst eo34; have p702 : 0 ≤ ((ji27) : Int) := of_decide_eq_true (by first | (with_reducible assumption) | assumption); have q702 : (ji27) < (t698.length : Int) := of_decide_eq_true (by first | (with_reducible assumption) | assumption); obtain ⟨ad702, e702, hx702_0, hx702_1, hx702_2⟩ := at_T23 (Kd.R_reads' HO700.out).2.2 (ji27) p702 q702; cases e702; replace p702 := eq_true p702; replace q702 := eq_true q702) | (go_at_call 51; (with_reducible refine (symbolonref02_Of.calls kj11 ((rd_T23 t698 (ji27)).f0) ((rd_T23 t698 (ji27)).f1) ((rd_T23 t698 (ji27)).f2) (Int.tmod (wrap64 (a2)) t695) t703 t704 t705 t706 _ A30.out).mono ?_); rintro e w35 ⟨rfl, hb⟩; have n0_ := Aside0.mk (Kd.R_below (by (with_reducible repeat (first | apply Kd.R_alloc | apply Kd.R_drewN | apply Kd.R_drew)); exact HO700.out) hb); have n1_ := Aside0.mk (blk_below (g := gb691) (o := .cells #[.int .i64 a0_0, .int .i64 a0_1, .int .i64 a0_2, .slice A0_3 l0_3.length c0_3] 26 (0, 0)) (by (with_reducible repeat (first | refine blk_drewN ?_ _ | refine blk_drew ?_ | refine blk_alloc ?_ _)); exact BK691.out) hb); have n2_ := Aside0.mk (below_step (by repeat (first | (with_reducible first | exact HB.out | apply below_alloc | apply pw_below_drewN | apply below_drew1 | refine below_set ?_ GE691.out) | exact HB.out)) hb); clear HO700; clear BK691; clear HB; have HO700 := n0_; have BK691 := n1_; have HB := n2_; clear n0_ n1_ n2_; (try clear hb); (try clear hb2); (try clear hk); (try clear hi); have p707 : 0 ≤ ((ji27) : Int) := of_decide_eq_true (by first | (with_reducible assumption) | assumption); have q707 : (ji27) < (t698.length : Int) := of_decide_eq_true (by first | (with_reducible assumption) | assumption); obtain ⟨ad707, e707, hx707_0, hx707_1, hx707_2⟩ := at_T23 (Kd.R_reads' HO700.out).2.2 (ji27) p707 q707; obtain rfl : ad702 = ad707 := (by injection e707); replace p707 := eq_true p707; replace q707 := eq_true q707)); try go_wp2_with (first | (go_at_call 28; (with_reducible refine (h05_Shapes.calls a0_0 a0_1 a0_2 _ _ l0_3 t698 t701 _ ?side1 ?side2 A25.out).mono ?_); (case side1 => repeat (first | exact (Kd.C_below HR0_3.out HB.out) | (with_reducible refine Kd.C_alloc ?_ _) | (with_reducible refine Kd.C_drewN ?_ _) | (with_reducible refine Kd.C_drew ?_))); (case side2 => exact HC0_3.out); rintro e w33 ⟨v699, rfl, ho0, hb⟩; have n0_ := Aside0.mk (Kd.R_lower ho0 (below_size (by repeat (first | (with_reducible first | exact HB.out | apply below_alloc | apply pw_below_drewN | apply below_drew1 | refine below_set ?_ GE691.out) | exact HB.out)))); have n1_ := Aside0.mk (blk_below (g := gb691) (o := .cells #[.int .i64 a0_0, .int .i64 a0_1, .int .i64 a0_2, .slice A0_3 l0_3.length c0_3] 26 (0, 0)) (by (with_reducible repeat (first | refine blk_drewN ?_ _ | refine blk_drew ?_ | refine blk_alloc ?_ _)); exact BK691.out) hb); have n2_ := Aside0.mk (below_step (by repeat (first | (with_reducible first | exact HB.out | apply below_alloc | apply pw_below_drewN | apply below_drew1 | refine below_set ?_ GE691.out) | exact HB.out)) hb); clear BK691; clear HB; have HO700 := n0_; have BK691 := n1_; have HB := n2_; clear n0_ n1_ n2_; (try clear hb); (try clear hb2); (try clear hk); (try clear hi); (try clear ho0); obtain ⟨Ao34, co34, eo34⟩ := Kd.R_slice HO700.out; subst eo34; have p702 : 0 ≤ ((ji27) : Int) := of_decide_eq_true (by first | (with_reducible assumption) | assumption); have q702 : (ji27) < (t698.length : Int) := of_decide_eq_true (by first | (with_reducible assumption) | assumption); obtain ⟨ad702, e702, hx702_0, hx702_1, hx702_2⟩ := at_T23 (Kd.R_reads' HO700.out).2.2 (ji27) p702 q702; cases e702; replace p702 := eq_true p702; replace q702 := eq_true q702) | (go_at_call 51; (with_reducible refine (symbolonref02_Of.calls kj11 ((rd_T23 t698 (ji27)).f0) ((rd_T23 t698 (ji27)).f1) ((rd_T23 t698 (ji27)).f2) (Int.tmod (wrap64 (a2)) t695) t703 t704 t705 t706 _ A30.out).mono ?_); rintro e w35 ⟨rfl, hb⟩; have n0_ := Aside0.mk (Kd.R_below (by (with_reducible repeat (first | apply Kd.R_alloc | apply Kd.R_drewN | apply Kd.R_drew)); exact HO700.out) hb); have n1_ := Aside0.mk (blk_below (g := gb691) (o := .cells #[.int .i64 a0_0, .int .i64 a0_1, .int .i64 a0_2, .slice A0_3 l0_3.length c0_3] 26 (0, 0)) (by (with_reducible repeat (first | refine blk_drewN ?_ _ | refine blk_drew ?_ | refine blk_alloc ?_ _)); exact BK691.out) hb); have n2_ := Aside0.mk (below_step (by repeat (first | (with_reducible first | exact HB.out | apply below_alloc | apply pw_below_drewN | apply below_drew1 | refine below_set ?_ GE691.out) | exact HB.out)) hb); clear HO700; clear BK691; clear HB; have HO700 := n0_; have BK691 := n1_; have HB := n2_; clear n0_ n1_ n2_; (try clear hb); (try clear hb2); (try clear hk); (try clear hi); have p707 : 0 ≤ ((ji27) : Int) := of_decide_eq_true (by first | (with_reducible assumption) | assumption); have q707 : (ji27) < (t698.length : Int) := of_decide_eq_true (by first | (with_reducible assumption) | assumption); obtain ⟨ad707, e707, hx707_0, hx707_1, hx707_2⟩ := at_T23 (Kd.R_reads' HO700.out).2.2 (ji27) p707 q707; obtain rfl : ad702 = ad707 := (by injection e707); replace p707 := eq_true p707; replace q707 := eq_true q707)))
                  go_ret
                  exact ⟨by first | rfl | (simp [errW_none, errW_some] <;> rfl) | (simp only [← hji27]; first | rfl | (simp [errW_none, errW_some] <;> rfl)) | (simp [*, errW_none, errW_some] <;> rfl), by repeat (first | (with_reducible first | exact HB.out | apply below_alloc | apply pw_below_drewN | apply below_drew1 | refine below_set ?_ GE691.out) | exact HB.out)⟩
                · rw [if_neg c31] at H
                  have c31b0 : decide (((rd_T23 t698 (ji27)).f2) ≤ (wrap64 (t705 + 1))) = false := decide_eq_false c31
                  clear c31
                  replace H := Option.bind_eq_some_iff.mp H
                  obtain ⟨t708, A360, H⟩ := H
                  replace H : ((terms_Terms.f kj11 a0_0 a0_1 a0_2 l0_3 (Int.tmod (wrap64 (a1)) 8) (wrap64 ((Int.tmod (wrap64 (a2)) t695) + 1))).bind fun t711 => (if (t708.length : Int) = (t711.length : Int) then (symbolonlaw06_TermsSteps.l0 kj11 t692 (Int.tmod (wrap64 (a1)) 8) t708 t711 0 a0_0 a0_1 a0_2 l0_3) else (none))) = some r := H
                  have A36 := Aside0.mk A360
                  clear A360
                  replace H := Option.bind_eq_some_iff.mp H
                  obtain ⟨t711, A370, H⟩ := H
                  replace H : (if (t708.length : Int) = (t711.length : Int) then (symbolonlaw06_TermsSteps.l0 kj11 t692 (Int.tmod (wrap64 (a1)) 8) t708 t711 0 a0_0 a0_1 a0_2 l0_3) else (none)) = some r := H
                  have A37 := Aside0.mk A370
                  clear A370
                  by_cases c38 : (t708.length : Int) = (t711.length : Int)
                  · rw [if_pos c38] at H
                    have c38b0 : ((t708.length : Int) == (t711.length : Int)) = true := beq_iff_eq.mpr c38
                    have c38b1 : ((t708.length : Int) != (t711.length : Int)) = false := bne_eq_false_iff_eq.mpr c38
                    have c38b2 : (t708.length == t711.length) = true := by first | simpa using c38 | (simp at c38 ⊢; omega)
                    clear c38
                    have H' := Aside0.mk H
                    clear H
                    have hcz39_0 : wc.cell? ⟨gb691, 0, none⟩ = some (.int .i64 a0_0) := (blk_cell BK691.out 0).trans rfl
                    have hcz39_1 : wc.cell? ⟨gb691, 1, none⟩ = some (.int .i64 a0_1) := (blk_cell BK691.out 1).trans rfl
                    have hcz39_2 : wc.cell? ⟨gb691, 2, none⟩ = some (.int .i64 a0_2) := (blk_cell BK691.out 2).trans rfl
                    have hcz39_3 : wc.cell? ⟨gb691, 3, none⟩ = some (.slice A0_3 l0_3.length c0_3) := (blk_cell BK691.out 3).trans rfl
                    have hfz39_0 := blk_frozen BK691.out 0
                    have hfz39_1 := blk_frozen BK691.out 1
                    have hfz39_2 := blk_frozen BK691.out 2
                    have hfz39_3 := blk_frozen BK691.out 3
                    go_wp2_with (first | (go_at_call 28; (with_reducible refine (h05_Shapes.calls a0_0 a0_1 a0_2 _ _ l0_3 t698 t701 _ ?side1 ?side2 A25.out).mono ?_); (case side1 => repeat (first | exact (Kd.C_below HR0_3.out HB.out) | (with_reducible refine Kd.C_alloc ?_ _) | (with_reducible refine Kd.C_drewN ?_ _) | (with_reducible refine Kd.C_drew ?_))); (case side2 => exact HC0_3.out); rintro e w40 ⟨v699, rfl, ho0, hb⟩; have n0_ := Aside0.mk (Kd.R_lower ho0 (below_size (by repeat (first | (with_reducible first | exact HB.out | apply below_alloc | apply pw_below_drewN | apply below_drew1 | refine below_set ?_ GE691.out) | exact HB.out)))); have n1_ := Aside0.mk (blk_below (g := gb691) (o := .cells #[.int .i64 a0_0, .int .i64 a0_1, .int .i64 a0_2, .slice A0_3 l0_3.length c0_3] 26 (0, 0)) (by (with_reducible repeat (first | refine blk_drewN ?_ _ | refine blk_drew ?_ | refine blk_alloc ?_ _)); exact BK691.out) hb); have n2_ := Aside0.mk (below_step (by repeat (first | (with_reducible first | exact HB.out | apply below_alloc | apply pw_below_drewN | apply below_drew1 | refine below_set ?_ GE691.out) | exact HB.out)) hb); clear BK691; clear HB; have HO700 := n0_; have BK691 := n1_; have HB := n2_; clear n0_ n1_ n2_; (try clear hb); (try clear hb2); (try clear hk); (try clear hi); (try clear ho0); obtain ⟨Ao41, co41, eo41⟩ := Kd.R_slice HO700.out; subst eo41; have p702 : 0 ≤ ((ji27) : Int) := of_decide_eq_true (by first | (with_reducible assumption) | assumption); have q702 : (ji27) < (t698.length : Int) := of_decide_eq_true (by first | (with_reducible assumption) | assumption); obtain ⟨ad702, e702, hx702_0, hx702_1, hx702_2⟩ := at_T23 (Kd.R_reads' HO700.out).2.2 (ji27) p702 q702; cases e702; replace p702 := eq_true p702; replace q702 := eq_true q702) | (go_at_call 51; (with_reducible refine (symbolonref02_Of.calls kj11 ((rd_T23 t698 (ji27)).f0) ((rd_T23 t698 (ji27)).f1) ((rd_T23 t698 (ji27)).f2) (Int.tmod (wrap64 (a2)) t695) t703 t704 t705 t706 _ A30.out).mono ?_); rintro e w42 ⟨rfl, hb⟩; have n0_ := Aside0.mk (Kd.R_below (by (with_reducible repeat (first | apply Kd.R_alloc | apply Kd.R_drewN | apply Kd.R_drew)); exact HO700.out) hb); have n1_ := Aside0.mk (blk_below (g := gb691) (o := .cells #[.int .i64 a0_0, .int .i64 a0_1, .int .i64 a0_2, .slice A0_3 l0_3.length c0_3] 26 (0, 0)) (by (with_reducible repeat (first | refine blk_drewN ?_ _ | refine blk_drew ?_ | refine blk_alloc ?_ _)); exact BK691.out) hb); have n2_ := Aside0.mk (below_step (by repeat (first | (with_reducible first | exact HB.out | apply below_alloc | apply pw_below_drewN | apply below_drew1 | refine below_set ?_ GE691.out) | exact HB.out)) hb); clear HO700; clear BK691; clear HB; have HO700 := n0_; have BK691 := n1_; have HB := n2_; clear n0_ n1_ n2_; (try clear hb); (try clear hb2); (try clear hk); (try clear hi); have p707 : 0 ≤ ((ji27) : Int) := of_decide_eq_true (by first | (with_reducible assumption) | assumption); have q707 : (ji27) < (t698.length : Int) := of_decide_eq_true (by first | (with_reducible assumption) | assumption); obtain ⟨ad707, e707, hx707_0, hx707_1, hx707_2⟩ := at_T23 (Kd.R_reads' HO700.out).2.2 (ji27) p707 q707; obtain rfl : ad702 = ad707 := (by injection e707); replace p707 := eq_true p707; replace q707 := eq_true q707; have hcz43_0 : w42.cell? ⟨gb691, 0, none⟩ = some (.int .i64 a0_0) := (blk_cell BK691.out 0).trans rfl; have hcz43_1 : w42.cell? ⟨gb691, 1, none⟩ = some (.int .i64 a0_1) := (blk_cell BK691.out 1).trans rfl; have hcz43_2 : w42.cell? ⟨gb691, 2, none⟩ = some (.int .i64 a0_2) := (blk_cell BK691.out 2).trans rfl; have hcz43_3 : w42.cell? ⟨gb691, 3, none⟩ = some (.slice A0_3 l0_3.length c0_3) := (blk_cell BK691.out 3).trans rfl; have hfz43_0 := blk_frozen BK691.out 0; have hfz43_1 := blk_frozen BK691.out 1; have hfz43_2 := blk_frozen BK691.out 2; have hfz43_3 := blk_frozen BK691.out 3) | (go_at_call 45; (with_reducible refine (terms_Terms.calls kj11 a0_0 a0_1 a0_2 _ _ l0_3 (Int.tmod (wrap64 (a1)) 8) (Int.tmod (wrap64 (a2)) t695) t708 _ ?side1 ?side2 A36.out).mono ?_); (case side1 => repeat (first | exact (Kd.C_below HR0_3.out HB.out) | (with_reducible refine Kd.C_alloc ?_ _) | (with_reducible refine Kd.C_drewN ?_ _) | (with_reducible refine Kd.C_drew ?_))); (case side2 => exact HC0_3.out); rintro e w44 ⟨v709, rfl, ho0, hb⟩; have n0_ := Aside0.mk (Kd.R_below (by (with_reducible repeat (first | apply Kd.R_alloc | apply Kd.R_drewN | apply Kd.R_drew)); exact HO700.out) hb); have n1_ := Aside0.mk (Kd.R_lower ho0 (below_size (by repeat (first | (with_reducible first | exact HB.out | apply below_alloc | apply pw_below_drewN | apply below_drew1 | refine below_set ?_ GE691.out) | exact HB.out)))); have n2_ := Aside0.mk (blk_below (g := gb691) (o := .cells #[.int .i64 a0_0, .int .i64 a0_1, .int .i64 a0_2, .slice A0_3 l0_3.length c0_3] 26 (0, 0)) (by (with_reducible repeat (first | refine blk_drewN ?_ _ | refine blk_drew ?_ | refine blk_alloc ?_ _)); exact BK691.out) hb); have n3_ := Aside0.mk (below_step (by repeat (first | (with_reducible first | exact HB.out | apply below_alloc | apply pw_below_drewN | apply below_drew1 | refine below_set ?_ GE691.out) | exact HB.out)) hb); clear HO700; clear BK691; clear HB; have HO700 := n0_; have HO710 := n1_; have BK691 := n2_; have HB := n3_; clear n0_ n1_ n2_ n3_; (try clear hb); (try clear hb2); (try clear hk); (try clear hi); (try clear ho0); have hcz45_0 : w44.cell? ⟨gb691, 0, none⟩ = some (.int .i64 a0_0) := (blk_cell BK691.out 0).trans rfl; have hcz45_1 : w44.cell? ⟨gb691, 1, none⟩ = some (.int .i64 a0_1) := (blk_cell BK691.out 1).trans rfl; have hcz45_2 : w44.cell? ⟨gb691, 2, none⟩ = some (.int .i64 a0_2) := (blk_cell BK691.out 2).trans rfl; have hcz45_3 : w44.cell? ⟨gb691, 3, none⟩ = some (.slice A0_3 l0_3.length c0_3) := (blk_cell BK691.out 3).trans rfl; have hfz45_0 := blk_frozen BK691.out 0; have hfz45_1 := blk_frozen BK691.out 1; have hfz45_2 := blk_frozen BK691.out 2; have hfz45_3 := blk_frozen BK691.out 3) | (go_at_call 45; (with_reducible refine (terms_Terms.calls kj11 a0_0 a0_1 a0_2 _ _ l0_3 (Int.tmod (wrap64 (a1)) 8) (wrap64 ((Int.tmod (wrap64 (a2)) t695) + 1)) t711 _ ?side1 ?side2 A37.out).mono ?_); (case side1 => repeat (first | exact (Kd.C_below HR0_3.out HB.out) | (with_reducible refine Kd.C_alloc ?_ _) | (with_reducible refine Kd.C_drewN ?_ _) | (with_reducible refine Kd.C_drew ?_))); (case side2 => exact HC0_3.out); rintro e w46 ⟨v712, rfl, ho0, hb⟩; have n0_ := Aside0.mk (Kd.R_below (by (with_reducible repeat (first | apply Kd.R_alloc | apply Kd.R_drewN | apply Kd.R_drew)); exact HO700.out) hb); have n1_ := Aside0.mk (Kd.R_elder' (by (with_reducible repeat (first | apply Kd.R_alloc | apply Kd.R_drewN | apply Kd.R_drew)); exact HO710.out) (Kd.R_base ho0) hb); have n2_ := Aside0.mk (Kd.R_lower (Kd.R_new' ho0 (Kd.R_lt (by (with_reducible repeat (first | apply Kd.R_alloc | apply Kd.R_drewN | apply Kd.R_drew)); exact HO710.out))) (below_size (by repeat (first | (with_reducible first | exact HB.out | apply below_alloc | apply pw_below_drewN | apply below_drew1 | refine below_set ?_ GE691.out) | exact HB.out)))); have n3_ := Aside0.mk (blk_below (g := gb691) (o := .cells #[.int .i64 a0_0, .int .i64 a0_1, .int .i64 a0_2, .slice A0_3 l0_3.length c0_3] 26 (0, 0)) (by (with_reducible repeat (first | refine blk_drewN ?_ _ | refine blk_drew ?_ | refine blk_alloc ?_ _)); exact BK691.out) hb); have n4_ := Aside0.mk (below_step (by repeat (first | (with_reducible first | exact HB.out | apply below_alloc | apply pw_below_drewN | apply below_drew1 | refine below_set ?_ GE691.out) | exact HB.out)) hb); clear HO700; clear HO710; clear BK691; clear HB; have HO700 := n0_; have HO710 := n1_; have HO713 := n2_; have BK691 := n3_; have HB := n4_; clear n0_ n1_ n2_ n3_ n4_; (try clear hb); (try clear hb2); (try clear hk); (try clear hi); (try clear ho0); obtain ⟨Ao47, co47, eo47⟩ := Kd.R_slice HO710.out; subst eo47; obtain ⟨Ao48, co48, eo48⟩ := Kd.R_slice HO713.out; subst eo48))
                    repeat (go_quiet (first | (go_at_call 28; (with_reducible refine (h05_Shapes.calls a0_0 a0_1 a0_2 _ _ l0_3 t698 t701 _ ?side1 ?side2 A25.out).mono ?_); (case side1 => repeat (first | exact (Kd.C_below HR0_3.out HB.out) | (with_reducible refine Kd.C_alloc ?_ _) | (with_reducible refine Kd.C_drewN ?_ _) | (with_reducible refine Kd.C_drew ?_))); (case side2 => exact HC0_3.out); rintro e w40 ⟨v699, rfl, ho0, hb⟩; have n0_ := Aside0.mk (Kd.R_lower ho0 (below_size (by repeat (first | (with_reducible first | exact HB.out | apply below_alloc | apply pw_below_drewN | apply below_drew1 | refine below_set ?_ GE691.out) | exact HB.out)))); have n1_ := Aside0.mk (blk_below (g := gb691) (o := .cells #[.int .i64 a0_0, .int .i64 a0_1, .int .i64 a0_2, .slice A0_3 l0_3.length c0_3] 26 (0, 0)) (by (with_reducible repeat (first | refine blk_drewN ?_ _ | refine blk_drew ?_ | refine blk_alloc ?_ _)); exact BK691.out) hb); have n2_ := Aside0.mk (below_step (by repeat (first | (with_reducible first | exact HB.out | apply below_alloc | apply pw_below_drewN | apply below_drew1 | refine below_set ?_ GE691.out) | exact HB.out)) hb); clear BK691; clear HB; have HO700 := n0_; have BK691 := n1_; have HB := n2_; clear n0_ n1_ n2_; (try clear hb); (try clear hb2); (try clear hk); (try clear hi); (try clear ho0); obtain ⟨Ao41, co41, eo41⟩ := Kd.R_slice HO700.out; subst eo41; have p702 : 0 ≤ ((ji27) : Int) := of_decide_eq_true (by first | (with_reducible assumption) | assumption); have q702 : (ji27) < (t698.length : Int) := of_decide_eq_true (by first | (with_reducible assumption) | assumption); obtain ⟨ad702, e702, hx702_0, hx702_1, hx702_2⟩ := at_T23 (Kd.R_reads' HO700.out).2.2 (ji27) p702 q702; cases e702; replace p702 := eq_true p702; replace q702 := eq_true q702) | (go_at_call 51; (with_reducible refine (symbolonref02_Of.calls kj11 ((rd_T23 t698 (ji27)).f0) ((rd_T23 t698 (ji27)).f1) ((rd_T23 t698 (ji27)).f2) (Int.tmod (wrap64 (a2)) t695) t703 t704 t705 t706 _ A30.out).mono ?_); rintro e w42 ⟨rfl, hb⟩; have n0_ := Aside0.mk (Kd.R_below (by (with_reducible repeat (first | apply Kd.R_alloc | apply Kd.R_drewN | apply Kd.R_drew)); exact HO700.out) hb); have n1_ := Aside0.mk (blk_below (g := gb691) (o := .cells #[.int .i64 a0_0, .int .i64 a0_1, .int .i64 a0_2, .slice A0_3 l0_3.length c0_3] 26 (0, 0)) (by (with_reducible repeat (first | refine blk_drewN ?_ _ | refine blk_drew ?_ | refine blk_alloc ?_ _)); exact BK691.out) hb); have n2_ := Aside0.mk (below_step (by repeat (first | (with_reducible first | exact HB.out | apply below_alloc | apply pw_below_drewN | apply below_drew1 | refine below_set ?_ GE691.out) | exact HB.out)) hb); clear HO700; clear BK691; clear HB; have HO700 := n0_; have BK691 := n1_; have HB := n2_; clear n0_ n1_ n2_; (try clear hb); (try clear hb2); (try clear hk); (try clear hi); have p707 : 0 ≤ ((ji27) : Int) := of_decide_eq_true (by first | (with_reducible assumption) | assumption); have q707 : (ji27) < (t698.length : Int) := of_decide_eq_true (by first | (with_reducible assumption) | assumption); obtain ⟨ad707, e707, hx707_0, hx707_1, hx707_2⟩ := at_T23 (Kd.R_reads' HO700.out).2.2 (ji27) p707 q707; obtain rfl : ad702 = ad707 := (by injection e707); replace p707 := eq_true p707; replace q707 := eq_true q707; have hcz43_0 : w42.cell? ⟨gb691, 0, none⟩ = some (.int .i64 a0_0) := (blk_cell BK691.out 0).trans rfl; have hcz43_1 : w42.cell? ⟨gb691, 1, none⟩ = some (.int .i64 a0_1) := (blk_cell BK691.out 1).trans rfl; have hcz43_2 : w42.cell? ⟨gb691, 2, none⟩ = some (.int .i64 a0_2) := (blk_cell BK691.out 2).trans rfl; have hcz43_3 : w42.cell? ⟨gb691, 3, none⟩ = some (.slice A0_3 l0_3.length c0_3) := (blk_cell BK691.out 3).trans rfl; have hfz43_0 := blk_frozen BK691.out 0; have hfz43_1 := blk_frozen BK691.out 1; have hfz43_2 := blk_frozen BK691.out 2; have hfz43_3 := blk_frozen BK691.out 3) | (go_at_call 45; (with_reducible refine (terms_Terms.calls kj11 a0_0 a0_1 a0_2 _ _ l0_3 (Int.tmod (wrap64 (a1)) 8) (Int.tmod (wrap64 (a2)) t695) t708 _ ?side1 ?side2 A36.out).mono ?_); (case side1 => repeat (first | exact (Kd.C_below HR0_3.out HB.out) | (with_reducible refine Kd.C_alloc ?_ _) | (with_reducible refine Kd.C_drewN ?_ _) | (with_reducible refine Kd.C_drew ?_))); (case side2 => exact HC0_3.out); rintro e w44 ⟨v709, rfl, ho0, hb⟩; have n0_ := Aside0.mk (Kd.R_below (by (with_reducible repeat (first | apply Kd.R_alloc | apply Kd.R_drewN | apply Kd.R_drew)); exact HO700.out) hb); have n1_ := Aside0.mk (Kd.R_lower ho0 (below_size (by repeat (first | (with_reducible first | exact HB.out | apply below_alloc | apply pw_below_drewN | apply below_drew1 | refine below_set ?_ GE691.out) | exact HB.out)))); have n2_ := Aside0.mk (blk_below (g := gb691) (o := .cells #[.int .i64 a0_0, .int .i64 a0_1, .int .i64 a0_2, .slice A0_3 l0_3.length c0_3] 26 (0, 0)) (by (with_reducible repeat (first | refine blk_drewN ?_ _ | refine blk_drew ?_ | refine blk_alloc ?_ _)); exact BK691.out) hb); have n3_ := Aside0.mk (below_step (by repeat (first | (with_reducible first | exact HB.out | apply below_alloc | apply pw_below_drewN | apply below_drew1 | refine below_set ?_ GE691.out) | exact HB.out)) hb); clear HO700; clear BK691; clear HB; have HO700 := n0_; have HO710 := n1_; have BK691 := n2_; have HB := n3_; clear n0_ n1_ n2_ n3_; (try clear hb); (try clear hb2); (try clear hk); (try clear hi); (try clear ho0); have hcz45_0 : w44.cell? ⟨gb691, 0, none⟩ = some (.int .i64 a0_0) := (blk_cell BK691.out 0).trans rfl; have hcz45_1 : w44.cell? ⟨gb691, 1, none⟩ = some (.int .i64 a0_1) := (blk_cell BK691.out 1).trans rfl; have hcz45_2 : w44.cell? ⟨gb691, 2, none⟩ = some (.int .i64 a0_2) := (blk_cell BK691.out 2).trans rfl; have hcz45_3 : w44.cell? ⟨gb691, 3, none⟩ = some (.slice A0_3 l0_3.length c0_3) := (blk_cell BK691.out 3).trans rfl; have hfz45_0 := blk_frozen BK691.out 0; have hfz45_1 := blk_frozen BK691.out 1; have hfz45_2 := blk_frozen BK691.out 2; have hfz45_3 := blk_frozen BK691.out 3) | (go_at_call 45; (with_reducible refine (terms_Terms.calls kj11 a0_0 a0_1 a0_2 _ _ l0_3 (Int.tmod (wrap64 (a1)) 8) (wrap64 ((Int.tmod (wrap64 (a2)) t695) + 1)) t711 _ ?side1 ?side2 A37.out).mono ?_); (case side1 => repeat (first | exact (Kd.C_below HR0_3.out HB.out) | (with_reducible refine Kd.C_alloc ?_ _) | (with_reducible refine Kd.C_drewN ?_ _) | (with_reducible refine Kd.C_drew ?_))); (case side2 => exact HC0_3.out); rintro e w46 ⟨v712, rfl, ho0, hb⟩; have n0_ := Aside0.mk (Kd.R_below (by (with_reducible repeat (first | apply Kd.R_alloc | apply Kd.R_drewN | apply Kd.R_drew)); exact HO700.out) hb); have n1_ := Aside0.mk (Kd.R_elder' (by (with_reducible repeat (first | apply Kd.R_alloc | apply Kd.R_drewN | apply Kd.R_drew)); exact HO710.out) (Kd.R_base ho0) hb); have n2_ := Aside0.mk (Kd.R_lower (Kd.R_new' ho0 (Kd.R_lt (by (with_reducible repeat (first | apply Kd.R_alloc | apply Kd.R_drewN | apply Kd.R_drew)); exact HO710.out))) (below_size (by repeat (first | (with_reducible first | exact HB.out | apply below_alloc | apply pw_below_drewN | apply below_drew1 | refine below_set ?_ GE691.out) | exact HB.out)))); have n3_ := Aside0.mk (blk_below (g := gb691) (o := .cells #[.int .i64 a0_0, .int .i64 a0_1, .int .i64 a0_2, .slice A0_3 l0_3.length c0_3] 26 (0, 0)) (by (with_reducible repeat (first | refine blk_drewN ?_ _ | refine blk_drew ?_ | refine blk_alloc ?_ _)); exact BK691.out) hb); have n4_ := Aside0.mk (below_step (by repeat (first | (with_reducible first | exact HB.out | apply below_alloc | apply pw_below_drewN | apply below_drew1 | refine below_set ?_ GE691.out) | exact HB.out)) hb); clear HO700; clear HO710; clear BK691; clear HB; have HO700 := n0_; have HO710 := n1_; have HO713 := n2_; have BK691 := n3_; have HB := n4_; clear n0_ n1_ n2_ n3_ n4_; (try clear hb); (try clear hb2); (try clear hk); (try clear hi); (try clear ho0); obtain ⟨Ao47, co47, eo47⟩ := Kd.R_slice HO710.out; subst eo47; obtain ⟨Ao48, co48, eo48⟩ := Kd.R_slice HO713.out; subst eo48)); try go_wp2_with (first | (go_at_call 28; (with_reducible refine (h05_Shapes.calls a0_0 a0_1 a0_2 _ _ l0_3 t698 t701 _ ?side1 ?side2 A25.out).mono ?_); (case side1 => repeat (first | exact (Kd.C_below HR0_3.out HB.out) | (with_reducible refine Kd.C_alloc ?_ _) | (with_reducible refine Kd.C_drewN ?_ _) | (with_reducible refine Kd.C_drew ?_))); (case side2 => exact HC0_3.out); rintro e w40 ⟨v699, rfl, ho0, hb⟩; have n0_ := Aside0.mk (Kd.R_lower ho0 (below_size (by repeat (first | (with_reducible first | exact HB.out | apply below_alloc | apply pw_below_drewN | apply below_drew1 | refine below_set ?_ GE691.out) | exact HB.out)))); have n1_ := Aside0.mk (blk_below (g := gb691) (o := .cells #[.int .i64 a0_0, .int .i64 a0_1, .int .i64 a0_2, .slice A0_3 l0_3.length c0_3] 26 (0, 0)) (by (with_reducible repeat (first | refine blk_drewN ?_ _ | refine blk_drew ?_ | refine blk_alloc ?_ _)); exact BK691.out) hb); have n2_ := Aside0.mk (below_step (by repeat (first | (with_reducible first | exact HB.out | apply below_alloc | apply pw_below_drewN | apply below_drew1 | refine below_set ?_ GE691.out) | exact HB.out)) hb); clear BK691; clear HB; have HO700 := n0_; have BK691 := n1_; have HB := n2_; clear n0_ n1_ n2_; (try clear hb); (try clear hb2); (try clear hk); (try clear hi); (try clear ho0); obtain ⟨Ao41, co41, eo41⟩ := Kd.R_slice HO700.out; subst eo41; have p702 : 0 ≤ ((ji27) : Int) := of_decide_eq_true (by first | (with_reducible assumption) | assumption); have q702 : (ji27) < (t698.length : Int) := of_decide_eq_true (by first | (with_reducible assumption) | assumption); obtain ⟨ad702, e702, hx702_0, hx702_1, hx702_2⟩ := at_T23 (Kd.R_reads' HO700.out).2.2 (ji27) p702 q702; cases e702; replace p702 := eq_true p702; replace q702 := eq_true q702) | (go_at_call 51; (with_reducible refine (symbolonref02_Of.calls kj11 ((rd_T23 t698 (ji27)).f0) ((rd_T23 t698 (ji27)).f1) ((rd_T23 t698 (ji27)).f2) (Int.tmod (wrap64 (a2)) t695) t703 t704 t705 t706 _ A30.out).mono ?_); rintro e w42 ⟨rfl, hb⟩; have n0_ := Aside0.mk (Kd.R_below (by (with_reducible repeat (first | apply Kd.R_alloc | apply Kd.R_drewN | apply Kd.R_drew)); exact HO700.out) hb); have n1_ := Aside0.mk (blk_below (g := gb691) (o := .cells #[.int .i64 a0_0, .int .i64 a0_1, .int .i64 a0_2, .slice A0_3 l0_3.length c0_3] 26 (0, 0)) (by (with_reducible repeat (first | refine blk_drewN ?_ _ | refine blk_drew ?_ | refine blk_alloc ?_ _)); exact BK691.out) hb); have n2_ := Aside0.mk (below_step (by repeat (first | (with_reducible first | exact HB.out | apply below_alloc | apply pw_below_drewN | apply below_drew1 | refine below_set ?_ GE691.out) | exact HB.out)) hb); clear HO700; clear BK691; clear HB; have HO700 := n0_; have BK691 := n1_; have HB := n2_; clear n0_ n1_ n2_; (try clear hb); (try clear hb2); (try clear hk); (try clear hi); have p707 : 0 ≤ ((ji27) : Int) := of_decide_eq_true (by first | (with_reducible assumption) | assumption); have q707 : (ji27) < (t698.length : Int) := of_decide_eq_true (by first | (with_reducible assumption) | assumption); obtain ⟨ad707, e707, hx707_0, hx707_1, hx707_2⟩ := at_T23 (Kd.R_reads' HO700.out).2.2 (ji27) p707 q707; obtain rfl : ad702 = ad707 := (by injection e707); replace p707 := eq_true p707; replace q707 := eq_true q707; have hcz43_0 : w42.cell? ⟨gb691, 0, none⟩ = some (.int .i64 a0_0) := (blk_cell BK691.out 0).trans rfl; have hcz43_1 : w42.cell? ⟨gb691, 1, none⟩ = some (.int .i64 a0_1) := (blk_cell BK691.out 1).trans rfl; have hcz43_2 : w42.cell? ⟨gb691, 2, none⟩ = some (.int .i64 a0_2) := (blk_cell BK691.out 2).trans rfl; have hcz43_3 : w42.cell? ⟨gb691, 3, none⟩ = some (.slice A0_3 l0_3.length c0_3) := (blk_cell BK691.out 3).trans rfl; have hfz43_0 := blk_frozen BK691.out 0; have hfz43_1 := blk_frozen BK691.out 1; have hfz43_2 := blk_frozen BK691.out 2; have hfz43_3 := blk_frozen BK691.out 3) | (go_at_call 45; (with_reducible refine (terms_Terms.calls kj11 a0_0 a0_1 a0_2 _ _ l0_3 (Int.tmod (wrap64 (a1)) 8) (Int.tmod (wrap64 (a2)) t695) t708 _ ?side1 ?side2 A36.out).mono ?_); (case side1 => repeat (first | exact (Kd.C_below HR0_3.out HB.out) | (with_reducible refine Kd.C_alloc ?_ _) | (with_reducible refine Kd.C_drewN ?_ _) | (with_reducible refine Kd.C_drew ?_))); (case side2 => exact HC0_3.out); rintro e w44 ⟨v709, rfl, ho0, hb⟩; have n0_ := Aside0.mk (Kd.R_below (by (with_reducible repeat (first | apply Kd.R_alloc | apply Kd.R_drewN | apply Kd.R_drew)); exact HO700.out) hb); have n1_ := Aside0.mk (Kd.R_lower ho0 (below_size (by repeat (first | (with_reducible first | exact HB.out | apply below_alloc | apply pw_below_drewN | apply below_drew1 | refine below_set ?_ GE691.out) | exact HB.out)))); have n2_ := Aside0.mk (blk_below (g := gb691) (o := .cells #[.int .i64 a0_0, .int .i64 a0_1, .int .i64 a0_2, .slice A0_3 l0_3.length c0_3] 26 (0, 0)) (by (with_reducible repeat (first | refine blk_drewN ?_ _ | refine blk_drew ?_ | refine blk_alloc ?_ _)); exact BK691.out) hb); have n3_ := Aside0.mk (below_step (by repeat (first | (with_reducible first | exact HB.out | apply below_alloc | apply pw_below_drewN | apply below_drew1 | refine below_set ?_ GE691.out) | exact HB.out)) hb); clear HO700; clear BK691; clear HB; have HO700 := n0_; have HO710 := n1_; have BK691 := n2_; have HB := n3_; clear n0_ n1_ n2_ n3_; (try clear hb); (try clear hb2); (try clear hk); (try clear hi); (try clear ho0); have hcz45_0 : w44.cell? ⟨gb691, 0, none⟩ = some (.int .i64 a0_0) := (blk_cell BK691.out 0).trans rfl; have hcz45_1 : w44.cell? ⟨gb691, 1, none⟩ = some (.int .i64 a0_1) := (blk_cell BK691.out 1).trans rfl; have hcz45_2 : w44.cell? ⟨gb691, 2, none⟩ = some (.int .i64 a0_2) := (blk_cell BK691.out 2).trans rfl; have hcz45_3 : w44.cell? ⟨gb691, 3, none⟩ = some (.slice A0_3 l0_3.length c0_3) := (blk_cell BK691.out 3).trans rfl; have hfz45_0 := blk_frozen BK691.out 0; have hfz45_1 := blk_frozen BK691.out 1; have hfz45_2 := blk_frozen BK691.out 2; have hfz45_3 := blk_frozen BK691.out 3) | (go_at_call 45; (with_reducible refine (terms_Terms.calls kj11 a0_0 a0_1 a0_2 _ _ l0_3 (Int.tmod (wrap64 (a1)) 8) (wrap64 ((Int.tmod (wrap64 (a2)) t695) + 1)) t711 _ ?side1 ?side2 A37.out).mono ?_); (case side1 => repeat (first | exact (Kd.C_below HR0_3.out HB.out) | (with_reducible refine Kd.C_alloc ?_ _) | (with_reducible refine Kd.C_drewN ?_ _) | (with_reducible refine Kd.C_drew ?_))); (case side2 => exact HC0_3.out); rintro e w46 ⟨v712, rfl, ho0, hb⟩; have n0_ := Aside0.mk (Kd.R_below (by (with_reducible repeat (first | apply Kd.R_alloc | apply Kd.R_drewN | apply Kd.R_drew)); exact HO700.out) hb); have n1_ := Aside0.mk (Kd.R_elder' (by (with_reducible repeat (first | apply Kd.R_alloc | apply Kd.R_drewN | apply Kd.R_drew)); exact HO710.out) (Kd.R_base ho0) hb); have n2_ := Aside0.mk (Kd.R_lower (Kd.R_new' ho0 (Kd.R_lt (by (with_reducible repeat (first | apply Kd.R_alloc | apply Kd.R_drewN | apply Kd.R_drew)); exact HO710.out))) (below_size (by repeat (first | (with_reducible first | exact HB.out | apply below_alloc | apply pw_below_drewN | apply below_drew1 | refine below_set ?_ GE691.out) | exact HB.out)))); have n3_ := Aside0.mk (blk_below (g := gb691) (o := .cells #[.int .i64 a0_0, .int .i64 a0_1, .int .i64 a0_2, .slice A0_3 l0_3.length c0_3] 26 (0, 0)) (by (with_reducible repeat (first | refine blk_drewN ?_ _ | refine blk_drew ?_ | refine blk_alloc ?_ _)); exact BK691.out) hb); have n4_ := Aside0.mk (below_step (by repeat (first | (with_reducible first | exact HB.out | apply below_alloc | apply pw_below_drewN | apply below_drew1 | refine below_set ?_ GE691.out) | exact HB.out)) hb); clear HO700; clear HO710; clear BK691; clear HB; have HO700 := n0_; have HO710 := n1_; have HO713 := n2_; have BK691 := n3_; have HB := n4_; clear n0_ n1_ n2_ n3_ n4_; (try clear hb); (try clear hb2); (try clear hk); (try clear hi); (try clear ho0); obtain ⟨Ao47, co47, eo47⟩ := Kd.R_slice HO710.out; subst eo47; obtain ⟨Ao48, co48, eo48⟩ := Kd.R_slice HO713.out; subst eo48)))
                    go_loopg [21] kj11 (fun kq v21 w' => ∃ (x21_2 : Int), v21 = .int .i64 x21_2 ∧ Aside0 (symbolonlaw06_TermsSteps.l0 kq t692 (Int.tmod (wrap64 (a1)) 8) t708 t711 x21_2 a0_0 a0_1 a0_2 l0_3 = some r) ∧ Aside0 (kq ≤ kj11) ∧ Aside0 (Kd.R k58 58 w' w.heap.size (fun k_ => some k_ ≠ ((.slice Ao48 t711.length co48) : Value).ownBlock) (.slice Ao47 t708.length co47) t708) ∧ Aside0 (Kd.R k58 58 w' w.heap.size (fun k_ => some k_ ≠ ((.slice Ao47 t708.length co47) : Value).ownBlock) (.slice Ao48 t711.length co48) t711) ∧ Aside0 (w'.heap[gb691]? = some (.cells #[.int .i64 a0_0, .int .i64 a0_1, .int .i64 a0_2, (.slice A0_3 l0_3.length c0_3)] 26 (0, 0))) ∧ Aside0 (Below w.heap.size w w'))
                    case atStart => exact ⟨(0), (by first | rfl | (simp; done) | (simp [*]; done)), H', ⟨Nat.le_refl _⟩, ⟨by (with_reducible repeat (first | apply Kd.R_alloc | apply Kd.R_drewN | apply Kd.R_drew)); exact Kd.R_mono HO710.out (fun _ hk => hk.2)⟩, ⟨by (with_reducible repeat (first | apply Kd.R_alloc | apply Kd.R_drewN | apply Kd.R_drew)); exact Kd.R_mono HO713.out (fun _ hk => hk.2)⟩, ⟨by (with_reducible repeat (first | refine blk_drewN ?_ _ | refine blk_drew ?_ | refine blk_alloc ?_ _)); exact BK691.out⟩, ⟨by repeat (first | (with_reducible first | exact HB.out | apply below_alloc | apply pw_below_drewN | apply below_drew1 | refine below_set ?_ GE691.out) | exact HB.out)⟩⟩
                    case round =>
                      clear H'
                      try clear c1
                      try clear c2
                      try clear p2
                      try clear c3
                      try clear c6
                      try clear p6
                      try clear q6
                      try clear hx6
                      try clear p7
                      try clear q7
                      try clear hx7
                      try clear c14
                      try clear c19
                      try clear c21
                      try clear c21b0
                      try clear c22
                      try clear c22b0
                      try clear c24
                      try clear c26
                      try clear c26b0
                      try clear c26b1
                      try clear c28
                      try clear c28b0
                      try clear c29
                      try clear c29b0
                      try clear c31
                      try clear c31b0
                      try clear c38
                      try clear c38b0
                      try clear c38b1
                      try clear c38b2
                      try clear hcz15_0
                      try clear hcz15_1
                      try clear hcz15_2
                      try clear hcz15_3
                      try clear hcz17_0
                      try clear hcz17_1
                      try clear hcz17_2
                      try clear hcz17_3
                      try clear hcz23_0
                      try clear hcz23_1
                      try clear hcz23_2
                      try clear hcz23_3
                      try clear hcz32_0
                      try clear hcz32_1
                      try clear hcz32_2
                      try clear hcz32_3
                      try clear hcz39_0
                      try clear hcz39_1
                      try clear hcz39_2
                      try clear hcz39_3
                      try clear hcz43_0
                      try clear hcz43_1
                      try clear hcz43_2
                      try clear hcz43_3
                      try clear hcz45_0
                      try clear hcz45_1
                      try clear hcz45_2
                      try clear hcz45_3
                      try clear hcz9_0
                      try clear hcz9_1
                      try clear hcz9_2
                      try clear hcz9_3
                      try clear hfz15_0
                      try clear hfz15_1
                      try clear hfz15_2
                      try clear hfz15_3
                      try clear hfz17_0
                      try clear hfz17_1
                      try clear hfz17_2
                      try clear hfz17_3
                      try clear hfz23_0
                      try clear hfz23_1
                      try clear hfz23_2
                      try clear hfz23_3
                      try clear hfz32_0
                      try clear hfz32_1
                      try clear hfz32_2
                      try clear hfz32_3
                      try clear hfz39_0
                      try clear hfz39_1
                      try clear hfz39_2
                      try clear hfz39_3
                      try clear hfz43_0
                      try clear hfz43_1
                      try clear hfz43_2
                      try clear hfz43_3
                      try clear hfz45_0
                      try clear hfz45_1
                      try clear hfz45_2
                      try clear hfz45_3
                      try clear hfz9_0
                      try clear hfz9_1
                      try clear hfz9_2
                      try clear hfz9_3
                      try clear hx697_0
                      try clear hx697_1
                      try clear hx697_2
                      try clear hx697_3
                      try clear hx702_0
                      try clear hx702_1
                      try clear hx702_2
                      try clear hx707_0
                      try clear hx707_1
                      try clear hx707_2
                      try clear p2
                      try clear p6
                      try clear p697
                      try clear p702
                      try clear p707
                      try clear q6
                      try clear q697
                      try clear q702
                      try clear q707
                      obtain ⟨x21_2, rfl, HA, HK2, HO_19, HO_20, BK691, HB⟩ := hrel
                      cases gk with
                      | zero => exact absurd HA.out (by simp [symbolonlaw06_TermsSteps.l0])
                      | succ k2 =>
                        have H := HA.out
                        clear HA
                        simp only [symbolonlaw06_TermsSteps.l0] at H
                        by_cases c49 : x21_2 < (t708.length : Int)
                        · rw [if_pos c49] at H
                          have c49b0 : decide (x21_2 < (t708.length : Int)) = true := decide_eq_true c49
                          clear c49
                          by_cases c50 : 0 ≤ x21_2
                          · rw [if_pos c50] at H
                            have c50b0 : decide (0 ≤ x21_2) = true := decide_eq_true c50
                            clear c50
                            by_cases c51 : x21_2 < (t711.length : Int)
                            · rw [if_pos c51] at H
                              have c51b0 : decide (x21_2 < (t711.length : Int)) = true := decide_eq_true c51
                              clear c51
                              obtain ⟨ji52, hji52⟩ : ∃ j_ : Int, (Int.tmod (wrap64 (a1)) 8) = j_ := ⟨_, rfl⟩
                              replace H : (if 0 ≤ (ji52) then (if (ji52) < (l0_3.length : Int) then (if ((rd_T58 t711 x21_2).f0) = (wrap64 (((rd_T58 t708 x21_2).f0) + ((rd_T40 l0_3 (ji52)).f3))) then (if ((rd_T58 t711 x21_2).f1) = ((rd_T58 t708 x21_2).f1) then (symbolonlaw06_TermsSteps.l0 k2 t692 (ji52) t708 t711 (wrap64 (x21_2 + 1)) a0_0 a0_1 a0_2 l0_3) else (none)) else (none)) else (none)) else (none)) = some r := by first | (rw [hji52] at H; exact H) | (simp only [hji52] at H ⊢; exact H)
                              by_cases c53 : 0 ≤ (ji52)
                              · rw [if_pos c53] at H
                                have c53b0 : decide (0 ≤ (ji52)) = true := decide_eq_true c53
                                clear c53
                                by_cases c54 : (ji52) < (l0_3.length : Int)
                                · rw [if_pos c54] at H
                                  have c54b0 : decide ((ji52) < (l0_3.length : Int)) = true := decide_eq_true c54
                                  clear c54
                                  by_cases c55 : ((rd_T58 t711 x21_2).f0) = (wrap64 (((rd_T58 t708 x21_2).f0) + ((rd_T40 l0_3 (ji52)).f3)))
                                  · rw [if_pos c55] at H
                                    have c55b0 : (((rd_T58 t711 x21_2).f0) == (wrap64 (((rd_T58 t708 x21_2).f0) + ((rd_T40 l0_3 (ji52)).f3)))) = true := beq_iff_eq.mpr c55
                                    have c55b1 : (((rd_T58 t711 x21_2).f0) != (wrap64 (((rd_T58 t708 x21_2).f0) + ((rd_T40 l0_3 (ji52)).f3)))) = false := bne_eq_false_iff_eq.mpr c55
                                    clear c55
                                    by_cases c56 : ((rd_T58 t711 x21_2).f1) = ((rd_T58 t708 x21_2).f1)
                                    · rw [if_pos c56] at H
                                      have c56b0 : (((rd_T58 t711 x21_2).f1) == ((rd_T58 t708 x21_2).f1)) = true := beq_iff_eq.mpr c56
                                      have c56b1 : (((rd_T58 t711 x21_2).f1) != ((rd_T58 t708 x21_2).f1)) = false := bne_eq_false_iff_eq.mpr c56
                                      clear c56
                                      have H' := Aside0.mk H
                                      clear H
                                      have p714 : 0 ≤ (x21_2 : Int) := of_decide_eq_true (by first | (with_reducible assumption) | assumption)
                                      have q714 : x21_2 < (t711.length : Int) := of_decide_eq_true (by first | (with_reducible assumption) | assumption)
                                      obtain ⟨ad714, e714, hx714_0, hx714_1⟩ := at_T58 (Kd.R_reads' HO_20.out).2.2 x21_2 p714 q714
                                      cases e714
                                      replace p714 := eq_true p714
                                      replace q714 := eq_true q714
                                      have p715 : 0 ≤ (x21_2 : Int) := of_decide_eq_true (by first | (with_reducible assumption) | assumption)
                                      have q715 : x21_2 < (t708.length : Int) := of_decide_eq_true (by first | (with_reducible assumption) | assumption)
                                      obtain ⟨ad715, e715, hx715_0, hx715_1⟩ := at_T58 (Kd.R_reads' HO_19.out).2.2 x21_2 p715 q715
                                      cases e715
                                      replace p715 := eq_true p715
                                      replace q715 := eq_true q715
                                      have hcz57_0 : wr.cell? ⟨gb691, 0, none⟩ = some (.int .i64 a0_0) := (blk_cell BK691.out 0).trans rfl
                                      have hcz57_1 : wr.cell? ⟨gb691, 1, none⟩ = some (.int .i64 a0_1) := (blk_cell BK691.out 1).trans rfl
                                      have hcz57_2 : wr.cell? ⟨gb691, 2, none⟩ = some (.int .i64 a0_2) := (blk_cell BK691.out 2).trans rfl
                                      have hcz57_3 : wr.cell? ⟨gb691, 3, none⟩ = some (.slice A0_3 l0_3.length c0_3) := (blk_cell BK691.out 3).trans rfl
                                      have hfz57_0 := blk_frozen BK691.out 0
                                      have hfz57_1 := blk_frozen BK691.out 1
                                      have hfz57_2 := blk_frozen BK691.out 2
                                      have hfz57_3 := blk_frozen BK691.out 3
                                      have p716 : 0 ≤ ((ji52) : Int) := of_decide_eq_true (by first | (with_reducible assumption) | assumption)
                                      have q716 : (ji52) < (l0_3.length : Int) := of_decide_eq_true (by first | (with_reducible assumption) | assumption)
                                      obtain ⟨ad716, e716, hx716_0, hx716_1, hx716_2, hx716_3⟩ := at_T40 HR0_3.out (ji52) p716 q716
                                      cases e716
                                      replace hx716_0 := (HB.out.cell (World.block_lt_of_cell? w _ hx716_0)).trans hx716_0
                                      replace hx716_1 := (HB.out.cell (World.block_lt_of_cell? w _ hx716_1)).trans hx716_1
                                      replace hx716_2 := (HB.out.cell (World.block_lt_of_cell? w _ hx716_2)).trans hx716_2
                                      replace hx716_3 := (HB.out.cell (World.block_lt_of_cell? w _ hx716_3)).trans hx716_3
                                      replace p716 := eq_true p716
                                      replace q716 := eq_true q716
                                      have p717 : 0 ≤ (x21_2 : Int) := of_decide_eq_true (by first | (with_reducible assumption) | assumption)
                                      have q717 : x21_2 < (t711.length : Int) := of_decide_eq_true (by first | (with_reducible assumption) | assumption)
                                      obtain ⟨ad717, e717, hx717_0, hx717_1⟩ := at_T58 (Kd.R_reads' HO_20.out).2.2 x21_2 p717 q717
                                      obtain rfl : ad714 = ad717 := (by injection e717)
                                      replace p717 := eq_true p717
                                      replace q717 := eq_true q717
                                      have p718 : 0 ≤ (x21_2 : Int) := of_decide_eq_true (by first | (with_reducible assumption) | assumption)
                                      have q718 : x21_2 < (t708.length : Int) := of_decide_eq_true (by first | (with_reducible assumption) | assumption)
                                      obtain ⟨ad718, e718, hx718_0, hx718_1⟩ := at_T58 (Kd.R_reads' HO_19.out).2.2 x21_2 p718 q718
                                      obtain rfl : ad715 = ad718 := (by injection e718)
                                      replace p718 := eq_true p718
                                      replace q718 := eq_true q718
                                      go_wp2
                                      repeat (go_quiet (fail); try go_wp2)
                                      subst hji52
                                      go_roundg k2
                                      case measure => have := HJ11.out; have := HK2.out; omega
                                      case rel => exact ⟨(wrap64 (x21_2 + 1)), (by first | rfl | (simp; done) | (simp [*]; done)), H', ⟨by have := HJ11.out; have := HK2.out; omega⟩, ⟨by (with_reducible repeat (first | apply Kd.R_alloc | apply Kd.R_drewN | apply Kd.R_drew)); exact HO_19.out⟩, ⟨by (with_reducible repeat (first | apply Kd.R_alloc | apply Kd.R_drewN | apply Kd.R_drew)); exact HO_20.out⟩, ⟨by (with_reducible repeat (first | refine blk_drewN ?_ _ | refine blk_drew ?_ | refine blk_alloc ?_ _)); exact BK691.out⟩, ⟨by repeat (first | (with_reducible first | exact HB.out | apply below_alloc | apply pw_below_drewN | apply below_drew1 | refine below_set ?_ GE691.out) | exact HB.out)⟩⟩
                                    · rw [if_neg c56] at H
                                      exact absurd H (by simp)
                                  · rw [if_neg c55] at H
                                    exact absurd H (by simp)
                                · rw [if_neg c54] at H
                                  exact absurd H (by simp)
                              · rw [if_neg c53] at H
                                exact absurd H (by simp)
                            · rw [if_neg c51] at H
                              exact absurd H (by simp)
                          · rw [if_neg c50] at H
                            exact absurd H (by simp)
                        · rw [if_neg c49] at H
                          have c49b0 : decide (x21_2 < (t708.length : Int)) = false := decide_eq_false c49
                          clear c49
                          obtain rfl := Option.some.inj H
                          go_wp2
                          repeat (go_quiet (fail); try go_wp2)
                          go_ret
                          exact ⟨by first | rfl | (simp [errW_none, errW_some] <;> rfl) | (simp only [← hji27]; first | rfl | (simp [errW_none, errW_some] <;> rfl)) | (simp [*, errW_none, errW_some] <;> rfl), by repeat (first | (with_reducible first | exact HB.out | apply below_alloc | apply pw_below_drewN | apply below_drew1 | refine below_set ?_ GE691.out) | exact HB.out)⟩
                  · rw [if_neg c38] at H
                    exact absurd H (by simp)
              · rw [if_neg c29] at H
                exact absurd H (by simp)
            · rw [if_neg c28] at H
              exact absurd H (by simp)
end Go.Proofs.Ytnfcadjckoebkaa.P
