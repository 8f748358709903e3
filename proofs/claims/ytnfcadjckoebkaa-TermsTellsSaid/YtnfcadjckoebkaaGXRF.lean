
import Derived.Test.YtnfcadjckoebkaaGX0
import Derived.Test.YtnfcadjckoebkaaGXRi
import Derived.Test.YtnfcadjckoebkaaGXRBo
namespace Go.Proofs.Ytnfcadjckoebkaa.P
open Go.RowKit Go.Proofs.YtnfcadjckoebkaaW.PrintWords Go.Proofs.YtnfcadjckoebkaaW.PrintLast Go.Proofs.YtnfcadjckoebkaaW.PrintMore
attribute [local go_sem] min2_int min_two
set_option linter.unusedVariables false
set_option linter.unusedSimpArgs false
mutual
def symbolonref06_conv.l0 : Nat → Int → Int → Int → Int → Bool → List (S58) → Int → Int → Int → Int → Int → Int → Int → Int → Option ((List (S58)))
  | 0, _, _, _, _, _, _, _, _, _, _, _, _, _, _ => none
  | k + 1, x3, x11, x12, x13, x14, x15, x16, x508000, x508001, x508002, x510000, x510001, x510002, x510003 => if x16 < x508000 then (symbolonref06_conv.j1 k x3 x11 x12 x13 x14 x15 x16 x14 x508000 x508001 x508002 x510000 x510001 x510002 x510003) else (symbolonref06_conv.j1 k x3 x11 x12 x13 x14 x15 x16 false x508000 x508001 x508002 x510000 x510001 x510002 x510003)
def symbolonref06_conv.j1 : Nat → Int → Int → Int → Int → Bool → List (S58) → Int → Bool → Int → Int → Int → Int → Int → Int → Int → Option ((List (S58)))
  | 0, _, _, _, _, _, _, _, _, _, _, _, _, _, _, _ => none
  | k + 1, x3, x11, x12, x13, x14, x15, x16, x33, x508000, x508001, x508002, x510000, x510001, x510002, x510003 => if x33 = true then (symbolonref06_conv.l1 k x3 x11 x12 x13 x14 x15 x16 0 x508000 x508001 x508002 x510000 x510001 x510002 x510003) else (some x15)
def symbolonref06_conv.l1 : Nat → Int → Int → Int → Int → Bool → List (S58) → Int → Int → Int → Int → Int → Int → Int → Int → Int → Option ((List (S58)))
  | 0, _, _, _, _, _, _, _, _, _, _, _, _, _, _, _ => none
  | k + 1, x3, x11, x12, x13, x14, x15, x16, x17, x508000, x508001, x508002, x510000, x510001, x510002, x510003 => if x17 < x510002 then (symbolonref06_conv.l2 k x3 x11 x12 x13 x14 x15 x16 x17 0 x508000 x508001 x508002 x510000 x510001 x510002 x510003) else (symbolonref06_conv.l0 k x3 x11 x12 x13 x14 x15 (wrap64 (x16 + 1)) x508000 x508001 x508002 x510000 x510001 x510002 x510003)
def symbolonref06_conv.l2 : Nat → Int → Int → Int → Int → Bool → List (S58) → Int → Int → Int → Int → Int → Int → Int → Int → Int → Int → Option ((List (S58)))
  | 0, _, _, _, _, _, _, _, _, _, _, _, _, _, _, _, _ => none
  | k + 1, x3, x11, x12, x13, x14, x15, x16, x17, x18, x508000, x508001, x508002, x510000, x510001, x510002, x510003 => if x18 < x510002 then ((symbolonref02_At.f x508000 x508001 x508002 x16 (wrap64 ((wrap64 (x12 * x510003)) + x17)) (wrap64 ((wrap64 (x13 * x510003)) + x18))).bind fun t514 => (if x15.length < 8796093022208 then (symbolonref06_conv.l2 k x3 x11 x12 x13 x14 (x15 ++ [(⟨t514, wrap64 ((wrap64 (x3 + (wrap64 ((wrap64 ((wrap64 ((wrap64 ((wrap64 (x11 * x508000)) + x16)) * x510002)) + x17)) * x510002)))) + x18)⟩ : S58)]) x16 x17 (wrap64 (x18 + 1)) x508000 x508001 x508002 x510000 x510001 x510002 x510003) else (none))) else (symbolonref06_conv.l1 k x3 x11 x12 x13 x14 x15 x16 (wrap64 (x17 + 1)) x508000 x508001 x508002 x510000 x510001 x510002 x510003)
end
def symbolonref06_conv.f (k : Nat) (a0_0 : Int) (a0_1 : Int) (a0_2 : Int) (a1_0 : Int) (a1_1 : Int) (a1_2 : Int) (a2_0 : Int) (a2_1 : Int) (a2_2 : Int) (a2_3 : Int) (a3 : Int) (a4 : Int) : Option ((List (S58))) := (symbolonref02_Of.f k a1_0 a1_1 a1_2 a4).bind fun bt510 => (symbolonref06_conv.l0 k a3 bt510.1 bt510.2.1 bt510.2.2.1 bt510.2.2.2 ([] : List (S58)) 0 a0_0 a0_1 a0_2 a2_0 a2_1 a2_2 a2_3)
def symbolonref06_conv.T12 : Bool × List (List Nat × List Nat) := (true, [([], []), ([], []), ([], []), ([], []), ([], []), ([4], [4]), ([3, 5], [3, 5]), ([], []), ([6, 7], [6, 7]), ([], []), ([], []), ([10], [10]), ([9, 11], [9, 11]), ([], []), ([12, 13], [12, 13]), ([1, 2, 8, 14], [1, 2, 8, 14]), ([], []), ([], []), ([], []), ([18], [18]), ([17, 19], [17, 19]), ([], []), ([20, 21], [20, 21]), ([], []), ([23], [23]), ([22, 24], [22, 24]), ([], []), ([25, 26], [25, 26]), ([], []), ([28], [28]), ([27, 29], [27, 29]), ([16, 30], [16, 30]), ([], []), ([31, 32], [31, 32]), ([15, 33], [15, 33]), ([34], [34]), ([0, 35, 15], [0, 35]), ([36, 36, 0, 1, 2, 3, 4, 5, 6, 7, 8, 9, 10, 11, 12, 13, 14, 15, 16, 17, 18, 19, 20, 21, 22, 23, 24, 25, 26, 27, 28, 29, 30, 31, 32, 33, 34, 35, 36], [0, 36])])
def symbolonref06_conv.B12 : List Nat := [0, 0, 0, 0, 0, 16, 56, 0, 248, 0, 0, 1024, 3584, 0, 15872, 32766, 0, 0, 0, 262144, 917504, 0, 4063232, 0, 8388608, 33423360, 0, 134086656, 0, 268435456, 1073610752, 2147418112, 0, 8589869056, 17179869182, 34359738366, 68719476735, 137438953471]
theorem symbolonref06_conv.tab12 : rtab .any (opsOf Try.f86 12) = symbolonref06_conv.T12 := by kernel_rfl
theorem symbolonref06_conv.bits12 : waitsOk symbolonref06_conv.T12.2 symbolonref06_conv.B12 = true := by kernel_rfl
set_option maxHeartbeats 8000000 in
set_option maxRecDepth 100000 in
theorem symbolonref06_conv.calls (k : Nat) (a0_0 : Int) (a0_1 : Int) (a0_2 : Int) (a1_0 : Int) (a1_1 : Int) (a1_2 : Int) (a2_0 : Int) (a2_1 : Int) (a2_2 : Int) (a2_3 : Int) (a3 : Int) (a4 : Int) (r : List (S58)) (w : World) (h : symbolonref06_conv.f k a0_0 a0_1 a0_2 a1_0 a1_1 a1_2 a2_0 a2_1 a2_2 a2_3 a3 a4 = some r) :
    Calls Try.prog 86 #[.agg #[.int .i64 a0_0, .int .i64 a0_1, .int .i64 a0_2], .agg #[.int .i64 a1_0, .int .i64 a1_1, .int .i64 a1_2], .agg #[.int .i64 a2_0, .int .i64 a2_1, .int .i64 a2_2, .int .i64 a2_3], .int .i64 a3, .int .i64 a4] w fun e w' => ∃ v0_ : Value, e = .returned (v0_) ∧ Kd.R k58 58 w' w.heap.size (fun _ => True) v0_ r ∧ Below w.heap.size w w' := by
  have hu23 := Try.underlying23
  have hu40 := Try.underlying40
  have hu58 := Try.underlying58
  have HB := Aside0.mk (Below.refl w.heap.size w)
  have H : ((symbolonref02_Of.f k a1_0 a1_1 a1_2 a4).bind fun bt510 => (symbolonref06_conv.l0 k a3 bt510.1 bt510.2.1 bt510.2.2.1 bt510.2.2.2 ([] : List (S58)) 0 a0_0 a0_1 a0_2 a2_0 a2_1 a2_2 a2_3)) = some r := h
  clear h
  replace H := Option.bind_eq_some_iff.mp H
  obtain ⟨⟨t510, t511, t512, t513⟩, A60, H⟩ := H
  replace H : (symbolonref06_conv.l0 k a3 t510 t511 t512 t513 ([] : List (S58)) 0 a0_0 a0_1 a0_2 a2_0 a2_1 a2_2 a2_3) = some r := H
  have A6 := Aside0.mk A60
  clear A60
  have H' := Aside0.mk H
  clear H
  go_enter Try.func86, Try.ntmps86
  go_wp2_with (first | ((with_reducible refine gate_dst (N := 5) rfl ?_); refine box_event ?hg (N := 5) ?hd (cs := #[.int .i64 a0_0, .int .i64 a0_1, .int .i64 a0_2]) (t := 23) ?hr ?_; (case hd => rfl); (case hg => rfl); (case hr => first | (go_simp; done) | (go_simp; rfl)); intro gb507 hg w7 hbox hb; have n0_ := Aside0.mk (below_step (by repeat (first | (with_reducible first | exact HB.out | apply below_alloc | apply pw_below_drewN | apply below_drew1) | exact HB.out)) hb); have n1_ := Aside0.mk (hbox); have n2_ := Aside0.mk ((by rw [hg]; exact (below_size (by repeat (first | (with_reducible first | exact HB.out | apply below_alloc | apply pw_below_drewN | apply below_drew1) | exact HB.out))) : w.heap.size ≤ gb507)); have n3_ := Aside0.mk ((by rw [hg]; exact (below_size (by repeat (first | (with_reducible first | exact HB.out | apply below_alloc | apply pw_below_drewN | apply below_drew1) | exact HB.out))) : w.heap.size ≤ gb507)); clear HB; have HB := n0_; have BK507 := n1_; have GW507 := n2_; have GE507 := n3_; clear n0_ n1_ n2_ n3_; clear hb hbox hg) | ((with_reducible refine gate_dst (N := 6) rfl ?_); refine box_event ?hg (N := 6) ?hd (cs := #[.int .i64 a1_0, .int .i64 a1_1, .int .i64 a1_2]) (t := 23) ?hr ?_; (case hd => rfl); (case hg => rfl); (case hr => first | (go_simp; done) | (go_simp; rfl)); intro gb508 hg w8 hbox hb; have n0_ := Aside0.mk (blk_below (g := gb507) (o := .cells #[.int .i64 a0_0, .int .i64 a0_1, .int .i64 a0_2] 23 (0, 0)) (by (with_reducible repeat (first | refine blk_drewN ?_ _ | refine blk_drew ?_ | refine blk_alloc ?_ _)); exact BK507.out) hb); have n1_ := Aside0.mk (below_step (by repeat (first | (with_reducible first | exact HB.out | apply below_alloc | apply pw_below_drewN | apply below_drew1 | refine below_set ?_ GE507.out) | exact HB.out)) hb); have n2_ := Aside0.mk (hbox); have n3_ := Aside0.mk ((by rw [hg]; exact (below_size (by repeat (first | (with_reducible first | exact HB.out | apply below_alloc | apply pw_below_drewN | apply below_drew1 | refine below_set ?_ GE507.out) | exact HB.out))) : w.heap.size ≤ gb508)); have n4_ := Aside0.mk ((by rw [hg]; exact (below_size (by repeat (first | (with_reducible first | exact HB.out | apply below_alloc | apply pw_below_drewN | apply below_drew1 | refine below_set ?_ GE507.out) | exact HB.out))) : w.heap.size ≤ gb508)); have n5_ := Aside0.mk ((by rw [hg]; exact Nat.ne_of_lt (blk_lt (g := gb507) (o := .cells #[.int .i64 a0_0, .int .i64 a0_1, .int .i64 a0_2] 23 (0, 0)) (by (with_reducible repeat (first | refine blk_drewN ?_ _ | refine blk_drew ?_ | refine blk_alloc ?_ _)); exact BK507.out)) : gb507 ≠ gb508)); have n6_ := Aside0.mk ((by rw [hg]; exact Nat.ne_of_gt (blk_lt (g := gb507) (o := .cells #[.int .i64 a0_0, .int .i64 a0_1, .int .i64 a0_2] 23 (0, 0)) (by (with_reducible repeat (first | refine blk_drewN ?_ _ | refine blk_drew ?_ | refine blk_alloc ?_ _)); exact BK507.out)) : gb508 ≠ gb507)); clear BK507; clear HB; have BK507 := n0_; have HB := n1_; have BK508 := n2_; have GW508 := n3_; have GE508 := n4_; have NB507_508 := n5_; have NB508_507 := n6_; clear n0_ n1_ n2_ n3_ n4_ n5_ n6_; clear hb hbox hg) | ((with_reducible refine gate_dst (N := 7) rfl ?_); refine box_event ?hg (N := 7) ?hd (cs := #[.int .i64 a2_0, .int .i64 a2_1, .int .i64 a2_2, .int .i64 a2_3]) (t := 40) ?hr ?_; (case hd => rfl); (case hg => rfl); (case hr => first | (go_simp; done) | (go_simp; rfl)); intro gb509 hg w9 hbox hb; have n0_ := Aside0.mk (blk_below (g := gb507) (o := .cells #[.int .i64 a0_0, .int .i64 a0_1, .int .i64 a0_2] 23 (0, 0)) (by (with_reducible repeat (first | refine blk_drewN ?_ _ | refine blk_drew ?_ | refine blk_alloc ?_ _)); exact BK507.out) hb); have n1_ := Aside0.mk (blk_below (g := gb508) (o := .cells #[.int .i64 a1_0, .int .i64 a1_1, .int .i64 a1_2] 23 (0, 0)) (by (with_reducible repeat (first | refine blk_drewN ?_ _ | refine blk_drew ?_ | refine blk_alloc ?_ _)); exact BK508.out) hb); have n2_ := Aside0.mk (below_step (by repeat (first | (with_reducible first | exact HB.out | apply below_alloc | apply pw_below_drewN | apply below_drew1 | refine below_set ?_ GE507.out | refine below_set ?_ GE508.out) | exact HB.out)) hb); have n3_ := Aside0.mk (hbox); have n4_ := Aside0.mk ((by rw [hg]; exact (below_size (by repeat (first | (with_reducible first | exact HB.out | apply below_alloc | apply pw_below_drewN | apply below_drew1 | refine below_set ?_ GE507.out | refine below_set ?_ GE508.out) | exact HB.out))) : w.heap.size ≤ gb509)); have n5_ := Aside0.mk ((by rw [hg]; exact (below_size (by repeat (first | (with_reducible first | exact HB.out | apply below_alloc | apply pw_below_drewN | apply below_drew1 | refine below_set ?_ GE507.out | refine below_set ?_ GE508.out) | exact HB.out))) : w.heap.size ≤ gb509)); have n6_ := Aside0.mk ((by rw [hg]; exact Nat.ne_of_lt (blk_lt (g := gb507) (o := .cells #[.int .i64 a0_0, .int .i64 a0_1, .int .i64 a0_2] 23 (0, 0)) (by (with_reducible repeat (first | refine blk_drewN ?_ _ | refine blk_drew ?_ | refine blk_alloc ?_ _)); exact BK507.out)) : gb507 ≠ gb509)); have n7_ := Aside0.mk ((by rw [hg]; exact Nat.ne_of_gt (blk_lt (g := gb507) (o := .cells #[.int .i64 a0_0, .int .i64 a0_1, .int .i64 a0_2] 23 (0, 0)) (by (with_reducible repeat (first | refine blk_drewN ?_ _ | refine blk_drew ?_ | refine blk_alloc ?_ _)); exact BK507.out)) : gb509 ≠ gb507)); have n8_ := Aside0.mk ((by rw [hg]; exact Nat.ne_of_lt (blk_lt (g := gb508) (o := .cells #[.int .i64 a1_0, .int .i64 a1_1, .int .i64 a1_2] 23 (0, 0)) (by (with_reducible repeat (first | refine blk_drewN ?_ _ | refine blk_drew ?_ | refine blk_alloc ?_ _)); exact BK508.out)) : gb508 ≠ gb509)); have n9_ := Aside0.mk ((by rw [hg]; exact Nat.ne_of_gt (blk_lt (g := gb508) (o := .cells #[.int .i64 a1_0, .int .i64 a1_1, .int .i64 a1_2] 23 (0, 0)) (by (with_reducible repeat (first | refine blk_drewN ?_ _ | refine blk_drew ?_ | refine blk_alloc ?_ _)); exact BK508.out)) : gb509 ≠ gb508)); clear BK507; clear BK508; clear HB; have BK507 := n0_; have BK508 := n1_; have HB := n2_; have BK509 := n3_; have GW509 := n4_; have GE509 := n5_; have NB507_509 := n6_; have NB509_507 := n7_; have NB508_509 := n8_; have NB509_508 := n9_; clear n0_ n1_ n2_ n3_ n4_ n5_ n6_ n7_ n8_ n9_; clear hb hbox hg; have hnb10 := NB508_507.out; have hnc10 := NB507_508.out; have hnb11 := NB508_509.out; have hnc11 := NB509_508.out; have hcz12_0 : w9.cell? ⟨gb508, 0, none⟩ = some (.int .i64 a1_0) := (blk_cell BK508.out 0).trans rfl; have hcz12_1 : w9.cell? ⟨gb508, 1, none⟩ = some (.int .i64 a1_1) := (blk_cell BK508.out 1).trans rfl; have hcz12_2 : w9.cell? ⟨gb508, 2, none⟩ = some (.int .i64 a1_2) := (blk_cell BK508.out 2).trans rfl; have hfz12_0 := blk_frozen BK508.out 0; have hfz12_1 := blk_frozen BK508.out 1; have hfz12_2 := blk_frozen BK508.out 2) | ((with_reducible refine gate_callee (f := 51) rfl ?_); refine goesL_ (some 22) rfl rfl Try.func51 (by kernel_rfl) rfl #[.agg #[.int .i64 a1_0, .int .i64 a1_1, .int .i64 a1_2], .int .i64 a4] rfl (by (try simp only [List.map_toArray, List.map_cons, List.map_nil]); first | done | rfl | (simp only [List.length_drop, List.length_take]; rfl)) ?_; (with_reducible refine (symbolonref02_Of.calls k a1_0 a1_1 a1_2 a4 t510 t511 t512 t513 _ A6.out).mono ?_); rintro e w13 ⟨rfl, hb⟩; refine ⟨_, rfl, ?_⟩; have n0_ := Aside0.mk (blk_below (g := gb507) (o := .cells #[.int .i64 a0_0, .int .i64 a0_1, .int .i64 a0_2] 23 (0, 0)) (by (with_reducible repeat (first | refine blk_drewN ?_ _ | refine blk_drew ?_ | refine blk_alloc ?_ _)); exact BK507.out) hb); have n1_ := Aside0.mk (blk_below (g := gb508) (o := .cells #[.int .i64 a1_0, .int .i64 a1_1, .int .i64 a1_2] 23 (0, 0)) (by (with_reducible repeat (first | refine blk_drewN ?_ _ | refine blk_drew ?_ | refine blk_alloc ?_ _)); exact BK508.out) hb); have n2_ := Aside0.mk (blk_below (g := gb509) (o := .cells #[.int .i64 a2_0, .int .i64 a2_1, .int .i64 a2_2, .int .i64 a2_3] 40 (0, 0)) (by (with_reducible repeat (first | refine blk_drewN ?_ _ | refine blk_drew ?_ | refine blk_alloc ?_ _)); exact BK509.out) hb); have n3_ := Aside0.mk (below_step (by repeat (first | (with_reducible first | exact HB.out | apply below_alloc | apply pw_below_drewN | apply below_drew1 | refine below_set ?_ GE507.out | refine below_set ?_ GE508.out | refine below_set ?_ GE509.out) | exact HB.out)) hb); clear BK507; clear BK508; clear BK509; clear HB; have BK507 := n0_; have BK508 := n1_; have BK509 := n2_; have HB := n3_; clear n0_ n1_ n2_ n3_; (try clear hb); (try clear hb2); (try clear hk); (try clear hi)))
  go_loopg [15, 16] k (fun kq v15 v16 w' => ∃ (x15_1 : List (S58)) (x16_1 : Int), v16 = .int .i64 x16_1 ∧ Aside0 (symbolonref06_conv.l0 kq a3 t510 t511 t512 t513 x15_1 x16_1 a0_0 a0_1 a0_2 a2_0 a2_1 a2_2 a2_3 = some r) ∧ Aside0 (kq ≤ k) ∧ Aside0 (Kd.R k58 58 w' w.heap.size (fun _ => True) v15 x15_1) ∧ Aside0 (w'.heap[gb507]? = some (.cells #[.int .i64 a0_0, .int .i64 a0_1, .int .i64 a0_2] 23 (0, 0))) ∧ Aside0 (w'.heap[gb508]? = some (.cells #[.int .i64 a1_0, .int .i64 a1_1, .int .i64 a1_2] 23 (0, 0))) ∧ Aside0 (w'.heap[gb509]? = some (.cells #[.int .i64 a2_0, .int .i64 a2_1, .int .i64 a2_2, .int .i64 a2_3] 40 (0, 0))) ∧ Aside0 (Below w.heap.size w w'))
  case atStart => exact ⟨(([] : List (S58))), (0), (by first | rfl | (simp; done) | (simp [*]; done)), H', ⟨Nat.le_refl _⟩, ⟨by first | exact Kd.R_nil _ _ _ _ _ | exact Kd.N_nil _ _ _ _ _ | exact Kd.V_nil _ _ _ _ _ | exact Kd.Q_nil _ _ _ _ _ | exact Kd.S_nil _ _ _ _ _⟩, ⟨by (with_reducible repeat (first | refine blk_drewN ?_ _ | refine blk_drew ?_ | refine blk_alloc ?_ _)); exact BK507.out⟩, ⟨by (with_reducible repeat (first | refine blk_drewN ?_ _ | refine blk_drew ?_ | refine blk_alloc ?_ _)); exact BK508.out⟩, ⟨by (with_reducible repeat (first | refine blk_drewN ?_ _ | refine blk_drew ?_ | refine blk_alloc ?_ _)); exact BK509.out⟩, ⟨by repeat (first | (with_reducible first | exact HB.out | apply below_alloc | apply pw_below_drewN | apply below_drew1 | refine below_set ?_ GE507.out | refine below_set ?_ GE508.out | refine below_set ?_ GE509.out) | exact HB.out)⟩⟩
  case round =>
    clear H'
    try clear c1
    try clear p2
    try clear c5
    try clear c8
    try clear c10
    try clear c11
    try clear hcz12_0
    try clear hcz12_1
    try clear hcz12_2
    try clear hfz12_0
    try clear hfz12_1
    try clear hfz12_2
    obtain ⟨x15_1, x16_1, rfl, HA, HK1, HO_15, BK507, BK508, BK509, HB⟩ := hrel
    cases gk with
    | zero => exact absurd HA.out (by simp [symbolonref06_conv.l0])
    | succ k1 =>
      have H := HA.out
      clear HA
      simp only [symbolonref06_conv.l0] at H
      have HC14 := Aside0.mk H
      clear H
      go_upto_region 4 with (fail)
      go_cut [33] (fun v33 wc => ∃ (kq : Nat) (x33_13 : Bool), v33 = .bool x33_13 ∧ Aside0 (symbolonref06_conv.j1 kq a3 t510 t511 t512 t513 x15_1 x16_1 x33_13 a0_0 a0_1 a0_2 a2_0 a2_1 a2_2 a2_3 = some r) ∧ Aside0 (kq ≤ k1) ∧ Aside0 (Kd.R k58 58 wc w.heap.size (fun _ => True) u15 x15_1) ∧ Aside0 (wc.heap[gb507]? = some (.cells #[.int .i64 a0_0, .int .i64 a0_1, .int .i64 a0_2] 23 (0, 0))) ∧ Aside0 (wc.heap[gb508]? = some (.cells #[.int .i64 a1_0, .int .i64 a1_1, .int .i64 a1_2] 23 (0, 0))) ∧ Aside0 (wc.heap[gb509]? = some (.cells #[.int .i64 a2_0, .int .i64 a2_1, .int .i64 a2_2, .int .i64 a2_3] 40 (0, 0))) ∧ Aside0 (Below w.heap.size w wc))
      case first =>
        have H := HC14.out
        clear HC14
        by_cases c15 : x16_1 < a0_0
        · rw [if_pos c15] at H
          have c15b0 : decide (x16_1 < a0_0) = true := decide_eq_true c15
          clear c15
          (first | rw [c15b0] | (simp only [i64_w, i32_w]; rw [c15b0]) | skip)
          have H' := Aside0.mk H
          clear H
          have hnb16 := NB507_508.out
          have hnc16 := NB508_507.out
          have hnb17 := NB507_509.out
          have hnc17 := NB509_507.out
          have hcz18_0 : wr.cell? ⟨gb507, 0, none⟩ = some (.int .i64 a0_0) := (blk_cell BK507.out 0).trans rfl
          have hcz18_1 : wr.cell? ⟨gb507, 1, none⟩ = some (.int .i64 a0_1) := (blk_cell BK507.out 1).trans rfl
          have hcz18_2 : wr.cell? ⟨gb507, 2, none⟩ = some (.int .i64 a0_2) := (blk_cell BK507.out 2).trans rfl
          have hfz18_0 := blk_frozen BK507.out 0
          have hfz18_1 := blk_frozen BK507.out 1
          have hfz18_2 := blk_frozen BK507.out 2
          go_wp2
          go_meet
          case rel => exact ⟨_, (t513), (by first | rfl | (simp; done) | (simp [*]; done)), H', ⟨by have := HK1.out; first | omega | exact Nat.le_refl _⟩, ⟨by (with_reducible repeat (first | apply Kd.R_alloc | apply Kd.R_drewN | apply Kd.R_drew)); exact HO_15.out⟩, ⟨by (with_reducible repeat (first | refine blk_drewN ?_ _ | refine blk_drew ?_ | refine blk_alloc ?_ _)); exact BK507.out⟩, ⟨by (with_reducible repeat (first | refine blk_drewN ?_ _ | refine blk_drew ?_ | refine blk_alloc ?_ _)); exact BK508.out⟩, ⟨by (with_reducible repeat (first | refine blk_drewN ?_ _ | refine blk_drew ?_ | refine blk_alloc ?_ _)); exact BK509.out⟩, ⟨by repeat (first | (with_reducible first | exact HB.out | apply below_alloc | apply pw_below_drewN | apply below_drew1 | refine below_set ?_ GE507.out | refine below_set ?_ GE508.out | refine below_set ?_ GE509.out) | exact HB.out)⟩⟩
        · rw [if_neg c15] at H
          have c15b0 : decide (x16_1 < a0_0) = false := decide_eq_false c15
          clear c15
          (first | rw [c15b0] | (simp only [i64_w, i32_w]; rw [c15b0]) | skip)
          have H' := Aside0.mk H
          clear H
          have hnb19 := NB507_508.out
          have hnc19 := NB508_507.out
          have hnb20 := NB507_509.out
          have hnc20 := NB509_507.out
          have hcz21_0 : wr.cell? ⟨gb507, 0, none⟩ = some (.int .i64 a0_0) := (blk_cell BK507.out 0).trans rfl
          have hcz21_1 : wr.cell? ⟨gb507, 1, none⟩ = some (.int .i64 a0_1) := (blk_cell BK507.out 1).trans rfl
          have hcz21_2 : wr.cell? ⟨gb507, 2, none⟩ = some (.int .i64 a0_2) := (blk_cell BK507.out 2).trans rfl
          have hfz21_0 := blk_frozen BK507.out 0
          have hfz21_1 := blk_frozen BK507.out 1
          have hfz21_2 := blk_frozen BK507.out 2
          go_wp2
          go_meet
          case rel => exact ⟨_, (false), (by first | rfl | (simp; done) | (simp [*]; done)), H', ⟨by have := HK1.out; first | omega | exact Nat.le_refl _⟩, ⟨by (with_reducible repeat (first | apply Kd.R_alloc | apply Kd.R_drewN | apply Kd.R_drew)); exact HO_15.out⟩, ⟨by (with_reducible repeat (first | refine blk_drewN ?_ _ | refine blk_drew ?_ | refine blk_alloc ?_ _)); exact BK507.out⟩, ⟨by (with_reducible repeat (first | refine blk_drewN ?_ _ | refine blk_drew ?_ | refine blk_alloc ?_ _)); exact BK508.out⟩, ⟨by (with_reducible repeat (first | refine blk_drewN ?_ _ | refine blk_drew ?_ | refine blk_alloc ?_ _)); exact BK509.out⟩, ⟨by repeat (first | (with_reducible first | exact HB.out | apply below_alloc | apply pw_below_drewN | apply below_drew1 | refine below_set ?_ GE507.out | refine below_set ?_ GE508.out | refine below_set ?_ GE509.out) | exact HB.out)⟩⟩
      case rest =>
        clear HC14
        try clear c1
        try clear c2
        try clear p2
        try clear c5
        try clear c8
        try clear c10
        try clear c11
        try clear c15
        try clear c15b0
        try clear c16
        try clear c17
        try clear c19
        try clear c20
        try clear hcz12_0
        try clear hcz12_1
        try clear hcz12_2
        try clear hcz18_0
        try clear hcz18_1
        try clear hcz18_2
        try clear hcz21_0
        try clear hcz21_1
        try clear hcz21_2
        try clear hfz12_0
        try clear hfz12_1
        try clear hfz12_2
        try clear hfz18_0
        try clear hfz18_1
        try clear hfz18_2
        try clear hfz21_0
        try clear hfz21_1
        try clear hfz21_2
        try clear p2
        obtain ⟨kq, x33_13, rfl, HA, HJ13, HO_15, BK507, BK508, BK509, HB⟩ := hcut
        cases kq with
        | zero => exact absurd HA.out (by simp [symbolonref06_conv.j1])
        | succ kj13 =>
          have H := HA.out
          clear HA
          simp only [symbolonref06_conv.j1] at H
          by_cases c22 : x33_13 = true
          · subst c22
            have H1 : (symbolonref06_conv.l1 kj13 a3 t510 t511 t512 t513 x15_1 x16_1 0 a0_0 a0_1 a0_2 a2_0 a2_1 a2_2 a2_3) = some r := by rw [if_pos rfl] at H; exact H
            clear H
            have H := H1
            clear H1
            have H' := Aside0.mk H
            clear H
            go_wp2
            go_loopg [15, 17] kj13 (fun kq v15 v17 w' => ∃ (x15_3 : List (S58)) (x17_3 : Int), v17 = .int .i64 x17_3 ∧ Aside0 (symbolonref06_conv.l1 kq a3 t510 t511 t512 t513 x15_3 x16_1 x17_3 a0_0 a0_1 a0_2 a2_0 a2_1 a2_2 a2_3 = some r) ∧ Aside0 (kq ≤ kj13) ∧ Aside0 (Kd.R k58 58 w' w.heap.size (fun _ => True) v15 x15_3) ∧ Aside0 (w'.heap[gb507]? = some (.cells #[.int .i64 a0_0, .int .i64 a0_1, .int .i64 a0_2] 23 (0, 0))) ∧ Aside0 (w'.heap[gb508]? = some (.cells #[.int .i64 a1_0, .int .i64 a1_1, .int .i64 a1_2] 23 (0, 0))) ∧ Aside0 (w'.heap[gb509]? = some (.cells #[.int .i64 a2_0, .int .i64 a2_1, .int .i64 a2_2, .int .i64 a2_3] 40 (0, 0))) ∧ Aside0 (Below w.heap.size w w'))
            case atStart => exact ⟨(x15_1), (0), (by first | rfl | (simp; done) | (simp [*]; done)), H', ⟨Nat.le_refl _⟩, ⟨by (with_reducible repeat (first | apply Kd.R_alloc | apply Kd.R_drewN | apply Kd.R_drew)); exact HO_15.out⟩, ⟨by (with_reducible repeat (first | refine blk_drewN ?_ _ | refine blk_drew ?_ | refine blk_alloc ?_ _)); exact BK507.out⟩, ⟨by (with_reducible repeat (first | refine blk_drewN ?_ _ | refine blk_drew ?_ | refine blk_alloc ?_ _)); exact BK508.out⟩, ⟨by (with_reducible repeat (first | refine blk_drewN ?_ _ | refine blk_drew ?_ | refine blk_alloc ?_ _)); exact BK509.out⟩, ⟨by repeat (first | (with_reducible first | exact HB.out | apply below_alloc | apply pw_below_drewN | apply below_drew1 | refine below_set ?_ GE507.out | refine below_set ?_ GE508.out | refine below_set ?_ GE509.out) | exact HB.out)⟩⟩
            case round =>
              clear H'
              try clear c1
              try clear c2
              try clear p2
              try clear c5
              try clear c8
              try clear c10
              try clear c11
              try clear c15
              try clear c15b0
              try clear c16
              try clear c17
              try clear c19
              try clear c20
              try clear c22
              try clear hcz12_0
              try clear hcz12_1
              try clear hcz12_2
              try clear hcz18_0
              try clear hcz18_1
              try clear hcz18_2
              try clear hcz21_0
              try clear hcz21_1
              try clear hcz21_2
              try clear hfz12_0
              try clear hfz12_1
              try clear hfz12_2
              try clear hfz18_0
              try clear hfz18_1
              try clear hfz18_2
              try clear hfz21_0
              try clear hfz21_1
              try clear hfz21_2
              try clear p2
              obtain ⟨x15_3, x17_3, rfl, HA, HK3, HO_15, BK507, BK508, BK509, HB⟩ := hrel
              cases gk with
              | zero => exact absurd HA.out (by simp [symbolonref06_conv.l1])
              | succ k3 =>
                have H := HA.out
                clear HA
                simp only [symbolonref06_conv.l1] at H
                by_cases c23 : x17_3 < a2_2
                · rw [if_pos c23] at H
                  have c23b0 : decide (x17_3 < a2_2) = true := decide_eq_true c23
                  clear c23
                  have H' := Aside0.mk H
                  clear H
                  have hnb24 := NB509_507.out
                  have hnc24 := NB507_509.out
                  have hnb25 := NB509_508.out
                  have hnc25 := NB508_509.out
                  have hcz26_0 : wr.cell? ⟨gb509, 0, none⟩ = some (.int .i64 a2_0) := (blk_cell BK509.out 0).trans rfl
                  have hcz26_1 : wr.cell? ⟨gb509, 1, none⟩ = some (.int .i64 a2_1) := (blk_cell BK509.out 1).trans rfl
                  have hcz26_2 : wr.cell? ⟨gb509, 2, none⟩ = some (.int .i64 a2_2) := (blk_cell BK509.out 2).trans rfl
                  have hcz26_3 : wr.cell? ⟨gb509, 3, none⟩ = some (.int .i64 a2_3) := (blk_cell BK509.out 3).trans rfl
                  have hfz26_0 := blk_frozen BK509.out 0
                  have hfz26_1 := blk_frozen BK509.out 1
                  have hfz26_2 := blk_frozen BK509.out 2
                  have hfz26_3 := blk_frozen BK509.out 3
                  go_wp2
                  go_loopg [15, 18] k3 (fun kq v15 v18 w' => ∃ (x15_4 : List (S58)) (x18_4 : Int), v18 = .int .i64 x18_4 ∧ Aside0 (symbolonref06_conv.l2 kq a3 t510 t511 t512 t513 x15_4 x16_1 x17_3 x18_4 a0_0 a0_1 a0_2 a2_0 a2_1 a2_2 a2_3 = some r) ∧ Aside0 (kq ≤ k3) ∧ Aside0 (Kd.R k58 58 w' w.heap.size (fun _ => True) v15 x15_4) ∧ Aside0 (w'.heap[gb507]? = some (.cells #[.int .i64 a0_0, .int .i64 a0_1, .int .i64 a0_2] 23 (0, 0))) ∧ Aside0 (w'.heap[gb508]? = some (.cells #[.int .i64 a1_0, .int .i64 a1_1, .int .i64 a1_2] 23 (0, 0))) ∧ Aside0 (w'.heap[gb509]? = some (.cells #[.int .i64 a2_0, .int .i64 a2_1, .int .i64 a2_2, .int .i64 a2_3] 40 (0, 0))) ∧ Aside0 (Below w.heap.size w w'))
                  case atStart => exact ⟨(x15_3), (0), (by first | rfl | (simp; done) | (simp [*]; done)), H', ⟨Nat.le_refl _⟩, ⟨by (with_reducible repeat (first | apply Kd.R_alloc | apply Kd.R_drewN | apply Kd.R_drew)); exact HO_15.out⟩, ⟨by (with_reducible repeat (first | refine blk_drewN ?_ _ | refine blk_drew ?_ | refine blk_alloc ?_ _)); exact BK507.out⟩, ⟨by (with_reducible repeat (first | refine blk_drewN ?_ _ | refine blk_drew ?_ | refine blk_alloc ?_ _)); exact BK508.out⟩, ⟨by (with_reducible repeat (first | refine blk_drewN ?_ _ | refine blk_drew ?_ | refine blk_alloc ?_ _)); exact BK509.out⟩, ⟨by repeat (first | (with_reducible first | exact HB.out | apply below_alloc | apply pw_below_drewN | apply below_drew1 | refine below_set ?_ GE507.out | refine below_set ?_ GE508.out | refine below_set ?_ GE509.out) | exact HB.out)⟩⟩
                  case round =>
                    clear H'
                    try clear c1
                    try clear c2
                    try clear p2
                    try clear c5
                    try clear c8
                    try clear c10
                    try clear c11
                    try clear c15
                    try clear c15b0
                    try clear c16
                    try clear c17
                    try clear c19
                    try clear c20
                    try clear c22
                    try clear c23
                    try clear c23b0
                    try clear c24
                    try clear c25
                    try clear hcz12_0
                    try clear hcz12_1
                    try clear hcz12_2
                    try clear hcz18_0
                    try clear hcz18_1
                    try clear hcz18_2
                    try clear hcz21_0
                    try clear hcz21_1
                    try clear hcz21_2
                    try clear hcz26_0
                    try clear hcz26_1
                    try clear hcz26_2
                    try clear hcz26_3
                    try clear hfz12_0
                    try clear hfz12_1
                    try clear hfz12_2
                    try clear hfz18_0
                    try clear hfz18_1
                    try clear hfz18_2
                    try clear hfz21_0
                    try clear hfz21_1
                    try clear hfz21_2
                    try clear hfz26_0
                    try clear hfz26_1
                    try clear hfz26_2
                    try clear hfz26_3
                    try clear p2
                    obtain ⟨x15_4, x18_4, rfl, HA, HK4, HO_15, BK507, BK508, BK509, HB⟩ := hrel
                    cases gk with
                    | zero => exact absurd HA.out (by simp [symbolonref06_conv.l2])
                    | succ k4 =>
                      have H := HA.out
                      clear HA
                      simp only [symbolonref06_conv.l2] at H
                      by_cases c27 : x18_4 < a2_2
                      · rw [if_pos c27] at H
                        have c27b0 : decide (x18_4 < a2_2) = true := decide_eq_true c27
                        clear c27
                        replace H := Option.bind_eq_some_iff.mp H
                        obtain ⟨t514, A280, H⟩ := H
                        replace H : (if x15_4.length < 8796093022208 then (symbolonref06_conv.l2 k4 a3 t510 t511 t512 t513 (x15_4 ++ [(⟨t514, wrap64 ((wrap64 (a3 + (wrap64 ((wrap64 ((wrap64 ((wrap64 ((wrap64 (t510 * a0_0)) + x16_1)) * a2_2)) + x17_3)) * a2_2)))) + x18_4)⟩ : S58)]) x16_1 x17_3 (wrap64 (x18_4 + 1)) a0_0 a0_1 a0_2 a2_0 a2_1 a2_2 a2_3) else (none)) = some r := H
                        have A28 := Aside0.mk A280
                        clear A280
                        by_cases c29 : x15_4.length < 8796093022208
                        · rw [if_pos c29] at H
                          have LMc29 := Aside0.mk c29
                          clear c29
                          obtain ⟨y515, hy515⟩ : ∃ y_ : List (S58), y_ = (x15_4 ++ [(⟨t514, wrap64 ((wrap64 (a3 + (wrap64 ((wrap64 ((wrap64 ((wrap64 ((wrap64 (t510 * a0_0)) + x16_1)) * a2_2)) + x17_3)) * a2_2)))) + x18_4)⟩ : S58)]) := ⟨_, rfl⟩
                          replace H : (symbolonref06_conv.l2 k4 a3 t510 t511 t512 t513 y515 x16_1 x17_3 (wrap64 (x18_4 + 1)) a0_0 a0_1 a0_2 a2_0 a2_1 a2_2 a2_3) = some r := by first | (rw [hy515]; with_reducible exact H) | (have H2_ := (Option.bind_some _ _).symm.trans H; rw [hy515]; with_reducible exact H2_) | (have H2_ := (Option.bind_some _ _).symm.trans H; with_reducible exact H2_) | with_reducible exact H | (rw [hy515]; exact H) | exact H
                          have Ny515 := Aside0.mk hy515
                          clear hy515
                          have H' := Aside0.mk H
                          clear H
                          have hnb30 := NB509_507.out
                          have hnc30 := NB507_509.out
                          have hnb31 := NB509_508.out
                          have hnc31 := NB508_509.out
                          have hcz32_0 : wr.cell? ⟨gb509, 0, none⟩ = some (.int .i64 a2_0) := (blk_cell BK509.out 0).trans rfl
                          have hcz32_1 : wr.cell? ⟨gb509, 1, none⟩ = some (.int .i64 a2_1) := (blk_cell BK509.out 1).trans rfl
                          have hcz32_2 : wr.cell? ⟨gb509, 2, none⟩ = some (.int .i64 a2_2) := (blk_cell BK509.out 2).trans rfl
                          have hcz32_3 : wr.cell? ⟨gb509, 3, none⟩ = some (.int .i64 a2_3) := (blk_cell BK509.out 3).trans rfl
                          have hfz32_0 := blk_frozen BK509.out 0
                          have hfz32_1 := blk_frozen BK509.out 1
                          have hfz32_2 := blk_frozen BK509.out 2
                          have hfz32_3 := blk_frozen BK509.out 3
                          try go_wp2
                          have n0_ := Aside0.mk (Kd.R_drew HO_15.out)
                          have n1_ := Aside0.mk (blk_drew BK507.out)
                          have n2_ := Aside0.mk (blk_drew BK508.out)
                          have n3_ := Aside0.mk (blk_drew BK509.out)
                          have n4_ := Aside0.mk (below_drew1 HB.out)
                          clear HO_15
                          clear BK507
                          clear BK508
                          clear BK509
                          clear HB
                          have HO_15 := n0_
                          have BK507 := n1_
                          have BK508 := n2_
                          have BK509 := n3_
                          have HB := n4_
                          clear n0_ n1_ n2_ n3_ n4_
                          refine start_ (n := 38) (S := fun w' => w'.cell? ⟨gb507, 0, none⟩ = some (.int .i64 a0_0) ∧ w'.cell? ⟨gb507, 1, none⟩ = some (.int .i64 a0_1) ∧ w'.cell? ⟨gb507, 2, none⟩ = some (.int .i64 a0_2) ∧ w'.cell? ⟨gb509, 0, none⟩ = some (.int .i64 a2_0) ∧ w'.cell? ⟨gb509, 1, none⟩ = some (.int .i64 a2_1) ∧ w'.cell? ⟨gb509, 2, none⟩ = some (.int .i64 a2_2) ∧ w'.cell? ⟨gb509, 3, none⟩ = some (.int .i64 a2_3)) (ds := []) #[false, false, false, false, false, false, false, false, false, false, false, false, false, false, false, false, false, false, false, false, false, false, false, false, false, false, false, false, false, false, false, false, false, false, false, false, false, false] (by kernel_rfl) rfl rfl ⟨(blk_cell BK507.out 0).trans rfl, (blk_cell BK507.out 1).trans rfl, (blk_cell BK507.out 2).trans rfl, (blk_cell BK509.out 0).trans rfl, (blk_cell BK509.out 1).trans rfl, (blk_cell BK509.out 2).trans rfl, (blk_cell BK509.out 3).trans rfl⟩ (fun hHeld => ?_); refine with_tabW symbolonref06_conv.tab12 symbolonref06_conv.bits12 (fun HT_ HW_ => ?_)
                          generalize wr.drew = w33 at HO_15 BK507 BK508 BK509 HB hHeld ⊢
                          refine pure_ (i := 0) (N := some 48) (v := ?_) (a' := ?_) #[true, false, false, false, false, false, false, false, false, false, false, false, false, false, false, false, false, false, false, false, false, false, false, false, false, false, false, false, false, false, false, false, false, false, false, false, false, false] rfl rfl (any_of HT_.out (by kernel_rfl)) (fun _ _ _ h => h) (Or.inl ⟨by rfl, ?_⟩) ?_ ?_; rotate_left
                          · intro w'; go_simp; with_reducible rfl
                          rotate_left; · simp only [Act.put, List.setIfInBounds_toArray, List.set_cons_zero, List.set_cons_succ, i64_w, i32_w]; rfl
                          refine pure_ (i := 2) (N := some 50) (v := ?_) (a' := ?_) #[true, false, true, false, false, false, false, false, false, false, false, false, false, false, false, false, false, false, false, false, false, false, false, false, false, false, false, false, false, false, false, false, false, false, false, false, false, false] rfl rfl (any_of HT_.out (by kernel_rfl)) (fun _ _ _ h => h) (Or.inl ⟨by rfl, ?_⟩) ?_ ?_; rotate_left
                          · intro w'; go_simp; with_reducible rfl
                          rotate_left; · simp only [Act.put, List.setIfInBounds_toArray, List.set_cons_zero, List.set_cons_succ, i64_w, i32_w]; rfl
                          refine pure_ (i := 3) (N := some 51) (v := ?_) (a' := ?_) #[true, false, true, true, false, false, false, false, false, false, false, false, false, false, false, false, false, false, false, false, false, false, false, false, false, false, false, false, false, false, false, false, false, false, false, false, false, false] rfl rfl (any_of HT_.out (by kernel_rfl)) (fun _ _ _ h => h) (Or.inl ⟨by rfl, ?_⟩) ?_ ?_; rotate_left
                          · intro w'; go_simp; with_reducible rfl
                          rotate_left; · simp only [Act.put, List.setIfInBounds_toArray, List.set_cons_zero, List.set_cons_succ, i64_w, i32_w]; rfl
                          refine pure_ (i := 4) (N := some 52) (v := ?_) (a' := ?_) #[true, false, true, true, true, false, false, false, false, false, false, false, false, false, false, false, false, false, false, false, false, false, false, false, false, false, false, false, false, false, false, false, false, false, false, false, false, false] rfl rfl (any_of HT_.out (by kernel_rfl)) (fun _ _ _ h => h) (Or.inl ⟨by rfl, ?_⟩) ?_ ?_; rotate_left
                          · intro w'; go_simp; with_reducible rfl
                          rotate_left; · simp only [Act.put, List.setIfInBounds_toArray, List.set_cons_zero, List.set_cons_succ, i64_w, i32_w]; rfl
                          refine pure_ (i := 7) (N := some 55) (v := ?_) (a' := ?_) #[true, false, true, true, true, false, false, true, false, false, false, false, false, false, false, false, false, false, false, false, false, false, false, false, false, false, false, false, false, false, false, false, false, false, false, false, false, false] rfl rfl (any_of HT_.out (by kernel_rfl)) (fun _ _ _ h => h) (Or.inl ⟨by rfl, ?_⟩) ?_ ?_; rotate_left
                          · intro w'; go_simp; with_reducible rfl
                          rotate_left; · simp only [Act.put, List.setIfInBounds_toArray, List.set_cons_zero, List.set_cons_succ, i64_w, i32_w]; rfl
                          refine pure_ (i := 9) (N := some 57) (v := ?_) (a' := ?_) #[true, false, true, true, true, false, false, true, false, true, false, false, false, false, false, false, false, false, false, false, false, false, false, false, false, false, false, false, false, false, false, false, false, false, false, false, false, false] rfl rfl (any_of HT_.out (by kernel_rfl)) (fun _ _ _ h => h) (Or.inl ⟨by rfl, ?_⟩) ?_ ?_; rotate_left
                          · intro w'; go_simp; with_reducible rfl
                          rotate_left; · simp only [Act.put, List.setIfInBounds_toArray, List.set_cons_zero, List.set_cons_succ, i64_w, i32_w]; rfl
                          refine pure_ (i := 10) (N := some 58) (v := ?_) (a' := ?_) #[true, false, true, true, true, false, false, true, false, true, true, false, false, false, false, false, false, false, false, false, false, false, false, false, false, false, false, false, false, false, false, false, false, false, false, false, false, false] rfl rfl (any_of HT_.out (by kernel_rfl)) (fun _ _ _ h => h) (Or.inl ⟨by rfl, ?_⟩) ?_ ?_; rotate_left
                          · intro w'; go_simp; with_reducible rfl
                          rotate_left; · simp only [Act.put, List.setIfInBounds_toArray, List.set_cons_zero, List.set_cons_succ, i64_w, i32_w]; rfl
                          refine pure_ (i := 13) (N := some 61) (v := ?_) (a' := ?_) #[true, false, true, true, true, false, false, true, false, true, true, false, false, true, false, false, false, false, false, false, false, false, false, false, false, false, false, false, false, false, false, false, false, false, false, false, false, false] rfl rfl (any_of HT_.out (by kernel_rfl)) (fun _ _ _ h => h) (Or.inl ⟨by rfl, ?_⟩) ?_ ?_; rotate_left
                          · intro w'; go_simp; with_reducible rfl
                          rotate_left; · simp only [Act.put, List.setIfInBounds_toArray, List.set_cons_zero, List.set_cons_succ, i64_w, i32_w]; rfl
                          refine pure_ (i := 16) (N := some 64) (v := ?_) (a' := ?_) #[true, false, true, true, true, false, false, true, false, true, true, false, false, true, false, false, true, false, false, false, false, false, false, false, false, false, false, false, false, false, false, false, false, false, false, false, false, false] rfl rfl (any_of HT_.out (by kernel_rfl)) (fun _ _ _ h => h) (Or.inl ⟨by rfl, ?_⟩) ?_ ?_; rotate_left
                          · intro w'; go_simp; with_reducible rfl
                          rotate_left; · simp only [Act.put, List.setIfInBounds_toArray, List.set_cons_zero, List.set_cons_succ, i64_w, i32_w]; rfl
                          refine pure_ (i := 17) (N := some 65) (v := ?_) (a' := ?_) #[true, false, true, true, true, false, false, true, false, true, true, false, false, true, false, false, true, true, false, false, false, false, false, false, false, false, false, false, false, false, false, false, false, false, false, false, false, false] rfl rfl (any_of HT_.out (by kernel_rfl)) (fun _ _ _ h => h) (Or.inl ⟨by rfl, ?_⟩) ?_ ?_; rotate_left
                          · intro w'; go_simp; with_reducible rfl
                          rotate_left; · simp only [Act.put, List.setIfInBounds_toArray, List.set_cons_zero, List.set_cons_succ, i64_w, i32_w]; rfl
                          refine pure_ (i := 18) (N := some 66) (v := ?_) (a' := ?_) #[true, false, true, true, true, false, false, true, false, true, true, false, false, true, false, false, true, true, true, false, false, false, false, false, false, false, false, false, false, false, false, false, false, false, false, false, false, false] rfl rfl (any_of HT_.out (by kernel_rfl)) (fun _ _ _ h => h) (Or.inl ⟨by rfl, ?_⟩) ?_ ?_; rotate_left
                          · intro w'; go_simp; with_reducible rfl
                          rotate_left; · simp only [Act.put, List.setIfInBounds_toArray, List.set_cons_zero, List.set_cons_succ, i64_w, i32_w]; rfl
                          refine pure_ (i := 21) (N := some 69) (v := ?_) (a' := ?_) #[true, false, true, true, true, false, false, true, false, true, true, false, false, true, false, false, true, true, true, false, false, true, false, false, false, false, false, false, false, false, false, false, false, false, false, false, false, false] rfl rfl (any_of HT_.out (by kernel_rfl)) (fun _ _ _ h => h) (Or.inl ⟨by rfl, ?_⟩) ?_ ?_; rotate_left
                          · intro w'; go_simp; with_reducible rfl
                          rotate_left; · simp only [Act.put, List.setIfInBounds_toArray, List.set_cons_zero, List.set_cons_succ, i64_w, i32_w]; rfl
                          refine pure_ (i := 23) (N := some 71) (v := ?_) (a' := ?_) #[true, false, true, true, true, false, false, true, false, true, true, false, false, true, false, false, true, true, true, false, false, true, false, true, false, false, false, false, false, false, false, false, false, false, false, false, false, false] rfl rfl (any_of HT_.out (by kernel_rfl)) (fun _ _ _ h => h) (Or.inl ⟨by rfl, ?_⟩) ?_ ?_; rotate_left
                          · intro w'; go_simp; with_reducible rfl
                          rotate_left; · simp only [Act.put, List.setIfInBounds_toArray, List.set_cons_zero, List.set_cons_succ, i64_w, i32_w]; rfl
                          refine pure_ (i := 26) (N := some 74) (v := ?_) (a' := ?_) #[true, false, true, true, true, false, false, true, false, true, true, false, false, true, false, false, true, true, true, false, false, true, false, true, false, false, true, false, false, false, false, false, false, false, false, false, false, false] rfl rfl (any_of HT_.out (by kernel_rfl)) (fun _ _ _ h => h) (Or.inl ⟨by rfl, ?_⟩) ?_ ?_; rotate_left
                          · intro w'; go_simp; with_reducible rfl
                          rotate_left; · simp only [Act.put, List.setIfInBounds_toArray, List.set_cons_zero, List.set_cons_succ, i64_w, i32_w]; rfl
                          refine pure_ (i := 28) (N := some 76) (v := ?_) (a' := ?_) #[true, false, true, true, true, false, false, true, false, true, true, false, false, true, false, false, true, true, true, false, false, true, false, true, false, false, true, false, true, false, false, false, false, false, false, false, false, false] rfl rfl (any_of HT_.out (by kernel_rfl)) (fun _ _ _ h => h) (Or.inl ⟨by rfl, ?_⟩) ?_ ?_; rotate_left
                          · intro w'; go_simp; with_reducible rfl
                          rotate_left; · simp only [Act.put, List.setIfInBounds_toArray, List.set_cons_zero, List.set_cons_succ, i64_w, i32_w]; rfl
                          refine pure_ (i := 32) (N := some 80) (v := ?_) (a' := ?_) #[true, false, true, true, true, false, false, true, false, true, true, false, false, true, false, false, true, true, true, false, false, true, false, true, false, false, true, false, true, false, false, false, true, false, false, false, false, false] rfl rfl (any_of HT_.out (by kernel_rfl)) (fun _ _ _ h => h) (Or.inl ⟨by rfl, ?_⟩) ?_ ?_; rotate_left
                          · intro w'; go_simp; with_reducible rfl
                          rotate_left; · simp only [Act.put, List.setIfInBounds_toArray, List.set_cons_zero, List.set_cons_succ, i64_w, i32_w]; rfl
                          refine take_ (i := 1) (N := some 49) (v := ?_) (a' := ?_) #[true, true, true, true, true, false, false, true, false, true, true, false, false, true, false, false, true, true, true, false, false, true, false, true, false, false, true, false, true, false, false, false, true, false, false, false, false, false] rfl rfl (take_ofW HT_.out HW_.out (by kernel_rfl)) (fun _ _ _ h => h) (Or.inl ⟨by rfl, ?_⟩) hHeld ?_ ?_; rotate_left
                          · rintro w' ⟨s0, s1, s2, s3, s4, s5, s6⟩
                            go_simp
                            with_reducible rfl
                          rotate_left
                          · simp only [Act.put, List.setIfInBounds_toArray, List.set_cons_zero, List.set_cons_succ, i64_w, i32_w]; rfl
                          refine take_ (i := 5) (N := some 53) (v := ?_) (a' := ?_) #[true, true, true, true, true, true, false, true, false, true, true, false, false, true, false, false, true, true, true, false, false, true, false, true, false, false, true, false, true, false, false, false, true, false, false, false, false, false] rfl rfl (take_ofW HT_.out HW_.out (by kernel_rfl)) (fun _ _ _ h => h) (Or.inl ⟨by rfl, ?_⟩) hHeld ?_ ?_; rotate_left
                          · rintro w' ⟨s0, s1, s2, s3, s4, s5, s6⟩
                            go_simp
                            with_reducible rfl
                          rotate_left
                          · simp only [Act.put, List.setIfInBounds_toArray, List.set_cons_zero, List.set_cons_succ, i64_w, i32_w]; rfl
                          refine pure_ (i := 6) (N := some 54) (v := ?_) (a' := ?_) #[true, true, true, true, true, true, true, true, false, true, true, false, false, true, false, false, true, true, true, false, false, true, false, true, false, false, true, false, true, false, false, false, true, false, false, false, false, false] rfl rfl (any_of HT_.out (by kernel_rfl)) (fun _ _ _ h => h) (Or.inl ⟨by rfl, ?_⟩) ?_ ?_; rotate_left
                          · intro w'; go_simp; with_reducible rfl
                          rotate_left; · simp only [Act.put, List.setIfInBounds_toArray, List.set_cons_zero, List.set_cons_succ, i64_w, i32_w]; rfl
                          refine pure_ (i := 8) (N := some 56) (v := ?_) (a' := ?_) #[true, true, true, true, true, true, true, true, true, true, true, false, false, true, false, false, true, true, true, false, false, true, false, true, false, false, true, false, true, false, false, false, true, false, false, false, false, false] rfl rfl (any_of HT_.out (by kernel_rfl)) (fun _ _ _ h => h) (Or.inl ⟨by rfl, ?_⟩) ?_ ?_; rotate_left
                          · intro w'; go_simp; with_reducible rfl
                          rotate_left; · simp only [Act.put, List.setIfInBounds_toArray, List.set_cons_zero, List.set_cons_succ, i64_w, i32_w]; rfl
                          refine take_ (i := 11) (N := some 59) (v := ?_) (a' := ?_) #[true, true, true, true, true, true, true, true, true, true, true, true, false, true, false, false, true, true, true, false, false, true, false, true, false, false, true, false, true, false, false, false, true, false, false, false, false, false] rfl rfl (take_ofW HT_.out HW_.out (by kernel_rfl)) (fun _ _ _ h => h) (Or.inl ⟨by rfl, ?_⟩) hHeld ?_ ?_; rotate_left
                          · rintro w' ⟨s0, s1, s2, s3, s4, s5, s6⟩
                            go_simp
                            with_reducible rfl
                          rotate_left
                          · simp only [Act.put, List.setIfInBounds_toArray, List.set_cons_zero, List.set_cons_succ, i64_w, i32_w]; rfl
                          refine pure_ (i := 12) (N := some 60) (v := ?_) (a' := ?_) #[true, true, true, true, true, true, true, true, true, true, true, true, true, true, false, false, true, true, true, false, false, true, false, true, false, false, true, false, true, false, false, false, true, false, false, false, false, false] rfl rfl (any_of HT_.out (by kernel_rfl)) (fun _ _ _ h => h) (Or.inl ⟨by rfl, ?_⟩) ?_ ?_; rotate_left
                          · intro w'; go_simp; with_reducible rfl
                          rotate_left; · simp only [Act.put, List.setIfInBounds_toArray, List.set_cons_zero, List.set_cons_succ, i64_w, i32_w]; rfl
                          refine pure_ (i := 14) (N := some 62) (v := ?_) (a' := ?_) #[true, true, true, true, true, true, true, true, true, true, true, true, true, true, true, false, true, true, true, false, false, true, false, true, false, false, true, false, true, false, false, false, true, false, false, false, false, false] rfl rfl (any_of HT_.out (by kernel_rfl)) (fun _ _ _ h => h) (Or.inl ⟨by rfl, ?_⟩) ?_ ?_; rotate_left
                          · intro w'; go_simp; with_reducible rfl
                          rotate_left; · simp only [Act.put, List.setIfInBounds_toArray, List.set_cons_zero, List.set_cons_succ, i64_w, i32_w]; rfl
                          refine take_ (i := 19) (N := some 67) (v := ?_) (a' := ?_) #[true, true, true, true, true, true, true, true, true, true, true, true, true, true, true, false, true, true, true, true, false, true, false, true, false, false, true, false, true, false, false, false, true, false, false, false, false, false] rfl rfl (take_ofW HT_.out HW_.out (by kernel_rfl)) (fun _ _ _ h => h) (Or.inl ⟨by rfl, ?_⟩) hHeld ?_ ?_; rotate_left
                          · rintro w' ⟨s0, s1, s2, s3, s4, s5, s6⟩
                            go_simp
                            with_reducible rfl
                          rotate_left
                          · simp only [Act.put, List.setIfInBounds_toArray, List.set_cons_zero, List.set_cons_succ, i64_w, i32_w]; rfl
                          refine pure_ (i := 20) (N := some 68) (v := ?_) (a' := ?_) #[true, true, true, true, true, true, true, true, true, true, true, true, true, true, true, false, true, true, true, true, true, true, false, true, false, false, true, false, true, false, false, false, true, false, false, false, false, false] rfl rfl (any_of HT_.out (by kernel_rfl)) (fun _ _ _ h => h) (Or.inl ⟨by rfl, ?_⟩) ?_ ?_; rotate_left
                          · intro w'; go_simp; with_reducible rfl
                          rotate_left; · simp only [Act.put, List.setIfInBounds_toArray, List.set_cons_zero, List.set_cons_succ, i64_w, i32_w]; rfl
                          refine pure_ (i := 22) (N := some 70) (v := ?_) (a' := ?_) #[true, true, true, true, true, true, true, true, true, true, true, true, true, true, true, false, true, true, true, true, true, true, true, true, false, false, true, false, true, false, false, false, true, false, false, false, false, false] rfl rfl (any_of HT_.out (by kernel_rfl)) (fun _ _ _ h => h) (Or.inl ⟨by rfl, ?_⟩) ?_ ?_; rotate_left
                          · intro w'; go_simp; with_reducible rfl
                          rotate_left; · simp only [Act.put, List.setIfInBounds_toArray, List.set_cons_zero, List.set_cons_succ, i64_w, i32_w]; rfl
                          refine take_ (i := 24) (N := some 72) (v := ?_) (a' := ?_) #[true, true, true, true, true, true, true, true, true, true, true, true, true, true, true, false, true, true, true, true, true, true, true, true, true, false, true, false, true, false, false, false, true, false, false, false, false, false] rfl rfl (take_ofW HT_.out HW_.out (by kernel_rfl)) (fun _ _ _ h => h) (Or.inl ⟨by rfl, ?_⟩) hHeld ?_ ?_; rotate_left
                          · rintro w' ⟨s0, s1, s2, s3, s4, s5, s6⟩
                            go_simp
                            with_reducible rfl
                          rotate_left
                          · simp only [Act.put, List.setIfInBounds_toArray, List.set_cons_zero, List.set_cons_succ, i64_w, i32_w]; rfl
                          refine pure_ (i := 25) (N := some 73) (v := ?_) (a' := ?_) #[true, true, true, true, true, true, true, true, true, true, true, true, true, true, true, false, true, true, true, true, true, true, true, true, true, true, true, false, true, false, false, false, true, false, false, false, false, false] rfl rfl (any_of HT_.out (by kernel_rfl)) (fun _ _ _ h => h) (Or.inl ⟨by rfl, ?_⟩) ?_ ?_; rotate_left
                          · intro w'; go_simp; with_reducible rfl
                          rotate_left; · simp only [Act.put, List.setIfInBounds_toArray, List.set_cons_zero, List.set_cons_succ, i64_w, i32_w]; rfl
                          refine pure_ (i := 27) (N := some 75) (v := ?_) (a' := ?_) #[true, true, true, true, true, true, true, true, true, true, true, true, true, true, true, false, true, true, true, true, true, true, true, true, true, true, true, true, true, false, false, false, true, false, false, false, false, false] rfl rfl (any_of HT_.out (by kernel_rfl)) (fun _ _ _ h => h) (Or.inl ⟨by rfl, ?_⟩) ?_ ?_; rotate_left
                          · intro w'; go_simp; with_reducible rfl
                          rotate_left; · simp only [Act.put, List.setIfInBounds_toArray, List.set_cons_zero, List.set_cons_succ, i64_w, i32_w]; rfl
                          refine take_ (i := 29) (N := some 77) (v := ?_) (a' := ?_) #[true, true, true, true, true, true, true, true, true, true, true, true, true, true, true, false, true, true, true, true, true, true, true, true, true, true, true, true, true, true, false, false, true, false, false, false, false, false] rfl rfl (take_ofW HT_.out HW_.out (by kernel_rfl)) (fun _ _ _ h => h) (Or.inl ⟨by rfl, ?_⟩) hHeld ?_ ?_; rotate_left
                          · rintro w' ⟨s0, s1, s2, s3, s4, s5, s6⟩
                            go_simp
                            with_reducible rfl
                          rotate_left
                          · simp only [Act.put, List.setIfInBounds_toArray, List.set_cons_zero, List.set_cons_succ, i64_w, i32_w]; rfl
                          refine pure_ (i := 30) (N := some 78) (v := ?_) (a' := ?_) #[true, true, true, true, true, true, true, true, true, true, true, true, true, true, true, false, true, true, true, true, true, true, true, true, true, true, true, true, true, true, true, false, true, false, false, false, false, false] rfl rfl (any_of HT_.out (by kernel_rfl)) (fun _ _ _ h => h) (Or.inl ⟨by rfl, ?_⟩) ?_ ?_; rotate_left
                          · intro w'; go_simp; with_reducible rfl
                          rotate_left; · simp only [Act.put, List.setIfInBounds_toArray, List.set_cons_zero, List.set_cons_succ, i64_w, i32_w]; rfl
                          refine pure_ (i := 31) (N := some 79) (v := ?_) (a' := ?_) #[true, true, true, true, true, true, true, true, true, true, true, true, true, true, true, false, true, true, true, true, true, true, true, true, true, true, true, true, true, true, true, true, true, false, false, false, false, false] rfl rfl (any_of HT_.out (by kernel_rfl)) (fun _ _ _ h => h) (Or.inl ⟨by rfl, ?_⟩) ?_ ?_; rotate_left
                          · intro w'; go_simp; with_reducible rfl
                          rotate_left; · simp only [Act.put, List.setIfInBounds_toArray, List.set_cons_zero, List.set_cons_succ, i64_w, i32_w]; rfl
                          refine pure_ (i := 33) (N := some 81) (v := ?_) (a' := ?_) #[true, true, true, true, true, true, true, true, true, true, true, true, true, true, true, false, true, true, true, true, true, true, true, true, true, true, true, true, true, true, true, true, true, true, false, false, false, false] rfl rfl (any_of HT_.out (by kernel_rfl)) (fun _ _ _ h => h) (Or.inl ⟨by rfl, ?_⟩) ?_ ?_; rotate_left
                          · intro w'; go_simp; with_reducible rfl
                          rotate_left; · simp only [Act.put, List.setIfInBounds_toArray, List.set_cons_zero, List.set_cons_succ, i64_w, i32_w]; rfl
                          refine one_ (i := 15) (N := some 63) #[true, true, true, true, true, true, true, true, true, true, true, true, true, true, true, true, true, true, true, true, true, true, true, true, true, true, true, true, true, true, true, true, true, true, false, false, false, false] rfl rfl (one_of HT_.out (by kernel_rfl)) (by decide) (fun K hK => ?_)
                          refine goes_ Try.func92 (by kernel_rfl) rfl #[.agg #[.int .i64 a0_0, .int .i64 a0_1, .int .i64 a0_2], .int .i64 x16_1, .int .i64 (wrap64 ((wrap64 (t511 * a2_3)) + x17_3)), .int .i64 (wrap64 ((wrap64 (t512 * a2_3)) + x18_4))] (by rfl) rfl rfl (by (try simp only [List.map_toArray, List.map_cons, List.map_nil]); first | done | rfl | (simp only [List.length_drop, List.length_take]; rfl)) ?_
                          with_reducible refine (symbolonref02_At.calls a0_0 a0_1 a0_2 x16_1 (wrap64 ((wrap64 (t511 * a2_3)) + x17_3)) (wrap64 ((wrap64 (t512 * a2_3)) + x18_4)) t514 _ A28.out).mono ?_
                          rintro e w34 ⟨rfl, hb⟩
                          refine ⟨_, rfl, ?_⟩
                          have n0_ := Aside0.mk (Kd.R_below (by (with_reducible repeat (first | apply Kd.R_alloc | apply Kd.R_drewN | apply Kd.R_drew)); exact HO_15.out) hb)
                          have n1_ := Aside0.mk (blk_below (g := gb507) (o := .cells #[.int .i64 a0_0, .int .i64 a0_1, .int .i64 a0_2] 23 (0, 0)) (by (with_reducible repeat (first | refine blk_drewN ?_ _ | refine blk_drew ?_ | refine blk_alloc ?_ _)); exact BK507.out) hb)
                          have n2_ := Aside0.mk (blk_below (g := gb508) (o := .cells #[.int .i64 a1_0, .int .i64 a1_1, .int .i64 a1_2] 23 (0, 0)) (by (with_reducible repeat (first | refine blk_drewN ?_ _ | refine blk_drew ?_ | refine blk_alloc ?_ _)); exact BK508.out) hb)
                          have n3_ := Aside0.mk (blk_below (g := gb509) (o := .cells #[.int .i64 a2_0, .int .i64 a2_1, .int .i64 a2_2, .int .i64 a2_3] 40 (0, 0)) (by (with_reducible repeat (first | refine blk_drewN ?_ _ | refine blk_drew ?_ | refine blk_alloc ?_ _)); exact BK509.out) hb)
                          have n4_ := Aside0.mk (below_step (by repeat (first | (with_reducible first | exact HB.out | apply below_alloc | apply pw_below_drewN | apply below_drew1 | refine below_set ?_ GE507.out | refine below_set ?_ GE508.out | refine below_set ?_ GE509.out) | exact HB.out)) hb)
                          clear HO_15
                          clear BK507
                          clear BK508
                          clear BK509
                          clear HB
                          have HO_15 := n0_
                          have BK507 := n1_
                          have BK508 := n2_
                          have BK509 := n3_
                          have HB := n4_
                          clear n0_ n1_ n2_ n3_ n4_
                          (try clear hb)
                          (try clear hb2)
                          (try clear hk)
                          (try clear hi)
                          refine hK.out _ _ ⟨(blk_cell BK507.out 0).trans rfl, (blk_cell BK507.out 1).trans rfl, (blk_cell BK507.out 2).trans rfl, (blk_cell BK509.out 0).trans rfl, (blk_cell BK509.out 1).trans rfl, (blk_cell BK509.out 2).trans rfl, (blk_cell BK509.out 3).trans rfl⟩ (fun hHeld => ?_)
                          clear hK K
                          refine norm_ (a' := ?_) ?_ ?_; rotate_left
                          · show Act.put _ (some 63) _ = _
                            simp only [Act.put, List.setIfInBounds_toArray, List.set_cons_zero, List.set_cons_succ, i64_w, i32_w]
                            rfl
                          refine pure_ (i := 34) (N := some 82) (v := ?_) (a' := ?_) #[true, true, true, true, true, true, true, true, true, true, true, true, true, true, true, true, true, true, true, true, true, true, true, true, true, true, true, true, true, true, true, true, true, true, true, false, false, false] rfl rfl (any_of HT_.out (by kernel_rfl)) (fun _ _ _ h => h) (Or.inl ⟨by rfl, ?_⟩) ?_ ?_; rotate_left
                          · intro w'; go_simp; with_reducible rfl
                          rotate_left; · simp only [Act.put, List.setIfInBounds_toArray, List.set_cons_zero, List.set_cons_succ, i64_w, i32_w]; rfl
                          refine one_ (i := 35) (N := some 83) #[true, true, true, true, true, true, true, true, true, true, true, true, true, true, true, true, true, true, true, true, true, true, true, true, true, true, true, true, true, true, true, true, true, true, true, true, false, false] rfl rfl (one_of HT_.out (by kernel_rfl)) (by decide) (fun K hK => ?_)
                          refine value_ (w1 := ?_) (v := ?_) (by rfl) rfl ?_ ?_
                          rotate_left 2
                          · go_simp
                            constructor
                            · rfl
                            · rfl
                          refine hK.out _ _ ⟨(blk_cell (blk_alloc BK507.out _) 0).trans rfl, (blk_cell (blk_alloc BK507.out _) 1).trans rfl, (blk_cell (blk_alloc BK507.out _) 2).trans rfl, (blk_cell (blk_alloc BK509.out _) 0).trans rfl, (blk_cell (blk_alloc BK509.out _) 1).trans rfl, (blk_cell (blk_alloc BK509.out _) 2).trans rfl, (blk_cell (blk_alloc BK509.out _) 3).trans rfl⟩ (fun hHeld => ?_)
                          clear hK K
                          refine norm_ (a' := ?_) ?_ ?_; rotate_left
                          · show Act.put _ (some 83) _ = _
                            simp only [Act.put, List.setIfInBounds_toArray, List.set_cons_zero, List.set_cons_succ, i64_w, i32_w]
                            rfl
                          refine one_ (i := 36) (N := some 84) #[true, true, true, true, true, true, true, true, true, true, true, true, true, true, true, true, true, true, true, true, true, true, true, true, true, true, true, true, true, true, true, true, true, true, true, true, true, false] rfl rfl (one_of HT_.out (by kernel_rfl)) (by decide) (fun K hK => ?_)
                          refine Kd.R_append_step k58 (w0 := w) w.heap.size (by rfl) (.tmp 48) (.tmp 83) 49 58 (.agg #[(.int .i64 0), (.int .i64 0)]) 16 rfl Try.underlying49 info58 rfl (by decide) (by omega) u15 x15_4 (⟨t514, wrap64 ((wrap64 (a3 + (wrap64 ((wrap64 ((wrap64 ((wrap64 ((wrap64 (t510 * a0_0)) + x16_1)) * a2_2)) + x17_3)) * a2_2)))) + x18_4)⟩ : S58) [.int .i64 t514, .int .i64 (wrap64 ((wrap64 (a3 + (wrap64 ((wrap64 ((wrap64 ((wrap64 ((wrap64 (t510 * a0_0)) + x16_1)) * a2_2)) + x17_3)) * a2_2)))) + x18_4))] (fun _ => True) (fun _ => False) rfl rfl ?aP (fun _ hk => hk.elim) ?aF ?aO ?aB ?aS ?aL ?_
                          (case aP => exact k58_mkM _ _ _ (⟨t514, wrap64 ((wrap64 (a3 + (wrap64 ((wrap64 ((wrap64 ((wrap64 ((wrap64 (t510 * a0_0)) + x16_1)) * a2_2)) + x17_3)) * a2_2)))) + x18_4)⟩ : S58))
                          (case aB => exact (by repeat (first | (with_reducible first | exact HB.out | apply below_alloc | apply pw_below_drewN | apply below_drew1 | refine below_set ?_ GE507.out | refine below_set ?_ GE508.out | refine below_set ?_ GE509.out) | exact HB.out)))
                          (case aF => exact (fun _ _ => trivial))
                          (case aO => exact (by (with_reducible repeat (first | apply Kd.R_alloc | apply Kd.R_drewN | apply Kd.R_drew)); exact HO_15.out))
                          (case aS => exact (below_size (by repeat (first | (with_reducible first | exact HB.out | apply below_alloc | apply pw_below_drewN | apply below_drew1 | refine below_set ?_ GE507.out | refine below_set ?_ GE508.out | refine below_set ?_ GE509.out) | exact HB.out))))
                          (case aL => have := LMc29.out; omega)
                          intro v516 w35 ho hb hg hat
                          rw [← Ny515.out] at ho
                          have n0_ := Aside0.mk (blk_grown (g := gb507) (o := .cells #[.int .i64 a0_0, .int .i64 a0_1, .int .i64 a0_2] 23 (0, 0)) (by (with_reducible repeat (first | refine blk_drewN ?_ _ | refine blk_drew ?_ | refine blk_alloc ?_ _)); exact BK507.out) hg (Kd.R_ne HO_15.out BK507.out (by decide)))
                          have n1_ := Aside0.mk (blk_grown (g := gb508) (o := .cells #[.int .i64 a1_0, .int .i64 a1_1, .int .i64 a1_2] 23 (0, 0)) (by (with_reducible repeat (first | refine blk_drewN ?_ _ | refine blk_drew ?_ | refine blk_alloc ?_ _)); exact BK508.out) hg (Kd.R_ne HO_15.out BK508.out (by decide)))
                          have n2_ := Aside0.mk (blk_grown (g := gb509) (o := .cells #[.int .i64 a2_0, .int .i64 a2_1, .int .i64 a2_2, .int .i64 a2_3] 40 (0, 0)) (by (with_reducible repeat (first | refine blk_drewN ?_ _ | refine blk_drew ?_ | refine blk_alloc ?_ _)); exact BK509.out) hg (Kd.R_ne HO_15.out BK509.out (by decide)))
                          have n3_ := Aside0.mk (hb)
                          have n4_ := Aside0.mk (ho)
                          clear BK507
                          clear BK508
                          clear BK509
                          clear HB
                          clear HO_15
                          have BK507 := n0_
                          have BK508 := n1_
                          have BK509 := n2_
                          have HB := n3_
                          have HO517 := n4_
                          clear n0_ n1_ n2_ n3_ n4_
                          clear ho hb hg hat
                          refine hK.out _ _ ⟨(blk_cell BK507.out 0).trans rfl, (blk_cell BK507.out 1).trans rfl, (blk_cell BK507.out 2).trans rfl, (blk_cell BK509.out 0).trans rfl, (blk_cell BK509.out 1).trans rfl, (blk_cell BK509.out 2).trans rfl, (blk_cell BK509.out 3).trans rfl⟩ (fun hHeld => ?_)
                          clear hK K
                          refine norm_ (a' := ?_) ?_ ?_; rotate_left
                          · show Act.put _ (some 84) _ = _
                            simp only [Act.put, List.setIfInBounds_toArray, List.set_cons_zero, List.set_cons_succ, i64_w, i32_w]
                            rfl
                          refine pure_ (i := 37) (N := some 15) (v := ?_) (a' := ?_) #[true, true, true, true, true, true, true, true, true, true, true, true, true, true, true, true, true, true, true, true, true, true, true, true, true, true, true, true, true, true, true, true, true, true, true, true, true, true] rfl rfl (any_of HT_.out (by kernel_rfl)) (fun _ _ _ h => h) (Or.inl ⟨by rfl, ?_⟩) ?_ ?_; rotate_left
                          · intro w'; go_simp; with_reducible rfl
                          rotate_left; · simp only [Act.put, List.setIfInBounds_toArray, List.set_cons_zero, List.set_cons_succ, i64_w, i32_w]; rfl
                          refine done_ (done_of HT_.out (by kernel_rfl)) ?_
                          try go_wp2
                          go_roundg k4
                          case measure => have := HK1.out; have := HJ13.out; have := HK3.out; have := HK4.out; omega
                          case rel => exact ⟨(y515), (wrap64 (x18_4 + 1)), (by first | rfl | (simp; done) | (simp [*]; done)), H', ⟨by have := HK1.out; have := HJ13.out; have := HK3.out; have := HK4.out; omega⟩, ⟨by (with_reducible repeat (first | apply Kd.R_alloc | apply Kd.R_drewN | apply Kd.R_drew)); exact HO517.out⟩, ⟨by (with_reducible repeat (first | refine blk_drewN ?_ _ | refine blk_drew ?_ | refine blk_alloc ?_ _)); exact BK507.out⟩, ⟨by (with_reducible repeat (first | refine blk_drewN ?_ _ | refine blk_drew ?_ | refine blk_alloc ?_ _)); exact BK508.out⟩, ⟨by (with_reducible repeat (first | refine blk_drewN ?_ _ | refine blk_drew ?_ | refine blk_alloc ?_ _)); exact BK509.out⟩, ⟨by repeat (first | (with_reducible first | exact HB.out | apply below_alloc | apply pw_below_drewN | apply below_drew1 | refine below_set ?_ GE507.out | refine below_set ?_ GE508.out | refine below_set ?_ GE509.out) | exact HB.out)⟩⟩
                        · rw [if_neg c29] at H
                          exact absurd H (by simp)
                      · rw [if_neg c27] at H
                        have c27b0 : decide (x18_4 < a2_2) = false := decide_eq_false c27
                        clear c27
                        have H' := Aside0.mk H
                        clear H
                        have hnb36 := NB509_507.out
                        have hnc36 := NB507_509.out
                        have hnb37 := NB509_508.out
                        have hnc37 := NB508_509.out
                        have hcz38_0 : wr.cell? ⟨gb509, 0, none⟩ = some (.int .i64 a2_0) := (blk_cell BK509.out 0).trans rfl
                        have hcz38_1 : wr.cell? ⟨gb509, 1, none⟩ = some (.int .i64 a2_1) := (blk_cell BK509.out 1).trans rfl
                        have hcz38_2 : wr.cell? ⟨gb509, 2, none⟩ = some (.int .i64 a2_2) := (blk_cell BK509.out 2).trans rfl
                        have hcz38_3 : wr.cell? ⟨gb509, 3, none⟩ = some (.int .i64 a2_3) := (blk_cell BK509.out 3).trans rfl
                        have hfz38_0 := blk_frozen BK509.out 0
                        have hfz38_1 := blk_frozen BK509.out 1
                        have hfz38_2 := blk_frozen BK509.out 2
                        have hfz38_3 := blk_frozen BK509.out 3
                        go_wp2
                        go_roundg k4
                        case measure => have := HK1.out; have := HJ13.out; have := HK3.out; have := HK4.out; omega
                        case rel => exact ⟨(x15_4), (wrap64 (x17_3 + 1)), (by first | rfl | (simp; done) | (simp [*]; done)), H', ⟨by have := HK1.out; have := HJ13.out; have := HK3.out; have := HK4.out; omega⟩, ⟨by (with_reducible repeat (first | apply Kd.R_alloc | apply Kd.R_drewN | apply Kd.R_drew)); exact HO_15.out⟩, ⟨by (with_reducible repeat (first | refine blk_drewN ?_ _ | refine blk_drew ?_ | refine blk_alloc ?_ _)); exact BK507.out⟩, ⟨by (with_reducible repeat (first | refine blk_drewN ?_ _ | refine blk_drew ?_ | refine blk_alloc ?_ _)); exact BK508.out⟩, ⟨by (with_reducible repeat (first | refine blk_drewN ?_ _ | refine blk_drew ?_ | refine blk_alloc ?_ _)); exact BK509.out⟩, ⟨by repeat (first | (with_reducible first | exact HB.out | apply below_alloc | apply pw_below_drewN | apply below_drew1 | refine below_set ?_ GE507.out | refine below_set ?_ GE508.out | refine below_set ?_ GE509.out) | exact HB.out)⟩⟩
                · rw [if_neg c23] at H
                  have c23b0 : decide (x17_3 < a2_2) = false := decide_eq_false c23
                  clear c23
                  have H' := Aside0.mk H
                  clear H
                  have hnb39 := NB509_507.out
                  have hnc39 := NB507_509.out
                  have hnb40 := NB509_508.out
                  have hnc40 := NB508_509.out
                  have hcz41_0 : wr.cell? ⟨gb509, 0, none⟩ = some (.int .i64 a2_0) := (blk_cell BK509.out 0).trans rfl
                  have hcz41_1 : wr.cell? ⟨gb509, 1, none⟩ = some (.int .i64 a2_1) := (blk_cell BK509.out 1).trans rfl
                  have hcz41_2 : wr.cell? ⟨gb509, 2, none⟩ = some (.int .i64 a2_2) := (blk_cell BK509.out 2).trans rfl
                  have hcz41_3 : wr.cell? ⟨gb509, 3, none⟩ = some (.int .i64 a2_3) := (blk_cell BK509.out 3).trans rfl
                  have hfz41_0 := blk_frozen BK509.out 0
                  have hfz41_1 := blk_frozen BK509.out 1
                  have hfz41_2 := blk_frozen BK509.out 2
                  have hfz41_3 := blk_frozen BK509.out 3
                  go_wp2
                  go_roundg k3
                  case measure => have := HK1.out; have := HJ13.out; have := HK3.out; omega
                  case rel => exact ⟨(x15_3), (wrap64 (x16_1 + 1)), (by first | rfl | (simp; done) | (simp [*]; done)), H', ⟨by have := HK1.out; have := HJ13.out; have := HK3.out; omega⟩, ⟨by (with_reducible repeat (first | apply Kd.R_alloc | apply Kd.R_drewN | apply Kd.R_drew)); exact HO_15.out⟩, ⟨by (with_reducible repeat (first | refine blk_drewN ?_ _ | refine blk_drew ?_ | refine blk_alloc ?_ _)); exact BK507.out⟩, ⟨by (with_reducible repeat (first | refine blk_drewN ?_ _ | refine blk_drew ?_ | refine blk_alloc ?_ _)); exact BK508.out⟩, ⟨by (with_reducible repeat (first | refine blk_drewN ?_ _ | refine blk_drew ?_ | refine blk_alloc ?_ _)); exact BK509.out⟩, ⟨by repeat (first | (with_reducible first | exact HB.out | apply below_alloc | apply pw_below_drewN | apply below_drew1 | refine below_set ?_ GE507.out | refine below_set ?_ GE508.out | refine below_set ?_ GE509.out) | exact HB.out)⟩⟩
          · replace c22 := Bool.eq_false_iff.mpr c22
            subst c22
            have H1 : (some x15_1) = some r := by rw [if_neg (show ¬ (false = true) by decide)] at H; exact H
            clear H
            have H := H1
            clear H1
            obtain rfl := Option.some.inj H
            go_wp2
            go_ret
            exact ⟨_, by first | rfl | (simp [errW_none, errW_some] <;> rfl) | (simp [*, errW_none, errW_some] <;> rfl), by (with_reducible repeat (first | apply Kd.R_alloc | apply Kd.R_drewN | apply Kd.R_drew)); exact HO_15.out, by repeat (first | (with_reducible first | exact HB.out | apply below_alloc | apply pw_below_drewN | apply below_drew1 | refine below_set ?_ GE507.out | refine below_set ?_ GE508.out | refine below_set ?_ GE509.out) | exact HB.out)⟩
mutual
def symbolonref06_Terms.j0 : Nat → Int → Int → List (S23) → Bool → Int → Int → Int → List (S40) → Option ((List (S58)))
  | 0, _, _, _, _, _, _, _, _ => none
  | k + 1, x1, x2, x7, x45, x519000, x519001, x519002, x519003 => if x45 = true then (some ([] : List (S58))) else ((h05_Weights.f x519000 x519001 x519002 x519003 x1).bind fun bt525 => (if 0 ≤ x1 then (if x1 < (x519003.length : Int) then (if ((rd_T40 x519003 x1).f0) = 1 then (if x1 < (x7.length : Int) then (if 0 ≤ (wrap64 (x1 + 1)) then (if (wrap64 (x1 + 1)) < (x7.length : Int) then ((symbolonref06_conv.f k ((rd_T23 x7 x1).f0) ((rd_T23 x7 x1).f1) ((rd_T23 x7 x1).f2) ((rd_T23 x7 (wrap64 (x1 + 1))).f0) ((rd_T23 x7 (wrap64 (x1 + 1))).f1) ((rd_T23 x7 (wrap64 (x1 + 1))).f2) ((rd_T40 x519003 x1).f0) ((rd_T40 x519003 x1).f1) ((rd_T40 x519003 x1).f2) ((rd_T40 x519003 x1).f3) bt525.1 x2).bind fun t531 => (some t531)) else (none)) else (none)) else (none)) else (if ((rd_T40 x519003 x1).f0) = 2 then (some (([(⟨x2, (-1)⟩ : S58)] : List (S58)))) else (if ((rd_T40 x519003 x1).f0) = 3 then (some ([] : List (S58))) else (if x1 < (x7.length : Int) then ((h02_Size.f ((rd_T23 x7 x1).f0) ((rd_T23 x7 x1).f1) ((rd_T23 x7 x1).f2)).bind fun t538 => (symbolonref06_Terms.l0 k x2 bt525.1 ([] : List (S58)) t538 0)) else (none))))) else (none)) else (none)))
def symbolonref06_Terms.l0 : Nat → Int → Int → List (S58) → Int → Int → Option ((List (S58)))
  | 0, _, _, _, _, _ => none
  | k + 1, x2, x9, x11, x12, x13 => if x13 < x12 then (if x11.length < 8796093022208 then (symbolonref06_Terms.l0 k x2 x9 (x11 ++ [(⟨x13, wrap64 ((wrap64 (x9 + (wrap64 (x2 * x12)))) + x13)⟩ : S58)]) x12 (wrap64 (x13 + 1))) else (none)) else (some x11)
end
def symbolonref06_Terms.f (k : Nat) (a0_0 : Int) (a0_1 : Int) (a0_2 : Int) (l0_3 : List (S40)) (a1 : Int) (a2 : Int) : Option ((List (S58))) := (h05_Shapes.f a0_0 a0_1 a0_2 l0_3).bind fun bt519 => (if bt519.2 = 0 then (if a1 < 0 then (symbolonref06_Terms.j0 k a1 a2 bt519.1 true a0_0 a0_1 a0_2 l0_3) else (if a1 ≥ (l0_3.length : Int) then (symbolonref06_Terms.j0 k a1 a2 bt519.1 true a0_0 a0_1 a0_2 l0_3) else (if a2 < 0 then (symbolonref06_Terms.j0 k a1 a2 bt519.1 true a0_0 a0_1 a0_2 l0_3) else (if 0 ≤ (wrap64 (a1 + 1)) then (if (wrap64 (a1 + 1)) < (bt519.1.length : Int) then ((h02_Size.f ((rd_T23 bt519.1 (wrap64 (a1 + 1))).f0) ((rd_T23 bt519.1 (wrap64 (a1 + 1))).f1) ((rd_T23 bt519.1 (wrap64 (a1 + 1))).f2)).bind fun t524 => (symbolonref06_Terms.j0 k a1 a2 bt519.1 (decide (a2 ≥ t524)) a0_0 a0_1 a0_2 l0_3)) else (none)) else (none))))) else (symbolonref06_Terms.j0 k a1 a2 bt519.1 true a0_0 a0_1 a0_2 l0_3))
def symbolonref06_Terms.T7 : Bool × List (List Nat × List Nat) := (true, [([], []), ([], []), ([0, 1], [0, 1]), ([2], [2]), ([], []), ([], []), ([5], [5]), ([4, 6], [4, 6]), ([7], [7]), ([], []), ([9], [9]), ([], []), ([10, 11], [10, 11]), ([12], [12]), ([], []), ([], []), ([3, 8, 13, 14, 15], [3, 8, 13, 14, 15]), ([16, 16, 0, 1, 2, 3, 4, 5, 6, 7, 8, 9, 10, 11, 12, 13, 14, 15, 16], [16])])
def symbolonref06_Terms.B7 : List Nat := [0, 0, 3, 7, 0, 0, 32, 112, 240, 0, 512, 0, 3584, 7680, 0, 0, 65535, 131071]
theorem symbolonref06_Terms.tab7 : rtab .any (opsOf Try.f46 7) = symbolonref06_Terms.T7 := by kernel_rfl
theorem symbolonref06_Terms.bits7 : waitsOk symbolonref06_Terms.T7.2 symbolonref06_Terms.B7 = true := by kernel_rfl
set_option maxHeartbeats 8000000 in
set_option maxRecDepth 100000 in
theorem symbolonref06_Terms.calls (k : Nat) (a0_0 : Int) (a0_1 : Int) (a0_2 : Int) (A0_3 : Option Addr) (c0_3 : Nat) (l0_3 : List (S40)) (a1 : Int) (a2 : Int) (r : List (S58)) (w : World) (hr0_3 : Kd.C k40 w A0_3 l0_3.length l0_3) (hc0_3 : l0_3.length ≤ c0_3) (h : symbolonref06_Terms.f k a0_0 a0_1 a0_2 l0_3 a1 a2 = some r) :
    Calls Try.prog 46 #[.agg #[.int .i64 a0_0, .int .i64 a0_1, .int .i64 a0_2, .slice A0_3 l0_3.length c0_3], .int .i64 a1, .int .i64 a2] w fun e w' => ∃ v0_ : Value, e = .returned (v0_) ∧ Kd.R k58 58 w' w.heap.size (fun _ => True) v0_ r ∧ Below w.heap.size w w' := by
  have hu26 := Try.underlying26
  have hu23 := Try.underlying23
  have hu40 := Try.underlying40
  have hu58 := Try.underlying58
  have HR0_3 := Aside0.mk hr0_3
  have HC0_3 := Aside0.mk hc0_3
  clear hr0_3 hc0_3
  have HB := Aside0.mk (Below.refl w.heap.size w)
  have H : ((h05_Shapes.f a0_0 a0_1 a0_2 l0_3).bind fun bt519 => (if bt519.2 = 0 then (if a1 < 0 then (symbolonref06_Terms.j0 k a1 a2 bt519.1 true a0_0 a0_1 a0_2 l0_3) else (if a1 ≥ (l0_3.length : Int) then (symbolonref06_Terms.j0 k a1 a2 bt519.1 true a0_0 a0_1 a0_2 l0_3) else (if a2 < 0 then (symbolonref06_Terms.j0 k a1 a2 bt519.1 true a0_0 a0_1 a0_2 l0_3) else (if 0 ≤ (wrap64 (a1 + 1)) then (if (wrap64 (a1 + 1)) < (bt519.1.length : Int) then ((h02_Size.f ((rd_T23 bt519.1 (wrap64 (a1 + 1))).f0) ((rd_T23 bt519.1 (wrap64 (a1 + 1))).f1) ((rd_T23 bt519.1 (wrap64 (a1 + 1))).f2)).bind fun t524 => (symbolonref06_Terms.j0 k a1 a2 bt519.1 (decide (a2 ≥ t524)) a0_0 a0_1 a0_2 l0_3)) else (none)) else (none))))) else (symbolonref06_Terms.j0 k a1 a2 bt519.1 true a0_0 a0_1 a0_2 l0_3))) = some r := h
  clear h
  replace H := Option.bind_eq_some_iff.mp H
  obtain ⟨⟨t519, t522⟩, A40, H⟩ := H
  replace H : (if t522 = 0 then (if a1 < 0 then (symbolonref06_Terms.j0 k a1 a2 t519 true a0_0 a0_1 a0_2 l0_3) else (if a1 ≥ (l0_3.length : Int) then (symbolonref06_Terms.j0 k a1 a2 t519 true a0_0 a0_1 a0_2 l0_3) else (if a2 < 0 then (symbolonref06_Terms.j0 k a1 a2 t519 true a0_0 a0_1 a0_2 l0_3) else (if 0 ≤ (wrap64 (a1 + 1)) then (if (wrap64 (a1 + 1)) < (t519.length : Int) then ((h02_Size.f ((rd_T23 t519 (wrap64 (a1 + 1))).f0) ((rd_T23 t519 (wrap64 (a1 + 1))).f1) ((rd_T23 t519 (wrap64 (a1 + 1))).f2)).bind fun t524 => (symbolonref06_Terms.j0 k a1 a2 t519 (decide (a2 ≥ t524)) a0_0 a0_1 a0_2 l0_3)) else (none)) else (none))))) else (symbolonref06_Terms.j0 k a1 a2 t519 true a0_0 a0_1 a0_2 l0_3)) = some r := H
  have A4 := Aside0.mk A40
  clear A40
  have HC5 := Aside0.mk H
  clear H
  go_enter Try.func46, Try.ntmps46
  go_upto_region 2 with (first | ((with_reducible refine gate_dst (N := 3) rfl ?_); (try (refine gate_guard (by rfl) ?_; dsimp only)); refine box_event ?hg (N := 3) ?hd (cs := #[.int .i64 a0_0, .int .i64 a0_1, .int .i64 a0_2, .slice A0_3 l0_3.length c0_3]) (t := 26) ?hr ?_; (case hd => rfl); (case hg => rfl); (case hr => first | (go_simp; done) | (go_simp; rfl)); intro gb518 hg w6 hbox hb; have n0_ := Aside0.mk (below_step (by repeat (first | (with_reducible first | exact HB.out | apply below_alloc | apply pw_below_drewN | apply below_drew1) | exact HB.out)) hb); have n1_ := Aside0.mk (hbox); have n2_ := Aside0.mk ((by rw [hg]; exact (below_size (by repeat (first | (with_reducible first | exact HB.out | apply below_alloc | apply pw_below_drewN | apply below_drew1) | exact HB.out))) : w.heap.size ≤ gb518)); have n3_ := Aside0.mk ((by rw [hg]; exact (below_size (by repeat (first | (with_reducible first | exact HB.out | apply below_alloc | apply pw_below_drewN | apply below_drew1) | exact HB.out))) : w.heap.size ≤ gb518)); clear HB; have HB := n0_; have BK518 := n1_; have GW518 := n2_; have GE518 := n3_; clear n0_ n1_ n2_ n3_; clear hb hbox hg; have hcz7_0 : w6.cell? ⟨gb518, 0, none⟩ = some (.int .i64 a0_0) := (blk_cell BK518.out 0).trans rfl; have hcz7_1 : w6.cell? ⟨gb518, 1, none⟩ = some (.int .i64 a0_1) := (blk_cell BK518.out 1).trans rfl; have hcz7_2 : w6.cell? ⟨gb518, 2, none⟩ = some (.int .i64 a0_2) := (blk_cell BK518.out 2).trans rfl; have hcz7_3 : w6.cell? ⟨gb518, 3, none⟩ = some (.slice A0_3 l0_3.length c0_3) := (blk_cell BK518.out 3).trans rfl; have hfz7_0 := blk_frozen BK518.out 0; have hfz7_1 := blk_frozen BK518.out 1; have hfz7_2 := blk_frozen BK518.out 2; have hfz7_3 := blk_frozen BK518.out 3) | ((with_reducible refine gate_callee (f := 28) rfl ?_); refine goesL_ (some 16) rfl rfl Try.func28 (by kernel_rfl) rfl #[.agg #[.int .i64 a0_0, .int .i64 a0_1, .int .i64 a0_2, .slice A0_3 l0_3.length c0_3]] rfl (by (try simp only [List.map_toArray, List.map_cons, List.map_nil]); first | done | rfl | (simp only [List.length_drop, List.length_take]; rfl)) ?_; (with_reducible refine (h05_Shapes.calls a0_0 a0_1 a0_2 _ _ l0_3 t519 t522 _ ?side1 ?side2 A4.out).mono ?_); (case side1 => repeat (first | exact (Kd.C_below HR0_3.out HB.out) | (with_reducible refine Kd.C_alloc ?_ _) | (with_reducible refine Kd.C_drewN ?_ _) | (with_reducible refine Kd.C_drew ?_))); (case side2 => exact HC0_3.out); rintro e w8 ⟨v520, rfl, ho0, hb⟩; refine ⟨_, rfl, ?_⟩; have n0_ := Aside0.mk (Kd.R_lower ho0 (below_size (by repeat (first | (with_reducible first | exact HB.out | apply below_alloc | apply pw_below_drewN | apply below_drew1 | refine below_set ?_ GE518.out) | exact HB.out)))); have n1_ := Aside0.mk (blk_below (g := gb518) (o := .cells #[.int .i64 a0_0, .int .i64 a0_1, .int .i64 a0_2, .slice A0_3 l0_3.length c0_3] 26 (0, 0)) (by (with_reducible repeat (first | refine blk_drewN ?_ _ | refine blk_drew ?_ | refine blk_alloc ?_ _)); exact BK518.out) hb); have n2_ := Aside0.mk (below_step (by repeat (first | (with_reducible first | exact HB.out | apply below_alloc | apply pw_below_drewN | apply below_drew1 | refine below_set ?_ GE518.out) | exact HB.out)) hb); clear BK518; clear HB; have HO521 := n0_; have BK518 := n1_; have HB := n2_; clear n0_ n1_ n2_; (try clear hb); (try clear hb2); (try clear hk); (try clear hi); (try clear ho0)))
  (try simp only [Act.put, List.setIfInBounds_toArray, List.set_cons_zero, List.set_cons_succ])
  go_cut [45] (fun v45 wc => ∃ (kq : Nat) (x45_4 : Bool), v45 = .bool x45_4 ∧ Aside0 (symbolonref06_Terms.j0 kq a1 a2 t519 x45_4 a0_0 a0_1 a0_2 l0_3 = some r) ∧ Aside0 (kq ≤ k) ∧ Aside0 (Kd.R k23 23 wc w.heap.size (fun _ => True) v520 t519) ∧ Aside0 (wc.heap[gb518]? = some (.cells #[.int .i64 a0_0, .int .i64 a0_1, .int .i64 a0_2, (.slice A0_3 l0_3.length c0_3)] 26 (0, 0))) ∧ Aside0 (Below w.heap.size w wc))
  case first =>
    have H := HC5.out
    clear HC5
    by_cases c9 : t522 = 0
    · rw [if_pos c9] at H
      have c9b0 : (t522 == 0) = true := beq_iff_eq.mpr c9
      have c9b1 : (t522 != 0) = false := bne_eq_false_iff_eq.mpr c9
      clear c9
      (first | rw [c9b0] | (simp only [i64_w, i32_w]; rw [c9b0]) | skip)
      by_cases c10 : a1 < 0
      · rw [if_pos c10] at H
        have c10b0 : decide (a1 < 0) = true := decide_eq_true c10
        clear c10
        have H' := Aside0.mk H
        clear H
        go_wp2
        go_meet
        case rel => exact ⟨_, (true), (by first | rfl | (simp; done) | (simp [*]; done)), H', ⟨by first | omega | exact Nat.le_refl _⟩, ⟨by (with_reducible repeat (first | apply Kd.R_alloc | apply Kd.R_drewN | apply Kd.R_drew)); exact HO521.out⟩, ⟨by (with_reducible repeat (first | refine blk_drewN ?_ _ | refine blk_drew ?_ | refine blk_alloc ?_ _)); exact BK518.out⟩, ⟨by repeat (first | (with_reducible first | exact HB.out | apply below_alloc | apply pw_below_drewN | apply below_drew1 | refine below_set ?_ GE518.out) | exact HB.out)⟩⟩
      · rw [if_neg c10] at H
        have c10b0 : decide (a1 < 0) = false := decide_eq_false c10
        clear c10
        by_cases c11 : a1 ≥ (l0_3.length : Int)
        · rw [if_pos c11] at H
          have c11b0 : decide ((l0_3.length : Int) ≤ a1) = true := decide_eq_true c11
          clear c11
          have H' := Aside0.mk H
          clear H
          have hcz12_0 : w8.cell? ⟨gb518, 0, none⟩ = some (.int .i64 a0_0) := (blk_cell BK518.out 0).trans rfl
          have hcz12_1 : w8.cell? ⟨gb518, 1, none⟩ = some (.int .i64 a0_1) := (blk_cell BK518.out 1).trans rfl
          have hcz12_2 : w8.cell? ⟨gb518, 2, none⟩ = some (.int .i64 a0_2) := (blk_cell BK518.out 2).trans rfl
          have hcz12_3 : w8.cell? ⟨gb518, 3, none⟩ = some (.slice A0_3 l0_3.length c0_3) := (blk_cell BK518.out 3).trans rfl
          have hfz12_0 := blk_frozen BK518.out 0
          have hfz12_1 := blk_frozen BK518.out 1
          have hfz12_2 := blk_frozen BK518.out 2
          have hfz12_3 := blk_frozen BK518.out 3
          go_wp2
          go_meet
          case rel => exact ⟨_, (true), (by first | rfl | (simp; done) | (simp [*]; done)), H', ⟨by first | omega | exact Nat.le_refl _⟩, ⟨by (with_reducible repeat (first | apply Kd.R_alloc | apply Kd.R_drewN | apply Kd.R_drew)); exact HO521.out⟩, ⟨by (with_reducible repeat (first | refine blk_drewN ?_ _ | refine blk_drew ?_ | refine blk_alloc ?_ _)); exact BK518.out⟩, ⟨by repeat (first | (with_reducible first | exact HB.out | apply below_alloc | apply pw_below_drewN | apply below_drew1 | refine below_set ?_ GE518.out) | exact HB.out)⟩⟩
        · rw [if_neg c11] at H
          have c11b0 : decide ((l0_3.length : Int) ≤ a1) = false := decide_eq_false c11
          clear c11
          by_cases c13 : a2 < 0
          · rw [if_pos c13] at H
            have c13b0 : decide (a2 < 0) = true := decide_eq_true c13
            clear c13
            have H' := Aside0.mk H
            clear H
            have hcz14_0 : w8.cell? ⟨gb518, 0, none⟩ = some (.int .i64 a0_0) := (blk_cell BK518.out 0).trans rfl
            have hcz14_1 : w8.cell? ⟨gb518, 1, none⟩ = some (.int .i64 a0_1) := (blk_cell BK518.out 1).trans rfl
            have hcz14_2 : w8.cell? ⟨gb518, 2, none⟩ = some (.int .i64 a0_2) := (blk_cell BK518.out 2).trans rfl
            have hcz14_3 : w8.cell? ⟨gb518, 3, none⟩ = some (.slice A0_3 l0_3.length c0_3) := (blk_cell BK518.out 3).trans rfl
            have hfz14_0 := blk_frozen BK518.out 0
            have hfz14_1 := blk_frozen BK518.out 1
            have hfz14_2 := blk_frozen BK518.out 2
            have hfz14_3 := blk_frozen BK518.out 3
            go_wp2
            go_meet
            case rel => exact ⟨_, (true), (by first | rfl | (simp; done) | (simp [*]; done)), H', ⟨by first | omega | exact Nat.le_refl _⟩, ⟨by (with_reducible repeat (first | apply Kd.R_alloc | apply Kd.R_drewN | apply Kd.R_drew)); exact HO521.out⟩, ⟨by (with_reducible repeat (first | refine blk_drewN ?_ _ | refine blk_drew ?_ | refine blk_alloc ?_ _)); exact BK518.out⟩, ⟨by repeat (first | (with_reducible first | exact HB.out | apply below_alloc | apply pw_below_drewN | apply below_drew1 | refine below_set ?_ GE518.out) | exact HB.out)⟩⟩
          · rw [if_neg c13] at H
            have c13b0 : decide (a2 < 0) = false := decide_eq_false c13
            clear c13
            obtain ⟨ji15, hji15⟩ : ∃ j_ : Int, (wrap64 (a1 + 1)) = j_ := ⟨_, rfl⟩
            replace H : (if 0 ≤ (ji15) then (if (ji15) < (t519.length : Int) then ((h02_Size.f ((rd_T23 t519 (ji15)).f0) ((rd_T23 t519 (ji15)).f1) ((rd_T23 t519 (ji15)).f2)).bind fun t524 => (symbolonref06_Terms.j0 k a1 a2 t519 (decide (a2 ≥ t524)) a0_0 a0_1 a0_2 l0_3)) else (none)) else (none)) = some r := by first | (rw [hji15] at H; exact H) | (simp only [hji15] at H ⊢; exact H)
            have hji15w : (IntKind.i64.wrap (a1 + 1)) = ji15 := (i64_w _).trans hji15
            by_cases c16 : 0 ≤ (ji15)
            · rw [if_pos c16] at H
              have c16b0 : decide (0 ≤ (ji15)) = true := decide_eq_true c16
              clear c16
              by_cases c17 : (ji15) < (t519.length : Int)
              · rw [if_pos c17] at H
                have c17b0 : decide ((ji15) < (t519.length : Int)) = true := decide_eq_true c17
                clear c17
                replace H := Option.bind_eq_some_iff.mp H
                obtain ⟨t524, A180, H⟩ := H
                replace H : (symbolonref06_Terms.j0 k a1 a2 t519 (decide (a2 ≥ t524)) a0_0 a0_1 a0_2 l0_3) = some r := H
                have A18 := Aside0.mk A180
                clear A180
                have H' := Aside0.mk H
                clear H
                have hcz19_0 : w8.cell? ⟨gb518, 0, none⟩ = some (.int .i64 a0_0) := (blk_cell BK518.out 0).trans rfl
                have hcz19_1 : w8.cell? ⟨gb518, 1, none⟩ = some (.int .i64 a0_1) := (blk_cell BK518.out 1).trans rfl
                have hcz19_2 : w8.cell? ⟨gb518, 2, none⟩ = some (.int .i64 a0_2) := (blk_cell BK518.out 2).trans rfl
                have hcz19_3 : w8.cell? ⟨gb518, 3, none⟩ = some (.slice A0_3 l0_3.length c0_3) := (blk_cell BK518.out 3).trans rfl
                have hfz19_0 := blk_frozen BK518.out 0
                have hfz19_1 := blk_frozen BK518.out 1
                have hfz19_2 := blk_frozen BK518.out 2
                have hfz19_3 := blk_frozen BK518.out 3
                obtain ⟨Ao20, co20, eo20⟩ := Kd.R_slice HO521.out
                subst eo20
                have p523 : 0 ≤ ((ji15) : Int) := of_decide_eq_true (by first | (with_reducible assumption) | assumption)
                have q523 : (ji15) < (t519.length : Int) := of_decide_eq_true (by first | (with_reducible assumption) | assumption)
                obtain ⟨ad523, e523, hx523_0, hx523_1, hx523_2⟩ := at_T23 (Kd.R_reads' HO521.out).2.2 (ji15) p523 q523
                cases e523
                replace p523 := eq_true p523
                replace q523 := eq_true q523
                go_wp2_with (first | (go_at_call 41; (with_reducible refine (h02_Size.calls ((rd_T23 t519 (ji15)).f0) ((rd_T23 t519 (ji15)).f1) ((rd_T23 t519 (ji15)).f2) t524 _ A18.out).mono ?_); rintro e w21 ⟨rfl, hb⟩; have n0_ := Aside0.mk (Kd.R_below (by (with_reducible repeat (first | apply Kd.R_alloc | apply Kd.R_drewN | apply Kd.R_drew)); exact HO521.out) hb); have n1_ := Aside0.mk (blk_below (g := gb518) (o := .cells #[.int .i64 a0_0, .int .i64 a0_1, .int .i64 a0_2, .slice A0_3 l0_3.length c0_3] 26 (0, 0)) (by (with_reducible repeat (first | refine blk_drewN ?_ _ | refine blk_drew ?_ | refine blk_alloc ?_ _)); exact BK518.out) hb); have n2_ := Aside0.mk (below_step (by repeat (first | (with_reducible first | exact HB.out | apply below_alloc | apply pw_below_drewN | apply below_drew1 | refine below_set ?_ GE518.out) | exact HB.out)) hb); clear HO521; clear BK518; clear HB; have HO521 := n0_; have BK518 := n1_; have HB := n2_; clear n0_ n1_ n2_; (try clear hb); (try clear hb2); (try clear hk); (try clear hi)))
                go_meet
                case rel => exact ⟨_, (decide (a2 ≥ t524)), (by first | rfl | (simp; done) | (simp [*]; done)), H', ⟨by first | omega | exact Nat.le_refl _⟩, ⟨by (with_reducible repeat (first | apply Kd.R_alloc | apply Kd.R_drewN | apply Kd.R_drew)); exact HO521.out⟩, ⟨by (with_reducible repeat (first | refine blk_drewN ?_ _ | refine blk_drew ?_ | refine blk_alloc ?_ _)); exact BK518.out⟩, ⟨by repeat (first | (with_reducible first | exact HB.out | apply below_alloc | apply pw_below_drewN | apply below_drew1 | refine below_set ?_ GE518.out) | exact HB.out)⟩⟩
              · rw [if_neg c17] at H
                exact absurd H (by simp)
            · rw [if_neg c16] at H
              exact absurd H (by simp)
    · rw [if_neg c9] at H
      have c9b0 : (t522 == 0) = false := beq_eq_false_iff_ne.mpr c9
      have c9b1 : (t522 != 0) = true := bne_iff_ne.mpr c9
      (first | rw [c9b0] | (simp only [i64_w, i32_w]; rw [c9b0]) | skip)
      have H' := Aside0.mk H
      clear H
      go_wp2
      go_meet
      case rel => exact ⟨_, (true), (by first | rfl | (simp; done) | (simp [*]; done)), H', ⟨by first | omega | exact Nat.le_refl _⟩, ⟨by (with_reducible repeat (first | apply Kd.R_alloc | apply Kd.R_drewN | apply Kd.R_drew)); exact HO521.out⟩, ⟨by (with_reducible repeat (first | refine blk_drewN ?_ _ | refine blk_drew ?_ | refine blk_alloc ?_ _)); exact BK518.out⟩, ⟨by repeat (first | (with_reducible first | exact HB.out | apply below_alloc | apply pw_below_drewN | apply below_drew1 | refine below_set ?_ GE518.out) | exact HB.out)⟩⟩
  case rest =>
    clear HC5
    try clear c1
    try clear c2
    try clear p2
    try clear c4
    try clear p5
    try clear q5
    try clear hx5
    try clear p6
    try clear c9
    try clear c9b0
    try clear c9b1
    try clear c10
    try clear c10b0
    try clear c11
    try clear c11b0
    try clear c13
    try clear c13b0
    try clear c16
    try clear c16b0
    try clear c17
    try clear c17b0
    try clear hcz12_0
    try clear hcz12_1
    try clear hcz12_2
    try clear hcz12_3
    try clear hcz14_0
    try clear hcz14_1
    try clear hcz14_2
    try clear hcz14_3
    try clear hcz19_0
    try clear hcz19_1
    try clear hcz19_2
    try clear hcz19_3
    try clear hcz7_0
    try clear hcz7_1
    try clear hcz7_2
    try clear hcz7_3
    try clear hfz12_0
    try clear hfz12_1
    try clear hfz12_2
    try clear hfz12_3
    try clear hfz14_0
    try clear hfz14_1
    try clear hfz14_2
    try clear hfz14_3
    try clear hfz19_0
    try clear hfz19_1
    try clear hfz19_2
    try clear hfz19_3
    try clear hfz7_0
    try clear hfz7_1
    try clear hfz7_2
    try clear hfz7_3
    try clear hx523_0
    try clear hx523_1
    try clear hx523_2
    try clear p523
    try clear q523
    obtain ⟨kq, x45_4, rfl, HA, HJ4, HO_7, BK518, HB⟩ := hcut
    cases kq with
    | zero => exact absurd HA.out (by simp [symbolonref06_Terms.j0])
    | succ kj4 =>
      have H := HA.out
      clear HA
      simp only [symbolonref06_Terms.j0] at H
      by_cases c22 : x45_4 = true
      · subst c22
        have H1 : (some ([] : List (S58))) = some r := by rw [if_pos rfl] at H; exact H
        clear H
        have H := H1
        clear H1
        obtain rfl := Option.some.inj H
        go_wp2
        go_ret
        exact ⟨_, by first | rfl | (simp [errW_none, errW_some] <;> rfl) | (simp [*, errW_none, errW_some] <;> rfl), by first | exact Kd.R_nil _ _ _ _ _ | exact Kd.N_nil _ _ _ _ _ | exact Kd.V_nil _ _ _ _ _ | exact Kd.Q_nil _ _ _ _ _ | exact Kd.S_nil _ _ _ _ _, by repeat (first | (with_reducible first | exact HB.out | apply below_alloc | apply pw_below_drewN | apply below_drew1 | refine below_set ?_ GE518.out) | exact HB.out)⟩
      · replace c22 := Bool.eq_false_iff.mpr c22
        subst c22
        have H1 : ((h05_Weights.f a0_0 a0_1 a0_2 l0_3 a1).bind fun bt525 => (if 0 ≤ a1 then (if a1 < (l0_3.length : Int) then (if ((rd_T40 l0_3 a1).f0) = 1 then (if a1 < (t519.length : Int) then (if 0 ≤ (wrap64 (a1 + 1)) then (if (wrap64 (a1 + 1)) < (t519.length : Int) then ((symbolonref06_conv.f kj4 ((rd_T23 t519 a1).f0) ((rd_T23 t519 a1).f1) ((rd_T23 t519 a1).f2) ((rd_T23 t519 (wrap64 (a1 + 1))).f0) ((rd_T23 t519 (wrap64 (a1 + 1))).f1) ((rd_T23 t519 (wrap64 (a1 + 1))).f2) ((rd_T40 l0_3 a1).f0) ((rd_T40 l0_3 a1).f1) ((rd_T40 l0_3 a1).f2) ((rd_T40 l0_3 a1).f3) bt525.1 a2).bind fun t531 => (some t531)) else (none)) else (none)) else (none)) else (if ((rd_T40 l0_3 a1).f0) = 2 then (some (([(⟨a2, (-1)⟩ : S58)] : List (S58)))) else (if ((rd_T40 l0_3 a1).f0) = 3 then (some ([] : List (S58))) else (if a1 < (t519.length : Int) then ((h02_Size.f ((rd_T23 t519 a1).f0) ((rd_T23 t519 a1).f1) ((rd_T23 t519 a1).f2)).bind fun t538 => (symbolonref06_Terms.l0 kj4 a2 bt525.1 ([] : List (S58)) t538 0)) else (none))))) else (none)) else (none))) = some r := by rw [if_neg (show ¬ (false = true) by decide)] at H; exact H
        clear H
        have H := H1
        clear H1
        replace H := Option.bind_eq_some_iff.mp H
        obtain ⟨⟨t525, t526⟩, A230, H⟩ := H
        replace H : (if 0 ≤ a1 then (if a1 < (l0_3.length : Int) then (if ((rd_T40 l0_3 a1).f0) = 1 then (if a1 < (t519.length : Int) then (if 0 ≤ (wrap64 (a1 + 1)) then (if (wrap64 (a1 + 1)) < (t519.length : Int) then ((symbolonref06_conv.f kj4 ((rd_T23 t519 a1).f0) ((rd_T23 t519 a1).f1) ((rd_T23 t519 a1).f2) ((rd_T23 t519 (wrap64 (a1 + 1))).f0) ((rd_T23 t519 (wrap64 (a1 + 1))).f1) ((rd_T23 t519 (wrap64 (a1 + 1))).f2) ((rd_T40 l0_3 a1).f0) ((rd_T40 l0_3 a1).f1) ((rd_T40 l0_3 a1).f2) ((rd_T40 l0_3 a1).f3) t525 a2).bind fun t531 => (some t531)) else (none)) else (none)) else (none)) else (if ((rd_T40 l0_3 a1).f0) = 2 then (some (([(⟨a2, (-1)⟩ : S58)] : List (S58)))) else (if ((rd_T40 l0_3 a1).f0) = 3 then (some ([] : List (S58))) else (if a1 < (t519.length : Int) then ((h02_Size.f ((rd_T23 t519 a1).f0) ((rd_T23 t519 a1).f1) ((rd_T23 t519 a1).f2)).bind fun t538 => (symbolonref06_Terms.l0 kj4 a2 t525 ([] : List (S58)) t538 0)) else (none))))) else (none)) else (none)) = some r := H
        have A23 := Aside0.mk A230
        clear A230
        by_cases c24 : 0 ≤ a1
        · rw [if_pos c24] at H
          have c24b0 : decide (0 ≤ a1) = true := decide_eq_true c24
          clear c24
          by_cases c25 : a1 < (l0_3.length : Int)
          · rw [if_pos c25] at H
            have c25b0 : decide (a1 < (l0_3.length : Int)) = true := decide_eq_true c25
            clear c25
            by_cases c26 : ((rd_T40 l0_3 a1).f0) = 1
            · rw [if_pos c26] at H
              have c26b0 : (((rd_T40 l0_3 a1).f0) == 1) = true := beq_iff_eq.mpr c26
              have c26b1 : (((rd_T40 l0_3 a1).f0) != 1) = false := bne_eq_false_iff_eq.mpr c26
              clear c26
              by_cases c27 : a1 < (t519.length : Int)
              · rw [if_pos c27] at H
                have c27b0 : decide (a1 < (t519.length : Int)) = true := decide_eq_true c27
                clear c27
                obtain ⟨ji28, hji28⟩ : ∃ j_ : Int, (wrap64 (a1 + 1)) = j_ := ⟨_, rfl⟩
                replace H : (if 0 ≤ (ji28) then (if (ji28) < (t519.length : Int) then ((symbolonref06_conv.f kj4 ((rd_T23 t519 a1).f0) ((rd_T23 t519 a1).f1) ((rd_T23 t519 a1).f2) ((rd_T23 t519 (ji28)).f0) ((rd_T23 t519 (ji28)).f1) ((rd_T23 t519 (ji28)).f2) ((rd_T40 l0_3 a1).f0) ((rd_T40 l0_3 a1).f1) ((rd_T40 l0_3 a1).f2) ((rd_T40 l0_3 a1).f3) t525 a2).bind fun t531 => (some t531)) else (none)) else (none)) = some r := by first | (rw [hji28] at H; exact H) | (simp only [hji28] at H ⊢; exact H)
                (try rw [hji28] at A23)
                have hji28w : (IntKind.i64.wrap (a1 + 1)) = ji28 := (i64_w _).trans hji28
                by_cases c29 : 0 ≤ (ji28)
                · rw [if_pos c29] at H
                  have c29b0 : decide (0 ≤ (ji28)) = true := decide_eq_true c29
                  clear c29
                  by_cases c30 : (ji28) < (t519.length : Int)
                  · rw [if_pos c30] at H
                    have c30b0 : decide ((ji28) < (t519.length : Int)) = true := decide_eq_true c30
                    clear c30
                    replace H := Option.bind_eq_some_iff.mp H
                    obtain ⟨t531, A310, H⟩ := H
                    replace H : (some t531) = some r := H
                    have A31 := Aside0.mk A310
                    clear A310
                    obtain rfl := Option.some.inj H
                    have hcz32_0 : wc.cell? ⟨gb518, 0, none⟩ = some (.int .i64 a0_0) := (blk_cell BK518.out 0).trans rfl
                    have hcz32_1 : wc.cell? ⟨gb518, 1, none⟩ = some (.int .i64 a0_1) := (blk_cell BK518.out 1).trans rfl
                    have hcz32_2 : wc.cell? ⟨gb518, 2, none⟩ = some (.int .i64 a0_2) := (blk_cell BK518.out 2).trans rfl
                    have hcz32_3 : wc.cell? ⟨gb518, 3, none⟩ = some (.slice A0_3 l0_3.length c0_3) := (blk_cell BK518.out 3).trans rfl
                    have hfz32_0 := blk_frozen BK518.out 0
                    have hfz32_1 := blk_frozen BK518.out 1
                    have hfz32_2 := blk_frozen BK518.out 2
                    have hfz32_3 := blk_frozen BK518.out 3
                    try go_wp2_with (first | ((with_reducible refine gate_callee (f := 30) rfl ?_); refine goesL_ (some 49) rfl rfl Try.func30 (by kernel_rfl) rfl #[.agg #[.int .i64 a0_0, .int .i64 a0_1, .int .i64 a0_2, .slice A0_3 l0_3.length c0_3], .int .i64 a1] rfl (by (try simp only [List.map_toArray, List.map_cons, List.map_nil]); first | done | rfl | (simp only [List.length_drop, List.length_take]; rfl)) ?_; (with_reducible refine (h05_Weights.calls a0_0 a0_1 a0_2 _ _ l0_3 a1 t525 t526 _ ?side1 ?side2 A23.out).mono ?_); (case side1 => repeat (first | exact (Kd.C_below HR0_3.out HB.out) | (with_reducible refine Kd.C_alloc ?_ _) | (with_reducible refine Kd.C_drewN ?_ _) | (with_reducible refine Kd.C_drew ?_))); (case side2 => exact HC0_3.out); rintro e w33 ⟨rfl, hb⟩; refine ⟨_, rfl, ?_⟩; have n0_ := Aside0.mk (Kd.R_below (by (with_reducible repeat (first | apply Kd.R_alloc | apply Kd.R_drewN | apply Kd.R_drew)); exact HO_7.out) hb); have n1_ := Aside0.mk (blk_below (g := gb518) (o := .cells #[.int .i64 a0_0, .int .i64 a0_1, .int .i64 a0_2, .slice A0_3 l0_3.length c0_3] 26 (0, 0)) (by (with_reducible repeat (first | refine blk_drewN ?_ _ | refine blk_drew ?_ | refine blk_alloc ?_ _)); exact BK518.out) hb); have n2_ := Aside0.mk (below_step (by repeat (first | (with_reducible first | exact HB.out | apply below_alloc | apply pw_below_drewN | apply below_drew1 | refine below_set ?_ GE518.out) | exact HB.out)) hb); clear HO_7; clear BK518; clear HB; have HO_7 := n0_; have BK518 := n1_; have HB := n2_; clear n0_ n1_ n2_; (try clear hb); (try clear hb2); (try clear hk); (try clear hi); have hcz34_0 : w33.cell? ⟨gb518, 0, none⟩ = some (.int .i64 a0_0) := (blk_cell BK518.out 0).trans rfl; have hcz34_1 : w33.cell? ⟨gb518, 1, none⟩ = some (.int .i64 a0_1) := (blk_cell BK518.out 1).trans rfl; have hcz34_2 : w33.cell? ⟨gb518, 2, none⟩ = some (.int .i64 a0_2) := (blk_cell BK518.out 2).trans rfl; have hcz34_3 : w33.cell? ⟨gb518, 3, none⟩ = some (.slice A0_3 l0_3.length c0_3) := (blk_cell BK518.out 3).trans rfl; have hfz34_0 := blk_frozen BK518.out 0; have hfz34_1 := blk_frozen BK518.out 1; have hfz34_2 := blk_frozen BK518.out 2; have hfz34_3 := blk_frozen BK518.out 3; have p527 : 0 ≤ (a1 : Int) := of_decide_eq_true (by first | (with_reducible assumption) | assumption); have q527 : a1 < (l0_3.length : Int) := of_decide_eq_true (by first | (with_reducible assumption) | assumption); obtain ⟨ad527, e527, hx527_0, hx527_1, hx527_2, hx527_3⟩ := at_T40 HR0_3.out a1 p527 q527; cases e527; replace hx527_0 := (HB.out.cell (World.block_lt_of_cell? w _ hx527_0)).trans hx527_0; replace hx527_1 := (HB.out.cell (World.block_lt_of_cell? w _ hx527_1)).trans hx527_1; replace hx527_2 := (HB.out.cell (World.block_lt_of_cell? w _ hx527_2)).trans hx527_2; replace hx527_3 := (HB.out.cell (World.block_lt_of_cell? w _ hx527_3)).trans hx527_3; replace p527 := eq_true p527; replace q527 := eq_true q527))
                    have n0_ := Aside0.mk (Kd.R_drew HO_7.out)
                    have n1_ := Aside0.mk (blk_drew BK518.out)
                    have n2_ := Aside0.mk (below_drew1 HB.out)
                    clear HO_7
                    clear BK518
                    clear HB
                    have HO_7 := n0_
                    have BK518 := n1_
                    have HB := n2_
                    clear n0_ n1_ n2_
                    obtain ⟨Ao36, co36, eo36⟩ := Kd.R_slice HO_7.out
                    (first | subst eo36 | (injection eo36 with f1_ f2_ f3_; have f4_ := f1_.symm; have f5_ := f3_.symm; clear f1_ f2_ f3_; subst f4_; subst f5_))
                    have p528 : 0 ≤ (a1 : Int) := of_decide_eq_true (by first | (with_reducible assumption) | assumption)
                    have q528 : a1 < (t519.length : Int) := of_decide_eq_true (by first | (with_reducible assumption) | assumption)
                    obtain ⟨ad528, e528, hx528_0, hx528_1, hx528_2⟩ := at_T23 (Kd.R_reads' HO_7.out).2.2 a1 p528 q528
                    cases e528
                    replace p528 := eq_true p528
                    replace q528 := eq_true q528
                    have p529 : 0 ≤ ((ji28) : Int) := of_decide_eq_true (by first | (with_reducible assumption) | assumption)
                    have q529 : (ji28) < (t519.length : Int) := of_decide_eq_true (by first | (with_reducible assumption) | assumption)
                    obtain ⟨ad529, e529, hx529_0, hx529_1, hx529_2⟩ := at_T23 (Kd.R_reads' HO_7.out).2.2 (ji28) p529 q529
                    obtain rfl : ad528 = ad529 := (by injection e529)
                    replace p529 := eq_true p529
                    replace q529 := eq_true q529
                    have p530 : 0 ≤ (a1 : Int) := of_decide_eq_true (by first | (with_reducible assumption) | assumption)
                    have q530 : a1 < (l0_3.length : Int) := of_decide_eq_true (by first | (with_reducible assumption) | assumption)
                    obtain ⟨ad530, e530, hx530_0, hx530_1, hx530_2, hx530_3⟩ := at_T40 HR0_3.out a1 p530 q530
                    have hw530_3 := hx530_3
                    have hw530_2 := hx530_2
                    have hw530_1 := hx530_1
                    have hw530_0 := hx530_0
                    obtain rfl : ad527 = ad530 := (by injection e530)
                    replace hx530_0 := (HB.out.cell (World.block_lt_of_cell? w _ hx530_0)).trans hx530_0
                    replace hx530_1 := (HB.out.cell (World.block_lt_of_cell? w _ hx530_1)).trans hx530_1
                    replace hx530_2 := (HB.out.cell (World.block_lt_of_cell? w _ hx530_2)).trans hx530_2
                    replace hx530_3 := (HB.out.cell (World.block_lt_of_cell? w _ hx530_3)).trans hx530_3
                    replace p530 := eq_true p530
                    replace q530 := eq_true q530
                    refine start_ (n := 18) (S := fun w' => w'.cell? ⟨gb518, 0, none⟩ = some (.int .i64 a0_0) ∧ w'.cell? ⟨gb518, 1, none⟩ = some (.int .i64 a0_1) ∧ w'.cell? ⟨gb518, 2, none⟩ = some (.int .i64 a0_2) ∧ w'.cell? ⟨gb518, 3, none⟩ = some (.slice (some ad527) l0_3.length c0_3) ∧ w'.cell? (ad528.add ((a1).toNat * 3)) = some (.int .i64 ((rd_T23 t519 a1).f0)) ∧ w'.cell? ⟨(ad528.add ((a1).toNat * 3)).block, (ad528.add ((a1).toNat * 3)).off + 1, none⟩ = some (.int .i64 ((rd_T23 t519 a1).f1)) ∧ w'.cell? ⟨(ad528.add ((a1).toNat * 3)).block, (ad528.add ((a1).toNat * 3)).off + 2, none⟩ = some (.int .i64 ((rd_T23 t519 a1).f2)) ∧ w'.cell? (ad528.add (((ji28)).toNat * 3)) = some (.int .i64 ((rd_T23 t519 (ji28)).f0)) ∧ w'.cell? ⟨(ad528.add (((ji28)).toNat * 3)).block, (ad528.add (((ji28)).toNat * 3)).off + 1, none⟩ = some (.int .i64 ((rd_T23 t519 (ji28)).f1)) ∧ w'.cell? ⟨(ad528.add (((ji28)).toNat * 3)).block, (ad528.add (((ji28)).toNat * 3)).off + 2, none⟩ = some (.int .i64 ((rd_T23 t519 (ji28)).f2)) ∧ w'.cell? (ad527.add ((a1).toNat * 4)) = some (.int .i64 ((rd_T40 l0_3 a1).f0)) ∧ w'.cell? ⟨(ad527.add ((a1).toNat * 4)).block, (ad527.add ((a1).toNat * 4)).off + 1, none⟩ = some (.int .i64 ((rd_T40 l0_3 a1).f1)) ∧ w'.cell? ⟨(ad527.add ((a1).toNat * 4)).block, (ad527.add ((a1).toNat * 4)).off + 2, none⟩ = some (.int .i64 ((rd_T40 l0_3 a1).f2)) ∧ w'.cell? ⟨(ad527.add ((a1).toNat * 4)).block, (ad527.add ((a1).toNat * 4)).off + 3, none⟩ = some (.int .i64 ((rd_T40 l0_3 a1).f3))) (ds := []) #[false, false, false, false, false, false, false, false, false, false, false, false, false, false, false, false, false, false] (by kernel_rfl) rfl rfl ⟨(blk_cell BK518.out 0).trans rfl, (blk_cell BK518.out 1).trans rfl, (blk_cell BK518.out 2).trans rfl, (blk_cell BK518.out 3).trans rfl, hx528_0, hx528_1, hx528_2, hx529_0, hx529_1, hx529_2, ((HB.out.cell (World.block_lt_of_cell? w _ hw530_0)).trans hw530_0), ((HB.out.cell (World.block_lt_of_cell? w _ hw530_1)).trans hw530_1), ((HB.out.cell (World.block_lt_of_cell? w _ hw530_2)).trans hw530_2), ((HB.out.cell (World.block_lt_of_cell? w _ hw530_3)).trans hw530_3)⟩ (fun hHeld => ?_); refine with_tabW symbolonref06_Terms.tab7 symbolonref06_Terms.bits7 (fun HT_ HW_ => ?_)
                    generalize w33.drew = w35 at HO_7 BK518 HB hx528_0 hx528_1 hx528_2 hx529_0 hx529_1 hx529_2 hx530_0 hx530_1 hx530_2 hx530_3 hHeld ⊢
                    refine pure_ (i := 0) (N := some 60) (v := ?_) (a' := ?_) #[true, false, false, false, false, false, false, false, false, false, false, false, false, false, false, false, false, false] rfl rfl (any_of HT_.out (by kernel_rfl)) (fun _ _ _ h => h) (Or.inl ⟨by rfl, ?_⟩) ?_ ?_; rotate_left
                    · intro w'; go_simp; with_reducible rfl
                    rotate_left; · simp only [Act.put, List.setIfInBounds_toArray, List.set_cons_zero, List.set_cons_succ, i64_w, i32_w]; rfl
                    refine pure_ (i := 1) (N := some 61) (v := ?_) (a' := ?_) #[true, true, false, false, false, false, false, false, false, false, false, false, false, false, false, false, false, false] rfl rfl (any_of HT_.out (by kernel_rfl)) (fun _ _ _ h => h) (Or.inl ⟨by rfl, ?_⟩) ?_ ?_; rotate_left
                    · intro w'; go_simp; with_reducible rfl
                    rotate_left; · simp only [Act.put, List.setIfInBounds_toArray, List.set_cons_zero, List.set_cons_succ, i64_w, i32_w]; rfl
                    refine pure_ (i := 2) (N := some 62) (v := ?_) (a' := ?_) #[true, true, true, false, false, false, false, false, false, false, false, false, false, false, false, false, false, false] rfl rfl (any_of HT_.out (by kernel_rfl)) (fun _ _ _ h => h) (Or.inl ⟨by rfl, ?_⟩) ?_ ?_; rotate_left
                    · intro w'; go_simp; with_reducible rfl
                    rotate_left; · simp only [Act.put, List.setIfInBounds_toArray, List.set_cons_zero, List.set_cons_succ, i64_w, i32_w]; rfl
                    refine pure_ (i := 4) (N := some 64) (v := ?_) (a' := ?_) #[true, true, true, false, true, false, false, false, false, false, false, false, false, false, false, false, false, false] rfl rfl (any_of HT_.out (by kernel_rfl)) (fun _ _ _ h => h) (Or.inl ⟨by rfl, ?_⟩) ?_ ?_; rotate_left
                    · intro w'; go_simp; with_reducible rfl
                    rotate_left; · simp only [Act.put, List.setIfInBounds_toArray, List.set_cons_zero, List.set_cons_succ, i64_w, i32_w]; rfl
                    refine pure_ (i := 5) (N := some 65) (v := ?_) (a' := ?_) #[true, true, true, false, true, true, false, false, false, false, false, false, false, false, false, false, false, false] rfl rfl (any_of HT_.out (by kernel_rfl)) (fun _ _ _ h => h) (Or.inl ⟨by rfl, ?_⟩) ?_ ?_; rotate_left
                    · intro w'; go_simp; with_reducible rfl
                    rotate_left; · simp only [Act.put, List.setIfInBounds_toArray, List.set_cons_zero, List.set_cons_succ, i64_w, i32_w]; rfl
                    refine pure_ (i := 6) (N := some 66) (v := ?_) (a' := ?_) #[true, true, true, false, true, true, true, false, false, false, false, false, false, false, false, false, false, false] rfl rfl (any_of HT_.out (by kernel_rfl)) (fun _ _ _ h => h) (Or.inl ⟨by rfl, ?_⟩) ?_ ?_; rotate_left
                    · intro w'; go_simp; with_reducible rfl
                    rotate_left; · simp only [Act.put, List.setIfInBounds_toArray, List.set_cons_zero, List.set_cons_succ, i64_w, i32_w]; rfl
                    refine pure_ (i := 7) (N := some 67) (v := ?_) (a' := ?_) #[true, true, true, false, true, true, true, true, false, false, false, false, false, false, false, false, false, false] rfl rfl (any_of HT_.out (by kernel_rfl)) (fun _ _ _ h => h) (Or.inl ⟨by rfl, ?_⟩) ?_ ?_; rotate_left
                    · intro w'; go_simp; with_reducible rfl
                    rotate_left; · simp only [Act.put, List.setIfInBounds_toArray, List.set_cons_zero, List.set_cons_succ, i64_w, i32_w]; rfl
                    refine pure_ (i := 9) (N := some 69) (v := ?_) (a' := ?_) #[true, true, true, false, true, true, true, true, false, true, false, false, false, false, false, false, false, false] rfl rfl (any_of HT_.out (by kernel_rfl)) (fun _ _ _ h => h) (Or.inl ⟨by rfl, ?_⟩) ?_ ?_; rotate_left
                    · intro w'; go_simp; with_reducible rfl
                    rotate_left; · simp only [Act.put, List.setIfInBounds_toArray, List.set_cons_zero, List.set_cons_succ, i64_w, i32_w]; rfl
                    refine pure_ (i := 11) (N := some 71) (v := ?_) (a' := ?_) #[true, true, true, false, true, true, true, true, false, true, false, true, false, false, false, false, false, false] rfl rfl (any_of HT_.out (by kernel_rfl)) (fun _ _ _ h => h) (Or.inl ⟨by rfl, ?_⟩) ?_ ?_; rotate_left
                    · intro w'; go_simp; with_reducible rfl
                    rotate_left; · simp only [Act.put, List.setIfInBounds_toArray, List.set_cons_zero, List.set_cons_succ, i64_w, i32_w]; rfl
                    refine pure_ (i := 14) (N := some 74) (v := ?_) (a' := ?_) #[true, true, true, false, true, true, true, true, false, true, false, true, false, false, true, false, false, false] rfl rfl (any_of HT_.out (by kernel_rfl)) (fun _ _ _ h => h) (Or.inl ⟨by rfl, ?_⟩) ?_ ?_; rotate_left
                    · intro w'; go_simp; with_reducible rfl
                    rotate_left; · simp only [Act.put, List.setIfInBounds_toArray, List.set_cons_zero, List.set_cons_succ, i64_w, i32_w]; rfl
                    refine pure_ (i := 15) (N := some 75) (v := ?_) (a' := ?_) #[true, true, true, false, true, true, true, true, false, true, false, true, false, false, true, true, false, false] rfl rfl (any_of HT_.out (by kernel_rfl)) (fun _ _ _ h => h) (Or.inl ⟨by rfl, ?_⟩) ?_ ?_; rotate_left
                    · intro w'; go_simp; with_reducible rfl
                    rotate_left; · simp only [Act.put, List.setIfInBounds_toArray, List.set_cons_zero, List.set_cons_succ, i64_w, i32_w]; rfl
                    refine take_ (i := 3) (N := some 63) (v := ?_) (a' := ?_) #[true, true, true, true, true, true, true, true, false, true, false, true, false, false, true, true, false, false] rfl rfl (take_ofW HT_.out HW_.out (by kernel_rfl)) (fun _ _ _ h => h) (Or.inl ⟨by rfl, ?_⟩) hHeld ?_ ?_; rotate_left
                    · rintro w' ⟨s0, s1, s2, s3, s4, s5, s6, s7, s8, s9, s10, s11, s12, s13⟩
                      go_simp
                      with_reducible rfl
                    rotate_left
                    · simp only [Act.put, List.setIfInBounds_toArray, List.set_cons_zero, List.set_cons_succ, i64_w, i32_w]; rfl
                    refine take_ (i := 8) (N := some 68) (v := ?_) (a' := ?_) #[true, true, true, true, true, true, true, true, true, true, false, true, false, false, true, true, false, false] rfl rfl (take_ofW HT_.out HW_.out (by kernel_rfl)) (fun _ _ _ h => h) (Or.inl ⟨by rfl, ?_⟩) hHeld ?_ ?_; rotate_left
                    · rintro w' ⟨s0, s1, s2, s3, s4, s5, s6, s7, s8, s9, s10, s11, s12, s13⟩
                      go_simp
                      with_reducible rfl
                    rotate_left
                    · simp only [Act.put, List.setIfInBounds_toArray, List.set_cons_zero, List.set_cons_succ, i64_w, i32_w]; rfl
                    refine take_ (i := 10) (N := some 70) (v := ?_) (a' := ?_) #[true, true, true, true, true, true, true, true, true, true, true, true, false, false, true, true, false, false] rfl rfl (take_ofW HT_.out HW_.out (by kernel_rfl)) (fun _ _ _ h => h) (Or.inl ⟨by rfl, ?_⟩) hHeld ?_ ?_; rotate_left
                    · rintro w' ⟨s0, s1, s2, s3, s4, s5, s6, s7, s8, s9, s10, s11, s12, s13⟩
                      go_simp
                      with_reducible rfl
                    rotate_left
                    · simp only [Act.put, List.setIfInBounds_toArray, List.set_cons_zero, List.set_cons_succ, i64_w, i32_w]; rfl
                    refine pure_ (i := 12) (N := some 72) (v := ?_) (a' := ?_) #[true, true, true, true, true, true, true, true, true, true, true, true, true, false, true, true, false, false] rfl rfl (any_of HT_.out (by kernel_rfl)) (fun _ _ _ h => h) (Or.inl ⟨by rfl, ?_⟩) ?_ ?_; rotate_left
                    · intro w'; go_simp; with_reducible rfl
                    rotate_left; · simp only [Act.put, List.setIfInBounds_toArray, List.set_cons_zero, List.set_cons_succ, i64_w, i32_w]; rfl
                    refine take_ (i := 13) (N := some 73) (v := ?_) (a' := ?_) #[true, true, true, true, true, true, true, true, true, true, true, true, true, true, true, true, false, false] rfl rfl (take_ofW HT_.out HW_.out (by kernel_rfl)) (fun _ _ _ h => h) (Or.inl ⟨by rfl, ?_⟩) hHeld ?_ ?_; rotate_left
                    · rintro w' ⟨s0, s1, s2, s3, s4, s5, s6, s7, s8, s9, s10, s11, s12, s13⟩
                      go_simp
                      with_reducible rfl
                    rotate_left
                    · simp only [Act.put, List.setIfInBounds_toArray, List.set_cons_zero, List.set_cons_succ, i64_w, i32_w]; rfl
                    refine one_ (i := 16) (N := some 76) #[true, true, true, true, true, true, true, true, true, true, true, true, true, true, true, true, true, false] rfl rfl (one_of HT_.out (by kernel_rfl)) (by decide) (fun K hK => ?_)
                    refine goes_ Try.func86 (by kernel_rfl) rfl #[.agg #[.int .i64 ((rd_T23 t519 a1).f0), .int .i64 ((rd_T23 t519 a1).f1), .int .i64 ((rd_T23 t519 a1).f2)], .agg #[.int .i64 ((rd_T23 t519 (ji28)).f0), .int .i64 ((rd_T23 t519 (ji28)).f1), .int .i64 ((rd_T23 t519 (ji28)).f2)], .agg #[.int .i64 ((rd_T40 l0_3 a1).f0), .int .i64 ((rd_T40 l0_3 a1).f1), .int .i64 ((rd_T40 l0_3 a1).f2), .int .i64 ((rd_T40 l0_3 a1).f3)], .int .i64 t525, .int .i64 a2] (by rfl) rfl rfl (by (try simp only [List.map_toArray, List.map_cons, List.map_nil]); first | done | (simp only [hji28]; rfl) | rfl | (simp only [List.length_drop, List.length_take]; rfl)) ?_
                    with_reducible refine (symbolonref06_conv.calls kj4 ((rd_T23 t519 a1).f0) ((rd_T23 t519 a1).f1) ((rd_T23 t519 a1).f2) ((rd_T23 t519 (ji28)).f0) ((rd_T23 t519 (ji28)).f1) ((rd_T23 t519 (ji28)).f2) ((rd_T40 l0_3 a1).f0) ((rd_T40 l0_3 a1).f1) ((rd_T40 l0_3 a1).f2) ((rd_T40 l0_3 a1).f3) t525 a2 t531 _ A31.out).mono ?_
                    rintro e w37 ⟨v532, rfl, ho0, hb⟩
                    have HS4_ := (hb.cell (World.block_lt_of_cell? _ _ (hHeld.2.2.2.2.1))).trans (hHeld.2.2.2.2.1)
                    have HS5_ := (hb.cell (World.block_lt_of_cell? _ _ (hHeld.2.2.2.2.2.1))).trans (hHeld.2.2.2.2.2.1)
                    have HS6_ := (hb.cell (World.block_lt_of_cell? _ _ (hHeld.2.2.2.2.2.2.1))).trans (hHeld.2.2.2.2.2.2.1)
                    have HS7_ := (hb.cell (World.block_lt_of_cell? _ _ (hHeld.2.2.2.2.2.2.2.1))).trans (hHeld.2.2.2.2.2.2.2.1)
                    have HS8_ := (hb.cell (World.block_lt_of_cell? _ _ (hHeld.2.2.2.2.2.2.2.2.1))).trans (hHeld.2.2.2.2.2.2.2.2.1)
                    have HS9_ := (hb.cell (World.block_lt_of_cell? _ _ (hHeld.2.2.2.2.2.2.2.2.2.1))).trans (hHeld.2.2.2.2.2.2.2.2.2.1)
                    refine ⟨_, rfl, ?_⟩
                    have n0_ := Aside0.mk (Kd.R_below (by (with_reducible repeat (first | apply Kd.R_alloc | apply Kd.R_drewN | apply Kd.R_drew)); exact HO_7.out) hb)
                    have n1_ := Aside0.mk (Kd.R_lower ho0 (below_size (by repeat (first | (with_reducible first | exact HB.out | apply below_alloc | apply pw_below_drewN | apply below_drew1 | refine below_set ?_ GE518.out) | exact HB.out))))
                    have n2_ := Aside0.mk (blk_below (g := gb518) (o := .cells #[.int .i64 a0_0, .int .i64 a0_1, .int .i64 a0_2, .slice (some ad527) l0_3.length c0_3] 26 (0, 0)) (by (with_reducible repeat (first | refine blk_drewN ?_ _ | refine blk_drew ?_ | refine blk_alloc ?_ _)); exact BK518.out) hb)
                    have n3_ := Aside0.mk (below_step (by repeat (first | (with_reducible first | exact HB.out | apply below_alloc | apply pw_below_drewN | apply below_drew1 | refine below_set ?_ GE518.out) | exact HB.out)) hb)
                    clear HO_7
                    clear BK518
                    clear HB
                    have HO_7 := n0_
                    have HO533 := n1_
                    have BK518 := n2_
                    have HB := n3_
                    clear n0_ n1_ n2_ n3_
                    (try clear hb)
                    (try clear hb2)
                    (try clear hk)
                    (try clear hi)
                    (try clear ho0)
                    refine hK.out _ _ ⟨(blk_cell BK518.out 0).trans rfl, (blk_cell BK518.out 1).trans rfl, (blk_cell BK518.out 2).trans rfl, (blk_cell BK518.out 3).trans rfl, HS4_, HS5_, HS6_, HS7_, HS8_, HS9_, ((HB.out.cell (World.block_lt_of_cell? w _ hw530_0)).trans hw530_0), ((HB.out.cell (World.block_lt_of_cell? w _ hw530_1)).trans hw530_1), ((HB.out.cell (World.block_lt_of_cell? w _ hw530_2)).trans hw530_2), ((HB.out.cell (World.block_lt_of_cell? w _ hw530_3)).trans hw530_3)⟩ (fun hHeld => ?_)
                    clear hK K
                    refine norm_ (a' := ?_) ?_ ?_; rotate_left
                    · show Act.put _ (some 76) _ = _
                      simp only [Act.put, List.setIfInBounds_toArray, List.set_cons_zero, List.set_cons_succ, i64_w, i32_w]
                      rfl
                    refine pure_ (i := 17) (N := some 6) (v := ?_) (a' := ?_) #[true, true, true, true, true, true, true, true, true, true, true, true, true, true, true, true, true, true] rfl rfl (any_of HT_.out (by kernel_rfl)) (fun _ _ _ h => h) (Or.inl ⟨by rfl, ?_⟩) ?_ ?_; rotate_left
                    · intro w'; go_simp; with_reducible rfl
                    rotate_left; · simp only [Act.put, List.setIfInBounds_toArray, List.set_cons_zero, List.set_cons_succ, i64_w, i32_w]; rfl
                    refine done_ (done_of HT_.out (by kernel_rfl)) ?_
                    try go_wp2
                    go_ret
                    exact ⟨_, by first | rfl | (simp [errW_none, errW_some] <;> rfl) | (simp only [← hji28]; first | rfl | (simp [errW_none, errW_some] <;> rfl)) | (simp [*, errW_none, errW_some] <;> rfl), by (with_reducible repeat (first | apply Kd.R_alloc | apply Kd.R_drewN | apply Kd.R_drew)); exact HO533.out, by repeat (first | (with_reducible first | exact HB.out | apply below_alloc | apply pw_below_drewN | apply below_drew1 | refine below_set ?_ GE518.out) | exact HB.out)⟩
                  · rw [if_neg c30] at H
                    exact absurd H (by simp)
                · rw [if_neg c29] at H
                  exact absurd H (by simp)
              · rw [if_neg c27] at H
                exact absurd H (by simp)
            · rw [if_neg c26] at H
              have c26b0 : (((rd_T40 l0_3 a1).f0) == 1) = false := beq_eq_false_iff_ne.mpr c26
              have c26b1 : (((rd_T40 l0_3 a1).f0) != 1) = true := bne_iff_ne.mpr c26
              by_cases c38 : ((rd_T40 l0_3 a1).f0) = 2
              · rw [if_pos c38] at H
                have c38b0 : (((rd_T40 l0_3 a1).f0) == 2) = true := beq_iff_eq.mpr c38
                have c38b1 : (((rd_T40 l0_3 a1).f0) != 2) = false := bne_eq_false_iff_eq.mpr c38
                clear c38
                obtain ⟨y534, hy534⟩ : ∃ y_ : List (S58), y_ = (([(⟨a2, (-1)⟩ : S58)] : List (S58))) := ⟨_, rfl⟩
                replace H : (some y534) = some r := by first | (rw [hy534]; with_reducible exact H) | (have H2_ := (Option.bind_some _ _).symm.trans H; rw [hy534]; with_reducible exact H2_) | (have H2_ := (Option.bind_some _ _).symm.trans H; with_reducible exact H2_) | with_reducible exact H | (rw [hy534]; exact H) | exact H
                have Ny534 := Aside0.mk hy534
                clear hy534
                obtain rfl := Option.some.inj H
                have hcz39_0 : wc.cell? ⟨gb518, 0, none⟩ = some (.int .i64 a0_0) := (blk_cell BK518.out 0).trans rfl
                have hcz39_1 : wc.cell? ⟨gb518, 1, none⟩ = some (.int .i64 a0_1) := (blk_cell BK518.out 1).trans rfl
                have hcz39_2 : wc.cell? ⟨gb518, 2, none⟩ = some (.int .i64 a0_2) := (blk_cell BK518.out 2).trans rfl
                have hcz39_3 : wc.cell? ⟨gb518, 3, none⟩ = some (.slice A0_3 l0_3.length c0_3) := (blk_cell BK518.out 3).trans rfl
                have hfz39_0 := blk_frozen BK518.out 0
                have hfz39_1 := blk_frozen BK518.out 1
                have hfz39_2 := blk_frozen BK518.out 2
                have hfz39_3 := blk_frozen BK518.out 3
                go_wp2_with (first | ((with_reducible refine gate_callee (f := 30) rfl ?_); refine goesL_ (some 49) rfl rfl Try.func30 (by kernel_rfl) rfl #[.agg #[.int .i64 a0_0, .int .i64 a0_1, .int .i64 a0_2, .slice A0_3 l0_3.length c0_3], .int .i64 a1] rfl (by (try simp only [List.map_toArray, List.map_cons, List.map_nil]); first | done | rfl | (simp only [List.length_drop, List.length_take]; rfl)) ?_; (with_reducible refine (h05_Weights.calls a0_0 a0_1 a0_2 _ _ l0_3 a1 t525 t526 _ ?side1 ?side2 A23.out).mono ?_); (case side1 => repeat (first | exact (Kd.C_below HR0_3.out HB.out) | (with_reducible refine Kd.C_alloc ?_ _) | (with_reducible refine Kd.C_drewN ?_ _) | (with_reducible refine Kd.C_drew ?_))); (case side2 => exact HC0_3.out); rintro e w40 ⟨rfl, hb⟩; refine ⟨_, rfl, ?_⟩; have n0_ := Aside0.mk (Kd.R_below (by (with_reducible repeat (first | apply Kd.R_alloc | apply Kd.R_drewN | apply Kd.R_drew)); exact HO_7.out) hb); have n1_ := Aside0.mk (blk_below (g := gb518) (o := .cells #[.int .i64 a0_0, .int .i64 a0_1, .int .i64 a0_2, .slice A0_3 l0_3.length c0_3] 26 (0, 0)) (by (with_reducible repeat (first | refine blk_drewN ?_ _ | refine blk_drew ?_ | refine blk_alloc ?_ _)); exact BK518.out) hb); have n2_ := Aside0.mk (below_step (by repeat (first | (with_reducible first | exact HB.out | apply below_alloc | apply pw_below_drewN | apply below_drew1 | refine below_set ?_ GE518.out) | exact HB.out)) hb); clear HO_7; clear BK518; clear HB; have HO_7 := n0_; have BK518 := n1_; have HB := n2_; clear n0_ n1_ n2_; (try clear hb); (try clear hb2); (try clear hk); (try clear hi); have hcz41_0 : w40.cell? ⟨gb518, 0, none⟩ = some (.int .i64 a0_0) := (blk_cell BK518.out 0).trans rfl; have hcz41_1 : w40.cell? ⟨gb518, 1, none⟩ = some (.int .i64 a0_1) := (blk_cell BK518.out 1).trans rfl; have hcz41_2 : w40.cell? ⟨gb518, 2, none⟩ = some (.int .i64 a0_2) := (blk_cell BK518.out 2).trans rfl; have hcz41_3 : w40.cell? ⟨gb518, 3, none⟩ = some (.slice A0_3 l0_3.length c0_3) := (blk_cell BK518.out 3).trans rfl; have hfz41_0 := blk_frozen BK518.out 0; have hfz41_1 := blk_frozen BK518.out 1; have hfz41_2 := blk_frozen BK518.out 2; have hfz41_3 := blk_frozen BK518.out 3; have p527 : 0 ≤ (a1 : Int) := of_decide_eq_true (by first | (with_reducible assumption) | assumption); have q527 : a1 < (l0_3.length : Int) := of_decide_eq_true (by first | (with_reducible assumption) | assumption); obtain ⟨ad527, e527, hx527_0, hx527_1, hx527_2, hx527_3⟩ := at_T40 HR0_3.out a1 p527 q527; cases e527; replace hx527_0 := (HB.out.cell (World.block_lt_of_cell? w _ hx527_0)).trans hx527_0; replace hx527_1 := (HB.out.cell (World.block_lt_of_cell? w _ hx527_1)).trans hx527_1; replace hx527_2 := (HB.out.cell (World.block_lt_of_cell? w _ hx527_2)).trans hx527_2; replace hx527_3 := (HB.out.cell (World.block_lt_of_cell? w _ hx527_3)).trans hx527_3; replace p527 := eq_true p527; replace q527 := eq_true q527) | ((with_reducible refine gate_dst (N := 81) rfl ?_); (try (refine gate_guard (by rfl) ?_; dsimp only)); refine Kd.R_lit k58 _ 58 ?hg (N := 81) ?hd (xs := ([(⟨a2, (-1)⟩ : S58)] : List (S58))) (inner := [.int .i64 a2, .int .i64 (-1)]) (ok := fun _ => True) (okp := fun _ => True) ?hr ?hp (fun _ hk => hk) trivial (Below.refl _ _) (Nat.le_refl _) (by simp) ?_; (case hd => rfl); (case hg => rfl); (case hr => first | (go_simp; done) | (go_simp; rfl)); (case hp => exact (Reps.c2 (show Kd.M k58 _ _ _ (⟨a2, (-1)⟩ : S58) [.int .i64 a2, .int .i64 (-1)] from (k58_mkM _ _ _ (⟨a2, (-1)⟩ : S58) )) (Reps.none _ _))); intro v535 w42 ho43 hb hg_ hnew_; clear hg_ hnew_; (first | rw [← Ny534.out] at ho43 | (simp only [Int.reduceToNat] at ho43; rw [← Ny534.out] at ho43)); have n0_ := Aside0.mk (Kd.R_below (by (with_reducible repeat (first | apply Kd.R_alloc | apply Kd.R_drewN | apply Kd.R_drew)); exact HO_7.out) hb); have n1_ := Aside0.mk (Kd.R_lower ho43 (below_size (by repeat (first | (with_reducible first | exact HB.out | apply below_alloc | apply pw_below_drewN | apply below_drew1 | refine below_set ?_ GE518.out) | exact HB.out)))); have n2_ := Aside0.mk (blk_below (g := gb518) (o := .cells #[.int .i64 a0_0, .int .i64 a0_1, .int .i64 a0_2, .slice (some ad527) l0_3.length c0_3] 26 (0, 0)) (by (with_reducible repeat (first | refine blk_drewN ?_ _ | refine blk_drew ?_ | refine blk_alloc ?_ _)); exact BK518.out) hb); have n3_ := Aside0.mk (below_step (by repeat (first | (with_reducible first | exact HB.out | apply below_alloc | apply pw_below_drewN | apply below_drew1 | refine below_set ?_ GE518.out) | exact HB.out)) hb); clear HO_7; clear BK518; clear HB; have HO_7 := n0_; have HO536 := n1_; have BK518 := n2_; have HB := n3_; clear n0_ n1_ n2_ n3_; clear hb ho43))
                go_ret
                exact ⟨_, by first | rfl | (simp [errW_none, errW_some] <;> rfl) | (simp [*, errW_none, errW_some] <;> rfl), by (with_reducible repeat (first | apply Kd.R_alloc | apply Kd.R_drewN | apply Kd.R_drew)); exact HO536.out, by repeat (first | (with_reducible first | exact HB.out | apply below_alloc | apply pw_below_drewN | apply below_drew1 | refine below_set ?_ GE518.out) | exact HB.out)⟩
              · rw [if_neg c38] at H
                have c38b0 : (((rd_T40 l0_3 a1).f0) == 2) = false := beq_eq_false_iff_ne.mpr c38
                have c38b1 : (((rd_T40 l0_3 a1).f0) != 2) = true := bne_iff_ne.mpr c38
                by_cases c44 : ((rd_T40 l0_3 a1).f0) = 3
                · rw [if_pos c44] at H
                  have c44b0 : (((rd_T40 l0_3 a1).f0) == 3) = true := beq_iff_eq.mpr c44
                  have c44b1 : (((rd_T40 l0_3 a1).f0) != 3) = false := bne_eq_false_iff_eq.mpr c44
                  clear c44
                  obtain rfl := Option.some.inj H
                  have hcz45_0 : wc.cell? ⟨gb518, 0, none⟩ = some (.int .i64 a0_0) := (blk_cell BK518.out 0).trans rfl
                  have hcz45_1 : wc.cell? ⟨gb518, 1, none⟩ = some (.int .i64 a0_1) := (blk_cell BK518.out 1).trans rfl
                  have hcz45_2 : wc.cell? ⟨gb518, 2, none⟩ = some (.int .i64 a0_2) := (blk_cell BK518.out 2).trans rfl
                  have hcz45_3 : wc.cell? ⟨gb518, 3, none⟩ = some (.slice A0_3 l0_3.length c0_3) := (blk_cell BK518.out 3).trans rfl
                  have hfz45_0 := blk_frozen BK518.out 0
                  have hfz45_1 := blk_frozen BK518.out 1
                  have hfz45_2 := blk_frozen BK518.out 2
                  have hfz45_3 := blk_frozen BK518.out 3
                  go_wp2_with (first | ((with_reducible refine gate_callee (f := 30) rfl ?_); refine goesL_ (some 49) rfl rfl Try.func30 (by kernel_rfl) rfl #[.agg #[.int .i64 a0_0, .int .i64 a0_1, .int .i64 a0_2, .slice A0_3 l0_3.length c0_3], .int .i64 a1] rfl (by (try simp only [List.map_toArray, List.map_cons, List.map_nil]); first | done | rfl | (simp only [List.length_drop, List.length_take]; rfl)) ?_; (with_reducible refine (h05_Weights.calls a0_0 a0_1 a0_2 _ _ l0_3 a1 t525 t526 _ ?side1 ?side2 A23.out).mono ?_); (case side1 => repeat (first | exact (Kd.C_below HR0_3.out HB.out) | (with_reducible refine Kd.C_alloc ?_ _) | (with_reducible refine Kd.C_drewN ?_ _) | (with_reducible refine Kd.C_drew ?_))); (case side2 => exact HC0_3.out); rintro e w46 ⟨rfl, hb⟩; refine ⟨_, rfl, ?_⟩; have n0_ := Aside0.mk (Kd.R_below (by (with_reducible repeat (first | apply Kd.R_alloc | apply Kd.R_drewN | apply Kd.R_drew)); exact HO_7.out) hb); have n1_ := Aside0.mk (blk_below (g := gb518) (o := .cells #[.int .i64 a0_0, .int .i64 a0_1, .int .i64 a0_2, .slice A0_3 l0_3.length c0_3] 26 (0, 0)) (by (with_reducible repeat (first | refine blk_drewN ?_ _ | refine blk_drew ?_ | refine blk_alloc ?_ _)); exact BK518.out) hb); have n2_ := Aside0.mk (below_step (by repeat (first | (with_reducible first | exact HB.out | apply below_alloc | apply pw_below_drewN | apply below_drew1 | refine below_set ?_ GE518.out) | exact HB.out)) hb); clear HO_7; clear BK518; clear HB; have HO_7 := n0_; have BK518 := n1_; have HB := n2_; clear n0_ n1_ n2_; (try clear hb); (try clear hb2); (try clear hk); (try clear hi); have hcz47_0 : w46.cell? ⟨gb518, 0, none⟩ = some (.int .i64 a0_0) := (blk_cell BK518.out 0).trans rfl; have hcz47_1 : w46.cell? ⟨gb518, 1, none⟩ = some (.int .i64 a0_1) := (blk_cell BK518.out 1).trans rfl; have hcz47_2 : w46.cell? ⟨gb518, 2, none⟩ = some (.int .i64 a0_2) := (blk_cell BK518.out 2).trans rfl; have hcz47_3 : w46.cell? ⟨gb518, 3, none⟩ = some (.slice A0_3 l0_3.length c0_3) := (blk_cell BK518.out 3).trans rfl; have hfz47_0 := blk_frozen BK518.out 0; have hfz47_1 := blk_frozen BK518.out 1; have hfz47_2 := blk_frozen BK518.out 2; have hfz47_3 := blk_frozen BK518.out 3; have p527 : 0 ≤ (a1 : Int) := of_decide_eq_true (by first | (with_reducible assumption) | assumption); have q527 : a1 < (l0_3.length : Int) := of_decide_eq_true (by first | (with_reducible assumption) | assumption); obtain ⟨ad527, e527, hx527_0, hx527_1, hx527_2, hx527_3⟩ := at_T40 HR0_3.out a1 p527 q527; cases e527; replace hx527_0 := (HB.out.cell (World.block_lt_of_cell? w _ hx527_0)).trans hx527_0; replace hx527_1 := (HB.out.cell (World.block_lt_of_cell? w _ hx527_1)).trans hx527_1; replace hx527_2 := (HB.out.cell (World.block_lt_of_cell? w _ hx527_2)).trans hx527_2; replace hx527_3 := (HB.out.cell (World.block_lt_of_cell? w _ hx527_3)).trans hx527_3; replace p527 := eq_true p527; replace q527 := eq_true q527))
                  go_ret
                  exact ⟨_, by first | rfl | (simp [errW_none, errW_some] <;> rfl) | (simp [*, errW_none, errW_some] <;> rfl), by first | exact Kd.R_nil _ _ _ _ _ | exact Kd.N_nil _ _ _ _ _ | exact Kd.V_nil _ _ _ _ _ | exact Kd.Q_nil _ _ _ _ _ | exact Kd.S_nil _ _ _ _ _, by repeat (first | (with_reducible first | exact HB.out | apply below_alloc | apply pw_below_drewN | apply below_drew1 | refine below_set ?_ GE518.out) | exact HB.out)⟩
                · rw [if_neg c44] at H
                  have c44b0 : (((rd_T40 l0_3 a1).f0) == 3) = false := beq_eq_false_iff_ne.mpr c44
                  have c44b1 : (((rd_T40 l0_3 a1).f0) != 3) = true := bne_iff_ne.mpr c44
                  by_cases c48 : a1 < (t519.length : Int)
                  · rw [if_pos c48] at H
                    have c48b0 : decide (a1 < (t519.length : Int)) = true := decide_eq_true c48
                    clear c48
                    replace H := Option.bind_eq_some_iff.mp H
                    obtain ⟨t538, A490, H⟩ := H
                    replace H : (symbolonref06_Terms.l0 kj4 a2 t525 ([] : List (S58)) t538 0) = some r := H
                    have A49 := Aside0.mk A490
                    clear A490
                    have H' := Aside0.mk H
                    clear H
                    have hcz50_0 : wc.cell? ⟨gb518, 0, none⟩ = some (.int .i64 a0_0) := (blk_cell BK518.out 0).trans rfl
                    have hcz50_1 : wc.cell? ⟨gb518, 1, none⟩ = some (.int .i64 a0_1) := (blk_cell BK518.out 1).trans rfl
                    have hcz50_2 : wc.cell? ⟨gb518, 2, none⟩ = some (.int .i64 a0_2) := (blk_cell BK518.out 2).trans rfl
                    have hcz50_3 : wc.cell? ⟨gb518, 3, none⟩ = some (.slice A0_3 l0_3.length c0_3) := (blk_cell BK518.out 3).trans rfl
                    have hfz50_0 := blk_frozen BK518.out 0
                    have hfz50_1 := blk_frozen BK518.out 1
                    have hfz50_2 := blk_frozen BK518.out 2
                    have hfz50_3 := blk_frozen BK518.out 3
                    go_wp2_with (first | ((with_reducible refine gate_callee (f := 30) rfl ?_); refine goesL_ (some 49) rfl rfl Try.func30 (by kernel_rfl) rfl #[.agg #[.int .i64 a0_0, .int .i64 a0_1, .int .i64 a0_2, .slice A0_3 l0_3.length c0_3], .int .i64 a1] rfl (by (try simp only [List.map_toArray, List.map_cons, List.map_nil]); first | done | rfl | (simp only [List.length_drop, List.length_take]; rfl)) ?_; (with_reducible refine (h05_Weights.calls a0_0 a0_1 a0_2 _ _ l0_3 a1 t525 t526 _ ?side1 ?side2 A23.out).mono ?_); (case side1 => repeat (first | exact (Kd.C_below HR0_3.out HB.out) | (with_reducible refine Kd.C_alloc ?_ _) | (with_reducible refine Kd.C_drewN ?_ _) | (with_reducible refine Kd.C_drew ?_))); (case side2 => exact HC0_3.out); rintro e w51 ⟨rfl, hb⟩; refine ⟨_, rfl, ?_⟩; have n0_ := Aside0.mk (Kd.R_below (by (with_reducible repeat (first | apply Kd.R_alloc | apply Kd.R_drewN | apply Kd.R_drew)); exact HO_7.out) hb); have n1_ := Aside0.mk (blk_below (g := gb518) (o := .cells #[.int .i64 a0_0, .int .i64 a0_1, .int .i64 a0_2, .slice A0_3 l0_3.length c0_3] 26 (0, 0)) (by (with_reducible repeat (first | refine blk_drewN ?_ _ | refine blk_drew ?_ | refine blk_alloc ?_ _)); exact BK518.out) hb); have n2_ := Aside0.mk (below_step (by repeat (first | (with_reducible first | exact HB.out | apply below_alloc | apply pw_below_drewN | apply below_drew1 | refine below_set ?_ GE518.out) | exact HB.out)) hb); clear HO_7; clear BK518; clear HB; have HO_7 := n0_; have BK518 := n1_; have HB := n2_; clear n0_ n1_ n2_; (try clear hb); (try clear hb2); (try clear hk); (try clear hi); have hcz52_0 : w51.cell? ⟨gb518, 0, none⟩ = some (.int .i64 a0_0) := (blk_cell BK518.out 0).trans rfl; have hcz52_1 : w51.cell? ⟨gb518, 1, none⟩ = some (.int .i64 a0_1) := (blk_cell BK518.out 1).trans rfl; have hcz52_2 : w51.cell? ⟨gb518, 2, none⟩ = some (.int .i64 a0_2) := (blk_cell BK518.out 2).trans rfl; have hcz52_3 : w51.cell? ⟨gb518, 3, none⟩ = some (.slice A0_3 l0_3.length c0_3) := (blk_cell BK518.out 3).trans rfl; have hfz52_0 := blk_frozen BK518.out 0; have hfz52_1 := blk_frozen BK518.out 1; have hfz52_2 := blk_frozen BK518.out 2; have hfz52_3 := blk_frozen BK518.out 3; have p527 : 0 ≤ (a1 : Int) := of_decide_eq_true (by first | (with_reducible assumption) | assumption); have q527 : a1 < (l0_3.length : Int) := of_decide_eq_true (by first | (with_reducible assumption) | assumption); obtain ⟨ad527, e527, hx527_0, hx527_1, hx527_2, hx527_3⟩ := at_T40 HR0_3.out a1 p527 q527; cases e527; replace hx527_0 := (HB.out.cell (World.block_lt_of_cell? w _ hx527_0)).trans hx527_0; replace hx527_1 := (HB.out.cell (World.block_lt_of_cell? w _ hx527_1)).trans hx527_1; replace hx527_2 := (HB.out.cell (World.block_lt_of_cell? w _ hx527_2)).trans hx527_2; replace hx527_3 := (HB.out.cell (World.block_lt_of_cell? w _ hx527_3)).trans hx527_3; replace p527 := eq_true p527; replace q527 := eq_true q527; obtain ⟨Ao53, co53, eo53⟩ := Kd.R_slice HO_7.out; subst eo53; have p537 : 0 ≤ (a1 : Int) := of_decide_eq_true (by first | (with_reducible assumption) | assumption); have q537 : a1 < (t519.length : Int) := of_decide_eq_true (by first | (with_reducible assumption) | assumption); obtain ⟨ad537, e537, hx537_0, hx537_1, hx537_2⟩ := at_T23 (Kd.R_reads' HO_7.out).2.2 a1 p537 q537; cases e537; replace p537 := eq_true p537; replace q537 := eq_true q537) | ((with_reducible refine gate_callee (f := 41) rfl ?_); refine goesL_ (some 88) rfl rfl Try.func41 (by kernel_rfl) rfl #[.agg #[.int .i64 ((rd_T23 t519 a1).f0), .int .i64 ((rd_T23 t519 a1).f1), .int .i64 ((rd_T23 t519 a1).f2)]] rfl (by (try simp only [List.map_toArray, List.map_cons, List.map_nil]); first | done | rfl | (simp only [List.length_drop, List.length_take]; rfl)) ?_; (with_reducible refine (h02_Size.calls ((rd_T23 t519 a1).f0) ((rd_T23 t519 a1).f1) ((rd_T23 t519 a1).f2) t538 _ A49.out).mono ?_); rintro e w54 ⟨rfl, hb⟩; refine ⟨_, rfl, ?_⟩; have n0_ := Aside0.mk (Kd.R_below (by (with_reducible repeat (first | apply Kd.R_alloc | apply Kd.R_drewN | apply Kd.R_drew)); exact HO_7.out) hb); have n1_ := Aside0.mk (blk_below (g := gb518) (o := .cells #[.int .i64 a0_0, .int .i64 a0_1, .int .i64 a0_2, .slice (some ad527) l0_3.length c0_3] 26 (0, 0)) (by (with_reducible repeat (first | refine blk_drewN ?_ _ | refine blk_drew ?_ | refine blk_alloc ?_ _)); exact BK518.out) hb); have n2_ := Aside0.mk (below_step (by repeat (first | (with_reducible first | exact HB.out | apply below_alloc | apply pw_below_drewN | apply below_drew1 | refine below_set ?_ GE518.out) | exact HB.out)) hb); clear HO_7; clear BK518; clear HB; have HO_7 := n0_; have BK518 := n1_; have HB := n2_; clear n0_ n1_ n2_; (try clear hb); (try clear hb2); (try clear hk); (try clear hi)))
                    go_loopg [11, 13] kj4 (fun kq v11 v13 w' => ∃ (x11_2 : List (S58)) (x13_2 : Int), v13 = .int .i64 x13_2 ∧ Aside0 (symbolonref06_Terms.l0 kq a2 t525 x11_2 t538 x13_2 = some r) ∧ Aside0 (kq ≤ kj4) ∧ Aside0 (Kd.R k58 58 w' w.heap.size (fun _ => True) v11 x11_2) ∧ Aside0 (w'.heap[gb518]? = some (.cells #[.int .i64 a0_0, .int .i64 a0_1, .int .i64 a0_2, (.slice (some ad527) l0_3.length c0_3)] 26 (0, 0))) ∧ Aside0 (Below w.heap.size w w'))
                    case atStart => exact ⟨(([] : List (S58))), (0), (by first | rfl | (simp; done) | (simp [*]; done)), H', ⟨Nat.le_refl _⟩, ⟨by first | exact Kd.R_nil _ _ _ _ _ | exact Kd.N_nil _ _ _ _ _ | exact Kd.V_nil _ _ _ _ _ | exact Kd.Q_nil _ _ _ _ _ | exact Kd.S_nil _ _ _ _ _⟩, ⟨by (with_reducible repeat (first | refine blk_drewN ?_ _ | refine blk_drew ?_ | refine blk_alloc ?_ _)); exact BK518.out⟩, ⟨by repeat (first | (with_reducible first | exact HB.out | apply below_alloc | apply pw_below_drewN | apply below_drew1 | refine below_set ?_ GE518.out) | exact HB.out)⟩⟩
                    case round =>
                      clear H'
                      try clear c1
                      try clear c2
                      try clear p2
                      try clear c3
                      try clear c4
                      try clear p5
                      try clear q5
                      try clear hx5
                      try clear p6
                      try clear c8
                      try clear c9
                      try clear c9b0
                      try clear c9b1
                      try clear c10
                      try clear c10b0
                      try clear c11
                      try clear c11b0
                      try clear c13
                      try clear c13b0
                      try clear c16
                      try clear c16b0
                      try clear c17
                      try clear c17b0
                      try clear c22
                      try clear c24
                      try clear c24b0
                      try clear c25
                      try clear c25b0
                      try clear c26
                      try clear c26b0
                      try clear c26b1
                      try clear c27
                      try clear c27b0
                      try clear c28
                      try clear c29
                      try clear c29b0
                      try clear c30
                      try clear c30b0
                      try clear c38
                      try clear c38b0
                      try clear c38b1
                      try clear c41
                      try clear c44
                      try clear c44b0
                      try clear c44b1
                      try clear c46
                      try clear c48
                      try clear c48b0
                      try clear p52
                      try clear q52
                      try clear hx52
                      try clear p53
                      try clear q53
                      try clear hx53
                      try clear hcz12_0
                      try clear hcz12_1
                      try clear hcz12_2
                      try clear hcz12_3
                      try clear hcz14_0
                      try clear hcz14_1
                      try clear hcz14_2
                      try clear hcz14_3
                      try clear hcz19_0
                      try clear hcz19_1
                      try clear hcz19_2
                      try clear hcz19_3
                      try clear hcz32_0
                      try clear hcz32_1
                      try clear hcz32_2
                      try clear hcz32_3
                      try clear hcz34_0
                      try clear hcz34_1
                      try clear hcz34_2
                      try clear hcz34_3
                      try clear hcz39_0
                      try clear hcz39_1
                      try clear hcz39_2
                      try clear hcz39_3
                      try clear hcz41_0
                      try clear hcz41_1
                      try clear hcz41_2
                      try clear hcz41_3
                      try clear hcz45_0
                      try clear hcz45_1
                      try clear hcz45_2
                      try clear hcz45_3
                      try clear hcz47_0
                      try clear hcz47_1
                      try clear hcz47_2
                      try clear hcz47_3
                      try clear hcz50_0
                      try clear hcz50_1
                      try clear hcz50_2
                      try clear hcz50_3
                      try clear hcz52_0
                      try clear hcz52_1
                      try clear hcz52_2
                      try clear hcz52_3
                      try clear hcz7_0
                      try clear hcz7_1
                      try clear hcz7_2
                      try clear hcz7_3
                      try clear hfz12_0
                      try clear hfz12_1
                      try clear hfz12_2
                      try clear hfz12_3
                      try clear hfz14_0
                      try clear hfz14_1
                      try clear hfz14_2
                      try clear hfz14_3
                      try clear hfz19_0
                      try clear hfz19_1
                      try clear hfz19_2
                      try clear hfz19_3
                      try clear hfz32_0
                      try clear hfz32_1
                      try clear hfz32_2
                      try clear hfz32_3
                      try clear hfz34_0
                      try clear hfz34_1
                      try clear hfz34_2
                      try clear hfz34_3
                      try clear hfz39_0
                      try clear hfz39_1
                      try clear hfz39_2
                      try clear hfz39_3
                      try clear hfz41_0
                      try clear hfz41_1
                      try clear hfz41_2
                      try clear hfz41_3
                      try clear hfz45_0
                      try clear hfz45_1
                      try clear hfz45_2
                      try clear hfz45_3
                      try clear hfz47_0
                      try clear hfz47_1
                      try clear hfz47_2
                      try clear hfz47_3
                      try clear hfz50_0
                      try clear hfz50_1
                      try clear hfz50_2
                      try clear hfz50_3
                      try clear hfz52_0
                      try clear hfz52_1
                      try clear hfz52_2
                      try clear hfz52_3
                      try clear hfz7_0
                      try clear hfz7_1
                      try clear hfz7_2
                      try clear hfz7_3
                      try clear hx523_0
                      try clear hx523_1
                      try clear hx523_2
                      try clear hx527_0
                      try clear hx527_1
                      try clear hx527_2
                      try clear hx527_3
                      try clear hx528_0
                      try clear hx528_1
                      try clear hx528_2
                      try clear hx529_0
                      try clear hx529_1
                      try clear hx529_2
                      try clear hx530_0
                      try clear hx530_1
                      try clear hx530_2
                      try clear hx530_3
                      try clear hx537_0
                      try clear hx537_1
                      try clear hx537_2
                      try clear p2
                      try clear p5
                      try clear p523
                      try clear p527
                      try clear p528
                      try clear p529
                      try clear p530
                      try clear p537
                      try clear p6
                      try clear q5
                      try clear q523
                      try clear q527
                      try clear q528
                      try clear q529
                      try clear q530
                      try clear q537
                      obtain ⟨x11_2, x13_2, rfl, HA, HK2, HO_11, BK518, HB⟩ := hrel
                      cases gk with
                      | zero => exact absurd HA.out (by simp [symbolonref06_Terms.l0])
                      | succ k2 =>
                        have H := HA.out
                        clear HA
                        simp only [symbolonref06_Terms.l0] at H
                        by_cases c55 : x13_2 < t538
                        · rw [if_pos c55] at H
                          have c55b0 : decide (x13_2 < t538) = true := decide_eq_true c55
                          clear c55
                          by_cases c56 : x11_2.length < 8796093022208
                          · rw [if_pos c56] at H
                            have LMc56 := Aside0.mk c56
                            clear c56
                            obtain ⟨y539, hy539⟩ : ∃ y_ : List (S58), y_ = (x11_2 ++ [(⟨x13_2, wrap64 ((wrap64 (t525 + (wrap64 (a2 * t538)))) + x13_2)⟩ : S58)]) := ⟨_, rfl⟩
                            replace H : (symbolonref06_Terms.l0 k2 a2 t525 y539 t538 (wrap64 (x13_2 + 1))) = some r := by first | (rw [hy539]; with_reducible exact H) | (have H2_ := (Option.bind_some _ _).symm.trans H; rw [hy539]; with_reducible exact H2_) | (have H2_ := (Option.bind_some _ _).symm.trans H; with_reducible exact H2_) | with_reducible exact H | (rw [hy539]; exact H) | exact H
                            have Ny539 := Aside0.mk hy539
                            clear hy539
                            have H' := Aside0.mk H
                            clear H
                            go_wp2_with (first | ((with_reducible refine gate_builtin (b := .append) (xs := #[.tmp 94, .tmp 104]) rfl ?_); (try (refine gate_guard (by rfl) ?_; dsimp only)); at_builtin; refine Kd.R_append k58 (w0 := w) w.heap.size rfl (.tmp 94) (.tmp 104) 49 58 (.agg #[(.int .i64 0), (.int .i64 0)]) 16 rfl Try.underlying49 info58 rfl (by decide) (by omega) u11 x11_2 (⟨x13_2, wrap64 ((wrap64 (t525 + (wrap64 (a2 * t538)))) + x13_2)⟩ : S58) [.int .i64 x13_2, .int .i64 (wrap64 ((wrap64 (t525 + (wrap64 (a2 * t538)))) + x13_2))] (fun _ => True) (fun _ => False) rfl rfl ?aP (fun _ hk => hk.elim) ?aF ?aO ?aB ?aS ?aL ?_; (case aP => exact k58_mkM _ _ _ (⟨x13_2, wrap64 ((wrap64 (t525 + (wrap64 (a2 * t538)))) + x13_2)⟩ : S58)); (case aB => exact (by repeat (first | (with_reducible first | exact HB.out | apply below_alloc | apply pw_below_drewN | apply below_drew1 | refine below_set ?_ GE518.out) | exact HB.out))); (case aF => exact (fun _ _ => trivial)); (case aO => exact (by (with_reducible repeat (first | apply Kd.R_alloc | apply Kd.R_drewN | apply Kd.R_drew)); exact HO_11.out)); (case aS => exact (below_size (by repeat (first | (with_reducible first | exact HB.out | apply below_alloc | apply pw_below_drewN | apply below_drew1 | refine below_set ?_ GE518.out) | exact HB.out)))); (case aL => have := LMc56.out; omega); intro v540 w57 ho hb hg hat; rw [← Ny539.out] at ho; have n0_ := Aside0.mk (blk_grown (g := gb518) (o := .cells #[.int .i64 a0_0, .int .i64 a0_1, .int .i64 a0_2, .slice (some ad527) l0_3.length c0_3] 26 (0, 0)) (by (with_reducible repeat (first | refine blk_drewN ?_ _ | refine blk_drew ?_ | refine blk_alloc ?_ _)); exact BK518.out) hg (Kd.R_ne HO_11.out BK518.out (by decide))); have n1_ := Aside0.mk (hb); have n2_ := Aside0.mk (ho); clear BK518; clear HB; clear HO_11; have BK518 := n0_; have HB := n1_; have HO541 := n2_; clear n0_ n1_ n2_; clear ho hb hg hat))
                            go_roundg k2
                            case measure => have := HJ4.out; have := HK2.out; omega
                            case rel => exact ⟨(y539), (wrap64 (x13_2 + 1)), (by first | rfl | (simp; done) | (simp [*]; done)), H', ⟨by have := HJ4.out; have := HK2.out; omega⟩, ⟨by (with_reducible repeat (first | apply Kd.R_alloc | apply Kd.R_drewN | apply Kd.R_drew)); exact HO541.out⟩, ⟨by (with_reducible repeat (first | refine blk_drewN ?_ _ | refine blk_drew ?_ | refine blk_alloc ?_ _)); exact BK518.out⟩, ⟨by repeat (first | (with_reducible first | exact HB.out | apply below_alloc | apply pw_below_drewN | apply below_drew1 | refine below_set ?_ GE518.out) | exact HB.out)⟩⟩
                          · rw [if_neg c56] at H
                            exact absurd H (by simp)
                        · rw [if_neg c55] at H
                          have c55b0 : decide (x13_2 < t538) = false := decide_eq_false c55
                          clear c55
                          obtain rfl := Option.some.inj H
                          go_wp2
                          go_ret
                          exact ⟨_, by first | rfl | (simp [errW_none, errW_some] <;> rfl) | (simp [*, errW_none, errW_some] <;> rfl), by (with_reducible repeat (first | apply Kd.R_alloc | apply Kd.R_drewN | apply Kd.R_drew)); exact HO_11.out, by repeat (first | (with_reducible first | exact HB.out | apply below_alloc | apply pw_below_drewN | apply below_drew1 | refine below_set ?_ GE518.out) | exact HB.out)⟩
                  · rw [if_neg c48] at H
                    exact absurd H (by simp)
          · rw [if_neg c25] at H
            exact absurd H (by simp)
        · rw [if_neg c24] at H
          exact absurd H (by simp)
end Go.Proofs.Ytnfcadjckoebkaa.P
