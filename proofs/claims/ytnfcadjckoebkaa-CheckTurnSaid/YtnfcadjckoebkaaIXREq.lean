
import Derived.Test.YtnfcadjckoebkaaIX0
import Derived.Test.YtnfcadjckoebkaaIXQ0
namespace Go.Proofs.Ytnfcadjckoebkaa.P
open Go.RowKit Go.Proofs.YtnfcadjckoebkaaW.PrintWords Go.Proofs.YtnfcadjckoebkaaW.PrintLast Go.Proofs.YtnfcadjckoebkaaW.PrintMore
attribute [local go_sem] min2_int min_two
set_option linter.unusedVariables false
set_option linter.unusedSimpArgs false
attribute [local go_sem high] eqA23
def symbolonref05_SameShapes.l0 : Nat → List (S23) → List (S23) → Int → Option (Bool)
  | 0, _, _, _ => none
  | k + 1, x0, x1, x5 => if x5 < (x0.length : Int) then (if 0 ≤ x5 then (if x5 < (x1.length : Int) then (if (!(((rd_T23 x0 x5).f0) == ((rd_T23 x1 x5).f0)) || (!(((rd_T23 x0 x5).f1) == ((rd_T23 x1 x5).f1)) || (!(((rd_T23 x0 x5).f2) == ((rd_T23 x1 x5).f2))))) = true then (some false) else (symbolonref05_SameShapes.l0 k x0 x1 (wrap64 (x5 + 1)))) else (none)) else (none)) else (some true)
def symbolonref05_SameShapes.f (k : Nat) (l0 : List (S23)) (l1 : List (S23)) : Option (Bool) := if (l0.length : Int) = (l1.length : Int) then (symbolonref05_SameShapes.l0 k l0 l1 0) else (some false)
set_option maxHeartbeats 8000000 in
set_option maxRecDepth 100000 in
theorem symbolonref05_SameShapes.calls (k : Nat) (A0 : Option Addr) (c0 : Nat) (l0 : List (S23)) (A1 : Option Addr) (c1 : Nat) (l1 : List (S23)) (r : Bool) (w : World) (hr0 : Kd.C k23 w A0 l0.length l0) (hc0 : l0.length ≤ c0) (hr1 : Kd.C k23 w A1 l1.length l1) (hc1 : l1.length ≤ c1) (h : symbolonref05_SameShapes.f k l0 l1 = some r) :
    Calls Try.prog 33 #[.slice A0 l0.length c0, .slice A1 l1.length c1] w fun e w' => e = .returned (.bool r) ∧ Drawn0 w w' := by
  have hu23 := Try.underlying23
  have HR0 := Aside0.mk hr0
  have HC0 := Aside0.mk hc0
  clear hr0 hc0
  have HR1 := Aside0.mk hr1
  have HC1 := Aside0.mk hc1
  clear hr1 hc1
  have H : (if (l0.length : Int) = (l1.length : Int) then (symbolonref05_SameShapes.l0 k l0 l1 0) else (some false)) = some r := h
  clear h
  by_cases c3 : (l0.length : Int) = (l1.length : Int)
  · rw [if_pos c3] at H
    have c3b0 : ((l0.length : Int) == (l1.length : Int)) = true := beq_iff_eq.mpr c3
    have c3b1 : ((l0.length : Int) != (l1.length : Int)) = false := bne_eq_false_iff_eq.mpr c3
    have c3b2 : (l0.length == l1.length) = true := by first | simpa using c3 | (simp at c3 ⊢; omega)
    clear c3
    have H' := Aside0.mk H
    clear H
    go_enter Try.func33, Try.ntmps33
    go_wp2
    repeat (go_quiet (fail); try go_wp2)
    go_loopg [5] k (fun kq v5 w' => ∃ (x5_1 : Int), v5 = .int .i64 x5_1 ∧ Aside0 (symbolonref05_SameShapes.l0 kq l0 l1 x5_1 = some r) ∧ Aside0 (kq ≤ k) ∧ Drawn0 w w')
    case atStart => exact ⟨(0), (by first | rfl | (simp; done) | (simp [*]; done)), H', ⟨Nat.le_refl _⟩, by repeat (first | exact Drawn0.refl _ | apply Drawn0.step)⟩
    case round =>
      clear H'
      try clear c1
      try clear p2
      try clear c3
      try clear c3b0
      try clear c3b1
      try clear c3b2
      obtain ⟨x5_1, rfl, HA, HK1, ⟨m1, rfl⟩⟩ := hrel
      cases gk with
      | zero => exact absurd HA.out (by simp [symbolonref05_SameShapes.l0])
      | succ k1 =>
        have H := HA.out
        clear HA
        simp only [symbolonref05_SameShapes.l0] at H
        by_cases c4 : x5_1 < (l0.length : Int)
        · rw [if_pos c4] at H
          have c4b0 : decide (x5_1 < (l0.length : Int)) = true := decide_eq_true c4
          clear c4
          by_cases c5 : 0 ≤ x5_1
          · rw [if_pos c5] at H
            have c5b0 : decide (0 ≤ x5_1) = true := decide_eq_true c5
            clear c5
            by_cases c6 : x5_1 < (l1.length : Int)
            · rw [if_pos c6] at H
              have c6b0 : decide (x5_1 < (l1.length : Int)) = true := decide_eq_true c6
              clear c6
              by_cases c7 : (!(((rd_T23 l0 x5_1).f0) == ((rd_T23 l1 x5_1).f0)) || (!(((rd_T23 l0 x5_1).f1) == ((rd_T23 l1 x5_1).f1)) || (!(((rd_T23 l0 x5_1).f2) == ((rd_T23 l1 x5_1).f2))))) = true
              · rw [if_pos c7] at H
                have c7b0 : (!(((rd_T23 l0 x5_1).f0) == ((rd_T23 l1 x5_1).f0)) || (!(((rd_T23 l0 x5_1).f1) == ((rd_T23 l1 x5_1).f1)) || (!(((rd_T23 l0 x5_1).f2) == ((rd_T23 l1 x5_1).f2))))) = true := c7
                clear c7
                obtain rfl := Option.some.inj H
                have p128 : 0 ≤ (x5_1 : Int) := of_decide_eq_true (by first | (with_reducible assumption) | assumption)
                have q128 : x5_1 < (l0.length : Int) := of_decide_eq_true (by first | (with_reducible assumption) | assumption)
                obtain ⟨ad128, e128, hx128_0, hx128_1, hx128_2⟩ := at_T23 HR0.out x5_1 p128 q128
                cases e128
                replace p128 := eq_true p128
                replace q128 := eq_true q128
                have p129 : 0 ≤ (x5_1 : Int) := of_decide_eq_true (by first | (with_reducible assumption) | assumption)
                have q129 : x5_1 < (l1.length : Int) := of_decide_eq_true (by first | (with_reducible assumption) | assumption)
                obtain ⟨ad129, e129, hx129_0, hx129_1, hx129_2⟩ := at_T23 HR1.out x5_1 p129 q129
                cases e129
                replace p129 := eq_true p129
                replace q129 := eq_true q129
                go_wp2
                repeat (go_quiet (fail); try go_wp2)
                go_ret
                exact ⟨by first | rfl | (simp; done) | (simp [*]; done), by repeat (first | exact Drawn0.refl _ | apply Drawn0.step)⟩
              · rw [if_neg c7] at H
                have c7b0 : (!(((rd_T23 l0 x5_1).f0) == ((rd_T23 l1 x5_1).f0)) || (!(((rd_T23 l0 x5_1).f1) == ((rd_T23 l1 x5_1).f1)) || (!(((rd_T23 l0 x5_1).f2) == ((rd_T23 l1 x5_1).f2))))) = false := by simpa using c7
                clear c7
                have H' := Aside0.mk H
                clear H
                have p128 : 0 ≤ (x5_1 : Int) := of_decide_eq_true (by first | (with_reducible assumption) | assumption)
                have q128 : x5_1 < (l0.length : Int) := of_decide_eq_true (by first | (with_reducible assumption) | assumption)
                obtain ⟨ad128, e128, hx128_0, hx128_1, hx128_2⟩ := at_T23 HR0.out x5_1 p128 q128
                cases e128
                replace p128 := eq_true p128
                replace q128 := eq_true q128
                have p129 : 0 ≤ (x5_1 : Int) := of_decide_eq_true (by first | (with_reducible assumption) | assumption)
                have q129 : x5_1 < (l1.length : Int) := of_decide_eq_true (by first | (with_reducible assumption) | assumption)
                obtain ⟨ad129, e129, hx129_0, hx129_1, hx129_2⟩ := at_T23 HR1.out x5_1 p129 q129
                cases e129
                replace p129 := eq_true p129
                replace q129 := eq_true q129
                go_wp2
                repeat (go_quiet (fail); try go_wp2)
                go_roundg k1
                case measure => have := HK1.out; omega
                case rel => exact ⟨(wrap64 (x5_1 + 1)), (by first | rfl | (simp; done) | (simp [*]; done)), H', ⟨by have := HK1.out; omega⟩, by repeat (first | exact Drawn0.refl _ | apply Drawn0.step)⟩
            · rw [if_neg c6] at H
              exact absurd H (by simp)
          · rw [if_neg c5] at H
            exact absurd H (by simp)
        · rw [if_neg c4] at H
          have c4b0 : decide (x5_1 < (l0.length : Int)) = false := decide_eq_false c4
          clear c4
          obtain rfl := Option.some.inj H
          go_wp2
          repeat (go_quiet (fail); try go_wp2)
          go_ret
          exact ⟨by first | rfl | (simp; done) | (simp [*]; done), by repeat (first | exact Drawn0.refl _ | apply Drawn0.step)⟩
  · rw [if_neg c3] at H
    have c3b0 : ((l0.length : Int) == (l1.length : Int)) = false := beq_eq_false_iff_ne.mpr c3
    have c3b1 : ((l0.length : Int) != (l1.length : Int)) = true := bne_iff_ne.mpr c3
    have c3b2 : (l0.length == l1.length) = false := by first | simpa using c3 | (simp at c3 ⊢; omega)
    obtain rfl := Option.some.inj H
    go_enter Try.func33, Try.ntmps33
    go_wp2
    repeat (go_quiet (fail); try go_wp2)
    go_ret
    exact ⟨by first | rfl | (simp; done) | (simp [*]; done), by repeat (first | exact Drawn0.refl _ | apply Drawn0.step)⟩
def symbolonlaw05_Small.f  : Option (Int × Int × Int × (List (S40))) := some (1, 4, 4, (([(⟨1, 2, 3, 1⟩ : S40), (⟨2, 0, 0, 0⟩ : S40), (⟨3, 0, 2, 0⟩ : S40), (⟨4, 3, 0, 0⟩ : S40)] : List (S40))))
set_option maxHeartbeats 8000000 in
set_option maxRecDepth 100000 in
theorem symbolonlaw05_Small.calls  (r1 : Int) (r2 : Int) (r3 : Int) (r4 : List (S40)) (w : World) (h : symbolonlaw05_Small.f  = some (r1, r2, r3, r4)) :
    Calls Try.prog 75 #[] w fun e w' => ∃ v3_ : Value, e = .returned (.agg #[.int .i64 r1, .int .i64 r2, .int .i64 r3, v3_]) ∧ Kd.R k40 40 w' w.heap.size (fun _ => True) v3_ r4 ∧ Below w.heap.size w w' := by
  have hu26 := Try.underlying26
  have hu23 := Try.underlying23
  have hu40 := Try.underlying40
  have HB := Aside0.mk (Below.refl w.heap.size w)
  have H : (some (1, 4, 4, (([(⟨1, 2, 3, 1⟩ : S40), (⟨2, 0, 0, 0⟩ : S40), (⟨3, 0, 2, 0⟩ : S40), (⟨4, 3, 0, 0⟩ : S40)] : List (S40))))) = some (r1, r2, r3, r4) := h
  clear h
  obtain ⟨y142, hy142⟩ : ∃ y_ : List (S40), y_ = (([(⟨1, 2, 3, 1⟩ : S40), (⟨2, 0, 0, 0⟩ : S40), (⟨3, 0, 2, 0⟩ : S40), (⟨4, 3, 0, 0⟩ : S40)] : List (S40))) := ⟨_, rfl⟩
  replace H : (some (1, 4, 4, y142)) = some (r1, r2, r3, r4) := by first | (rw [hy142]; with_reducible exact H) | (have H2_ := (Option.bind_some _ _).symm.trans H; rw [hy142]; with_reducible exact H2_) | (have H2_ := (Option.bind_some _ _).symm.trans H; with_reducible exact H2_) | with_reducible exact H | (rw [hy142]; exact H) | exact H
  have Ny142 := Aside0.mk hy142
  clear hy142
  simp only [Option.some.injEq, Prod.mk.injEq] at H
  obtain ⟨rfl, rfl, rfl, rfl⟩ := H
  go_enter Try.func75, Try.ntmps75
  go_wp2_with (first | ((with_reducible refine gate_dst (N := 0) rfl ?_); refine box_event ?hg (N := 0) ?hd (cs := #[.int .i64 0, .int .i64 0, .int .i64 0, .slice none 0 0]) (t := 26) ?hr ?_; (case hd => rfl); (case hg => rfl); (case hr => first | (go_simp; done) | (go_simp; rfl)); intro gb141 hg w1 hbox hb; have n0_ := Aside0.mk (below_step (by repeat (first | (with_reducible first | exact HB.out | apply below_alloc | apply pw_below_drewN | apply below_drew1) | exact HB.out)) hb); have n1_ := Aside0.mk (hbox); have n2_ := Aside0.mk ((by rw [hg]; exact (below_size (by repeat (first | (with_reducible first | exact HB.out | apply below_alloc | apply pw_below_drewN | apply below_drew1) | exact HB.out))) : w.heap.size ≤ gb141)); have n3_ := Aside0.mk ((by rw [hg]; exact (below_size (by repeat (first | (with_reducible first | exact HB.out | apply below_alloc | apply pw_below_drewN | apply below_drew1) | exact HB.out))) : w.heap.size ≤ gb141)); clear HB; have HB := n0_; have BK141 := n1_; have GW141 := n2_; have GE141 := n3_; clear n0_ n1_ n2_ n3_; clear hb hbox hg) | ((with_reducible refine gate_dst (N := 6) rfl ?_); refine Kd.R_lit k40 _ 40 ?hg (N := 6) ?hd (xs := ([(⟨1, 2, 3, 1⟩ : S40), (⟨2, 0, 0, 0⟩ : S40), (⟨3, 0, 2, 0⟩ : S40), (⟨4, 3, 0, 0⟩ : S40)] : List (S40))) (inner := [.int .i64 1, .int .i64 2, .int .i64 3, .int .i64 1, .int .i64 2, .int .i64 0, .int .i64 0, .int .i64 0, .int .i64 3, .int .i64 0, .int .i64 2, .int .i64 0, .int .i64 4, .int .i64 3, .int .i64 0, .int .i64 0]) (ok := fun _ => True) (okp := fun _ => True) ?hr ?hp (fun _ hk => hk) trivial (Below.refl _ _) (Nat.le_refl _) (by simp) ?_; (case hd => rfl); (case hg => rfl); (case hr => first | (go_simp; done) | (go_simp; rfl)); (case hp => exact (Reps.c4 (show Kd.M k40 _ _ _ (⟨1, 2, 3, 1⟩ : S40) [.int .i64 1, .int .i64 2, .int .i64 3, .int .i64 1] from (k40_mkM _ _ _ (⟨1, 2, 3, 1⟩ : S40) )) (Reps.c4 (show Kd.M k40 _ _ _ (⟨2, 0, 0, 0⟩ : S40) [.int .i64 2, .int .i64 0, .int .i64 0, .int .i64 0] from (k40_mkM _ _ _ (⟨2, 0, 0, 0⟩ : S40) )) (Reps.c4 (show Kd.M k40 _ _ _ (⟨3, 0, 2, 0⟩ : S40) [.int .i64 3, .int .i64 0, .int .i64 2, .int .i64 0] from (k40_mkM _ _ _ (⟨3, 0, 2, 0⟩ : S40) )) (Reps.c4 (show Kd.M k40 _ _ _ (⟨4, 3, 0, 0⟩ : S40) [.int .i64 4, .int .i64 3, .int .i64 0, .int .i64 0] from (k40_mkM _ _ _ (⟨4, 3, 0, 0⟩ : S40) )) (Reps.none _ _)))))); intro v143 w2 ho3 hb hg_ hnew_; clear hg_ hnew_; (first | rw [← Ny142.out] at ho3 | (simp only [Int.reduceToNat] at ho3; rw [← Ny142.out] at ho3)); have n0_ := Aside0.mk (Kd.R_lower ho3 (below_size (by repeat (first | (with_reducible first | exact HB.out | apply below_alloc | apply pw_below_drewN | apply below_drew1 | refine below_set ?_ GE141.out) | exact HB.out)))); have n1_ := Aside0.mk (blk_below (g := gb141) (o := .cells #[.int .i64 0, .int .i64 0, .int .i64 0, .slice none 0 0] 26 (0, 0)) (by (with_reducible repeat (first | refine blk_drewN ?_ _ | refine blk_drew ?_ | refine blk_alloc ?_ _)); exact BK141.out) hb); have n2_ := Aside0.mk (below_step (by repeat (first | (with_reducible first | exact HB.out | apply below_alloc | apply pw_below_drewN | apply below_drew1 | refine below_set ?_ GE141.out) | exact HB.out)) hb); clear BK141; clear HB; have HO144 := n0_; have BK141 := n1_; have HB := n2_; clear n0_ n1_ n2_; clear hb ho3; obtain ⟨Ao4, co4, eo4⟩ := Kd.R_slice HO144.out; subst eo4; have hcz5_0 : w2.cell? ⟨gb141, 0, none⟩ = some (.int .i64 0) := (blk_cell BK141.out 0).trans rfl; have hcz5_1 : w2.cell? ⟨gb141, 1, none⟩ = some (.int .i64 0) := (blk_cell BK141.out 1).trans rfl; have hcz5_2 : w2.cell? ⟨gb141, 2, none⟩ = some (.int .i64 0) := (blk_cell BK141.out 2).trans rfl; have hcz5_3 : w2.cell? ⟨gb141, 3, none⟩ = some (.slice none 0 0) := (blk_cell BK141.out 3).trans rfl; have hfz5_0 := blk_frozen BK141.out 0; have hfz5_1 := blk_frozen BK141.out 1; have hfz5_2 := blk_frozen BK141.out 2; have hfz5_3 := blk_frozen BK141.out 3))
  refine bodyPost_ret (results_cell_row rfl _ _ gb141 26 #[.int .i64 1, .int .i64 4, .int .i64 4, .slice Ao4 y142.length co4] (0, 0) _ rfl (by (with_reducible repeat (first | refine blk_drewN ?_ _ | refine blk_drew ?_ | refine blk_alloc ?_ _)); refine blk_put (cs := #[.int .i64 1, .int .i64 4, .int .i64 4, .slice none 0 0]) ?_ 3 _ rfl; (with_reducible repeat (first | refine blk_drewN ?_ _ | refine blk_drew ?_ | refine blk_alloc ?_ _)); refine blk_put (cs := #[.int .i64 1, .int .i64 4, .int .i64 0, .slice none 0 0]) ?_ 2 _ rfl; (with_reducible repeat (first | refine blk_drewN ?_ _ | refine blk_drew ?_ | refine blk_alloc ?_ _)); refine blk_put (cs := #[.int .i64 1, .int .i64 0, .int .i64 0, .slice none 0 0]) ?_ 1 _ rfl; (with_reducible repeat (first | refine blk_drewN ?_ _ | refine blk_drew ?_ | refine blk_alloc ?_ _)); refine blk_put (cs := #[.int .i64 0, .int .i64 0, .int .i64 0, .slice none 0 0]) ?_ 0 _ rfl; (with_reducible repeat (first | refine blk_drewN ?_ _ | refine blk_drew ?_ | refine blk_alloc ?_ _)); exact BK141.out) Try.underlying26 rfl (by kernel_rfl)) rfl ?_
  exact ⟨_, by first | rfl | (simp [errW_none, errW_some] <;> rfl) | (simp [*, errW_none, errW_some] <;> rfl), by (with_reducible repeat (first | apply Kd.R_alloc | apply Kd.R_drewN | apply Kd.R_drew)); exact Kd.R_mono (Kd.R_far (p := ⟨gb141, 3, none⟩) (Kd.R_far (p := ⟨gb141, 2, none⟩) (Kd.R_far (p := ⟨gb141, 1, none⟩) (Kd.R_far (p := ⟨gb141, 0, none⟩) (Kd.R_types HO144.out BK141.out (by decide)) (fun _ hk => hk.2) (.int .i64 1)) (fun _ hk => hk.2) (.int .i64 4)) (fun _ hk => hk.2) (.int .i64 4)) (fun _ hk => hk.2) (.slice Ao4 y142.length co4)) (fun _ hk => trivial), by repeat (first | (with_reducible first | exact HB.out | apply below_alloc | apply pw_below_drewN | apply below_drew1 | refine below_set ?_ GE141.out) | exact HB.out)⟩
end Go.Proofs.Ytnfcadjckoebkaa.P
