import Derived.Test.YtnfcadjckoebkaaIXSp
import Derived.Test.YtnfcadjckoebkaaIXHx
import Derived.Test.YtnfcadjckoebkaaIXKw
import Derived.RegionTactic
import Derived.ChangeAlike
import Derived.Deep.RegionHeld3
namespace Go.Proofs.Ytnfcadjckoebkaa.P
open Go.RowKit Go.Proofs.YtnfcadjckoebkaaW.PrintWords Go.Proofs.YtnfcadjckoebkaaW.PrintLast Go.Proofs.YtnfcadjckoebkaaW.PrintMore
set_option linter.unusedSimpArgs false
set_option linter.unusedVariables false
attribute [local go_sem] min2_int min_two
theorem ret_bool {a b : Bool} (h : a = b) : Ending.returned (.bool a) = .returned (.bool b) := by rw [h]
set_option maxHeartbeats 1000000 in
theorem rr_calls (s : S23) (b : Bool) (hs : Sy.rightB s = b) (w : World) :
    Calls Try.prog 40 #[.agg #[.int .i64 s.f0, .int .i64 s.f1, .int .i64 s.f2]] w fun e w' => e = .returned (.bool b) ∧ Below w.heap.size w w' := by
  subst hs
  have HB := Aside0.mk (keep_alloc w (.cells #[.int .i64 s.f0, .int .i64 s.f1, .int .i64 s.f2] 23))
  go_enter Try.func40, Try.ntmps40
  go_wp2
  all_goals
    go_ret
    refine ⟨ret_bool ?_, HB.out⟩
    clear HB
    first
      | (refine (decide_eq_false_iff_not.mpr ?_).symm; omega)
      | (rw [mul3 ⟨by assumption, by assumption⟩ ⟨by assumption, by assumption⟩ ⟨by assumption, by assumption⟩]; unfold Sy.rightB; apply decide_eq_decide.mpr; omega)
set_option maxHeartbeats 2000000 in
theorem rconv_no (s : S23) (c size step : Int) (w : World) (hn : ¬ (Sy.rightB s = true ∧ (1 ≤ c ∧ c ≤ 8) ∧ (1 ≤ size ∧ size ≤ s.f1 ∧ size ≤ s.f2) ∧ 1 ≤ step ∧ step ≤ 12)) :
    Calls Try.prog 38 #[.agg #[.int .i64 s.f0, .int .i64 s.f1, .int .i64 s.f2], .int .i64 c, .int .i64 size, .int .i64 step] w fun e w' => e = .returned (shapeV none) ∧ Below w.heap.size w w' := by
  have I0 := Aside0.mk (And.intro (below_alloc (keep_alloc w (.cells #[.int .i64 s.f0, .int .i64 s.f1, .int .i64 s.f2] 23)) (.cells #[.int .i64 0, .int .i64 0, .int .i64 0] 23)) (And.intro (blk_alloc (blk_new w (.cells #[.int .i64 s.f0, .int .i64 s.f1, .int .i64 s.f2] 23)) (.cells #[.int .i64 0, .int .i64 0, .int .i64 0] 23)) (blk_new1 w (.cells #[.int .i64 s.f0, .int .i64 s.f1, .int .i64 s.f2] 23) (.cells #[.int .i64 0, .int .i64 0, .int .i64 0] 23))))
  cases hs : Sy.rightB s with
  | true =>
    have HN := Aside0.mk (show ¬ ((1 ≤ c ∧ c ≤ 8) ∧ (1 ≤ size ∧ size ≤ s.f1 ∧ size ≤ s.f2) ∧ 1 ≤ step ∧ step ≤ 12) from fun h => hn ⟨hs, h⟩)
    have HS := Aside0.mk hs
    clear hn hs
    go_enter Try.func38, Try.ntmps38
    go_wp2_with fail
    generalize (w.alloc (.cells #[.int .i64 s.f0, .int .i64 s.f1, .int .i64 s.f2] 23)).alloc (.cells #[.int .i64 0, .int .i64 0, .int .i64 0] 23) = W at *
    refine (rr_calls s _ HS.out _).mono ?_
    rintro e w1 ⟨rfl, hb⟩
    have I1 := carry hb I0
    clear hb I0
    obtain ⟨c0, c1, c2⟩ := box3 I1.out.2.1
    obtain ⟨z0, z1, z2⟩ := box3 I1.out.2.2
    obtain ⟨y0, y1, y2⟩ := free3 I1.out.2.2
    go_wp2_with fail
    all_goals first
      | (exfalso; have := HN.out; omega)
      | (refine bodyPost_ret (results_ct rfl _ _ (w.heap.size + 1) 23 #[.int .i64 0, .int .i64 0, .int .i64 0] (0, 0) _ rfl (put3 I1.out.2.2 _ _ _) Try.underlying23 rfl (by kernel_rfl)) rfl ?_
         exact ⟨rfl, below_put3 I1.out.1 (Nat.le_succ _) _ _ _⟩)
  | false =>
    have HS := Aside0.mk hs
    clear hs hn
    go_enter Try.func38, Try.ntmps38
    go_wp2_with fail
    generalize (w.alloc (.cells #[.int .i64 s.f0, .int .i64 s.f1, .int .i64 s.f2] 23)).alloc (.cells #[.int .i64 0, .int .i64 0, .int .i64 0] 23) = W at *
    refine (rr_calls s _ HS.out _).mono ?_
    rintro e w1 ⟨rfl, hb⟩
    have I1 := carry hb I0
    clear hb I0
    obtain ⟨z0, z1, z2⟩ := box3 I1.out.2.2
    obtain ⟨y0, y1, y2⟩ := free3 I1.out.2.2
    go_wp2_with fail
    refine bodyPost_ret (results_ct rfl _ _ (w.heap.size + 1) 23 #[.int .i64 0, .int .i64 0, .int .i64 0] (0, 0) _ rfl (put3 I1.out.2.2 _ _ _) Try.underlying23 rfl (by kernel_rfl)) rfl ?_
    exact ⟨rfl, below_put3 I1.out.1 (Nat.le_succ _) _ _ _⟩
set_option maxHeartbeats 2000000 in
theorem rconv_yes (s : S23) (c size step : Int) (w : World) (hs : Sy.rightB s = true) (hc : 1 ≤ c ∧ c ≤ 8) (hz : 1 ≤ size ∧ size ≤ s.f1 ∧ size ≤ s.f2) (hp : 1 ≤ step ∧ step ≤ 12) (p q : Int) (r : Bool) (ep : (s.f1 - size) / step + 1 = p) (eq : (s.f2 - size) / step + 1 = q) (hr : Sy.rightB ⟨c, p, q⟩ = r) :
    Calls Try.prog 38 #[.agg #[.int .i64 s.f0, .int .i64 s.f1, .int .i64 s.f2], .int .i64 c, .int .i64 size, .int .i64 step] w fun e w' => e = .returned (shapeV (if r = true then some ⟨c, p, q⟩ else none)) ∧ Below w.heap.size w w' := by
  have I0 := Aside0.mk (And.intro (below_alloc (keep_alloc w (.cells #[.int .i64 s.f0, .int .i64 s.f1, .int .i64 s.f2] 23)) (.cells #[.int .i64 0, .int .i64 0, .int .i64 0] 23)) (And.intro (blk_alloc (blk_new w (.cells #[.int .i64 s.f0, .int .i64 s.f1, .int .i64 s.f2] 23)) (.cells #[.int .i64 0, .int .i64 0, .int .i64 0] 23)) (blk_new1 w (.cells #[.int .i64 s.f0, .int .i64 s.f1, .int .i64 s.f2] 23) (.cells #[.int .i64 0, .int .i64 0, .int .i64 0] 23))))
  obtain ⟨-, r1, r2, -⟩ := right_bd hs
  have HS := Aside0.mk hs
  have HT := Aside0.mk hr
  have EP := Aside0.mk ep
  have EQ := Aside0.mk eq
  clear hs hr ep eq
  obtain ⟨c1, c2⟩ := hc
  obtain ⟨z1, z2, z3⟩ := hz
  obtain ⟨p1, p2⟩ := hp
  obtain ⟨r1, r3⟩ := r1
  obtain ⟨r2, r4⟩ := r2
  have a0 : 0 ≤ (s.f1 - size) / step := Int.ediv_nonneg (by omega) (by omega)
  have a1 : (s.f1 - size) / step ≤ s.f1 - size := Int.ediv_le_self _ (by omega)
  have b0 : 0 ≤ (s.f2 - size) / step := Int.ediv_nonneg (by omega) (by omega)
  have b1 : (s.f2 - size) / step ≤ s.f2 - size := Int.ediv_le_self _ (by omega)
  go_enter Try.func38, Try.ntmps38
  go_wp2_with fail
  generalize (w.alloc (.cells #[.int .i64 s.f0, .int .i64 s.f1, .int .i64 s.f2] 23)).alloc (.cells #[.int .i64 0, .int .i64 0, .int .i64 0] 23) = W at *
  refine (rr_calls s _ HS.out _).mono ?_
  rintro e w1 ⟨rfl, hb⟩
  have I1 := carry hb I0
  clear hb I0
  obtain ⟨d0, d1, d2⟩ := box3 I1.out.2.1
  have g1 := pw_cell_below (keep_alloc w1 (.cells #[.int .i64 0, .int .i64 0, .int .i64 0] 23)) d1
  have g2 := pw_cell_below (keep_alloc w1 (.cells #[.int .i64 0, .int .i64 0, .int .i64 0] 23)) d2
  have hz0 : ¬ step = 0 := by omega
  have e1 : IntKind.i64.wrap (s.f1 - size) = s.f1 - size := IntWalk.i64_in _ (by omega)
  have e2 : IntKind.i64.wrap (s.f2 - size) = s.f2 - size := IntWalk.i64_in _ (by omega)
  have e3 : (s.f1 - size).tdiv step = (s.f1 - size) / step := Int.tdiv_eq_ediv_of_nonneg (by omega)
  have e4 : (s.f2 - size).tdiv step = (s.f2 - size) / step := Int.tdiv_eq_ediv_of_nonneg (by omega)
  have e5 : IntKind.i64.wrap ((s.f1 - size) / step) = (s.f1 - size) / step := IntWalk.i64_in _ (by omega)
  have e6 : IntKind.i64.wrap ((s.f2 - size) / step) = (s.f2 - size) / step := IntWalk.i64_in _ (by omega)
  have e7 : IntKind.i64.wrap ((s.f1 - size) / step + 1) = p := (IntWalk.i64_in _ (by omega)).trans EP.out
  have e8 : IntKind.i64.wrap ((s.f2 - size) / step + 1) = q := (IntWalk.i64_in _ (by omega)).trans EQ.out
  have HE := And.intro e1 (And.intro e2 (And.intro e3 (And.intro e4 (And.intro e5 (And.intro e6 (And.intro e7 e8))))))
  have HE := Aside0.mk HE
  clear e1 e2 e3 e4 e5 e6 e7 e8
  go_wp2_with fail
  all_goals first
    | (exfalso; omega)
    | skip
  all_goals
    obtain ⟨e1, e2, e3, e4, e5, e6, e7, e8⟩ := HE.out
    go_region
    clear e1 e2 e3 e4 e5 e6 e7 e8 HE g1 g2 d0 d1 d2
    have I2 := carry (below_drew1 (keep_alloc w1 (.cells #[.int .i64 c, .int .i64 p, .int .i64 q] 23))) I1
    have J2 := Aside0.mk (And.intro I2.out (blk_drew (blk_new w1 (.cells #[.int .i64 c, .int .i64 p, .int .i64 q] 23))))
    have hlt : w.heap.size + 1 < w1.heap.size := blk_lt I1.out.2.2
    clear I1 I2 EP EQ a0 a1 b0 b1
    generalize (w1.alloc (.cells #[.int .i64 c, .int .i64 p, .int .i64 q] 23)).drew = W2 at *
    generalize w1.heap.size = g at *
    obtain ⟨d0, d1, d2⟩ := box3 J2.out.2
    cases r
    all_goals
      go_wp2_with fail
      refine (rr_calls ⟨c, p, q⟩ _ HT.out _).mono ?_
      rintro e w3 ⟨rfl, hb⟩
      have I3 := carry hb J2
      clear hb J2 d0 d1 d2
      obtain ⟨d0, d1, d2⟩ := box3 I3.out.2
      obtain ⟨z0, z1, z2⟩ := box3 I3.out.1.2.2
      obtain ⟨y0, y1, y2⟩ := free3 I3.out.1.2.2
      go_wp2_with fail
      refine bodyPost_ret (results_ct rfl _ _ (w.heap.size + 1) 23 #[_, _, _] (0, 0) _ rfl (put3 I3.out.1.2.2 _ _ _) Try.underlying23 rfl (by kernel_rfl)) rfl ?_
      exact ⟨rfl, below_put3 I3.out.1.1 (Nat.le_succ _) _ _ _⟩
theorem rconv_calls (s : S23) (c size step : Int) (w : World) :
    Calls Try.prog 38 #[.agg #[.int .i64 s.f0, .int .i64 s.f1, .int .i64 s.f2], .int .i64 c, .int .i64 size, .int .i64 step] w fun e w' => e = .returned (shapeV (Sy.convO s c size step)) ∧ Below w.heap.size w w' := by
  by_cases h : Sy.rightB s = true ∧ (1 ≤ c ∧ c ≤ 8) ∧ (1 ≤ size ∧ size ≤ s.f1 ∧ size ≤ s.f2) ∧ 1 ≤ step ∧ step ≤ 12
  · have e : Sy.convO s c size step = if Sy.rightB ⟨c, (s.f1 - size) / step + 1, (s.f2 - size) / step + 1⟩ = true then some ⟨c, (s.f1 - size) / step + 1, (s.f2 - size) / step + 1⟩ else none := by
      unfold Sy.convO
      by_cases ht : Sy.rightB ⟨c, (s.f1 - size) / step + 1, (s.f2 - size) / step + 1⟩ = true
      · rw [if_pos ht, if_pos ⟨h.1, h.2.2.1.1, h.2.2.1.2.1, h.2.2.1.2.2, h.2.2.2.1, h.2.2.2.2, ht⟩]
      · rw [if_neg ht, if_neg (fun hh => ht hh.2.2.2.2.2.2)]
    rw [e]
    exact rconv_yes s c size step w h.1 h.2.1 h.2.2.1 h.2.2.2 _ _ _ rfl rfl rfl
  · have e : Sy.convO s c size step = none := by
      unfold Sy.convO
      rw [if_neg (fun hh => h ⟨hh.1, by have := (right_bd hh.2.2.2.2.2.2).1; exact this, ⟨hh.2.1, hh.2.2.1, hh.2.2.2.1⟩, hh.2.2.2.2.1, hh.2.2.2.2.2.1⟩)]
    rw [e]
    exact rconv_no s c size step w h
theorem I0_two (w : World) (s : S23) : Aside0 (Below w.heap.size w ((w.alloc (.cells #[.int .i64 s.f0, .int .i64 s.f1, .int .i64 s.f2] 23)).alloc (.cells #[.int .i64 0, .int .i64 0, .int .i64 0] 23)) ∧
    ((w.alloc (.cells #[.int .i64 s.f0, .int .i64 s.f1, .int .i64 s.f2] 23)).alloc (.cells #[.int .i64 0, .int .i64 0, .int .i64 0] 23)).heap[w.heap.size]? = some (.cells #[.int .i64 s.f0, .int .i64 s.f1, .int .i64 s.f2] 23 (0, 0)) ∧
    ((w.alloc (.cells #[.int .i64 s.f0, .int .i64 s.f1, .int .i64 s.f2] 23)).alloc (.cells #[.int .i64 0, .int .i64 0, .int .i64 0] 23)).heap[w.heap.size + 1]? = some (.cells #[.int .i64 0, .int .i64 0, .int .i64 0] 23 (0, 0))) :=
  ⟨below_alloc (keep_alloc w _) _, blk_alloc (blk_new w _) _, blk_new1 w _ _⟩
set_option maxHeartbeats 2000000 in
theorem rpool_no (s : S23) (size : Int) (w : World) (b : Bool) (hs : Sy.rightB s = b) (hn : ¬ (b = true ∧ 1 ≤ size ∧ s.f1 % size = 0 ∧ s.f2 % size = 0)) :
    Calls Try.prog 39 #[.agg #[.int .i64 s.f0, .int .i64 s.f1, .int .i64 s.f2], .int .i64 size] w fun e w' => e = .returned (shapeV none) ∧ Below w.heap.size w w' := by
  have I0 := I0_two w s
  have HN := Aside0.mk hn
  have r1 : b = true → 1 ≤ s.f1 ∧ 1 ≤ s.f2 := fun h => by obtain ⟨-, r1, r2, -⟩ := right_bd (hs.trans h); omega
  have HR := Aside0.mk r1
  have HS := Aside0.mk hs
  clear hn hs r1
  go_enter Try.func39, Try.ntmps39
  go_wp2_with fail
  generalize (w.alloc (.cells #[.int .i64 s.f0, .int .i64 s.f1, .int .i64 s.f2] 23)).alloc (.cells #[.int .i64 0, .int .i64 0, .int .i64 0] 23) = W at *
  refine (rr_calls s _ HS.out _).mono ?_
  rintro e w1 ⟨rfl, hb⟩
  have I1 := carry hb I0
  clear hb I0
  obtain ⟨d0, d1, d2⟩ := box3 I1.out.2.1
  obtain ⟨z0, z1, z2⟩ := box3 I1.out.2.2
  obtain ⟨y0, y1, y2⟩ := free3 I1.out.2.2
  cases b with
  | false =>
    go_wp2_with fail
    refine bodyPost_ret (results_ct rfl _ _ (w.heap.size + 1) 23 #[.int .i64 0, .int .i64 0, .int .i64 0] (0, 0) _ rfl (put3 I1.out.2.2 _ _ _) Try.underlying23 rfl (by kernel_rfl)) rfl ?_
    exact ⟨rfl, below_put3 I1.out.1 (Nat.le_succ _) _ _ _⟩
  | true =>
    obtain ⟨q1, q2⟩ := HR.out rfl
    clear HR
    by_cases hz : 1 ≤ size
    · have hz0 : ¬ size = 0 := by omega
      have m1 : 0 ≤ s.f1 % size := Int.emod_nonneg _ hz0
      have m2 : 0 ≤ s.f2 % size := Int.emod_nonneg _ hz0
      go_wp2_with fail
      all_goals first
        | (exfalso; have := HN.out; simp_all; done)
        | (refine bodyPost_ret (results_ct rfl _ _ (w.heap.size + 1) 23 #[.int .i64 0, .int .i64 0, .int .i64 0] (0, 0) _ rfl (put3 I1.out.2.2 _ _ _) Try.underlying23 rfl (by kernel_rfl)) rfl ?_
           exact ⟨rfl, below_put3 I1.out.1 (Nat.le_succ _) _ _ _⟩)
    · have hz1 : size < 1 := by omega
      clear HN
      go_wp2_with fail
      refine bodyPost_ret (results_ct rfl _ _ (w.heap.size + 1) 23 #[.int .i64 0, .int .i64 0, .int .i64 0] (0, 0) _ rfl (put3 I1.out.2.2 _ _ _) Try.underlying23 rfl (by kernel_rfl)) rfl ?_
      exact ⟨rfl, below_put3 I1.out.1 (Nat.le_succ _) _ _ _⟩
set_option maxHeartbeats 2000000 in
theorem rpool_yes (s : S23) (size : Int) (w : World) (hs : Sy.rightB s = true) (hz : 1 ≤ size) (h1 : s.f1 % size = 0) (h2 : s.f2 % size = 0) :
    Calls Try.prog 39 #[.agg #[.int .i64 s.f0, .int .i64 s.f1, .int .i64 s.f2], .int .i64 size] w fun e w' => e = .returned (shapeV (some ⟨s.f0, s.f1 / size, s.f2 / size⟩)) ∧ Below w.heap.size w w' := by
  have I0 := I0_two w s
  obtain ⟨-, ⟨r1, r3⟩, ⟨r2, r4⟩, -⟩ := right_bd hs
  have hz0 : ¬ size = 0 := by omega
  have hz1 : ¬ size < 1 := by omega
  have m1 : (s.f1 % size != 0) = false := by simp [h1]
  have m2 : (s.f2 % size != 0) = false := by simp [h2]
  have a0 : 0 ≤ s.f1 / size := Int.ediv_nonneg (by omega) (by omega)
  have a1 : s.f1 / size ≤ s.f1 := Int.ediv_le_self _ (by omega)
  have b0 : 0 ≤ s.f2 / size := Int.ediv_nonneg (by omega) (by omega)
  have b1 : s.f2 / size ≤ s.f2 := Int.ediv_le_self _ (by omega)
  have e1 : s.f1.tdiv size = s.f1 / size := Int.tdiv_eq_ediv_of_nonneg (by omega)
  have e2 : s.f2.tdiv size = s.f2 / size := Int.tdiv_eq_ediv_of_nonneg (by omega)
  have e3 : IntKind.i64.wrap (s.f1 / size) = s.f1 / size := IntWalk.i64_in _ (by omega)
  have e4 : IntKind.i64.wrap (s.f2 / size) = s.f2 / size := IntWalk.i64_in _ (by omega)
  have HE := Aside0.mk (And.intro e1 (And.intro e2 (And.intro e3 e4)))
  have HS := Aside0.mk hs
  clear hs h1 h2 e1 e2 e3 e4
  go_enter Try.func39, Try.ntmps39
  go_wp2_with fail
  generalize (w.alloc (.cells #[.int .i64 s.f0, .int .i64 s.f1, .int .i64 s.f2] 23)).alloc (.cells #[.int .i64 0, .int .i64 0, .int .i64 0] 23) = W at *
  refine (rr_calls s _ HS.out _).mono ?_
  rintro e w1 ⟨rfl, hb⟩
  have I1 := carry hb I0
  clear hb I0
  obtain ⟨d0, d1, d2⟩ := box3 I1.out.2.1
  obtain ⟨z0, z1, z2⟩ := box3 I1.out.2.2
  obtain ⟨y0, y1, y2⟩ := free3 I1.out.2.2
  go_wp2_with fail
  obtain ⟨e1, e2, e3, e4⟩ := HE.out
  go_region
  clear e1 e2 e3 e4 HE d0 d1 d2 z0 z1 z2
  go_wp2_with fail
  refine bodyPost_ret (results_ct rfl _ _ (w.heap.size + 1) 23 #[_, _, _] (0, 0) _ rfl (blk_drew (put3 I1.out.2.2 _ _ _)) Try.underlying23 rfl (by kernel_rfl)) rfl ?_
  exact ⟨rfl, below_drew1 (below_put3 I1.out.1 (Nat.le_succ _) _ _ _)⟩
theorem rpool_calls (s : S23) (size : Int) (w : World) :
    Calls Try.prog 39 #[.agg #[.int .i64 s.f0, .int .i64 s.f1, .int .i64 s.f2], .int .i64 size] w fun e w' => e = .returned (shapeV (Sy.poolO s size)) ∧ Below w.heap.size w w' := by
  unfold Sy.poolO
  by_cases h : Sy.rightB s = true ∧ 1 ≤ size ∧ s.f1 % size = 0 ∧ s.f2 % size = 0
  · rw [if_pos h]
    exact rpool_yes s size w h.1 h.2.1 h.2.2.1 h.2.2.2
  · rw [if_neg h]
    exact rpool_no s size w _ rfl h
end Go.Proofs.Ytnfcadjckoebkaa.P
