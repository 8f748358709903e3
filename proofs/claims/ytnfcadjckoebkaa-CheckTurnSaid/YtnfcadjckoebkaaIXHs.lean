import Derived.Test.YtnfcadjckoebkaaIXSh
import Derived.Test.YtnfcadjckoebkaaIXSp
import Derived.Test.YtnfcadjckoebkaaIXHw
import Derived.WalkLawsBesides
import Derived.Lib.Hide
import Derived.Deep.RegionWith
import Derived.Deep.DeepCutAuto
import Derived.Deep.RegionHeld3
namespace Go.Proofs.Ytnfcadjckoebkaa.P
open Go.RowKit Go.Proofs.YtnfcadjckoebkaaW.PrintWords Go.Proofs.YtnfcadjckoebkaaW.PrintLast Go.Proofs.YtnfcadjckoebkaaW.PrintMore
attribute [local go_sem] cell_alloc_drewN frozen_alloc_drewN set_alloc_drewN set_drewN
theorem within_calls (a b c : Int) (w : World) : Calls Try.prog 106 #[.int .i64 a, .int .i64 b, .int .i64 c] w fun e w' => e = .returned (.bool (decide (b ≤ a ∧ a ≤ c))) ∧ Drawn0 w w' := by
  refine (shape_within.calls a b c (decide (b ≤ a ∧ a ≤ c)) w ?_).mono fun e w' h => h
  unfold shape_within.f
  by_cases h : a ≥ b
  · rw [if_pos h]; simp [h]
  · rw [if_neg h]; simp; omega
def sideC (n size step : Int) : Int := if 1 ≤ size ∧ size ≤ n ∧ 1 ≤ step ∧ step ≤ 12 then (n - size) / step + 1 else 0
def sideP (n size : Int) : Int := if 1 ≤ size ∧ n % size = 0 then n / size else 0
theorem sideC_calls (n size step : Int) (a b : Nat) (w : World) (hn : 1 ≤ n) (hn2 : n ≤ 12) (hs : size ≤ 999999) (ha : w.cell? ⟨a, 0, none⟩ = some (.int .i64 size)) (hb : w.cell? ⟨b, 0, none⟩ = some (.int .i64 step)) :
    Calls Try.prog 119 #[.int .i64 n, .pointer (some ⟨a, 0, none⟩), .pointer (some ⟨b, 0, none⟩)] w fun e w' => e = .returned (.int .i64 (sideC n size step)) ∧ Drawn0 w w' := by
  by_cases h1 : 1 ≤ size ∧ size ≤ n
  · by_cases h2 : 1 ≤ step ∧ step ≤ 12
    · have hd1 : decide (1 ≤ size ∧ size ≤ n) = true := by simpa using h1
      have hd2 : decide (1 ≤ step ∧ step ≤ 12) = true := by simpa using h2
      have E : sideC n size step = (n - size) / step + 1 := by unfold sideC; rw [if_pos ⟨h1.1, h1.2, h2.1, h2.2⟩]
      have HE := Lib.hid E
      clear E
      obtain ⟨h11, h12⟩ := h1
      obtain ⟨h21, h22⟩ := h2
      have b1 : (n - size) / step ≤ n - size := Int.ediv_le_self _ (by omega)
      have b0 : 0 ≤ (n - size) / step := Int.ediv_nonneg (by omega) (by omega)
      go_enter Try.func119, Try.ntmps119
      go_wp2_with (go_at_call 106; refine (within_calls _ _ _ _).mono ?_; rintro e w' ⟨rfl, ⟨⟨m, rfl⟩⟩⟩)
      go_ret
      exact ⟨ret_i64 HE.out.symm, by repeat (first | exact Drawn0.refl _ | apply Drawn0.step)⟩
    · have hd1 : decide (1 ≤ size ∧ size ≤ n) = true := by simpa using h1
      have hd2 : decide (1 ≤ step ∧ step ≤ 12) = false := by simpa using h2
      have E : sideC n size step = 0 := by unfold sideC; rw [if_neg (by omega)]
      have HE := Lib.hid E
      clear E h2
      go_enter Try.func119, Try.ntmps119
      go_wp2_with (go_at_call 106; refine (within_calls _ _ _ _).mono ?_; rintro e w' ⟨rfl, ⟨⟨m, rfl⟩⟩⟩)
      go_ret
      exact ⟨ret_i64 HE.out.symm, by repeat (first | exact Drawn0.refl _ | apply Drawn0.step)⟩
  · have hd1 : decide (1 ≤ size ∧ size ≤ n) = false := by simpa using h1
    have E : sideC n size step = 0 := by unfold sideC; rw [if_neg (by omega)]
    have HE := Lib.hid E
    clear E h1
    go_enter Try.func119, Try.ntmps119
    go_wp2_with (go_at_call 106; refine (within_calls _ _ _ _).mono ?_; rintro e w' ⟨rfl, ⟨⟨m, rfl⟩⟩⟩)
    go_ret
    exact ⟨ret_i64 HE.out.symm, by repeat (first | exact Drawn0.refl _ | apply Drawn0.step)⟩
theorem sideP_calls (n size : Int) (a : Nat) (w : World) (hn : 1 ≤ n) (hn2 : n ≤ 12) (ha : w.cell? ⟨a, 0, none⟩ = some (.int .i64 size)) :
    Calls Try.prog 120 #[.int .i64 n, .pointer (some ⟨a, 0, none⟩)] w fun e w' => e = .returned (.int .i64 (sideP n size)) ∧ Drawn0 w w' := by
  by_cases h1 : 1 ≤ size
  · have hz : ¬ size = 0 := by omega
    have hlt : ¬ size < 1 := by omega
    have m0 : 0 ≤ n % size := Int.emod_nonneg _ hz
    by_cases h2 : n % size = 0
    · have hb : (n % size != 0) = false := by simp [h2]
      have E : sideP n size = n / size := by unfold sideP; rw [if_pos ⟨h1, h2⟩]
      have HE := Lib.hid E
      clear E h2
      have b1 : n / size ≤ n := Int.ediv_le_self _ (by omega)
      have b0 : 0 ≤ n / size := Int.ediv_nonneg (by omega) (by omega)
      go_enter Try.func120, Try.ntmps120
      go_wp2
      go_ret
      exact ⟨ret_i64 HE.out.symm, Drawn0.refl _⟩
    · have hb : (n % size != 0) = true := by simp [h2]
      have E : sideP n size = 0 := by unfold sideP; rw [if_neg (by omega)]
      have HE := Lib.hid E
      clear E h2
      go_enter Try.func120, Try.ntmps120
      go_wp2
      go_ret
      exact ⟨ret_i64 HE.out.symm, Drawn0.refl _⟩
  · have hlt : size < 1 := by omega
    have E : sideP n size = 0 := by unfold sideP; rw [if_neg (by omega)]
    have HE := Lib.hid E
    clear E h1
    go_enter Try.func120, Try.ntmps120
    go_wp2
    go_ret
    exact ⟨ret_i64 HE.out.symm, Drawn0.refl _⟩
theorem within_f (a b c : Int) : shape_within.f a b c = some (decide (b ≤ a ∧ a ≤ c)) := by
  unfold shape_within.f
  by_cases h : a ≥ b
  · rw [if_pos h]; simp [h]
  · rw [if_neg h]; simp; omega
theorem mul3 {x y z : Int} (hx : 1 ≤ x ∧ x ≤ 8) (hy : 1 ≤ y ∧ y ≤ 12) (hz : 1 ≤ z ∧ z ≤ 12) : wrap64 ((wrap64 (x * y)) * z) = x * y * z := by
  have h1 : 0 ≤ x * y := Int.mul_nonneg (by omega) (by omega)
  have h2 : x * y ≤ 8 * 12 := Int.mul_le_mul hx.2 hy.2 (by omega) (by omega)
  have h3 : 0 ≤ x * y * z := Int.mul_nonneg h1 (by omega)
  have h4 : x * y * z ≤ 96 * 12 := Int.mul_le_mul h2 hz.2 (by omega) (by omega)
  have e : wrap64 (x * y) = x * y := by unfold wrap64; omega
  rw [e]
  unfold wrap64; omega
theorem right_f (s : S23) : shape_Right.f s.f0 s.f1 s.f2 = some (Sy.rightB s) := by
  unfold shape_Right.f
  simp only [within_f, Option.bind_some]
  by_cases h0 : 1 ≤ s.f0 ∧ s.f0 ≤ 8
  · by_cases h1 : 1 ≤ s.f1 ∧ s.f1 ≤ 12
    · by_cases h2 : 1 ≤ s.f2 ∧ s.f2 ≤ 12
      · rw [if_pos (by simpa using h0), if_pos (by simpa using h1), if_pos (by simpa using h2), mul3 h0 h1 h2]
        simp [Sy.rightB, h0, h1, h2]
      · rw [if_pos (by simpa using h0), if_pos (by simpa using h1), if_neg (by simpa using h2)]
        congr 1; symm; simp only [Sy.rightB, decide_eq_false_iff_not]; omega
    · rw [if_pos (by simpa using h0), if_neg (by simpa using h1)]
      congr 1; symm; simp only [Sy.rightB, decide_eq_false_iff_not]; omega
  · rw [if_neg (by simpa using h0)]
    congr 1; symm; simp only [Sy.rightB, decide_eq_false_iff_not]; omega
theorem right_calls (s : S23) (w : World) : Calls Try.prog 103 #[.agg #[.int .i64 s.f0, .int .i64 s.f1, .int .i64 s.f2]] w fun e w' => e = .returned (.bool (Sy.rightB s)) ∧ Below w.heap.size w w' :=
  shape_Right.calls s.f0 s.f1 s.f2 (Sy.rightB s) w (right_f s)
theorem right_any (a b c : Int) (r : Bool) (h : Sy.rightB ⟨a, b, c⟩ = r) (w : World) : Calls Try.prog 103 #[.agg #[.int .i64 a, .int .i64 b, .int .i64 c]] w fun e w' => e = .returned (.bool r) ∧ Below w.heap.size w w' :=
  h ▸ right_calls ⟨a, b, c⟩ w
def sizedV (t : S23) : Value := .tuple (if Sy.rightB t = true then #[.agg #[.int .i64 t.f0, .int .i64 t.f1, .int .i64 t.f2], .bool true] else #[.agg #[.int .i64 0, .int .i64 0, .int .i64 0], .bool false])
theorem sizedV_yes {t : S23} (h : Sy.rightB t = true) : sizedV t = .tuple #[.agg #[.int .i64 t.f0, .int .i64 t.f1, .int .i64 t.f2], .bool true] := by unfold sizedV; rw [if_pos h]
theorem sizedV_no {t : S23} (h : Sy.rightB t = false) : sizedV t = .tuple #[.agg #[.int .i64 0, .int .i64 0, .int .i64 0], .bool false] := by unfold sizedV; rw [if_neg (by rw [h]; decide)]
set_option maxHeartbeats 4000000 in
theorem sizedC_calls (s : S23) (c size step : Int) (a b : Nat) (w : World) (hr : Sy.rightB s = true) (hs : size ≤ 999999) (ha : w.cell? ⟨a, 0, none⟩ = some (.int .i64 size)) (hb : w.cell? ⟨b, 0, none⟩ = some (.int .i64 step)) :
    Calls Try.prog 118 #[.agg #[.int .i64 s.f0, .int .i64 s.f1, .int .i64 s.f2], .int .i64 c, .func (.func 119) #[] #[.pointer (some ⟨a, 0, none⟩), .pointer (some ⟨b, 0, none⟩)]] w fun e w' => e = .returned (sizedV ⟨c, sideC s.f1 size step, sideC s.f2 size step⟩) ∧ Below w.heap.size w w' := by
  obtain ⟨r1, r2, r3, r4⟩ : 1 ≤ s.f1 ∧ s.f1 ≤ 12 ∧ 1 ≤ s.f2 ∧ s.f2 ≤ 12 := by simp [Sy.rightB] at hr; omega
  have HR := Aside0.mk hr
  have HA := Aside0.mk ha
  have HB := Aside0.mk hb
  clear ha hb hr
  go_enter Try.func118, Try.ntmps118
  go_upto_region 1 with fail
  have Q1 : Aside0 (Below w.heap.size w ((w.alloc (.cells #[.int .i64 s.f0, .int .i64 s.f1, .int .i64 s.f2] 23)).alloc (.cells #[.int .i64 0, .int .i64 0, .int .i64 0] 23))) := ⟨below_alloc (below_alloc (Below.refl _ _) _) _⟩
  have Q2 : Aside0 (((w.alloc (.cells #[.int .i64 s.f0, .int .i64 s.f1, .int .i64 s.f2] 23)).alloc (.cells #[.int .i64 0, .int .i64 0, .int .i64 0] 23)).heap[w.heap.size]? = some (.cells #[.int .i64 s.f0, .int .i64 s.f1, .int .i64 s.f2] 23 (0, 0))) := ⟨blk_alloc (blk_new _ _) _⟩
  have Q3 : Aside0 (((w.alloc (.cells #[.int .i64 s.f0, .int .i64 s.f1, .int .i64 s.f2] 23)).alloc (.cells #[.int .i64 0, .int .i64 0, .int .i64 0] 23)).heap[w.heap.size + 1]? = some (.cells #[.int .i64 0, .int .i64 0, .int .i64 0] 23 (0, 0))) := ⟨blk_new1 _ _ _⟩
  have Q4 : Aside0 (((w.alloc (.cells #[.int .i64 s.f0, .int .i64 s.f1, .int .i64 s.f2] 23)).alloc (.cells #[.int .i64 0, .int .i64 0, .int .i64 0] 23)).heap.size = w.heap.size + 1 + 1) := ⟨by simp⟩
  generalize ((w.alloc (.cells #[.int .i64 s.f0, .int .i64 s.f1, .int .i64 s.f2] 23)).alloc (.cells #[.int .i64 0, .int .i64 0, .int .i64 0] 23)) = W at *
  have f1 : W.cell? ⟨w.heap.size, 1, none⟩ = some (.int .i64 s.f1) := (blk_cell Q2.out 1).trans rfl
  have f2 : W.cell? ⟨w.heap.size, 2, none⟩ = some (.int .i64 s.f2) := (blk_cell Q2.out 2).trans rfl
  have n1 := World.new_ne W _ f1
  have n2 := World.new_ne W _ f2
  have HA2 := Aside0.mk (pw_cell_below Q1.out HA.out)
  have HB2 := Aside0.mk (pw_cell_below Q1.out HB.out)
  go_cut [8] (fun s8 wc => ∃ g : Nat, s8 = .pointer (some ⟨g, 0, none⟩) ∧ Aside0 (Below w.heap.size w wc) ∧ Aside0 (wc.heap[w.heap.size]? = some (.cells #[.int .i64 s.f0, .int .i64 s.f1, .int .i64 s.f2] 23 (0, 0))) ∧ Aside0 (wc.heap[w.heap.size + 1]? = some (.cells #[.int .i64 0, .int .i64 0, .int .i64 0] 23 (0, 0))) ∧ Aside0 (wc.heap[g]? = some (.cells #[.int .i64 c, .int .i64 (sideC s.f1 size step), .int .i64 (sideC s.f2 size step)] 23 (0, 0))) ∧ Aside0 (w.heap.size + 1 < g))
  case first =>
    go_region_held3 (fun w' => w'.cell? ⟨w.heap.size, 1, none⟩ = some (.int .i64 s.f1) ∧ w'.cell? ⟨w.heap.size, 2, none⟩ = some (.int .i64 s.f2)) (go_keep) (first | (go_at_call 119; refine (sideC_calls _ size step a b _ ?_ ?_ ?_ ?_ ?_).mono ?_; (omega); (omega); (exact hs); (exact pw_cell_below (by with_reducible repeat (first | exact Below.refl _ _ | apply below_alloc | apply pw_below_drewN | apply below_drew1)) HA2.out); (exact pw_cell_below (by with_reducible repeat (first | exact Below.refl _ _ | apply below_alloc | apply pw_below_drewN | apply below_drew1)) HB2.out); rintro e w' ⟨rfl, ⟨⟨m, rfl⟩⟩⟩))
    all_goals
      go_wp2_with fail
      go_meet
      refine ⟨_, rfl, ⟨?_⟩, ⟨?_⟩, ⟨?_⟩, ⟨?_⟩, ⟨?_⟩⟩
      · with_reducible repeat (first | exact Q1.out | apply below_alloc | apply pw_below_drewN | apply below_drew1)
      · with_reducible repeat (first | exact Q2.out | refine blk_drewN ?_ _ | refine blk_drew ?_ | refine blk_alloc ?_ _)
      · with_reducible repeat (first | exact Q3.out | refine blk_drewN ?_ _ | refine blk_drew ?_ | refine blk_alloc ?_ _)
      · with_reducible repeat (first | exact blk_new_drewN _ _ _ | exact blk_new_drew _ _ | exact blk_new _ _ | refine blk_drewN ?_ _ | refine blk_drew ?_)
      · have := Q4.out; omega
  case rest =>
    obtain ⟨g, rfl, HL, H3, H6, H8, HG⟩ := hcut
    have f0 : wc.cell? ⟨w.heap.size, 0, none⟩ = some (.int .i64 s.f0) := (blk_cell H3.out 0).trans rfl
    have f1 : wc.cell? ⟨w.heap.size, 1, none⟩ = some (.int .i64 s.f1) := (blk_cell H3.out 1).trans rfl
    have f2 : wc.cell? ⟨w.heap.size, 2, none⟩ = some (.int .i64 s.f2) := (blk_cell H3.out 2).trans rfl
    go_wp2_with fail
    refine (right_any _ _ _ true HR.out _).mono ?_
    rintro e w2 ⟨rfl, hb2⟩
    have K8 := Aside0.mk (blk_below H8.out hb2)
    have K6 := Aside0.mk (blk_below H6.out hb2)
    have L2 := Aside0.mk (below_step HL.out hb2)
    clear f0 f1 f2 H3 H6 H8 HL hb2
    have f0 : w2.cell? ⟨g, 0, none⟩ = some (.int .i64 c) := (blk_cell K8.out 0).trans rfl
    have f1 : w2.cell? ⟨g, 1, none⟩ = some (.int .i64 (sideC s.f1 size step)) := (blk_cell K8.out 1).trans rfl
    have f2 : w2.cell? ⟨g, 2, none⟩ = some (.int .i64 (sideC s.f2 size step)) := (blk_cell K8.out 2).trans rfl
    cases hq : Sy.rightB ⟨c, sideC s.f1 size step, sideC s.f2 size step⟩ with
    | true =>
      have HQ := Aside0.mk hq
      clear hq
      go_wp2_with fail
      refine (right_any _ _ _ true HQ.out _).mono ?_
      rintro e w3 ⟨rfl, hb3⟩
      have J8 := Aside0.mk (blk_below K8.out hb3)
      have J6 := Aside0.mk (blk_below K6.out hb3)
      have L3 := Aside0.mk (below_step L2.out hb3)
      clear f0 f1 f2 K6 K8 L2 hb3
      have f0 : w3.cell? ⟨g, 0, none⟩ = some (.int .i64 c) := (blk_cell J8.out 0).trans rfl
      have f1 : w3.cell? ⟨g, 1, none⟩ = some (.int .i64 (sideC s.f1 size step)) := (blk_cell J8.out 1).trans rfl
      have f2 : w3.cell? ⟨g, 2, none⟩ = some (.int .i64 (sideC s.f2 size step)) := (blk_cell J8.out 2).trans rfl
      have z0 : w3.frozen? ⟨w.heap.size + 1, 0, none⟩ = false := blk_frozen J6.out 0
      have z1 : w3.frozen? ⟨w.heap.size + 1, 1, none⟩ = false := blk_frozen J6.out 1
      have z2 : w3.frozen? ⟨w.heap.size + 1, 2, none⟩ = false := blk_frozen J6.out 2
      have c0 : w3.cell? ⟨w.heap.size + 1, 0, none⟩ = some (.int .i64 0) := (blk_cell J6.out 0).trans rfl
      have c1 : w3.cell? ⟨w.heap.size + 1, 1, none⟩ = some (.int .i64 0) := (blk_cell J6.out 1).trans rfl
      have c2 : w3.cell? ⟨w.heap.size + 1, 2, none⟩ = some (.int .i64 0) := (blk_cell J6.out 2).trans rfl
      go_wp2_with fail
      refine bodyPost_ret (results_ct rfl _ _ (w.heap.size + 1) 23 #[.int .i64 c, .int .i64 (sideC s.f1 size step), .int .i64 (sideC s.f2 size step)] (0, 0) _ rfl (blk_put (blk_put (blk_put J6.out 0 _ rfl) 1 _ rfl) 2 _ rfl) Try.underlying23 rfl (by kernel_rfl)) rfl ?_
      exact ⟨congrArg Ending.returned (sizedV_yes HQ.out).symm, below_set (below_set (below_set L3.out (Nat.le_succ _)) (Nat.le_succ _)) (Nat.le_succ _)⟩
    | false =>
      have HQ := Aside0.mk hq
      clear hq
      go_wp2_with fail
      refine (right_any _ _ _ false HQ.out _).mono ?_
      rintro e w3 ⟨rfl, hb3⟩
      have J6 := Aside0.mk (blk_below K6.out hb3)
      have L3 := Aside0.mk (below_step L2.out hb3)
      clear f0 f1 f2 K6 K8 L2 hb3
      have z0 : w3.frozen? ⟨w.heap.size + 1, 0, none⟩ = false := blk_frozen J6.out 0
      have z1 : w3.frozen? ⟨w.heap.size + 1, 1, none⟩ = false := blk_frozen J6.out 1
      have z2 : w3.frozen? ⟨w.heap.size + 1, 2, none⟩ = false := blk_frozen J6.out 2
      have c0 : w3.cell? ⟨w.heap.size + 1, 0, none⟩ = some (.int .i64 0) := (blk_cell J6.out 0).trans rfl
      have c1 : w3.cell? ⟨w.heap.size + 1, 1, none⟩ = some (.int .i64 0) := (blk_cell J6.out 1).trans rfl
      have c2 : w3.cell? ⟨w.heap.size + 1, 2, none⟩ = some (.int .i64 0) := (blk_cell J6.out 2).trans rfl
      go_wp2_with fail
      refine bodyPost_ret (results_ct rfl _ _ (w.heap.size + 1) 23 #[.int .i64 0, .int .i64 0, .int .i64 0] (0, 0) _ rfl (blk_put (blk_put (blk_put J6.out 0 _ rfl) 1 _ rfl) 2 _ rfl) Try.underlying23 rfl (by kernel_rfl)) rfl ?_
      exact ⟨congrArg Ending.returned (sizedV_no HQ.out).symm, below_set (below_set (below_set L3.out (Nat.le_succ _)) (Nat.le_succ _)) (Nat.le_succ _)⟩
set_option maxHeartbeats 4000000 in
theorem sizedP_calls (s : S23) (c size : Int) (a : Nat) (w : World) (hr : Sy.rightB s = true) (ha : w.cell? ⟨a, 0, none⟩ = some (.int .i64 size)) :
    Calls Try.prog 118 #[.agg #[.int .i64 s.f0, .int .i64 s.f1, .int .i64 s.f2], .int .i64 c, .func (.func 120) #[] #[.pointer (some ⟨a, 0, none⟩)]] w fun e w' => e = .returned (sizedV ⟨c, sideP s.f1 size, sideP s.f2 size⟩) ∧ Below w.heap.size w w' := by
  obtain ⟨r1, r2, r3, r4⟩ : 1 ≤ s.f1 ∧ s.f1 ≤ 12 ∧ 1 ≤ s.f2 ∧ s.f2 ≤ 12 := by simp [Sy.rightB] at hr; omega
  have HR := Aside0.mk hr
  have HA := Aside0.mk ha
  clear ha hr
  go_enter Try.func118, Try.ntmps118
  go_upto_region 1 with fail
  have Q1 : Aside0 (Below w.heap.size w ((w.alloc (.cells #[.int .i64 s.f0, .int .i64 s.f1, .int .i64 s.f2] 23)).alloc (.cells #[.int .i64 0, .int .i64 0, .int .i64 0] 23))) := ⟨below_alloc (below_alloc (Below.refl _ _) _) _⟩
  have Q2 : Aside0 (((w.alloc (.cells #[.int .i64 s.f0, .int .i64 s.f1, .int .i64 s.f2] 23)).alloc (.cells #[.int .i64 0, .int .i64 0, .int .i64 0] 23)).heap[w.heap.size]? = some (.cells #[.int .i64 s.f0, .int .i64 s.f1, .int .i64 s.f2] 23 (0, 0))) := ⟨blk_alloc (blk_new _ _) _⟩
  have Q3 : Aside0 (((w.alloc (.cells #[.int .i64 s.f0, .int .i64 s.f1, .int .i64 s.f2] 23)).alloc (.cells #[.int .i64 0, .int .i64 0, .int .i64 0] 23)).heap[w.heap.size + 1]? = some (.cells #[.int .i64 0, .int .i64 0, .int .i64 0] 23 (0, 0))) := ⟨blk_new1 _ _ _⟩
  have Q4 : Aside0 (((w.alloc (.cells #[.int .i64 s.f0, .int .i64 s.f1, .int .i64 s.f2] 23)).alloc (.cells #[.int .i64 0, .int .i64 0, .int .i64 0] 23)).heap.size = w.heap.size + 1 + 1) := ⟨by simp⟩
  generalize ((w.alloc (.cells #[.int .i64 s.f0, .int .i64 s.f1, .int .i64 s.f2] 23)).alloc (.cells #[.int .i64 0, .int .i64 0, .int .i64 0] 23)) = W at *
  have f1 : W.cell? ⟨w.heap.size, 1, none⟩ = some (.int .i64 s.f1) := (blk_cell Q2.out 1).trans rfl
  have f2 : W.cell? ⟨w.heap.size, 2, none⟩ = some (.int .i64 s.f2) := (blk_cell Q2.out 2).trans rfl
  have n1 := World.new_ne W _ f1
  have n2 := World.new_ne W _ f2
  have HA2 := Aside0.mk (pw_cell_below Q1.out HA.out)
  go_cut [8] (fun s8 wc => ∃ g : Nat, s8 = .pointer (some ⟨g, 0, none⟩) ∧ Aside0 (Below w.heap.size w wc) ∧ Aside0 (wc.heap[w.heap.size]? = some (.cells #[.int .i64 s.f0, .int .i64 s.f1, .int .i64 s.f2] 23 (0, 0))) ∧ Aside0 (wc.heap[w.heap.size + 1]? = some (.cells #[.int .i64 0, .int .i64 0, .int .i64 0] 23 (0, 0))) ∧ Aside0 (wc.heap[g]? = some (.cells #[.int .i64 c, .int .i64 (sideP s.f1 size), .int .i64 (sideP s.f2 size)] 23 (0, 0))) ∧ Aside0 (w.heap.size + 1 < g))
  case first =>
    go_region_held3 (fun w' => w'.cell? ⟨w.heap.size, 1, none⟩ = some (.int .i64 s.f1) ∧ w'.cell? ⟨w.heap.size, 2, none⟩ = some (.int .i64 s.f2)) (go_keep) (first | (go_at_call 120; refine (sideP_calls _ size a _ ?_ ?_ ?_).mono ?_; (omega); (omega); (exact pw_cell_below (by with_reducible repeat (first | exact Below.refl _ _ | apply below_alloc | apply pw_below_drewN | apply below_drew1)) HA2.out); rintro e w' ⟨rfl, ⟨⟨m, rfl⟩⟩⟩))
    all_goals
      go_wp2_with fail
      go_meet
      refine ⟨_, rfl, ⟨?_⟩, ⟨?_⟩, ⟨?_⟩, ⟨?_⟩, ⟨?_⟩⟩
      · with_reducible repeat (first | exact Q1.out | apply below_alloc | apply pw_below_drewN | apply below_drew1)
      · with_reducible repeat (first | exact Q2.out | refine blk_drewN ?_ _ | refine blk_drew ?_ | refine blk_alloc ?_ _)
      · with_reducible repeat (first | exact Q3.out | refine blk_drewN ?_ _ | refine blk_drew ?_ | refine blk_alloc ?_ _)
      · with_reducible repeat (first | exact blk_new_drewN _ _ _ | exact blk_new_drew _ _ | exact blk_new _ _ | refine blk_drewN ?_ _ | refine blk_drew ?_)
      · have := Q4.out; omega
  case rest =>
    obtain ⟨g, rfl, HL, H3, H6, H8, HG⟩ := hcut
    have f0 : wc.cell? ⟨w.heap.size, 0, none⟩ = some (.int .i64 s.f0) := (blk_cell H3.out 0).trans rfl
    have f1 : wc.cell? ⟨w.heap.size, 1, none⟩ = some (.int .i64 s.f1) := (blk_cell H3.out 1).trans rfl
    have f2 : wc.cell? ⟨w.heap.size, 2, none⟩ = some (.int .i64 s.f2) := (blk_cell H3.out 2).trans rfl
    go_wp2_with fail
    refine (right_any _ _ _ true HR.out _).mono ?_
    rintro e w2 ⟨rfl, hb2⟩
    have K8 := Aside0.mk (blk_below H8.out hb2)
    have K6 := Aside0.mk (blk_below H6.out hb2)
    have L2 := Aside0.mk (below_step HL.out hb2)
    clear f0 f1 f2 H3 H6 H8 HL hb2
    have f0 : w2.cell? ⟨g, 0, none⟩ = some (.int .i64 c) := (blk_cell K8.out 0).trans rfl
    have f1 : w2.cell? ⟨g, 1, none⟩ = some (.int .i64 (sideP s.f1 size)) := (blk_cell K8.out 1).trans rfl
    have f2 : w2.cell? ⟨g, 2, none⟩ = some (.int .i64 (sideP s.f2 size)) := (blk_cell K8.out 2).trans rfl
    cases hq : Sy.rightB ⟨c, sideP s.f1 size, sideP s.f2 size⟩ with
    | true =>
      have HQ := Aside0.mk hq
      clear hq
      go_wp2_with fail
      refine (right_any _ _ _ true HQ.out _).mono ?_
      rintro e w3 ⟨rfl, hb3⟩
      have J8 := Aside0.mk (blk_below K8.out hb3)
      have J6 := Aside0.mk (blk_below K6.out hb3)
      have L3 := Aside0.mk (below_step L2.out hb3)
      clear f0 f1 f2 K6 K8 L2 hb3
      have f0 : w3.cell? ⟨g, 0, none⟩ = some (.int .i64 c) := (blk_cell J8.out 0).trans rfl
      have f1 : w3.cell? ⟨g, 1, none⟩ = some (.int .i64 (sideP s.f1 size)) := (blk_cell J8.out 1).trans rfl
      have f2 : w3.cell? ⟨g, 2, none⟩ = some (.int .i64 (sideP s.f2 size)) := (blk_cell J8.out 2).trans rfl
      have z0 : w3.frozen? ⟨w.heap.size + 1, 0, none⟩ = false := blk_frozen J6.out 0
      have z1 : w3.frozen? ⟨w.heap.size + 1, 1, none⟩ = false := blk_frozen J6.out 1
      have z2 : w3.frozen? ⟨w.heap.size + 1, 2, none⟩ = false := blk_frozen J6.out 2
      have c0 : w3.cell? ⟨w.heap.size + 1, 0, none⟩ = some (.int .i64 0) := (blk_cell J6.out 0).trans rfl
      have c1 : w3.cell? ⟨w.heap.size + 1, 1, none⟩ = some (.int .i64 0) := (blk_cell J6.out 1).trans rfl
      have c2 : w3.cell? ⟨w.heap.size + 1, 2, none⟩ = some (.int .i64 0) := (blk_cell J6.out 2).trans rfl
      go_wp2_with fail
      refine bodyPost_ret (results_ct rfl _ _ (w.heap.size + 1) 23 #[.int .i64 c, .int .i64 (sideP s.f1 size), .int .i64 (sideP s.f2 size)] (0, 0) _ rfl (blk_put (blk_put (blk_put J6.out 0 _ rfl) 1 _ rfl) 2 _ rfl) Try.underlying23 rfl (by kernel_rfl)) rfl ?_
      exact ⟨congrArg Ending.returned (sizedV_yes HQ.out).symm, below_set (below_set (below_set L3.out (Nat.le_succ _)) (Nat.le_succ _)) (Nat.le_succ _)⟩
    | false =>
      have HQ := Aside0.mk hq
      clear hq
      go_wp2_with fail
      refine (right_any _ _ _ false HQ.out _).mono ?_
      rintro e w3 ⟨rfl, hb3⟩
      have J6 := Aside0.mk (blk_below K6.out hb3)
      have L3 := Aside0.mk (below_step L2.out hb3)
      clear f0 f1 f2 K6 K8 L2 hb3
      have z0 : w3.frozen? ⟨w.heap.size + 1, 0, none⟩ = false := blk_frozen J6.out 0
      have z1 : w3.frozen? ⟨w.heap.size + 1, 1, none⟩ = false := blk_frozen J6.out 1
      have z2 : w3.frozen? ⟨w.heap.size + 1, 2, none⟩ = false := blk_frozen J6.out 2
      have c0 : w3.cell? ⟨w.heap.size + 1, 0, none⟩ = some (.int .i64 0) := (blk_cell J6.out 0).trans rfl
      have c1 : w3.cell? ⟨w.heap.size + 1, 1, none⟩ = some (.int .i64 0) := (blk_cell J6.out 1).trans rfl
      have c2 : w3.cell? ⟨w.heap.size + 1, 2, none⟩ = some (.int .i64 0) := (blk_cell J6.out 2).trans rfl
      go_wp2_with fail
      refine bodyPost_ret (results_ct rfl _ _ (w.heap.size + 1) 23 #[.int .i64 0, .int .i64 0, .int .i64 0] (0, 0) _ rfl (blk_put (blk_put (blk_put J6.out 0 _ rfl) 1 _ rfl) 2 _ rfl) Try.underlying23 rfl (by kernel_rfl)) rfl ?_
      exact ⟨congrArg Ending.returned (sizedV_no HQ.out).symm, below_set (below_set (below_set L3.out (Nat.le_succ _)) (Nat.le_succ _)) (Nat.le_succ _)⟩
def shapeV : Option S23 → Value
  | some t => .tuple #[.agg #[.int .i64 t.f0, .int .i64 t.f1, .int .i64 t.f2], .bool true]
  | none => .tuple #[.agg #[.int .i64 0, .int .i64 0, .int .i64 0], .bool false]
theorem side_shape (s : S23) (c size step : Int) (hr : Sy.rightB s = true) : sizedV ⟨c, sideC s.f1 size step, sideC s.f2 size step⟩ = shapeV (Sy.convO s c size step) := by
  unfold Sy.convO
  by_cases h : 1 ≤ size ∧ size ≤ s.f1 ∧ size ≤ s.f2 ∧ 1 ≤ step ∧ step ≤ 12
  · have e1 : sideC s.f1 size step = (s.f1 - size) / step + 1 := by unfold sideC; rw [if_pos (by omega)]
    have e2 : sideC s.f2 size step = (s.f2 - size) / step + 1 := by unfold sideC; rw [if_pos (by omega)]
    rw [e1, e2]
    cases hq : Sy.rightB ⟨c, (s.f1 - size) / step + 1, (s.f2 - size) / step + 1⟩ with
    | true => rw [sizedV_yes hq, if_pos ⟨hr, h.1, h.2.1, h.2.2.1, h.2.2.2.1, h.2.2.2.2, rfl⟩]; rfl
    | false => rw [sizedV_no hq, if_neg (by simp)]; rfl
  · have hq : Sy.rightB ⟨c, sideC s.f1 size step, sideC s.f2 size step⟩ = false := by
      unfold Sy.rightB sideC
      rw [decide_eq_false_iff_not]
      intro hh
      apply h
      simp only at hh
      by_cases h1 : 1 ≤ size ∧ size ≤ s.f1 ∧ 1 ≤ step ∧ step ≤ 12
      · by_cases h2 : 1 ≤ size ∧ size ≤ s.f2 ∧ 1 ≤ step ∧ step ≤ 12
        · omega
        · rw [if_neg h2] at hh; omega
      · rw [if_neg h1] at hh; omega
    rw [sizedV_no hq, if_neg (by intro hh; exact h ⟨hh.2.1, hh.2.2.1, hh.2.2.2.1, hh.2.2.2.2.1, hh.2.2.2.2.2.1⟩)]
    rfl
theorem div_right (s : S23) (size : Int) (hr : Sy.rightB s = true) (h1 : 1 ≤ size) (h2 : s.f1 % size = 0) (h3 : s.f2 % size = 0) : Sy.rightB ⟨s.f0, s.f1 / size, s.f2 / size⟩ = true := by
  simp only [Sy.rightB, decide_eq_true_eq] at hr ⊢
  obtain ⟨a1, a2, a3, a4, a5, a6, a7⟩ := hr
  have q1 : s.f1 / size ≤ s.f1 := Int.ediv_le_self _ (by omega)
  have q2 : s.f2 / size ≤ s.f2 := Int.ediv_le_self _ (by omega)
  have d1 : size * (s.f1 / size) = s.f1 := Int.mul_ediv_cancel' (Int.dvd_of_emod_eq_zero h2)
  have d2 : size * (s.f2 / size) = s.f2 := Int.mul_ediv_cancel' (Int.dvd_of_emod_eq_zero h3)
  have p1 : 1 ≤ s.f1 / size := by
    rcases Int.lt_or_le 0 (s.f1 / size) with h | h
    · omega
    · have := Int.mul_nonpos_of_nonneg_of_nonpos (show 0 ≤ size by omega) h; omega
  have p2 : 1 ≤ s.f2 / size := by
    rcases Int.lt_or_le 0 (s.f2 / size) with h | h
    · omega
    · have := Int.mul_nonpos_of_nonneg_of_nonpos (show 0 ≤ size by omega) h; omega
  refine ⟨a1, a2, p1, by omega, p2, by omega, ?_⟩
  have m1 : s.f0 * (s.f1 / size) ≤ s.f0 * s.f1 := Int.mul_le_mul_of_nonneg_left q1 (by omega)
  have m2 : s.f0 * (s.f1 / size) * (s.f2 / size) ≤ s.f0 * s.f1 * s.f2 := Int.mul_le_mul m1 q2 (by omega) (Int.mul_nonneg (by omega) (by omega))
  omega
theorem pool_shape (s : S23) (size : Int) (hr : Sy.rightB s = true) : sizedV ⟨s.f0, sideP s.f1 size, sideP s.f2 size⟩ = shapeV (Sy.poolO s size) := by
  unfold Sy.poolO
  by_cases h : 1 ≤ size ∧ s.f1 % size = 0 ∧ s.f2 % size = 0
  · have e1 : sideP s.f1 size = s.f1 / size := by unfold sideP; rw [if_pos ⟨h.1, h.2.1⟩]
    have e2 : sideP s.f2 size = s.f2 / size := by unfold sideP; rw [if_pos ⟨h.1, h.2.2⟩]
    rw [e1, e2, sizedV_yes (div_right s size hr h.1 h.2.1 h.2.2), if_pos ⟨hr, h⟩]
    rfl
  · have hq : Sy.rightB ⟨s.f0, sideP s.f1 size, sideP s.f2 size⟩ = false := by
      unfold Sy.rightB sideP
      rw [decide_eq_false_iff_not]
      intro hh
      apply h
      simp only at hh
      by_cases h1 : 1 ≤ size ∧ s.f1 % size = 0
      · by_cases h2 : 1 ≤ size ∧ s.f2 % size = 0
        · exact ⟨h1.1, h1.2, h2.2⟩
        · rw [if_neg h2] at hh; omega
      · rw [if_neg h1] at hh; omega
    rw [sizedV_no hq, if_neg (by intro hh; exact h hh.2)]
    rfl
end Go.Proofs.Ytnfcadjckoebkaa.P
