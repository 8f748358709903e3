import Derived.Test.YtnfcadjckoebkaaIXHc
import Derived.Deep.RegionHeld3
namespace Go.Proofs.Ytnfcadjckoebkaa.P
open Go.RowKit Go.Proofs.YtnfcadjckoebkaaW.PrintWords Go.Proofs.YtnfcadjckoebkaaW.PrintLast Go.Proofs.YtnfcadjckoebkaaW.PrintMore
set_option linter.unusedSimpArgs false
set_option linter.unusedVariables false
attribute [local go_sem] cell_alloc_drewN frozen_alloc_drewN set_alloc_drewN set_drewN
def wrongChain (e : Int) : List PanicEntry := [{ v := .iface 126 (.agg #[.int .i64 e]), recovered := false }]
theorem must_yes (e : Int) (w : World) : Calls Try.prog 101 #[.bool true, .int .i64 e] w fun e' w' => e' = .returned (.tuple #[]) ∧ w' = w := by
  go_enter Try.func101, Try.ntmps101
  go_wp2
  go_end0
  exact ⟨rfl, rfl⟩
theorem must_no (e : Int) (w : World) : Calls Try.prog 101 #[.bool false, .int .i64 e] w fun e' w' => e' = .panicked (wrongChain e) ∧ w' = w := by
  go_enter Try.func101, Try.ntmps101
  go_wp2
  exact ⟨rfl, rfl, rfl⟩
theorem shapeV_some (t : S23) : shapeV (some t) = .tuple #[.agg #[.int .i64 t.f0, .int .i64 t.f1, .int .i64 t.f2], .bool true] := rfl
theorem shapeV_none : shapeV none = .tuple #[.agg #[.int .i64 0, .int .i64 0, .int .i64 0], .bool false] := rfl
theorem put12 {W : World} {g : Nat} {t : TypeId} {z0 z1 z2 z3 z4 z5 z6 z7 z8 z9 z10 z11 : Value} (h : W.heap[g]? = some (.cells #[z0, z1, z2, z3, z4, z5, z6, z7, z8, z9, z10, z11] t (0, 0))) (v0 v1 v2 v3 v4 v5 v6 v7 v8 v9 v10 v11 : Value) :
    ((((((((((((W.setCell ⟨g, 0, none⟩ v0).setCell ⟨g, 1, none⟩ v1).setCell ⟨g, 2, none⟩ v2).setCell ⟨g, 3, none⟩ v3).setCell ⟨g, 4, none⟩ v4).setCell ⟨g, 5, none⟩ v5).setCell ⟨g, 6, none⟩ v6).setCell ⟨g, 7, none⟩ v7).setCell ⟨g, 8, none⟩ v8).setCell ⟨g, 9, none⟩ v9).setCell ⟨g, 10, none⟩ v10).setCell ⟨g, 11, none⟩ v11).heap[g]? = some (.cells #[v0, v1, v2, v3, v4, v5, v6, v7, v8, v9, v10, v11] t (0, 0)) := by
  have h1 := blk_set h 0 v0
  simp only [List.setIfInBounds_toArray, List.set_cons_zero, List.set_cons_succ] at h1
  have h2 := blk_set h1 1 v1
  simp only [List.setIfInBounds_toArray, List.set_cons_zero, List.set_cons_succ] at h2
  have h3 := blk_set h2 2 v2
  simp only [List.setIfInBounds_toArray, List.set_cons_zero, List.set_cons_succ] at h3
  have h4 := blk_set h3 3 v3
  simp only [List.setIfInBounds_toArray, List.set_cons_zero, List.set_cons_succ] at h4
  have h5 := blk_set h4 4 v4
  simp only [List.setIfInBounds_toArray, List.set_cons_zero, List.set_cons_succ] at h5
  have h6 := blk_set h5 5 v5
  simp only [List.setIfInBounds_toArray, List.set_cons_zero, List.set_cons_succ] at h6
  have h7 := blk_set h6 6 v6
  simp only [List.setIfInBounds_toArray, List.set_cons_zero, List.set_cons_succ] at h7
  have h8 := blk_set h7 7 v7
  simp only [List.setIfInBounds_toArray, List.set_cons_zero, List.set_cons_succ] at h8
  have h9 := blk_set h8 8 v8
  simp only [List.setIfInBounds_toArray, List.set_cons_zero, List.set_cons_succ] at h9
  have h10 := blk_set h9 9 v9
  simp only [List.setIfInBounds_toArray, List.set_cons_zero, List.set_cons_succ] at h10
  have h11 := blk_set h10 10 v10
  simp only [List.setIfInBounds_toArray, List.set_cons_zero, List.set_cons_succ] at h11
  have h12 := blk_set h11 11 v11
  simp only [List.setIfInBounds_toArray, List.set_cons_zero, List.set_cons_succ] at h12
  exact h12
theorem below_put12 {w W : World} {g : Nat} (h : Below w.heap.size w W) (hg : w.heap.size ≤ g) (v0 v1 v2 v3 v4 v5 v6 v7 v8 v9 v10 v11 : Value) : Below w.heap.size w ((((((((((((W.setCell ⟨g, 0, none⟩ v0).setCell ⟨g, 1, none⟩ v1).setCell ⟨g, 2, none⟩ v2).setCell ⟨g, 3, none⟩ v3).setCell ⟨g, 4, none⟩ v4).setCell ⟨g, 5, none⟩ v5).setCell ⟨g, 6, none⟩ v6).setCell ⟨g, 7, none⟩ v7).setCell ⟨g, 8, none⟩ v8).setCell ⟨g, 9, none⟩ v9).setCell ⟨g, 10, none⟩ v10).setCell ⟨g, 11, none⟩ v11) := by
  with_reducible repeat (first | exact h | refine below_set ?_ hg)
theorem far_set {W : World} {g : Nat} {t : TypeId} {cs : Array Value} (h : W.heap[g]? = some (.cells cs t (0, 0))) {g' : Nat} (hne : g ≠ g') (j : Nat) (u : Value) : (W.setCell ⟨g', j, none⟩ u).heap[g]? = some (.cells cs t (0, 0)) := blk_far h hne u
theorem mulB {a b A B : Int} (ha : 0 ≤ a ∧ a ≤ A) (hb : 0 ≤ b ∧ b ≤ B) : 0 ≤ a * b ∧ a * b ≤ A * B :=
  ⟨Int.mul_nonneg ha.1 hb.1, Int.mul_le_mul ha.2 hb.2 hb.1 (by omega)⟩
theorem wrapB {a A : Int} (h : 0 ≤ a ∧ a ≤ A) (hA : A ≤ 4611686018427387904) : wrap64 a = a := by unfold wrap64; omega
theorem right_bd {s : S23} (h : Sy.rightB s = true) : (1 ≤ s.f0 ∧ s.f0 ≤ 8) ∧ (1 ≤ s.f1 ∧ s.f1 ≤ 12) ∧ (1 ≤ s.f2 ∧ s.f2 ≤ 12) ∧ s.f0 * s.f1 * s.f2 ≤ 128 := by
  simp only [Sy.rightB, decide_eq_true_eq] at h; omega
theorem conv_some {s t : S23} {c size step : Int} (h : Sy.convO s c size step = some t) : Sy.rightB t = true ∧ t.f0 = c ∧ 1 ≤ size ∧ size ≤ 12 := by
  unfold Sy.convO at h
  split at h
  · rename_i hh
    injection h with h
    subst h
    have := right_bd hh.1
    exact ⟨hh.2.2.2.2.2.2, rfl, hh.2.1, by omega⟩
  · cases h
theorem conv_w {s t : S23} {l : S40} (hr : Sy.rightB s = true) (h : Sy.convO s l.f1 l.f2 l.f3 = some t) :
    wrap64 (wrap64 (wrap64 (l.f1 * s.f0) * l.f2) * l.f2) = l.f1 * s.f0 * l.f2 * l.f2 ∧ wrap64 (wrap64 (l.f1 * s.f0 * l.f2 * l.f2 * t.f1) * t.f2) = l.f1 * s.f0 * l.f2 * l.f2 * t.f1 * t.f2 := by
  obtain ⟨ht, hc, h1, h2⟩ := conv_some h
  obtain ⟨⟨a1, a2⟩, -, -, -⟩ := right_bd hr
  obtain ⟨⟨b1, b2⟩, ⟨b3, b4⟩, ⟨b5, b6⟩, -⟩ := right_bd ht
  rw [hc] at b1 b2
  have m1 := mulB (a := l.f1) (b := s.f0) (A := 8) (B := 8) (by omega) (by omega)
  have m2 := mulB (b := l.f2) (B := 12) m1 (by omega)
  have m3 := mulB (b := l.f2) (B := 12) m2 (by omega)
  have m4 := mulB (b := t.f1) (B := 12) m3 (by omega)
  have m5 := mulB (b := t.f2) (B := 12) m4 (by omega)
  rw [wrapB m1 (by decide), wrapB m2 (by decide), wrapB m3 (by decide), wrapB m4 (by decide), wrapB m5 (by decide)]
  exact ⟨rfl, rfl⟩
theorem size_bd {s : S23} (h : Sy.rightB s = true) : 0 ≤ Sy.sizeI s ∧ Sy.sizeI s ≤ 128 := by
  unfold Sy.sizeI
  rw [if_pos h]
  obtain ⟨a, b, c, d⟩ := right_bd h
  exact ⟨Int.mul_nonneg (Int.mul_nonneg (by omega) (by omega)) (by omega), d⟩
theorem size_f (s : S23) : shape_Size.f s.f0 s.f1 s.f2 = some (Sy.sizeI s) := by
  unfold shape_Size.f Sy.sizeI
  rw [right_f s]
  simp only [Option.bind_some]
  cases h : Sy.rightB s with
  | true =>
    obtain ⟨a, b, c, d⟩ := right_bd h
    rw [if_pos rfl, if_pos rfl, mul3 a b c]
  | false => rw [if_neg (by decide), if_neg (by decide)]
theorem size_calls (s : S23) (w : World) : Calls Try.prog 83 #[.agg #[.int .i64 s.f0, .int .i64 s.f1, .int .i64 s.f2]] w fun e w' => e = .returned (.int .i64 (Sy.sizeI s)) ∧ Below w.heap.size w w' :=
  shape_Size.calls s.f0 s.f1 s.f2 _ w (size_f s)
def stepV (x : S94) : Value := .agg #[.int .i64 x.f0.f0, .int .i64 x.f0.f1, .int .i64 x.f0.f2, .int .i64 x.f0.f3, .int .i64 x.f1.f0, .int .i64 x.f1.f1, .int .i64 x.f1.f2, .int .i64 x.f2.f0, .int .i64 x.f2.f1, .int .i64 x.f2.f2, .int .i64 x.f3, .int .i64 x.f4]
def NextPost (s : S23) (l : S40) (w : World) (e : Ending) (w' : World) : Prop :=
  Below w.heap.size w w' ∧ e = (match Sy.outO s l with | some t => .returned (stepV (Sy.stepOf s t l)) | none => .panicked (wrongChain 21))
set_option maxHeartbeats 4000000 in
set_option maxRecDepth 100000 in
theorem next_conv_yes (s : S23) (l : S40) (t : S23) (w : World) (hr : Sy.rightB s = true) (k1 : l.f0 = 1) (hs : l.f2 ≤ 999999) (hq : Sy.convO s l.f1 l.f2 l.f3 = some t) : Calls Try.prog 104 #[.agg #[.int .i64 s.f0, .int .i64 s.f1, .int .i64 s.f2], .agg #[.int .i64 l.f0, .int .i64 l.f1, .int .i64 l.f2, .int .i64 l.f3]] w (NextPost s l w) := by
  have HR := Aside0.mk hr
  have K1 := Aside0.mk k1
  have HQ := Aside0.mk hq
  have e1 : (l.f0 == 1) = true := by simp [k1]
  clear hr k1 hq
  go_enter Try.func104, Try.ntmps104
  go_wp2_with fail
  have B1 := Aside0.mk (below_alloc (below_alloc (below_alloc (below_alloc (Below.refl w.heap.size w) (.cells #[.int .i64 s.f0, .int .i64 s.f1, .int .i64 s.f2] 23)) (.cells #[.int .i64 l.f0, .int .i64 l.f1, .int .i64 l.f2, .int .i64 l.f3] 40)) (.cells #[.int .i64 0, .int .i64 0, .int .i64 0, .int .i64 0, .int .i64 0, .int .i64 0, .int .i64 0, .int .i64 0, .int .i64 0, .int .i64 0, .int .i64 0, .int .i64 0] 94)) (.cells #[.int .i64 l.f0, .int .i64 l.f1, .int .i64 l.f2, .int .i64 l.f3, .int .i64 s.f0, .int .i64 s.f1, .int .i64 s.f2, .int .i64 s.f0, .int .i64 s.f1, .int .i64 s.f2, .int .i64 0, .int .i64 0] 94))
  have HS1 := Aside0.mk (blk_alloc (blk_alloc (blk_alloc (blk_new w (.cells #[.int .i64 s.f0, .int .i64 s.f1, .int .i64 s.f2] 23)) (.cells #[.int .i64 l.f0, .int .i64 l.f1, .int .i64 l.f2, .int .i64 l.f3] 40)) (.cells #[.int .i64 0, .int .i64 0, .int .i64 0, .int .i64 0, .int .i64 0, .int .i64 0, .int .i64 0, .int .i64 0, .int .i64 0, .int .i64 0, .int .i64 0, .int .i64 0] 94)) (.cells #[.int .i64 l.f0, .int .i64 l.f1, .int .i64 l.f2, .int .i64 l.f3, .int .i64 s.f0, .int .i64 s.f1, .int .i64 s.f2, .int .i64 s.f0, .int .i64 s.f1, .int .i64 s.f2, .int .i64 0, .int .i64 0] 94))
  have HL1 := Aside0.mk (blk_alloc (blk_alloc (blk_new1 w (.cells #[.int .i64 s.f0, .int .i64 s.f1, .int .i64 s.f2] 23) (.cells #[.int .i64 l.f0, .int .i64 l.f1, .int .i64 l.f2, .int .i64 l.f3] 40)) (.cells #[.int .i64 0, .int .i64 0, .int .i64 0, .int .i64 0, .int .i64 0, .int .i64 0, .int .i64 0, .int .i64 0, .int .i64 0, .int .i64 0, .int .i64 0, .int .i64 0] 94)) (.cells #[.int .i64 l.f0, .int .i64 l.f1, .int .i64 l.f2, .int .i64 l.f3, .int .i64 s.f0, .int .i64 s.f1, .int .i64 s.f2, .int .i64 s.f0, .int .i64 s.f1, .int .i64 s.f2, .int .i64 0, .int .i64 0] 94))
  have ZR1 := Aside0.mk (blk_alloc (blk_new2 w (.cells #[.int .i64 s.f0, .int .i64 s.f1, .int .i64 s.f2] 23) (.cells #[.int .i64 l.f0, .int .i64 l.f1, .int .i64 l.f2, .int .i64 l.f3] 40) (.cells #[.int .i64 0, .int .i64 0, .int .i64 0, .int .i64 0, .int .i64 0, .int .i64 0, .int .i64 0, .int .i64 0, .int .i64 0, .int .i64 0, .int .i64 0, .int .i64 0] 94)) (.cells #[.int .i64 l.f0, .int .i64 l.f1, .int .i64 l.f2, .int .i64 l.f3, .int .i64 s.f0, .int .i64 s.f1, .int .i64 s.f2, .int .i64 s.f0, .int .i64 s.f1, .int .i64 s.f2, .int .i64 0, .int .i64 0] 94))
  have ZS1 := Aside0.mk (blk_new3 w (.cells #[.int .i64 s.f0, .int .i64 s.f1, .int .i64 s.f2] 23) (.cells #[.int .i64 l.f0, .int .i64 l.f1, .int .i64 l.f2, .int .i64 l.f3] 40) (.cells #[.int .i64 0, .int .i64 0, .int .i64 0, .int .i64 0, .int .i64 0, .int .i64 0, .int .i64 0, .int .i64 0, .int .i64 0, .int .i64 0, .int .i64 0, .int .i64 0] 94) (.cells #[.int .i64 l.f0, .int .i64 l.f1, .int .i64 l.f2, .int .i64 l.f3, .int .i64 s.f0, .int .i64 s.f1, .int .i64 s.f2, .int .i64 s.f0, .int .i64 s.f1, .int .i64 s.f2, .int .i64 0, .int .i64 0] 94))
  generalize (((w.alloc (.cells #[.int .i64 s.f0, .int .i64 s.f1, .int .i64 s.f2] 23)).alloc (.cells #[.int .i64 l.f0, .int .i64 l.f1, .int .i64 l.f2, .int .i64 l.f3] 40)).alloc (.cells #[.int .i64 0, .int .i64 0, .int .i64 0, .int .i64 0, .int .i64 0, .int .i64 0, .int .i64 0, .int .i64 0, .int .i64 0, .int .i64 0, .int .i64 0, .int .i64 0] 94)).alloc (.cells #[.int .i64 l.f0, .int .i64 l.f1, .int .i64 l.f2, .int .i64 l.f3, .int .i64 s.f0, .int .i64 s.f1, .int .i64 s.f2, .int .i64 s.f0, .int .i64 s.f1, .int .i64 s.f2, .int .i64 0, .int .i64 0] 94) = W at *
  refine (conv_calls s l.f1 l.f2 l.f3 _ HR.out hs).mono ?_
  rw [HQ.out, shapeV_some]
  rintro e w2 ⟨rfl, hb⟩
  have B2 := Aside0.mk (below_step B1.out hb)
  have HS2 := Aside0.mk (blk_below HS1.out hb)
  have HL2 := Aside0.mk (blk_below HL1.out hb)
  have ZR2 := Aside0.mk (blk_below ZR1.out hb)
  have ZS2 := Aside0.mk (blk_below ZS1.out hb)
  clear B1 HS1 HL1 ZR1 ZS1 hb
  have sc0 : w2.cell? ⟨w.heap.size, 0, none⟩ = some (.int .i64 s.f0) := (blk_cell HS2.out 0).trans rfl
  have sc1 : w2.cell? ⟨w.heap.size, 1, none⟩ = some (.int .i64 s.f1) := (blk_cell HS2.out 1).trans rfl
  have sc2 : w2.cell? ⟨w.heap.size, 2, none⟩ = some (.int .i64 s.f2) := (blk_cell HS2.out 2).trans rfl
  have lc0 : w2.cell? ⟨w.heap.size + 1, 0, none⟩ = some (.int .i64 l.f0) := (blk_cell HL2.out 0).trans rfl
  have lc1 : w2.cell? ⟨w.heap.size + 1, 1, none⟩ = some (.int .i64 l.f1) := (blk_cell HL2.out 1).trans rfl
  have lc2 : w2.cell? ⟨w.heap.size + 1, 2, none⟩ = some (.int .i64 l.f2) := (blk_cell HL2.out 2).trans rfl
  have lc3 : w2.cell? ⟨w.heap.size + 1, 3, none⟩ = some (.int .i64 l.f3) := (blk_cell HL2.out 3).trans rfl
  have xc0 : w2.cell? ⟨w.heap.size + 1 + 1 + 1, 0, none⟩ = some (.int .i64 l.f0) := (blk_cell ZS2.out 0).trans rfl
  have xc1 : w2.cell? ⟨w.heap.size + 1 + 1 + 1, 1, none⟩ = some (.int .i64 l.f1) := (blk_cell ZS2.out 1).trans rfl
  have xc2 : w2.cell? ⟨w.heap.size + 1 + 1 + 1, 2, none⟩ = some (.int .i64 l.f2) := (blk_cell ZS2.out 2).trans rfl
  have xc3 : w2.cell? ⟨w.heap.size + 1 + 1 + 1, 3, none⟩ = some (.int .i64 l.f3) := (blk_cell ZS2.out 3).trans rfl
  have xc4 : w2.cell? ⟨w.heap.size + 1 + 1 + 1, 4, none⟩ = some (.int .i64 s.f0) := (blk_cell ZS2.out 4).trans rfl
  have xc5 : w2.cell? ⟨w.heap.size + 1 + 1 + 1, 5, none⟩ = some (.int .i64 s.f1) := (blk_cell ZS2.out 5).trans rfl
  have xc6 : w2.cell? ⟨w.heap.size + 1 + 1 + 1, 6, none⟩ = some (.int .i64 s.f2) := (blk_cell ZS2.out 6).trans rfl
  have xc7 : w2.cell? ⟨w.heap.size + 1 + 1 + 1, 7, none⟩ = some (.int .i64 s.f0) := (blk_cell ZS2.out 7).trans rfl
  have xc8 : w2.cell? ⟨w.heap.size + 1 + 1 + 1, 8, none⟩ = some (.int .i64 s.f1) := (blk_cell ZS2.out 8).trans rfl
  have xc9 : w2.cell? ⟨w.heap.size + 1 + 1 + 1, 9, none⟩ = some (.int .i64 s.f2) := (blk_cell ZS2.out 9).trans rfl
  have xc10 : w2.cell? ⟨w.heap.size + 1 + 1 + 1, 10, none⟩ = some (.int .i64 0) := (blk_cell ZS2.out 10).trans rfl
  have xc11 : w2.cell? ⟨w.heap.size + 1 + 1 + 1, 11, none⟩ = some (.int .i64 0) := (blk_cell ZS2.out 11).trans rfl
  have xz0 : w2.frozen? ⟨w.heap.size + 1 + 1 + 1, 0, none⟩ = false := blk_frozen ZS2.out 0
  have xz1 : w2.frozen? ⟨w.heap.size + 1 + 1 + 1, 1, none⟩ = false := blk_frozen ZS2.out 1
  have xz2 : w2.frozen? ⟨w.heap.size + 1 + 1 + 1, 2, none⟩ = false := blk_frozen ZS2.out 2
  have xz3 : w2.frozen? ⟨w.heap.size + 1 + 1 + 1, 3, none⟩ = false := blk_frozen ZS2.out 3
  have xz4 : w2.frozen? ⟨w.heap.size + 1 + 1 + 1, 4, none⟩ = false := blk_frozen ZS2.out 4
  have xz5 : w2.frozen? ⟨w.heap.size + 1 + 1 + 1, 5, none⟩ = false := blk_frozen ZS2.out 5
  have xz6 : w2.frozen? ⟨w.heap.size + 1 + 1 + 1, 6, none⟩ = false := blk_frozen ZS2.out 6
  have xz7 : w2.frozen? ⟨w.heap.size + 1 + 1 + 1, 7, none⟩ = false := blk_frozen ZS2.out 7
  have xz8 : w2.frozen? ⟨w.heap.size + 1 + 1 + 1, 8, none⟩ = false := blk_frozen ZS2.out 8
  have xz9 : w2.frozen? ⟨w.heap.size + 1 + 1 + 1, 9, none⟩ = false := blk_frozen ZS2.out 9
  have xz10 : w2.frozen? ⟨w.heap.size + 1 + 1 + 1, 10, none⟩ = false := blk_frozen ZS2.out 10
  have xz11 : w2.frozen? ⟨w.heap.size + 1 + 1 + 1, 11, none⟩ = false := blk_frozen ZS2.out 11
  have rc0 : w2.cell? ⟨w.heap.size + 1 + 1, 0, none⟩ = some (.int .i64 0) := (blk_cell ZR2.out 0).trans rfl
  have rc1 : w2.cell? ⟨w.heap.size + 1 + 1, 1, none⟩ = some (.int .i64 0) := (blk_cell ZR2.out 1).trans rfl
  have rc2 : w2.cell? ⟨w.heap.size + 1 + 1, 2, none⟩ = some (.int .i64 0) := (blk_cell ZR2.out 2).trans rfl
  have rc3 : w2.cell? ⟨w.heap.size + 1 + 1, 3, none⟩ = some (.int .i64 0) := (blk_cell ZR2.out 3).trans rfl
  have rc4 : w2.cell? ⟨w.heap.size + 1 + 1, 4, none⟩ = some (.int .i64 0) := (blk_cell ZR2.out 4).trans rfl
  have rc5 : w2.cell? ⟨w.heap.size + 1 + 1, 5, none⟩ = some (.int .i64 0) := (blk_cell ZR2.out 5).trans rfl
  have rc6 : w2.cell? ⟨w.heap.size + 1 + 1, 6, none⟩ = some (.int .i64 0) := (blk_cell ZR2.out 6).trans rfl
  have rc7 : w2.cell? ⟨w.heap.size + 1 + 1, 7, none⟩ = some (.int .i64 0) := (blk_cell ZR2.out 7).trans rfl
  have rc8 : w2.cell? ⟨w.heap.size + 1 + 1, 8, none⟩ = some (.int .i64 0) := (blk_cell ZR2.out 8).trans rfl
  have rc9 : w2.cell? ⟨w.heap.size + 1 + 1, 9, none⟩ = some (.int .i64 0) := (blk_cell ZR2.out 9).trans rfl
  have rc10 : w2.cell? ⟨w.heap.size + 1 + 1, 10, none⟩ = some (.int .i64 0) := (blk_cell ZR2.out 10).trans rfl
  have rc11 : w2.cell? ⟨w.heap.size + 1 + 1, 11, none⟩ = some (.int .i64 0) := (blk_cell ZR2.out 11).trans rfl
  have rz0 : w2.frozen? ⟨w.heap.size + 1 + 1, 0, none⟩ = false := blk_frozen ZR2.out 0
  have rz1 : w2.frozen? ⟨w.heap.size + 1 + 1, 1, none⟩ = false := blk_frozen ZR2.out 1
  have rz2 : w2.frozen? ⟨w.heap.size + 1 + 1, 2, none⟩ = false := blk_frozen ZR2.out 2
  have rz3 : w2.frozen? ⟨w.heap.size + 1 + 1, 3, none⟩ = false := blk_frozen ZR2.out 3
  have rz4 : w2.frozen? ⟨w.heap.size + 1 + 1, 4, none⟩ = false := blk_frozen ZR2.out 4
  have rz5 : w2.frozen? ⟨w.heap.size + 1 + 1, 5, none⟩ = false := blk_frozen ZR2.out 5
  have rz6 : w2.frozen? ⟨w.heap.size + 1 + 1, 6, none⟩ = false := blk_frozen ZR2.out 6
  have rz7 : w2.frozen? ⟨w.heap.size + 1 + 1, 7, none⟩ = false := blk_frozen ZR2.out 7
  have rz8 : w2.frozen? ⟨w.heap.size + 1 + 1, 8, none⟩ = false := blk_frozen ZR2.out 8
  have rz9 : w2.frozen? ⟨w.heap.size + 1 + 1, 9, none⟩ = false := blk_frozen ZR2.out 9
  have rz10 : w2.frozen? ⟨w.heap.size + 1 + 1, 10, none⟩ = false := blk_frozen ZR2.out 10
  have rz11 : w2.frozen? ⟨w.heap.size + 1 + 1, 11, none⟩ = false := blk_frozen ZR2.out 11
  go_wp2_with fail
  refine (must_yes 21 _).mono ?_
  rintro e w4 ⟨rfl, rfl⟩
  go_wp2_with fail
  have hne : w.heap.size + 1 + 1 ≠ w.heap.size + 1 + 1 + 1 := by omega
  have HZ := put12 (far_set (far_set (far_set (far_set (far_set ZR2.out hne 7 (.int .i64 (t.f0))) hne 8 (.int .i64 (t.f1))) hne 9 (.int .i64 (t.f2))) hne 10 (.int .i64 (wrap64 (wrap64 (wrap64 (l.f1 * s.f0) * l.f2) * l.f2)))) hne 11 (.int .i64 (wrap64 (wrap64 (wrap64 (wrap64 (wrap64 (l.f1 * s.f0) * l.f2) * l.f2) * t.f1) * t.f2)))) (.int .i64 (l.f0)) (.int .i64 (l.f1)) (.int .i64 (l.f2)) (.int .i64 (l.f3)) (.int .i64 (s.f0)) (.int .i64 (s.f1)) (.int .i64 (s.f2)) (.int .i64 (t.f0)) (.int .i64 (t.f1)) (.int .i64 (t.f2)) (.int .i64 (wrap64 (wrap64 (wrap64 (l.f1 * s.f0) * l.f2) * l.f2))) (.int .i64 (wrap64 (wrap64 (wrap64 (wrap64 (wrap64 (l.f1 * s.f0) * l.f2) * l.f2) * t.f1) * t.f2)))
  have hge3 : w.heap.size ≤ w.heap.size + 1 + 1 + 1 := by omega
  have hge2 : w.heap.size ≤ w.heap.size + 1 + 1 := by omega
  have HBB := below_put12 (g := w.heap.size + 1 + 1) (below_set (g := w.heap.size + 1 + 1 + 1) (j := 11) (v := .int .i64 (wrap64 (wrap64 (wrap64 (wrap64 (wrap64 (l.f1 * s.f0) * l.f2) * l.f2) * t.f1) * t.f2))) (below_set (g := w.heap.size + 1 + 1 + 1) (j := 10) (v := .int .i64 (wrap64 (wrap64 (wrap64 (l.f1 * s.f0) * l.f2) * l.f2))) (below_set (g := w.heap.size + 1 + 1 + 1) (j := 9) (v := .int .i64 (t.f2)) (below_set (g := w.heap.size + 1 + 1 + 1) (j := 8) (v := .int .i64 (t.f1)) (below_set (g := w.heap.size + 1 + 1 + 1) (j := 7) (v := .int .i64 (t.f0)) B2.out hge3) hge3) hge3) hge3) hge3) hge2 (.int .i64 (l.f0)) (.int .i64 (l.f1)) (.int .i64 (l.f2)) (.int .i64 (l.f3)) (.int .i64 (s.f0)) (.int .i64 (s.f1)) (.int .i64 (s.f2)) (.int .i64 (t.f0)) (.int .i64 (t.f1)) (.int .i64 (t.f2)) (.int .i64 (wrap64 (wrap64 (wrap64 (l.f1 * s.f0) * l.f2) * l.f2))) (.int .i64 (wrap64 (wrap64 (wrap64 (wrap64 (wrap64 (l.f1 * s.f0) * l.f2) * l.f2) * t.f1) * t.f2)))
  refine bodyPost_ret (results_cell_row rfl _ _ (w.heap.size + 1 + 1) 94 #[.int .i64 (l.f0), .int .i64 (l.f1), .int .i64 (l.f2), .int .i64 (l.f3), .int .i64 (s.f0), .int .i64 (s.f1), .int .i64 (s.f2), .int .i64 (t.f0), .int .i64 (t.f1), .int .i64 (t.f2), .int .i64 (wrap64 (wrap64 (wrap64 (l.f1 * s.f0) * l.f2) * l.f2)), .int .i64 (wrap64 (wrap64 (wrap64 (wrap64 (wrap64 (l.f1 * s.f0) * l.f2) * l.f2) * t.f1) * t.f2))] (0, 0) _ rfl HZ Try.underlying94 rfl (by kernel_rfl)) rfl ?_
  refine ⟨HBB, ?_⟩
  clear HZ HBB
  have hw := conv_w HR.out HQ.out
  have ho : Sy.outO s l = some t := by unfold Sy.outO; rw [if_pos K1.out]; exact HQ.out
  rw [ho]
  refine congrArg Ending.returned ?_
  rw [hw.1, hw.2]
  unfold stepV Sy.stepOf Sy.prods Sy.wts
  rw [if_pos K1.out, if_pos K1.out]
set_option maxHeartbeats 4000000 in
set_option maxRecDepth 100000 in
theorem next_conv_no (s : S23) (l : S40) (w : World) (hr : Sy.rightB s = true) (k1 : l.f0 = 1) (hs : l.f2 ≤ 999999) (hq : Sy.convO s l.f1 l.f2 l.f3 = none) : Calls Try.prog 104 #[.agg #[.int .i64 s.f0, .int .i64 s.f1, .int .i64 s.f2], .agg #[.int .i64 l.f0, .int .i64 l.f1, .int .i64 l.f2, .int .i64 l.f3]] w (NextPost s l w) := by
  have HR := Aside0.mk hr
  have K1 := Aside0.mk k1
  have HQ := Aside0.mk hq
  have e1 : (l.f0 == 1) = true := by simp [k1]
  clear hr k1 hq
  go_enter Try.func104, Try.ntmps104
  go_wp2_with fail
  have B1 := Aside0.mk (below_alloc (below_alloc (below_alloc (below_alloc (Below.refl w.heap.size w) (.cells #[.int .i64 s.f0, .int .i64 s.f1, .int .i64 s.f2] 23)) (.cells #[.int .i64 l.f0, .int .i64 l.f1, .int .i64 l.f2, .int .i64 l.f3] 40)) (.cells #[.int .i64 0, .int .i64 0, .int .i64 0, .int .i64 0, .int .i64 0, .int .i64 0, .int .i64 0, .int .i64 0, .int .i64 0, .int .i64 0, .int .i64 0, .int .i64 0] 94)) (.cells #[.int .i64 l.f0, .int .i64 l.f1, .int .i64 l.f2, .int .i64 l.f3, .int .i64 s.f0, .int .i64 s.f1, .int .i64 s.f2, .int .i64 s.f0, .int .i64 s.f1, .int .i64 s.f2, .int .i64 0, .int .i64 0] 94))
  have HS1 := Aside0.mk (blk_alloc (blk_alloc (blk_alloc (blk_new w (.cells #[.int .i64 s.f0, .int .i64 s.f1, .int .i64 s.f2] 23)) (.cells #[.int .i64 l.f0, .int .i64 l.f1, .int .i64 l.f2, .int .i64 l.f3] 40)) (.cells #[.int .i64 0, .int .i64 0, .int .i64 0, .int .i64 0, .int .i64 0, .int .i64 0, .int .i64 0, .int .i64 0, .int .i64 0, .int .i64 0, .int .i64 0, .int .i64 0] 94)) (.cells #[.int .i64 l.f0, .int .i64 l.f1, .int .i64 l.f2, .int .i64 l.f3, .int .i64 s.f0, .int .i64 s.f1, .int .i64 s.f2, .int .i64 s.f0, .int .i64 s.f1, .int .i64 s.f2, .int .i64 0, .int .i64 0] 94))
  have HL1 := Aside0.mk (blk_alloc (blk_alloc (blk_new1 w (.cells #[.int .i64 s.f0, .int .i64 s.f1, .int .i64 s.f2] 23) (.cells #[.int .i64 l.f0, .int .i64 l.f1, .int .i64 l.f2, .int .i64 l.f3] 40)) (.cells #[.int .i64 0, .int .i64 0, .int .i64 0, .int .i64 0, .int .i64 0, .int .i64 0, .int .i64 0, .int .i64 0, .int .i64 0, .int .i64 0, .int .i64 0, .int .i64 0] 94)) (.cells #[.int .i64 l.f0, .int .i64 l.f1, .int .i64 l.f2, .int .i64 l.f3, .int .i64 s.f0, .int .i64 s.f1, .int .i64 s.f2, .int .i64 s.f0, .int .i64 s.f1, .int .i64 s.f2, .int .i64 0, .int .i64 0] 94))
  have ZR1 := Aside0.mk (blk_alloc (blk_new2 w (.cells #[.int .i64 s.f0, .int .i64 s.f1, .int .i64 s.f2] 23) (.cells #[.int .i64 l.f0, .int .i64 l.f1, .int .i64 l.f2, .int .i64 l.f3] 40) (.cells #[.int .i64 0, .int .i64 0, .int .i64 0, .int .i64 0, .int .i64 0, .int .i64 0, .int .i64 0, .int .i64 0, .int .i64 0, .int .i64 0, .int .i64 0, .int .i64 0] 94)) (.cells #[.int .i64 l.f0, .int .i64 l.f1, .int .i64 l.f2, .int .i64 l.f3, .int .i64 s.f0, .int .i64 s.f1, .int .i64 s.f2, .int .i64 s.f0, .int .i64 s.f1, .int .i64 s.f2, .int .i64 0, .int .i64 0] 94))
  have ZS1 := Aside0.mk (blk_new3 w (.cells #[.int .i64 s.f0, .int .i64 s.f1, .int .i64 s.f2] 23) (.cells #[.int .i64 l.f0, .int .i64 l.f1, .int .i64 l.f2, .int .i64 l.f3] 40) (.cells #[.int .i64 0, .int .i64 0, .int .i64 0, .int .i64 0, .int .i64 0, .int .i64 0, .int .i64 0, .int .i64 0, .int .i64 0, .int .i64 0, .int .i64 0, .int .i64 0] 94) (.cells #[.int .i64 l.f0, .int .i64 l.f1, .int .i64 l.f2, .int .i64 l.f3, .int .i64 s.f0, .int .i64 s.f1, .int .i64 s.f2, .int .i64 s.f0, .int .i64 s.f1, .int .i64 s.f2, .int .i64 0, .int .i64 0] 94))
  generalize (((w.alloc (.cells #[.int .i64 s.f0, .int .i64 s.f1, .int .i64 s.f2] 23)).alloc (.cells #[.int .i64 l.f0, .int .i64 l.f1, .int .i64 l.f2, .int .i64 l.f3] 40)).alloc (.cells #[.int .i64 0, .int .i64 0, .int .i64 0, .int .i64 0, .int .i64 0, .int .i64 0, .int .i64 0, .int .i64 0, .int .i64 0, .int .i64 0, .int .i64 0, .int .i64 0] 94)).alloc (.cells #[.int .i64 l.f0, .int .i64 l.f1, .int .i64 l.f2, .int .i64 l.f3, .int .i64 s.f0, .int .i64 s.f1, .int .i64 s.f2, .int .i64 s.f0, .int .i64 s.f1, .int .i64 s.f2, .int .i64 0, .int .i64 0] 94) = W at *
  refine (conv_calls s l.f1 l.f2 l.f3 _ HR.out hs).mono ?_
  rw [HQ.out, shapeV_none]
  rintro e w2 ⟨rfl, hb⟩
  have B2 := Aside0.mk (below_step B1.out hb)
  have HS2 := Aside0.mk (blk_below HS1.out hb)
  have HL2 := Aside0.mk (blk_below HL1.out hb)
  have ZR2 := Aside0.mk (blk_below ZR1.out hb)
  have ZS2 := Aside0.mk (blk_below ZS1.out hb)
  clear B1 HS1 HL1 ZR1 ZS1 hb
  have sc0 : w2.cell? ⟨w.heap.size, 0, none⟩ = some (.int .i64 s.f0) := (blk_cell HS2.out 0).trans rfl
  have sc1 : w2.cell? ⟨w.heap.size, 1, none⟩ = some (.int .i64 s.f1) := (blk_cell HS2.out 1).trans rfl
  have sc2 : w2.cell? ⟨w.heap.size, 2, none⟩ = some (.int .i64 s.f2) := (blk_cell HS2.out 2).trans rfl
  have lc0 : w2.cell? ⟨w.heap.size + 1, 0, none⟩ = some (.int .i64 l.f0) := (blk_cell HL2.out 0).trans rfl
  have lc1 : w2.cell? ⟨w.heap.size + 1, 1, none⟩ = some (.int .i64 l.f1) := (blk_cell HL2.out 1).trans rfl
  have lc2 : w2.cell? ⟨w.heap.size + 1, 2, none⟩ = some (.int .i64 l.f2) := (blk_cell HL2.out 2).trans rfl
  have lc3 : w2.cell? ⟨w.heap.size + 1, 3, none⟩ = some (.int .i64 l.f3) := (blk_cell HL2.out 3).trans rfl
  have xc0 : w2.cell? ⟨w.heap.size + 1 + 1 + 1, 0, none⟩ = some (.int .i64 l.f0) := (blk_cell ZS2.out 0).trans rfl
  have xc1 : w2.cell? ⟨w.heap.size + 1 + 1 + 1, 1, none⟩ = some (.int .i64 l.f1) := (blk_cell ZS2.out 1).trans rfl
  have xc2 : w2.cell? ⟨w.heap.size + 1 + 1 + 1, 2, none⟩ = some (.int .i64 l.f2) := (blk_cell ZS2.out 2).trans rfl
  have xc3 : w2.cell? ⟨w.heap.size + 1 + 1 + 1, 3, none⟩ = some (.int .i64 l.f3) := (blk_cell ZS2.out 3).trans rfl
  have xc4 : w2.cell? ⟨w.heap.size + 1 + 1 + 1, 4, none⟩ = some (.int .i64 s.f0) := (blk_cell ZS2.out 4).trans rfl
  have xc5 : w2.cell? ⟨w.heap.size + 1 + 1 + 1, 5, none⟩ = some (.int .i64 s.f1) := (blk_cell ZS2.out 5).trans rfl
  have xc6 : w2.cell? ⟨w.heap.size + 1 + 1 + 1, 6, none⟩ = some (.int .i64 s.f2) := (blk_cell ZS2.out 6).trans rfl
  have xc7 : w2.cell? ⟨w.heap.size + 1 + 1 + 1, 7, none⟩ = some (.int .i64 s.f0) := (blk_cell ZS2.out 7).trans rfl
  have xc8 : w2.cell? ⟨w.heap.size + 1 + 1 + 1, 8, none⟩ = some (.int .i64 s.f1) := (blk_cell ZS2.out 8).trans rfl
  have xc9 : w2.cell? ⟨w.heap.size + 1 + 1 + 1, 9, none⟩ = some (.int .i64 s.f2) := (blk_cell ZS2.out 9).trans rfl
  have xc10 : w2.cell? ⟨w.heap.size + 1 + 1 + 1, 10, none⟩ = some (.int .i64 0) := (blk_cell ZS2.out 10).trans rfl
  have xc11 : w2.cell? ⟨w.heap.size + 1 + 1 + 1, 11, none⟩ = some (.int .i64 0) := (blk_cell ZS2.out 11).trans rfl
  have xz0 : w2.frozen? ⟨w.heap.size + 1 + 1 + 1, 0, none⟩ = false := blk_frozen ZS2.out 0
  have xz1 : w2.frozen? ⟨w.heap.size + 1 + 1 + 1, 1, none⟩ = false := blk_frozen ZS2.out 1
  have xz2 : w2.frozen? ⟨w.heap.size + 1 + 1 + 1, 2, none⟩ = false := blk_frozen ZS2.out 2
  have xz3 : w2.frozen? ⟨w.heap.size + 1 + 1 + 1, 3, none⟩ = false := blk_frozen ZS2.out 3
  have xz4 : w2.frozen? ⟨w.heap.size + 1 + 1 + 1, 4, none⟩ = false := blk_frozen ZS2.out 4
  have xz5 : w2.frozen? ⟨w.heap.size + 1 + 1 + 1, 5, none⟩ = false := blk_frozen ZS2.out 5
  have xz6 : w2.frozen? ⟨w.heap.size + 1 + 1 + 1, 6, none⟩ = false := blk_frozen ZS2.out 6
  have xz7 : w2.frozen? ⟨w.heap.size + 1 + 1 + 1, 7, none⟩ = false := blk_frozen ZS2.out 7
  have xz8 : w2.frozen? ⟨w.heap.size + 1 + 1 + 1, 8, none⟩ = false := blk_frozen ZS2.out 8
  have xz9 : w2.frozen? ⟨w.heap.size + 1 + 1 + 1, 9, none⟩ = false := blk_frozen ZS2.out 9
  have xz10 : w2.frozen? ⟨w.heap.size + 1 + 1 + 1, 10, none⟩ = false := blk_frozen ZS2.out 10
  have xz11 : w2.frozen? ⟨w.heap.size + 1 + 1 + 1, 11, none⟩ = false := blk_frozen ZS2.out 11
  have rc0 : w2.cell? ⟨w.heap.size + 1 + 1, 0, none⟩ = some (.int .i64 0) := (blk_cell ZR2.out 0).trans rfl
  have rc1 : w2.cell? ⟨w.heap.size + 1 + 1, 1, none⟩ = some (.int .i64 0) := (blk_cell ZR2.out 1).trans rfl
  have rc2 : w2.cell? ⟨w.heap.size + 1 + 1, 2, none⟩ = some (.int .i64 0) := (blk_cell ZR2.out 2).trans rfl
  have rc3 : w2.cell? ⟨w.heap.size + 1 + 1, 3, none⟩ = some (.int .i64 0) := (blk_cell ZR2.out 3).trans rfl
  have rc4 : w2.cell? ⟨w.heap.size + 1 + 1, 4, none⟩ = some (.int .i64 0) := (blk_cell ZR2.out 4).trans rfl
  have rc5 : w2.cell? ⟨w.heap.size + 1 + 1, 5, none⟩ = some (.int .i64 0) := (blk_cell ZR2.out 5).trans rfl
  have rc6 : w2.cell? ⟨w.heap.size + 1 + 1, 6, none⟩ = some (.int .i64 0) := (blk_cell ZR2.out 6).trans rfl
  have rc7 : w2.cell? ⟨w.heap.size + 1 + 1, 7, none⟩ = some (.int .i64 0) := (blk_cell ZR2.out 7).trans rfl
  have rc8 : w2.cell? ⟨w.heap.size + 1 + 1, 8, none⟩ = some (.int .i64 0) := (blk_cell ZR2.out 8).trans rfl
  have rc9 : w2.cell? ⟨w.heap.size + 1 + 1, 9, none⟩ = some (.int .i64 0) := (blk_cell ZR2.out 9).trans rfl
  have rc10 : w2.cell? ⟨w.heap.size + 1 + 1, 10, none⟩ = some (.int .i64 0) := (blk_cell ZR2.out 10).trans rfl
  have rc11 : w2.cell? ⟨w.heap.size + 1 + 1, 11, none⟩ = some (.int .i64 0) := (blk_cell ZR2.out 11).trans rfl
  have rz0 : w2.frozen? ⟨w.heap.size + 1 + 1, 0, none⟩ = false := blk_frozen ZR2.out 0
  have rz1 : w2.frozen? ⟨w.heap.size + 1 + 1, 1, none⟩ = false := blk_frozen ZR2.out 1
  have rz2 : w2.frozen? ⟨w.heap.size + 1 + 1, 2, none⟩ = false := blk_frozen ZR2.out 2
  have rz3 : w2.frozen? ⟨w.heap.size + 1 + 1, 3, none⟩ = false := blk_frozen ZR2.out 3
  have rz4 : w2.frozen? ⟨w.heap.size + 1 + 1, 4, none⟩ = false := blk_frozen ZR2.out 4
  have rz5 : w2.frozen? ⟨w.heap.size + 1 + 1, 5, none⟩ = false := blk_frozen ZR2.out 5
  have rz6 : w2.frozen? ⟨w.heap.size + 1 + 1, 6, none⟩ = false := blk_frozen ZR2.out 6
  have rz7 : w2.frozen? ⟨w.heap.size + 1 + 1, 7, none⟩ = false := blk_frozen ZR2.out 7
  have rz8 : w2.frozen? ⟨w.heap.size + 1 + 1, 8, none⟩ = false := blk_frozen ZR2.out 8
  have rz9 : w2.frozen? ⟨w.heap.size + 1 + 1, 9, none⟩ = false := blk_frozen ZR2.out 9
  have rz10 : w2.frozen? ⟨w.heap.size + 1 + 1, 10, none⟩ = false := blk_frozen ZR2.out 10
  have rz11 : w2.frozen? ⟨w.heap.size + 1 + 1, 11, none⟩ = false := blk_frozen ZR2.out 11
  go_wp2_with fail
  refine (must_no 21 _).mono ?_
  rintro e w4 ⟨rfl, rfl⟩
  have ho : Sy.outO s l = none := by unfold Sy.outO; rw [if_pos K1.out]; exact HQ.out
  have hge3 : w.heap.size ≤ w.heap.size + 1 + 1 + 1 := by omega
  refine ⟨rfl, ?_, by rw [ho]⟩
  with_reducible repeat (first | exact B2.out | refine below_set ?_ hge3)
set_option maxHeartbeats 4000000 in
set_option maxRecDepth 100000 in
theorem next_square (s : S23) (l : S40) (w : World) (hr : Sy.rightB s = true) (k1 : l.f0 = 2) : Calls Try.prog 104 #[.agg #[.int .i64 s.f0, .int .i64 s.f1, .int .i64 s.f2], .agg #[.int .i64 l.f0, .int .i64 l.f1, .int .i64 l.f2, .int .i64 l.f3]] w (NextPost s l w) := by
  have HR := Aside0.mk hr
  have K1 := Aside0.mk k1
  have e1 : (l.f0 == 1) = false := by simp [k1]
  have e2 : (l.f0 == 2) = true := by simp [k1]
  clear hr k1
  go_enter Try.func104, Try.ntmps104
  go_wp2_with fail
  have B1 := Aside0.mk (below_alloc (below_alloc (below_alloc (below_alloc (Below.refl w.heap.size w) (.cells #[.int .i64 s.f0, .int .i64 s.f1, .int .i64 s.f2] 23)) (.cells #[.int .i64 l.f0, .int .i64 l.f1, .int .i64 l.f2, .int .i64 l.f3] 40)) (.cells #[.int .i64 0, .int .i64 0, .int .i64 0, .int .i64 0, .int .i64 0, .int .i64 0, .int .i64 0, .int .i64 0, .int .i64 0, .int .i64 0, .int .i64 0, .int .i64 0] 94)) (.cells #[.int .i64 l.f0, .int .i64 l.f1, .int .i64 l.f2, .int .i64 l.f3, .int .i64 s.f0, .int .i64 s.f1, .int .i64 s.f2, .int .i64 s.f0, .int .i64 s.f1, .int .i64 s.f2, .int .i64 0, .int .i64 0] 94))
  have HS1 := Aside0.mk (blk_alloc (blk_alloc (blk_alloc (blk_new w (.cells #[.int .i64 s.f0, .int .i64 s.f1, .int .i64 s.f2] 23)) (.cells #[.int .i64 l.f0, .int .i64 l.f1, .int .i64 l.f2, .int .i64 l.f3] 40)) (.cells #[.int .i64 0, .int .i64 0, .int .i64 0, .int .i64 0, .int .i64 0, .int .i64 0, .int .i64 0, .int .i64 0, .int .i64 0, .int .i64 0, .int .i64 0, .int .i64 0] 94)) (.cells #[.int .i64 l.f0, .int .i64 l.f1, .int .i64 l.f2, .int .i64 l.f3, .int .i64 s.f0, .int .i64 s.f1, .int .i64 s.f2, .int .i64 s.f0, .int .i64 s.f1, .int .i64 s.f2, .int .i64 0, .int .i64 0] 94))
  have HL1 := Aside0.mk (blk_alloc (blk_alloc (blk_new1 w (.cells #[.int .i64 s.f0, .int .i64 s.f1, .int .i64 s.f2] 23) (.cells #[.int .i64 l.f0, .int .i64 l.f1, .int .i64 l.f2, .int .i64 l.f3] 40)) (.cells #[.int .i64 0, .int .i64 0, .int .i64 0, .int .i64 0, .int .i64 0, .int .i64 0, .int .i64 0, .int .i64 0, .int .i64 0, .int .i64 0, .int .i64 0, .int .i64 0] 94)) (.cells #[.int .i64 l.f0, .int .i64 l.f1, .int .i64 l.f2, .int .i64 l.f3, .int .i64 s.f0, .int .i64 s.f1, .int .i64 s.f2, .int .i64 s.f0, .int .i64 s.f1, .int .i64 s.f2, .int .i64 0, .int .i64 0] 94))
  have ZR1 := Aside0.mk (blk_alloc (blk_new2 w (.cells #[.int .i64 s.f0, .int .i64 s.f1, .int .i64 s.f2] 23) (.cells #[.int .i64 l.f0, .int .i64 l.f1, .int .i64 l.f2, .int .i64 l.f3] 40) (.cells #[.int .i64 0, .int .i64 0, .int .i64 0, .int .i64 0, .int .i64 0, .int .i64 0, .int .i64 0, .int .i64 0, .int .i64 0, .int .i64 0, .int .i64 0, .int .i64 0] 94)) (.cells #[.int .i64 l.f0, .int .i64 l.f1, .int .i64 l.f2, .int .i64 l.f3, .int .i64 s.f0, .int .i64 s.f1, .int .i64 s.f2, .int .i64 s.f0, .int .i64 s.f1, .int .i64 s.f2, .int .i64 0, .int .i64 0] 94))
  have ZS1 := Aside0.mk (blk_new3 w (.cells #[.int .i64 s.f0, .int .i64 s.f1, .int .i64 s.f2] 23) (.cells #[.int .i64 l.f0, .int .i64 l.f1, .int .i64 l.f2, .int .i64 l.f3] 40) (.cells #[.int .i64 0, .int .i64 0, .int .i64 0, .int .i64 0, .int .i64 0, .int .i64 0, .int .i64 0, .int .i64 0, .int .i64 0, .int .i64 0, .int .i64 0, .int .i64 0] 94) (.cells #[.int .i64 l.f0, .int .i64 l.f1, .int .i64 l.f2, .int .i64 l.f3, .int .i64 s.f0, .int .i64 s.f1, .int .i64 s.f2, .int .i64 s.f0, .int .i64 s.f1, .int .i64 s.f2, .int .i64 0, .int .i64 0] 94))
  generalize (((w.alloc (.cells #[.int .i64 s.f0, .int .i64 s.f1, .int .i64 s.f2] 23)).alloc (.cells #[.int .i64 l.f0, .int .i64 l.f1, .int .i64 l.f2, .int .i64 l.f3] 40)).alloc (.cells #[.int .i64 0, .int .i64 0, .int .i64 0, .int .i64 0, .int .i64 0, .int .i64 0, .int .i64 0, .int .i64 0, .int .i64 0, .int .i64 0, .int .i64 0, .int .i64 0] 94)).alloc (.cells #[.int .i64 l.f0, .int .i64 l.f1, .int .i64 l.f2, .int .i64 l.f3, .int .i64 s.f0, .int .i64 s.f1, .int .i64 s.f2, .int .i64 s.f0, .int .i64 s.f1, .int .i64 s.f2, .int .i64 0, .int .i64 0] 94) = W at *
  refine (size_calls s _).mono ?_
  rintro e w2 ⟨rfl, hb⟩
  have B2 := Aside0.mk (below_step B1.out hb)
  have HS2 := Aside0.mk (blk_below HS1.out hb)
  have HL2 := Aside0.mk (blk_below HL1.out hb)
  have ZR2 := Aside0.mk (blk_below ZR1.out hb)
  have ZS2 := Aside0.mk (blk_below ZS1.out hb)
  clear B1 HS1 HL1 ZR1 ZS1 hb
  have sc0 : w2.cell? ⟨w.heap.size, 0, none⟩ = some (.int .i64 s.f0) := (blk_cell HS2.out 0).trans rfl
  have sc1 : w2.cell? ⟨w.heap.size, 1, none⟩ = some (.int .i64 s.f1) := (blk_cell HS2.out 1).trans rfl
  have sc2 : w2.cell? ⟨w.heap.size, 2, none⟩ = some (.int .i64 s.f2) := (blk_cell HS2.out 2).trans rfl
  have lc0 : w2.cell? ⟨w.heap.size + 1, 0, none⟩ = some (.int .i64 l.f0) := (blk_cell HL2.out 0).trans rfl
  have lc1 : w2.cell? ⟨w.heap.size + 1, 1, none⟩ = some (.int .i64 l.f1) := (blk_cell HL2.out 1).trans rfl
  have lc2 : w2.cell? ⟨w.heap.size + 1, 2, none⟩ = some (.int .i64 l.f2) := (blk_cell HL2.out 2).trans rfl
  have lc3 : w2.cell? ⟨w.heap.size + 1, 3, none⟩ = some (.int .i64 l.f3) := (blk_cell HL2.out 3).trans rfl
  have xc0 : w2.cell? ⟨w.heap.size + 1 + 1 + 1, 0, none⟩ = some (.int .i64 l.f0) := (blk_cell ZS2.out 0).trans rfl
  have xc1 : w2.cell? ⟨w.heap.size + 1 + 1 + 1, 1, none⟩ = some (.int .i64 l.f1) := (blk_cell ZS2.out 1).trans rfl
  have xc2 : w2.cell? ⟨w.heap.size + 1 + 1 + 1, 2, none⟩ = some (.int .i64 l.f2) := (blk_cell ZS2.out 2).trans rfl
  have xc3 : w2.cell? ⟨w.heap.size + 1 + 1 + 1, 3, none⟩ = some (.int .i64 l.f3) := (blk_cell ZS2.out 3).trans rfl
  have xc4 : w2.cell? ⟨w.heap.size + 1 + 1 + 1, 4, none⟩ = some (.int .i64 s.f0) := (blk_cell ZS2.out 4).trans rfl
  have xc5 : w2.cell? ⟨w.heap.size + 1 + 1 + 1, 5, none⟩ = some (.int .i64 s.f1) := (blk_cell ZS2.out 5).trans rfl
  have xc6 : w2.cell? ⟨w.heap.size + 1 + 1 + 1, 6, none⟩ = some (.int .i64 s.f2) := (blk_cell ZS2.out 6).trans rfl
  have xc7 : w2.cell? ⟨w.heap.size + 1 + 1 + 1, 7, none⟩ = some (.int .i64 s.f0) := (blk_cell ZS2.out 7).trans rfl
  have xc8 : w2.cell? ⟨w.heap.size + 1 + 1 + 1, 8, none⟩ = some (.int .i64 s.f1) := (blk_cell ZS2.out 8).trans rfl
  have xc9 : w2.cell? ⟨w.heap.size + 1 + 1 + 1, 9, none⟩ = some (.int .i64 s.f2) := (blk_cell ZS2.out 9).trans rfl
  have xc10 : w2.cell? ⟨w.heap.size + 1 + 1 + 1, 10, none⟩ = some (.int .i64 0) := (blk_cell ZS2.out 10).trans rfl
  have xc11 : w2.cell? ⟨w.heap.size + 1 + 1 + 1, 11, none⟩ = some (.int .i64 0) := (blk_cell ZS2.out 11).trans rfl
  have xz0 : w2.frozen? ⟨w.heap.size + 1 + 1 + 1, 0, none⟩ = false := blk_frozen ZS2.out 0
  have xz1 : w2.frozen? ⟨w.heap.size + 1 + 1 + 1, 1, none⟩ = false := blk_frozen ZS2.out 1
  have xz2 : w2.frozen? ⟨w.heap.size + 1 + 1 + 1, 2, none⟩ = false := blk_frozen ZS2.out 2
  have xz3 : w2.frozen? ⟨w.heap.size + 1 + 1 + 1, 3, none⟩ = false := blk_frozen ZS2.out 3
  have xz4 : w2.frozen? ⟨w.heap.size + 1 + 1 + 1, 4, none⟩ = false := blk_frozen ZS2.out 4
  have xz5 : w2.frozen? ⟨w.heap.size + 1 + 1 + 1, 5, none⟩ = false := blk_frozen ZS2.out 5
  have xz6 : w2.frozen? ⟨w.heap.size + 1 + 1 + 1, 6, none⟩ = false := blk_frozen ZS2.out 6
  have xz7 : w2.frozen? ⟨w.heap.size + 1 + 1 + 1, 7, none⟩ = false := blk_frozen ZS2.out 7
  have xz8 : w2.frozen? ⟨w.heap.size + 1 + 1 + 1, 8, none⟩ = false := blk_frozen ZS2.out 8
  have xz9 : w2.frozen? ⟨w.heap.size + 1 + 1 + 1, 9, none⟩ = false := blk_frozen ZS2.out 9
  have xz10 : w2.frozen? ⟨w.heap.size + 1 + 1 + 1, 10, none⟩ = false := blk_frozen ZS2.out 10
  have xz11 : w2.frozen? ⟨w.heap.size + 1 + 1 + 1, 11, none⟩ = false := blk_frozen ZS2.out 11
  have rc0 : w2.cell? ⟨w.heap.size + 1 + 1, 0, none⟩ = some (.int .i64 0) := (blk_cell ZR2.out 0).trans rfl
  have rc1 : w2.cell? ⟨w.heap.size + 1 + 1, 1, none⟩ = some (.int .i64 0) := (blk_cell ZR2.out 1).trans rfl
  have rc2 : w2.cell? ⟨w.heap.size + 1 + 1, 2, none⟩ = some (.int .i64 0) := (blk_cell ZR2.out 2).trans rfl
  have rc3 : w2.cell? ⟨w.heap.size + 1 + 1, 3, none⟩ = some (.int .i64 0) := (blk_cell ZR2.out 3).trans rfl
  have rc4 : w2.cell? ⟨w.heap.size + 1 + 1, 4, none⟩ = some (.int .i64 0) := (blk_cell ZR2.out 4).trans rfl
  have rc5 : w2.cell? ⟨w.heap.size + 1 + 1, 5, none⟩ = some (.int .i64 0) := (blk_cell ZR2.out 5).trans rfl
  have rc6 : w2.cell? ⟨w.heap.size + 1 + 1, 6, none⟩ = some (.int .i64 0) := (blk_cell ZR2.out 6).trans rfl
  have rc7 : w2.cell? ⟨w.heap.size + 1 + 1, 7, none⟩ = some (.int .i64 0) := (blk_cell ZR2.out 7).trans rfl
  have rc8 : w2.cell? ⟨w.heap.size + 1 + 1, 8, none⟩ = some (.int .i64 0) := (blk_cell ZR2.out 8).trans rfl
  have rc9 : w2.cell? ⟨w.heap.size + 1 + 1, 9, none⟩ = some (.int .i64 0) := (blk_cell ZR2.out 9).trans rfl
  have rc10 : w2.cell? ⟨w.heap.size + 1 + 1, 10, none⟩ = some (.int .i64 0) := (blk_cell ZR2.out 10).trans rfl
  have rc11 : w2.cell? ⟨w.heap.size + 1 + 1, 11, none⟩ = some (.int .i64 0) := (blk_cell ZR2.out 11).trans rfl
  have rz0 : w2.frozen? ⟨w.heap.size + 1 + 1, 0, none⟩ = false := blk_frozen ZR2.out 0
  have rz1 : w2.frozen? ⟨w.heap.size + 1 + 1, 1, none⟩ = false := blk_frozen ZR2.out 1
  have rz2 : w2.frozen? ⟨w.heap.size + 1 + 1, 2, none⟩ = false := blk_frozen ZR2.out 2
  have rz3 : w2.frozen? ⟨w.heap.size + 1 + 1, 3, none⟩ = false := blk_frozen ZR2.out 3
  have rz4 : w2.frozen? ⟨w.heap.size + 1 + 1, 4, none⟩ = false := blk_frozen ZR2.out 4
  have rz5 : w2.frozen? ⟨w.heap.size + 1 + 1, 5, none⟩ = false := blk_frozen ZR2.out 5
  have rz6 : w2.frozen? ⟨w.heap.size + 1 + 1, 6, none⟩ = false := blk_frozen ZR2.out 6
  have rz7 : w2.frozen? ⟨w.heap.size + 1 + 1, 7, none⟩ = false := blk_frozen ZR2.out 7
  have rz8 : w2.frozen? ⟨w.heap.size + 1 + 1, 8, none⟩ = false := blk_frozen ZR2.out 8
  have rz9 : w2.frozen? ⟨w.heap.size + 1 + 1, 9, none⟩ = false := blk_frozen ZR2.out 9
  have rz10 : w2.frozen? ⟨w.heap.size + 1 + 1, 10, none⟩ = false := blk_frozen ZR2.out 10
  have rz11 : w2.frozen? ⟨w.heap.size + 1 + 1, 11, none⟩ = false := blk_frozen ZR2.out 11
  go_wp2_with fail
  refine (must_yes 21 _).mono ?_
  rintro e w4 ⟨rfl, rfl⟩
  go_wp2_with fail
  have hne : w.heap.size + 1 + 1 ≠ w.heap.size + 1 + 1 + 1 := by omega
  have HZ := put12 (far_set ZR2.out hne 11 (.int .i64 (Sy.sizeI s))) (.int .i64 (l.f0)) (.int .i64 (l.f1)) (.int .i64 (l.f2)) (.int .i64 (l.f3)) (.int .i64 (s.f0)) (.int .i64 (s.f1)) (.int .i64 (s.f2)) (.int .i64 (s.f0)) (.int .i64 (s.f1)) (.int .i64 (s.f2)) (.int .i64 (0)) (.int .i64 (Sy.sizeI s))
  have hge3 : w.heap.size ≤ w.heap.size + 1 + 1 + 1 := by omega
  have hge2 : w.heap.size ≤ w.heap.size + 1 + 1 := by omega
  have HBB := below_put12 (g := w.heap.size + 1 + 1) (below_set (g := w.heap.size + 1 + 1 + 1) (j := 11) (v := .int .i64 (Sy.sizeI s)) B2.out hge3) hge2 (.int .i64 (l.f0)) (.int .i64 (l.f1)) (.int .i64 (l.f2)) (.int .i64 (l.f3)) (.int .i64 (s.f0)) (.int .i64 (s.f1)) (.int .i64 (s.f2)) (.int .i64 (s.f0)) (.int .i64 (s.f1)) (.int .i64 (s.f2)) (.int .i64 (0)) (.int .i64 (Sy.sizeI s))
  refine bodyPost_ret (results_cell_row rfl _ _ (w.heap.size + 1 + 1) 94 #[.int .i64 (l.f0), .int .i64 (l.f1), .int .i64 (l.f2), .int .i64 (l.f3), .int .i64 (s.f0), .int .i64 (s.f1), .int .i64 (s.f2), .int .i64 (s.f0), .int .i64 (s.f1), .int .i64 (s.f2), .int .i64 (0), .int .i64 (Sy.sizeI s)] (0, 0) _ rfl HZ Try.underlying94 rfl (by kernel_rfl)) rfl ?_
  refine ⟨HBB, ?_⟩
  clear HZ HBB
  have ho : Sy.outO s l = some s := by unfold Sy.outO; rw [if_neg (by rw [K1.out]; decide), if_pos K1.out]
  rw [ho]
  refine congrArg Ending.returned ?_
  unfold stepV Sy.stepOf Sy.prods Sy.wts
  rw [if_neg (by rw [K1.out]; decide), if_pos K1.out, if_neg (by rw [K1.out]; decide), if_pos K1.out]
set_option maxHeartbeats 4000000 in
set_option maxRecDepth 100000 in
theorem next_pool_yes (s : S23) (l : S40) (t : S23) (w : World) (hr : Sy.rightB s = true) (k1 : l.f0 = 3) (hq : Sy.poolO s l.f2 = some t) : Calls Try.prog 104 #[.agg #[.int .i64 s.f0, .int .i64 s.f1, .int .i64 s.f2], .agg #[.int .i64 l.f0, .int .i64 l.f1, .int .i64 l.f2, .int .i64 l.f3]] w (NextPost s l w) := by
  have HR := Aside0.mk hr
  have K1 := Aside0.mk k1
  have HQ := Aside0.mk hq
  have e1 : (l.f0 == 1) = false := by simp [k1]
  have e2 : (l.f0 == 2) = false := by simp [k1]
  have e3 : (l.f0 == 3) = true := by simp [k1]
  clear hr k1 hq
  go_enter Try.func104, Try.ntmps104
  go_wp2_with fail
  have B1 := Aside0.mk (below_alloc (below_alloc (below_alloc (below_alloc (Below.refl w.heap.size w) (.cells #[.int .i64 s.f0, .int .i64 s.f1, .int .i64 s.f2] 23)) (.cells #[.int .i64 l.f0, .int .i64 l.f1, .int .i64 l.f2, .int .i64 l.f3] 40)) (.cells #[.int .i64 0, .int .i64 0, .int .i64 0, .int .i64 0, .int .i64 0, .int .i64 0, .int .i64 0, .int .i64 0, .int .i64 0, .int .i64 0, .int .i64 0, .int .i64 0] 94)) (.cells #[.int .i64 l.f0, .int .i64 l.f1, .int .i64 l.f2, .int .i64 l.f3, .int .i64 s.f0, .int .i64 s.f1, .int .i64 s.f2, .int .i64 s.f0, .int .i64 s.f1, .int .i64 s.f2, .int .i64 0, .int .i64 0] 94))
  have HS1 := Aside0.mk (blk_alloc (blk_alloc (blk_alloc (blk_new w (.cells #[.int .i64 s.f0, .int .i64 s.f1, .int .i64 s.f2] 23)) (.cells #[.int .i64 l.f0, .int .i64 l.f1, .int .i64 l.f2, .int .i64 l.f3] 40)) (.cells #[.int .i64 0, .int .i64 0, .int .i64 0, .int .i64 0, .int .i64 0, .int .i64 0, .int .i64 0, .int .i64 0, .int .i64 0, .int .i64 0, .int .i64 0, .int .i64 0] 94)) (.cells #[.int .i64 l.f0, .int .i64 l.f1, .int .i64 l.f2, .int .i64 l.f3, .int .i64 s.f0, .int .i64 s.f1, .int .i64 s.f2, .int .i64 s.f0, .int .i64 s.f1, .int .i64 s.f2, .int .i64 0, .int .i64 0] 94))
  have HL1 := Aside0.mk (blk_alloc (blk_alloc (blk_new1 w (.cells #[.int .i64 s.f0, .int .i64 s.f1, .int .i64 s.f2] 23) (.cells #[.int .i64 l.f0, .int .i64 l.f1, .int .i64 l.f2, .int .i64 l.f3] 40)) (.cells #[.int .i64 0, .int .i64 0, .int .i64 0, .int .i64 0, .int .i64 0, .int .i64 0, .int .i64 0, .int .i64 0, .int .i64 0, .int .i64 0, .int .i64 0, .int .i64 0] 94)) (.cells #[.int .i64 l.f0, .int .i64 l.f1, .int .i64 l.f2, .int .i64 l.f3, .int .i64 s.f0, .int .i64 s.f1, .int .i64 s.f2, .int .i64 s.f0, .int .i64 s.f1, .int .i64 s.f2, .int .i64 0, .int .i64 0] 94))
  have ZR1 := Aside0.mk (blk_alloc (blk_new2 w (.cells #[.int .i64 s.f0, .int .i64 s.f1, .int .i64 s.f2] 23) (.cells #[.int .i64 l.f0, .int .i64 l.f1, .int .i64 l.f2, .int .i64 l.f3] 40) (.cells #[.int .i64 0, .int .i64 0, .int .i64 0, .int .i64 0, .int .i64 0, .int .i64 0, .int .i64 0, .int .i64 0, .int .i64 0, .int .i64 0, .int .i64 0, .int .i64 0] 94)) (.cells #[.int .i64 l.f0, .int .i64 l.f1, .int .i64 l.f2, .int .i64 l.f3, .int .i64 s.f0, .int .i64 s.f1, .int .i64 s.f2, .int .i64 s.f0, .int .i64 s.f1, .int .i64 s.f2, .int .i64 0, .int .i64 0] 94))
  have ZS1 := Aside0.mk (blk_new3 w (.cells #[.int .i64 s.f0, .int .i64 s.f1, .int .i64 s.f2] 23) (.cells #[.int .i64 l.f0, .int .i64 l.f1, .int .i64 l.f2, .int .i64 l.f3] 40) (.cells #[.int .i64 0, .int .i64 0, .int .i64 0, .int .i64 0, .int .i64 0, .int .i64 0, .int .i64 0, .int .i64 0, .int .i64 0, .int .i64 0, .int .i64 0, .int .i64 0] 94) (.cells #[.int .i64 l.f0, .int .i64 l.f1, .int .i64 l.f2, .int .i64 l.f3, .int .i64 s.f0, .int .i64 s.f1, .int .i64 s.f2, .int .i64 s.f0, .int .i64 s.f1, .int .i64 s.f2, .int .i64 0, .int .i64 0] 94))
  generalize (((w.alloc (.cells #[.int .i64 s.f0, .int .i64 s.f1, .int .i64 s.f2] 23)).alloc (.cells #[.int .i64 l.f0, .int .i64 l.f1, .int .i64 l.f2, .int .i64 l.f3] 40)).alloc (.cells #[.int .i64 0, .int .i64 0, .int .i64 0, .int .i64 0, .int .i64 0, .int .i64 0, .int .i64 0, .int .i64 0, .int .i64 0, .int .i64 0, .int .i64 0, .int .i64 0] 94)).alloc (.cells #[.int .i64 l.f0, .int .i64 l.f1, .int .i64 l.f2, .int .i64 l.f3, .int .i64 s.f0, .int .i64 s.f1, .int .i64 s.f2, .int .i64 s.f0, .int .i64 s.f1, .int .i64 s.f2, .int .i64 0, .int .i64 0] 94) = W at *
  refine (pool_calls s l.f2 _ HR.out).mono ?_
  rw [HQ.out, shapeV_some]
  rintro e w2 ⟨rfl, hb⟩
  have B2 := Aside0.mk (below_step B1.out hb)
  have HS2 := Aside0.mk (blk_below HS1.out hb)
  have HL2 := Aside0.mk (blk_below HL1.out hb)
  have ZR2 := Aside0.mk (blk_below ZR1.out hb)
  have ZS2 := Aside0.mk (blk_below ZS1.out hb)
  clear B1 HS1 HL1 ZR1 ZS1 hb
  have sc0 : w2.cell? ⟨w.heap.size, 0, none⟩ = some (.int .i64 s.f0) := (blk_cell HS2.out 0).trans rfl
  have sc1 : w2.cell? ⟨w.heap.size, 1, none⟩ = some (.int .i64 s.f1) := (blk_cell HS2.out 1).trans rfl
  have sc2 : w2.cell? ⟨w.heap.size, 2, none⟩ = some (.int .i64 s.f2) := (blk_cell HS2.out 2).trans rfl
  have lc0 : w2.cell? ⟨w.heap.size + 1, 0, none⟩ = some (.int .i64 l.f0) := (blk_cell HL2.out 0).trans rfl
  have lc1 : w2.cell? ⟨w.heap.size + 1, 1, none⟩ = some (.int .i64 l.f1) := (blk_cell HL2.out 1).trans rfl
  have lc2 : w2.cell? ⟨w.heap.size + 1, 2, none⟩ = some (.int .i64 l.f2) := (blk_cell HL2.out 2).trans rfl
  have lc3 : w2.cell? ⟨w.heap.size + 1, 3, none⟩ = some (.int .i64 l.f3) := (blk_cell HL2.out 3).trans rfl
  have xc0 : w2.cell? ⟨w.heap.size + 1 + 1 + 1, 0, none⟩ = some (.int .i64 l.f0) := (blk_cell ZS2.out 0).trans rfl
  have xc1 : w2.cell? ⟨w.heap.size + 1 + 1 + 1, 1, none⟩ = some (.int .i64 l.f1) := (blk_cell ZS2.out 1).trans rfl
  have xc2 : w2.cell? ⟨w.heap.size + 1 + 1 + 1, 2, none⟩ = some (.int .i64 l.f2) := (blk_cell ZS2.out 2).trans rfl
  have xc3 : w2.cell? ⟨w.heap.size + 1 + 1 + 1, 3, none⟩ = some (.int .i64 l.f3) := (blk_cell ZS2.out 3).trans rfl
  have xc4 : w2.cell? ⟨w.heap.size + 1 + 1 + 1, 4, none⟩ = some (.int .i64 s.f0) := (blk_cell ZS2.out 4).trans rfl
  have xc5 : w2.cell? ⟨w.heap.size + 1 + 1 + 1, 5, none⟩ = some (.int .i64 s.f1) := (blk_cell ZS2.out 5).trans rfl
  have xc6 : w2.cell? ⟨w.heap.size + 1 + 1 + 1, 6, none⟩ = some (.int .i64 s.f2) := (blk_cell ZS2.out 6).trans rfl
  have xc7 : w2.cell? ⟨w.heap.size + 1 + 1 + 1, 7, none⟩ = some (.int .i64 s.f0) := (blk_cell ZS2.out 7).trans rfl
  have xc8 : w2.cell? ⟨w.heap.size + 1 + 1 + 1, 8, none⟩ = some (.int .i64 s.f1) := (blk_cell ZS2.out 8).trans rfl
  have xc9 : w2.cell? ⟨w.heap.size + 1 + 1 + 1, 9, none⟩ = some (.int .i64 s.f2) := (blk_cell ZS2.out 9).trans rfl
  have xc10 : w2.cell? ⟨w.heap.size + 1 + 1 + 1, 10, none⟩ = some (.int .i64 0) := (blk_cell ZS2.out 10).trans rfl
  have xc11 : w2.cell? ⟨w.heap.size + 1 + 1 + 1, 11, none⟩ = some (.int .i64 0) := (blk_cell ZS2.out 11).trans rfl
  have xz0 : w2.frozen? ⟨w.heap.size + 1 + 1 + 1, 0, none⟩ = false := blk_frozen ZS2.out 0
  have xz1 : w2.frozen? ⟨w.heap.size + 1 + 1 + 1, 1, none⟩ = false := blk_frozen ZS2.out 1
  have xz2 : w2.frozen? ⟨w.heap.size + 1 + 1 + 1, 2, none⟩ = false := blk_frozen ZS2.out 2
  have xz3 : w2.frozen? ⟨w.heap.size + 1 + 1 + 1, 3, none⟩ = false := blk_frozen ZS2.out 3
  have xz4 : w2.frozen? ⟨w.heap.size + 1 + 1 + 1, 4, none⟩ = false := blk_frozen ZS2.out 4
  have xz5 : w2.frozen? ⟨w.heap.size + 1 + 1 + 1, 5, none⟩ = false := blk_frozen ZS2.out 5
  have xz6 : w2.frozen? ⟨w.heap.size + 1 + 1 + 1, 6, none⟩ = false := blk_frozen ZS2.out 6
  have xz7 : w2.frozen? ⟨w.heap.size + 1 + 1 + 1, 7, none⟩ = false := blk_frozen ZS2.out 7
  have xz8 : w2.frozen? ⟨w.heap.size + 1 + 1 + 1, 8, none⟩ = false := blk_frozen ZS2.out 8
  have xz9 : w2.frozen? ⟨w.heap.size + 1 + 1 + 1, 9, none⟩ = false := blk_frozen ZS2.out 9
  have xz10 : w2.frozen? ⟨w.heap.size + 1 + 1 + 1, 10, none⟩ = false := blk_frozen ZS2.out 10
  have xz11 : w2.frozen? ⟨w.heap.size + 1 + 1 + 1, 11, none⟩ = false := blk_frozen ZS2.out 11
  have rc0 : w2.cell? ⟨w.heap.size + 1 + 1, 0, none⟩ = some (.int .i64 0) := (blk_cell ZR2.out 0).trans rfl
  have rc1 : w2.cell? ⟨w.heap.size + 1 + 1, 1, none⟩ = some (.int .i64 0) := (blk_cell ZR2.out 1).trans rfl
  have rc2 : w2.cell? ⟨w.heap.size + 1 + 1, 2, none⟩ = some (.int .i64 0) := (blk_cell ZR2.out 2).trans rfl
  have rc3 : w2.cell? ⟨w.heap.size + 1 + 1, 3, none⟩ = some (.int .i64 0) := (blk_cell ZR2.out 3).trans rfl
  have rc4 : w2.cell? ⟨w.heap.size + 1 + 1, 4, none⟩ = some (.int .i64 0) := (blk_cell ZR2.out 4).trans rfl
  have rc5 : w2.cell? ⟨w.heap.size + 1 + 1, 5, none⟩ = some (.int .i64 0) := (blk_cell ZR2.out 5).trans rfl
  have rc6 : w2.cell? ⟨w.heap.size + 1 + 1, 6, none⟩ = some (.int .i64 0) := (blk_cell ZR2.out 6).trans rfl
  have rc7 : w2.cell? ⟨w.heap.size + 1 + 1, 7, none⟩ = some (.int .i64 0) := (blk_cell ZR2.out 7).trans rfl
  have rc8 : w2.cell? ⟨w.heap.size + 1 + 1, 8, none⟩ = some (.int .i64 0) := (blk_cell ZR2.out 8).trans rfl
  have rc9 : w2.cell? ⟨w.heap.size + 1 + 1, 9, none⟩ = some (.int .i64 0) := (blk_cell ZR2.out 9).trans rfl
  have rc10 : w2.cell? ⟨w.heap.size + 1 + 1, 10, none⟩ = some (.int .i64 0) := (blk_cell ZR2.out 10).trans rfl
  have rc11 : w2.cell? ⟨w.heap.size + 1 + 1, 11, none⟩ = some (.int .i64 0) := (blk_cell ZR2.out 11).trans rfl
  have rz0 : w2.frozen? ⟨w.heap.size + 1 + 1, 0, none⟩ = false := blk_frozen ZR2.out 0
  have rz1 : w2.frozen? ⟨w.heap.size + 1 + 1, 1, none⟩ = false := blk_frozen ZR2.out 1
  have rz2 : w2.frozen? ⟨w.heap.size + 1 + 1, 2, none⟩ = false := blk_frozen ZR2.out 2
  have rz3 : w2.frozen? ⟨w.heap.size + 1 + 1, 3, none⟩ = false := blk_frozen ZR2.out 3
  have rz4 : w2.frozen? ⟨w.heap.size + 1 + 1, 4, none⟩ = false := blk_frozen ZR2.out 4
  have rz5 : w2.frozen? ⟨w.heap.size + 1 + 1, 5, none⟩ = false := blk_frozen ZR2.out 5
  have rz6 : w2.frozen? ⟨w.heap.size + 1 + 1, 6, none⟩ = false := blk_frozen ZR2.out 6
  have rz7 : w2.frozen? ⟨w.heap.size + 1 + 1, 7, none⟩ = false := blk_frozen ZR2.out 7
  have rz8 : w2.frozen? ⟨w.heap.size + 1 + 1, 8, none⟩ = false := blk_frozen ZR2.out 8
  have rz9 : w2.frozen? ⟨w.heap.size + 1 + 1, 9, none⟩ = false := blk_frozen ZR2.out 9
  have rz10 : w2.frozen? ⟨w.heap.size + 1 + 1, 10, none⟩ = false := blk_frozen ZR2.out 10
  have rz11 : w2.frozen? ⟨w.heap.size + 1 + 1, 11, none⟩ = false := blk_frozen ZR2.out 11
  go_wp2_with fail
  refine (must_yes 21 _).mono ?_
  rintro e w4 ⟨rfl, rfl⟩
  go_wp2_with fail
  have hne : w.heap.size + 1 + 1 ≠ w.heap.size + 1 + 1 + 1 := by omega
  have HZ := put12 (far_set (far_set (far_set ZR2.out hne 7 (.int .i64 (t.f0))) hne 8 (.int .i64 (t.f1))) hne 9 (.int .i64 (t.f2))) (.int .i64 (l.f0)) (.int .i64 (l.f1)) (.int .i64 (l.f2)) (.int .i64 (l.f3)) (.int .i64 (s.f0)) (.int .i64 (s.f1)) (.int .i64 (s.f2)) (.int .i64 (t.f0)) (.int .i64 (t.f1)) (.int .i64 (t.f2)) (.int .i64 (0)) (.int .i64 (0))
  have hge3 : w.heap.size ≤ w.heap.size + 1 + 1 + 1 := by omega
  have hge2 : w.heap.size ≤ w.heap.size + 1 + 1 := by omega
  have HBB := below_put12 (g := w.heap.size + 1 + 1) (below_set (g := w.heap.size + 1 + 1 + 1) (j := 9) (v := .int .i64 (t.f2)) (below_set (g := w.heap.size + 1 + 1 + 1) (j := 8) (v := .int .i64 (t.f1)) (below_set (g := w.heap.size + 1 + 1 + 1) (j := 7) (v := .int .i64 (t.f0)) B2.out hge3) hge3) hge3) hge2 (.int .i64 (l.f0)) (.int .i64 (l.f1)) (.int .i64 (l.f2)) (.int .i64 (l.f3)) (.int .i64 (s.f0)) (.int .i64 (s.f1)) (.int .i64 (s.f2)) (.int .i64 (t.f0)) (.int .i64 (t.f1)) (.int .i64 (t.f2)) (.int .i64 (0)) (.int .i64 (0))
  refine bodyPost_ret (results_cell_row rfl _ _ (w.heap.size + 1 + 1) 94 #[.int .i64 (l.f0), .int .i64 (l.f1), .int .i64 (l.f2), .int .i64 (l.f3), .int .i64 (s.f0), .int .i64 (s.f1), .int .i64 (s.f2), .int .i64 (t.f0), .int .i64 (t.f1), .int .i64 (t.f2), .int .i64 (0), .int .i64 (0)] (0, 0) _ rfl HZ Try.underlying94 rfl (by kernel_rfl)) rfl ?_
  refine ⟨HBB, ?_⟩
  clear HZ HBB
  have ho : Sy.outO s l = some t := by unfold Sy.outO; rw [if_neg (by rw [K1.out]; decide), if_neg (by rw [K1.out]; decide), if_pos K1.out]; exact HQ.out
  rw [ho]
  refine congrArg Ending.returned ?_
  unfold stepV Sy.stepOf Sy.prods Sy.wts
  rw [if_neg (by rw [K1.out]; decide), if_neg (by rw [K1.out]; decide), if_pos K1.out, if_neg (by rw [K1.out]; decide), if_neg (by rw [K1.out]; decide), if_pos K1.out]
set_option maxHeartbeats 4000000 in
set_option maxRecDepth 100000 in
theorem next_pool_no (s : S23) (l : S40) (w : World) (hr : Sy.rightB s = true) (k1 : l.f0 = 3) (hq : Sy.poolO s l.f2 = none) : Calls Try.prog 104 #[.agg #[.int .i64 s.f0, .int .i64 s.f1, .int .i64 s.f2], .agg #[.int .i64 l.f0, .int .i64 l.f1, .int .i64 l.f2, .int .i64 l.f3]] w (NextPost s l w) := by
  have HR := Aside0.mk hr
  have K1 := Aside0.mk k1
  have HQ := Aside0.mk hq
  have e1 : (l.f0 == 1) = false := by simp [k1]
  have e2 : (l.f0 == 2) = false := by simp [k1]
  have e3 : (l.f0 == 3) = true := by simp [k1]
  clear hr k1 hq
  go_enter Try.func104, Try.ntmps104
  go_wp2_with fail
  have B1 := Aside0.mk (below_alloc (below_alloc (below_alloc (below_alloc (Below.refl w.heap.size w) (.cells #[.int .i64 s.f0, .int .i64 s.f1, .int .i64 s.f2] 23)) (.cells #[.int .i64 l.f0, .int .i64 l.f1, .int .i64 l.f2, .int .i64 l.f3] 40)) (.cells #[.int .i64 0, .int .i64 0, .int .i64 0, .int .i64 0, .int .i64 0, .int .i64 0, .int .i64 0, .int .i64 0, .int .i64 0, .int .i64 0, .int .i64 0, .int .i64 0] 94)) (.cells #[.int .i64 l.f0, .int .i64 l.f1, .int .i64 l.f2, .int .i64 l.f3, .int .i64 s.f0, .int .i64 s.f1, .int .i64 s.f2, .int .i64 s.f0, .int .i64 s.f1, .int .i64 s.f2, .int .i64 0, .int .i64 0] 94))
  have HS1 := Aside0.mk (blk_alloc (blk_alloc (blk_alloc (blk_new w (.cells #[.int .i64 s.f0, .int .i64 s.f1, .int .i64 s.f2] 23)) (.cells #[.int .i64 l.f0, .int .i64 l.f1, .int .i64 l.f2, .int .i64 l.f3] 40)) (.cells #[.int .i64 0, .int .i64 0, .int .i64 0, .int .i64 0, .int .i64 0, .int .i64 0, .int .i64 0, .int .i64 0, .int .i64 0, .int .i64 0, .int .i64 0, .int .i64 0] 94)) (.cells #[.int .i64 l.f0, .int .i64 l.f1, .int .i64 l.f2, .int .i64 l.f3, .int .i64 s.f0, .int .i64 s.f1, .int .i64 s.f2, .int .i64 s.f0, .int .i64 s.f1, .int .i64 s.f2, .int .i64 0, .int .i64 0] 94))
  have HL1 := Aside0.mk (blk_alloc (blk_alloc (blk_new1 w (.cells #[.int .i64 s.f0, .int .i64 s.f1, .int .i64 s.f2] 23) (.cells #[.int .i64 l.f0, .int .i64 l.f1, .int .i64 l.f2, .int .i64 l.f3] 40)) (.cells #[.int .i64 0, .int .i64 0, .int .i64 0, .int .i64 0, .int .i64 0, .int .i64 0, .int .i64 0, .int .i64 0, .int .i64 0, .int .i64 0, .int .i64 0, .int .i64 0] 94)) (.cells #[.int .i64 l.f0, .int .i64 l.f1, .int .i64 l.f2, .int .i64 l.f3, .int .i64 s.f0, .int .i64 s.f1, .int .i64 s.f2, .int .i64 s.f0, .int .i64 s.f1, .int .i64 s.f2, .int .i64 0, .int .i64 0] 94))
  have ZR1 := Aside0.mk (blk_alloc (blk_new2 w (.cells #[.int .i64 s.f0, .int .i64 s.f1, .int .i64 s.f2] 23) (.cells #[.int .i64 l.f0, .int .i64 l.f1, .int .i64 l.f2, .int .i64 l.f3] 40) (.cells #[.int .i64 0, .int .i64 0, .int .i64 0, .int .i64 0, .int .i64 0, .int .i64 0, .int .i64 0, .int .i64 0, .int .i64 0, .int .i64 0, .int .i64 0, .int .i64 0] 94)) (.cells #[.int .i64 l.f0, .int .i64 l.f1, .int .i64 l.f2, .int .i64 l.f3, .int .i64 s.f0, .int .i64 s.f1, .int .i64 s.f2, .int .i64 s.f0, .int .i64 s.f1, .int .i64 s.f2, .int .i64 0, .int .i64 0] 94))
  have ZS1 := Aside0.mk (blk_new3 w (.cells #[.int .i64 s.f0, .int .i64 s.f1, .int .i64 s.f2] 23) (.cells #[.int .i64 l.f0, .int .i64 l.f1, .int .i64 l.f2, .int .i64 l.f3] 40) (.cells #[.int .i64 0, .int .i64 0, .int .i64 0, .int .i64 0, .int .i64 0, .int .i64 0, .int .i64 0, .int .i64 0, .int .i64 0, .int .i64 0, .int .i64 0, .int .i64 0] 94) (.cells #[.int .i64 l.f0, .int .i64 l.f1, .int .i64 l.f2, .int .i64 l.f3, .int .i64 s.f0, .int .i64 s.f1, .int .i64 s.f2, .int .i64 s.f0, .int .i64 s.f1, .int .i64 s.f2, .int .i64 0, .int .i64 0] 94))
  generalize (((w.alloc (.cells #[.int .i64 s.f0, .int .i64 s.f1, .int .i64 s.f2] 23)).alloc (.cells #[.int .i64 l.f0, .int .i64 l.f1, .int .i64 l.f2, .int .i64 l.f3] 40)).alloc (.cells #[.int .i64 0, .int .i64 0, .int .i64 0, .int .i64 0, .int .i64 0, .int .i64 0, .int .i64 0, .int .i64 0, .int .i64 0, .int .i64 0, .int .i64 0, .int .i64 0] 94)).alloc (.cells #[.int .i64 l.f0, .int .i64 l.f1, .int .i64 l.f2, .int .i64 l.f3, .int .i64 s.f0, .int .i64 s.f1, .int .i64 s.f2, .int .i64 s.f0, .int .i64 s.f1, .int .i64 s.f2, .int .i64 0, .int .i64 0] 94) = W at *
  refine (pool_calls s l.f2 _ HR.out).mono ?_
  rw [HQ.out, shapeV_none]
  rintro e w2 ⟨rfl, hb⟩
  have B2 := Aside0.mk (below_step B1.out hb)
  have HS2 := Aside0.mk (blk_below HS1.out hb)
  have HL2 := Aside0.mk (blk_below HL1.out hb)
  have ZR2 := Aside0.mk (blk_below ZR1.out hb)
  have ZS2 := Aside0.mk (blk_below ZS1.out hb)
  clear B1 HS1 HL1 ZR1 ZS1 hb
  have sc0 : w2.cell? ⟨w.heap.size, 0, none⟩ = some (.int .i64 s.f0) := (blk_cell HS2.out 0).trans rfl
  have sc1 : w2.cell? ⟨w.heap.size, 1, none⟩ = some (.int .i64 s.f1) := (blk_cell HS2.out 1).trans rfl
  have sc2 : w2.cell? ⟨w.heap.size, 2, none⟩ = some (.int .i64 s.f2) := (blk_cell HS2.out 2).trans rfl
  have lc0 : w2.cell? ⟨w.heap.size + 1, 0, none⟩ = some (.int .i64 l.f0) := (blk_cell HL2.out 0).trans rfl
  have lc1 : w2.cell? ⟨w.heap.size + 1, 1, none⟩ = some (.int .i64 l.f1) := (blk_cell HL2.out 1).trans rfl
  have lc2 : w2.cell? ⟨w.heap.size + 1, 2, none⟩ = some (.int .i64 l.f2) := (blk_cell HL2.out 2).trans rfl
  have lc3 : w2.cell? ⟨w.heap.size + 1, 3, none⟩ = some (.int .i64 l.f3) := (blk_cell HL2.out 3).trans rfl
  have xc0 : w2.cell? ⟨w.heap.size + 1 + 1 + 1, 0, none⟩ = some (.int .i64 l.f0) := (blk_cell ZS2.out 0).trans rfl
  have xc1 : w2.cell? ⟨w.heap.size + 1 + 1 + 1, 1, none⟩ = some (.int .i64 l.f1) := (blk_cell ZS2.out 1).trans rfl
  have xc2 : w2.cell? ⟨w.heap.size + 1 + 1 + 1, 2, none⟩ = some (.int .i64 l.f2) := (blk_cell ZS2.out 2).trans rfl
  have xc3 : w2.cell? ⟨w.heap.size + 1 + 1 + 1, 3, none⟩ = some (.int .i64 l.f3) := (blk_cell ZS2.out 3).trans rfl
  have xc4 : w2.cell? ⟨w.heap.size + 1 + 1 + 1, 4, none⟩ = some (.int .i64 s.f0) := (blk_cell ZS2.out 4).trans rfl
  have xc5 : w2.cell? ⟨w.heap.size + 1 + 1 + 1, 5, none⟩ = some (.int .i64 s.f1) := (blk_cell ZS2.out 5).trans rfl
  have xc6 : w2.cell? ⟨w.heap.size + 1 + 1 + 1, 6, none⟩ = some (.int .i64 s.f2) := (blk_cell ZS2.out 6).trans rfl
  have xc7 : w2.cell? ⟨w.heap.size + 1 + 1 + 1, 7, none⟩ = some (.int .i64 s.f0) := (blk_cell ZS2.out 7).trans rfl
  have xc8 : w2.cell? ⟨w.heap.size + 1 + 1 + 1, 8, none⟩ = some (.int .i64 s.f1) := (blk_cell ZS2.out 8).trans rfl
  have xc9 : w2.cell? ⟨w.heap.size + 1 + 1 + 1, 9, none⟩ = some (.int .i64 s.f2) := (blk_cell ZS2.out 9).trans rfl
  have xc10 : w2.cell? ⟨w.heap.size + 1 + 1 + 1, 10, none⟩ = some (.int .i64 0) := (blk_cell ZS2.out 10).trans rfl
  have xc11 : w2.cell? ⟨w.heap.size + 1 + 1 + 1, 11, none⟩ = some (.int .i64 0) := (blk_cell ZS2.out 11).trans rfl
  have xz0 : w2.frozen? ⟨w.heap.size + 1 + 1 + 1, 0, none⟩ = false := blk_frozen ZS2.out 0
  have xz1 : w2.frozen? ⟨w.heap.size + 1 + 1 + 1, 1, none⟩ = false := blk_frozen ZS2.out 1
  have xz2 : w2.frozen? ⟨w.heap.size + 1 + 1 + 1, 2, none⟩ = false := blk_frozen ZS2.out 2
  have xz3 : w2.frozen? ⟨w.heap.size + 1 + 1 + 1, 3, none⟩ = false := blk_frozen ZS2.out 3
  have xz4 : w2.frozen? ⟨w.heap.size + 1 + 1 + 1, 4, none⟩ = false := blk_frozen ZS2.out 4
  have xz5 : w2.frozen? ⟨w.heap.size + 1 + 1 + 1, 5, none⟩ = false := blk_frozen ZS2.out 5
  have xz6 : w2.frozen? ⟨w.heap.size + 1 + 1 + 1, 6, none⟩ = false := blk_frozen ZS2.out 6
  have xz7 : w2.frozen? ⟨w.heap.size + 1 + 1 + 1, 7, none⟩ = false := blk_frozen ZS2.out 7
  have xz8 : w2.frozen? ⟨w.heap.size + 1 + 1 + 1, 8, none⟩ = false := blk_frozen ZS2.out 8
  have xz9 : w2.frozen? ⟨w.heap.size + 1 + 1 + 1, 9, none⟩ = false := blk_frozen ZS2.out 9
  have xz10 : w2.frozen? ⟨w.heap.size + 1 + 1 + 1, 10, none⟩ = false := blk_frozen ZS2.out 10
  have xz11 : w2.frozen? ⟨w.heap.size + 1 + 1 + 1, 11, none⟩ = false := blk_frozen ZS2.out 11
  have rc0 : w2.cell? ⟨w.heap.size + 1 + 1, 0, none⟩ = some (.int .i64 0) := (blk_cell ZR2.out 0).trans rfl
  have rc1 : w2.cell? ⟨w.heap.size + 1 + 1, 1, none⟩ = some (.int .i64 0) := (blk_cell ZR2.out 1).trans rfl
  have rc2 : w2.cell? ⟨w.heap.size + 1 + 1, 2, none⟩ = some (.int .i64 0) := (blk_cell ZR2.out 2).trans rfl
  have rc3 : w2.cell? ⟨w.heap.size + 1 + 1, 3, none⟩ = some (.int .i64 0) := (blk_cell ZR2.out 3).trans rfl
  have rc4 : w2.cell? ⟨w.heap.size + 1 + 1, 4, none⟩ = some (.int .i64 0) := (blk_cell ZR2.out 4).trans rfl
  have rc5 : w2.cell? ⟨w.heap.size + 1 + 1, 5, none⟩ = some (.int .i64 0) := (blk_cell ZR2.out 5).trans rfl
  have rc6 : w2.cell? ⟨w.heap.size + 1 + 1, 6, none⟩ = some (.int .i64 0) := (blk_cell ZR2.out 6).trans rfl
  have rc7 : w2.cell? ⟨w.heap.size + 1 + 1, 7, none⟩ = some (.int .i64 0) := (blk_cell ZR2.out 7).trans rfl
  have rc8 : w2.cell? ⟨w.heap.size + 1 + 1, 8, none⟩ = some (.int .i64 0) := (blk_cell ZR2.out 8).trans rfl
  have rc9 : w2.cell? ⟨w.heap.size + 1 + 1, 9, none⟩ = some (.int .i64 0) := (blk_cell ZR2.out 9).trans rfl
  have rc10 : w2.cell? ⟨w.heap.size + 1 + 1, 10, none⟩ = some (.int .i64 0) := (blk_cell ZR2.out 10).trans rfl
  have rc11 : w2.cell? ⟨w.heap.size + 1 + 1, 11, none⟩ = some (.int .i64 0) := (blk_cell ZR2.out 11).trans rfl
  have rz0 : w2.frozen? ⟨w.heap.size + 1 + 1, 0, none⟩ = false := blk_frozen ZR2.out 0
  have rz1 : w2.frozen? ⟨w.heap.size + 1 + 1, 1, none⟩ = false := blk_frozen ZR2.out 1
  have rz2 : w2.frozen? ⟨w.heap.size + 1 + 1, 2, none⟩ = false := blk_frozen ZR2.out 2
  have rz3 : w2.frozen? ⟨w.heap.size + 1 + 1, 3, none⟩ = false := blk_frozen ZR2.out 3
  have rz4 : w2.frozen? ⟨w.heap.size + 1 + 1, 4, none⟩ = false := blk_frozen ZR2.out 4
  have rz5 : w2.frozen? ⟨w.heap.size + 1 + 1, 5, none⟩ = false := blk_frozen ZR2.out 5
  have rz6 : w2.frozen? ⟨w.heap.size + 1 + 1, 6, none⟩ = false := blk_frozen ZR2.out 6
  have rz7 : w2.frozen? ⟨w.heap.size + 1 + 1, 7, none⟩ = false := blk_frozen ZR2.out 7
  have rz8 : w2.frozen? ⟨w.heap.size + 1 + 1, 8, none⟩ = false := blk_frozen ZR2.out 8
  have rz9 : w2.frozen? ⟨w.heap.size + 1 + 1, 9, none⟩ = false := blk_frozen ZR2.out 9
  have rz10 : w2.frozen? ⟨w.heap.size + 1 + 1, 10, none⟩ = false := blk_frozen ZR2.out 10
  have rz11 : w2.frozen? ⟨w.heap.size + 1 + 1, 11, none⟩ = false := blk_frozen ZR2.out 11
  go_wp2_with fail
  refine (must_no 21 _).mono ?_
  rintro e w4 ⟨rfl, rfl⟩
  have ho : Sy.outO s l = none := by unfold Sy.outO; rw [if_neg (by rw [K1.out]; decide), if_neg (by rw [K1.out]; decide), if_pos K1.out]; exact HQ.out
  have hge3 : w.heap.size ≤ w.heap.size + 1 + 1 + 1 := by omega
  refine ⟨rfl, ?_, by rw [ho]⟩
  with_reducible repeat (first | exact B2.out | refine below_set ?_ hge3)
end Go.Proofs.Ytnfcadjckoebkaa.P
