import Derived.Test.YtnfcadjckoebkaaHXTf
namespace Go.Proofs.Ytnfcadjckoebkaa.P
open Go.RowKit Go.Proofs.YtnfcadjckoebkaaW.PrintWords Go.Proofs.YtnfcadjckoebkaaW.PrintLast Go.Proofs.YtnfcadjckoebkaaW.PrintMore
set_option linter.unusedSimpArgs false
set_option linter.unusedVariables false
def PartsI (w0 : World) (B L C : Nat) (x : S40) (s t : S23) (fr c : Int) (xs : List Int) (w : World) : Prop :=
  Below w0.heap.size w0 w ∧ w.heap[L]? = some (.cells #[.int .i64 x.f0, .int .i64 x.f1, .int .i64 x.f2, .int .i64 x.f3, .int .i64 s.f0, .int .i64 s.f1, .int .i64 s.f2, .int .i64 t.f0, .int .i64 t.f1, .int .i64 t.f2, .int .i64 fr] 101 (0, 0)) ∧ w.heap[C]? = some (.cells #[.int .i64 c] 3 (0, 0)) ∧ ∃ v, w.heap[B]? = some (.cells #[v] 52 (0, 0)) ∧ Kd.R (Kd.int .i64) 3 w w0.heap.size (fun k => k ≠ C) v xs
theorem PartsI.drew {w0 : World} {B L C : Nat} {x : S40} {s t : S23} {fr c : Int} {xs : List Int} {w : World} (h : PartsI w0 B L C x s t fr c xs w) (n : Nat) : PartsI w0 B L C x s t fr c xs (w.drewN n) := by
  obtain ⟨h1, h2, h3, v, h4, h5⟩ := h
  exact ⟨pw_below_drewN h1 n, h2, h3, v, h4, Kd.R_drewN h5 n⟩
set_option maxRecDepth 100000 in
set_option maxHeartbeats 4000000 in
theorem parts_tell (w0 : World) (B L C : Nat) (x : S40) (s t : S23) (fr c : Int) (xs : List Int) (k : Int) (X Y : Nat) (w : World) (hB : w0.heap.size ≤ B) (hs : Sy.rightB s = true) (hc : 0 ≤ c ∧ c < s.f0) (hy : (Y : Int) < s.f1) (hx : (X : Int) < s.f2) (hl : xs.length ≤ 1000)
    (hI : PartsI w0 B L C x s t fr c xs w) :
    Calls Try.prog 90 #[.int .i64 k, .complex .f64 (fb X) (fb Y), .pointer (some ⟨B, 0, none⟩), .pointer (some ⟨L, 0, none⟩), .pointer (some ⟨C, 0, none⟩)] w fun e w' => e = .returned (.tuple #[]) ∧ PartsI w0 B L C x s t fr c (xs ++ [Sy.atI s c Y X]) w' := by
  obtain ⟨h1, h2, h3, v, h4, h5⟩ := hI
  obtain ⟨r, hr⟩ : ∃ r, r = Sy.atI s c Y X := ⟨_, rfl⟩
  rw [← hr]
  have HC := Aside0.mk (fun w => tat_calls s c r Y X w hs hc hy hx hr.symm)
  have HN := Aside0.mk (And.intro (And.intro hB (And.intro (blk_ne h4 h2 (by decide) : B ≠ L) (blk_ne h4 h3 (by decide) : B ≠ C))) hl)
  have I0 := Aside0.mk (And.intro (below_drew1 h1) (And.intro (blk_drew h2) (And.intro (blk_drew h3) (And.intro (blk_drew h4) (Kd.R_drew h5)))))
  have hS0 : (fun w' : World => w'.cell? ⟨B, 0, none⟩ = some v ∧ w'.cell? ⟨L, 4, none⟩ = some (.int .i64 s.f0) ∧ w'.cell? ⟨L, 5, none⟩ = some (.int .i64 s.f1) ∧ w'.cell? ⟨L, 6, none⟩ = some (.int .i64 s.f2) ∧ w'.cell? ⟨C, 0, none⟩ = some (.int .i64 c)) w.drew := ⟨(blk_cell h4 0).trans rfl, (blk_cell h2 4).trans rfl, (blk_cell h2 5).trans rfl, (blk_cell h2 6).trans rfl, (blk_cell h3 0).trans rfl⟩
  clear h1 h2 h3 h4 h5 hs hc hy hx hr hB hl
  go_enter Try.func90, Try.ntmps90
  go_wp2_with fail
  refine start_ (n := 9) (S := fun w' => w'.cell? ⟨B, 0, none⟩ = some v ∧ w'.cell? ⟨L, 4, none⟩ = some (.int .i64 s.f0) ∧ w'.cell? ⟨L, 5, none⟩ = some (.int .i64 s.f1) ∧ w'.cell? ⟨L, 6, none⟩ = some (.int .i64 s.f2) ∧ w'.cell? ⟨C, 0, none⟩ = some (.int .i64 c)) (ds := [7, 8]) #[false, false, false, false, false, false, false, false, false] (by kernel_rfl) rfl rfl hS0 (fun hHeld => ?_)
  generalize w.drew = w1 at *
  refine take_ (i := 0) (N := some 7) (v := ?_) (a' := ?_) #[true, false, false, false, false, false, false, false, false] rfl rfl (by kernel_rfl) (fun _ _ _ h => h) (Or.inl ⟨by rfl, ?_⟩) hHeld ?_ ?_; rotate_left
  · rintro w' ⟨s0, s1, s2, s3, s4⟩
    go_simp
    with_reducible rfl
  rotate_left
  · simp only [Act.put, List.setIfInBounds_toArray, List.set_cons_zero, List.set_cons_succ, i64_w]; rfl
  refine pure_ (i := 1) (N := some 8) (v := ?_) (a' := ?_) #[true, true, false, false, false, false, false, false, false] rfl rfl (by kernel_rfl) (fun _ _ _ h => h) (Or.inl ⟨by rfl, ?_⟩) ?_ ?_; rotate_left
  · intro w'; go_simp; with_reducible rfl
  rotate_left; · simp only [Act.put, List.setIfInBounds_toArray, List.set_cons_zero, List.set_cons_succ, i64_w]; rfl
  refine take_ (i := 2) (N := some 9) (v := ?_) (a' := ?_) #[true, true, true, false, false, false, false, false, false] rfl rfl (by kernel_rfl) (fun _ _ _ h => h) (Or.inl ⟨by rfl, ?_⟩) hHeld ?_ ?_; rotate_left
  · rintro w' ⟨s0, s1, s2, s3, s4⟩
    go_simp
    with_reducible rfl
  rotate_left
  · simp only [Act.put, List.setIfInBounds_toArray, List.set_cons_zero, List.set_cons_succ, i64_w]; rfl
  refine take_ (i := 3) (N := some 10) (v := ?_) (a' := ?_) #[true, true, true, true, false, false, false, false, false] rfl rfl (by kernel_rfl) (fun _ _ _ h => h) (Or.inl ⟨by rfl, ?_⟩) hHeld ?_ ?_; rotate_left
  · rintro w' ⟨s0, s1, s2, s3, s4⟩
    go_simp
    with_reducible rfl
  rotate_left
  · simp only [Act.put, List.setIfInBounds_toArray, List.set_cons_zero, List.set_cons_succ, i64_w]; rfl
  refine pure_ (i := 4) (N := some 11) (v := ?_) (a' := ?_) #[true, true, true, true, true, false, false, false, false] rfl rfl (by kernel_rfl) (fun _ _ _ h => h) (Or.inl ⟨by rfl, ?_⟩) ?_ ?_; rotate_left
  · intro w'; go_simp; with_reducible rfl
  rotate_left; · simp only [Act.put, List.setIfInBounds_toArray, List.set_cons_zero, List.set_cons_succ, i64_w]; rfl
  refine one_ (i := 5) (N := some 12) #[true, true, true, true, true, true, false, false, false] rfl rfl (by kernel_rfl) (by decide) (fun K hK => ?_)
  refine goes_ Try.func91 (by kernel_rfl) rfl #[.agg #[.int .i64 s.f0, .int .i64 s.f1, .int .i64 s.f2], .int .i64 c, .complex .f64 (fb X) (fb Y)] (by rfl) rfl rfl (by (try simp only [List.map_toArray, List.map_cons, List.map_nil]); first | done | rfl) ?_
  refine (HC.out _).mono ?_
  rintro e w2 ⟨rfl, hb⟩
  refine ⟨_, rfl, ?_⟩
  have I1 := carry hb I0
  clear hb
  refine hK.out _ _ ⟨(blk_cell I1.out.2.2.2.1 0).trans rfl, (blk_cell I1.out.2.1 4).trans rfl, (blk_cell I1.out.2.1 5).trans rfl, (blk_cell I1.out.2.1 6).trans rfl, (blk_cell I1.out.2.2.1 0).trans rfl⟩ (fun hHeld => ?_)
  clear hK K
  refine norm_ (a' := ?_) ?_ ?_; rotate_left
  · show Act.put _ (some 12) _ = _
    simp only [Act.put, List.setIfInBounds_toArray, List.set_cons_zero, List.set_cons_succ, i64_w]
    rfl
  refine one_ (i := 6) (N := some 13) #[true, true, true, true, true, true, true, false, false] rfl rfl (by kernel_rfl) (by decide) (fun K hK => ?_)
  refine value_ (w1 := ?_) (v := ?_) (by rfl) rfl ?_ ?_
  rotate_left 2
  · go_simp
    constructor
    · rfl
    · rfl
  refine hK.out _ _ ⟨(blk_cell (blk_alloc I1.out.2.2.2.1 _) 0).trans rfl, (blk_cell (blk_alloc I1.out.2.1 _) 4).trans rfl, (blk_cell (blk_alloc I1.out.2.1 _) 5).trans rfl, (blk_cell (blk_alloc I1.out.2.1 _) 6).trans rfl, (blk_cell (blk_alloc I1.out.2.2.1 _) 0).trans rfl⟩ (fun hHeld => ?_)
  clear hK K
  refine norm_ (a' := ?_) ?_ ?_; rotate_left
  · show Act.put _ (some 13) _ = _
    simp only [Act.put, List.setIfInBounds_toArray, List.set_cons_zero, List.set_cons_succ, i64_w]
    rfl
  refine last_ (i := 7) (N := some 14) #[true, true, true, true, true, true, true, true, false] rfl rfl (by kernel_rfl) (by decide) (fun K hK => ?_)
  refine Kd.R_append_step (Kd.int .i64) (w0 := w0) w0.heap.size (by rfl) (.tmp 7) (.tmp 13) 52 3 (.int .i64 0) 8 rfl Try.underlying52 info3 rfl (by decide) (by decide) v xs r [.int .i64 r] (fun k => k ≠ C) (fun _ => False) rfl rfl ?aP (fun _ hk => hk.elim) ?aF ?aO ?aB ?aS ?aL ?_
  (case aP => exact rfl)
  (case aB => exact I1.out.1)
  (case aF => exact (fun k hk => Nat.ne_of_gt (Nat.lt_of_lt_of_le (blk_lt I1.out.2.2.1) hk)))
  (case aO => exact I1.out.2.2.2.2)
  (case aS => exact I1.out.1.size)
  (case aL => have := HN.out.2; omega)
  intro v1 w3 ho hb hg hat
  have I2 := Aside0.mk (And.intro hb (And.intro (blk_grown I1.out.2.1 hg (Kd.R_ne I1.out.2.2.2.2 I1.out.2.1 (by decide))) (And.intro (blk_grown I1.out.2.2.1 hg (Kd.R_away I1.out.2.2.2.2 (fun _ hk => hk))) (And.intro (blk_grown I1.out.2.2.2.1 hg (Kd.R_ne I1.out.2.2.2.2 I1.out.2.2.2.1 (by decide))) ho))))
  clear ho hb hg hat
  refine hK.out _ _ ?_
  clear hK K
  refine norm_ (a' := ?_) ?_ ?_; rotate_left
  · show Act.put _ (some 14) _ = _
    simp only [Act.put, List.setIfInBounds_toArray, List.set_cons_zero, List.set_cons_succ, i64_w]
    rfl
  obtain ⟨A1, c1, e⟩ := Kd.R_slice I2.out.2.2.2.2
  subst e
  have nb := (blk_cell I2.out.2.2.2.1 0).trans (show _ = some v from rfl)
  have nz := blk_frozen I2.out.2.2.2.1 0
  refine last_ (i := 8) (N := none) #[true, true, true, true, true, true, true, true, true] rfl rfl (by kernel_rfl) (by decide) (fun K hK => ?_)
  refine skip_ (w1 := ?_) (by rfl) rfl ?_ ?_; rotate_left
  · go_simp
    rfl
  refine hK.out _ _ ?_
  clear hK K
  refine done_ (by kernel_rfl) ?_
  go_wp2_with fail
  go_end0
  have hh := HN.out.1
  have hv : Kd.R (Kd.int .i64) 3 (w3.setCell ⟨B, 0, none⟩ (.slice A1 (xs.length + 1) c1)) w0.heap.size (fun k => k ≠ C) (.slice A1 (xs.length + 1) c1) (xs ++ [r]) := by
    have h := I2.out.2.2.2.2
    simp only [List.length_append, List.length_cons, List.length_nil, Nat.zero_add] at h
    exact Kd.R_mono (ok := fun k => k ≠ C ∧ k ≠ B) (Kd.R_far (p := ⟨B, 0, none⟩) (Kd.R_types h I2.out.2.2.2.1 (by decide)) (fun k hk => hk.2) _) (fun k hk => hk.1)
  exact ⟨rfl, below_set I2.out.1 hh.1, far_set I2.out.2.1 (Ne.symm hh.2.1) 0 _, far_set I2.out.2.2.1 (Ne.symm hh.2.2) 0 _, _, blk_set I2.out.2.2.2.1 0 _, hv⟩
def ConvI (w0 : World) (B L C O : Nat) (x : S40) (s t : S23) (fr c o : Int) (xs : List S58) (w : World) : Prop :=
  Below w0.heap.size w0 w ∧ w.heap[L]? = some (.cells #[.int .i64 x.f0, .int .i64 x.f1, .int .i64 x.f2, .int .i64 x.f3, .int .i64 s.f0, .int .i64 s.f1, .int .i64 s.f2, .int .i64 t.f0, .int .i64 t.f1, .int .i64 t.f2, .int .i64 fr] 101 (0, 0)) ∧ w.heap[C]? = some (.cells #[.int .i64 c] 3 (0, 0)) ∧ w.heap[O]? = some (.cells #[.int .i64 o] 3 (0, 0)) ∧ ∃ v, w.heap[B]? = some (.cells #[v] 49 (0, 0)) ∧ Kd.R k58 58 w w0.heap.size (fun k => k ≠ C) v xs
theorem ConvI.drew {w0 : World} {B L C O : Nat} {x : S40} {s t : S23} {fr c o : Int} {xs : List S58} {w : World} (h : ConvI w0 B L C O x s t fr c o xs w) (n : Nat) : ConvI w0 B L C O x s t fr c o xs (w.drewN n) := by
  obtain ⟨h1, h2, h3, h4, v, h5, h6⟩ := h
  exact ⟨pw_below_drewN h1 n, h2, h3, h4, v, h5, Kd.R_drewN h6 n⟩
set_option maxRecDepth 100000 in
set_option maxHeartbeats 4000000 in
theorem conv_tell (w0 : World) (B L C O : Nat) (x : S40) (s t : S23) (fr c o : Int) (xs : List S58) (k : Int) (X Y : Nat) (w : World) (hB : w0.heap.size ≤ B) (hs : Sy.rightB s = true) (hc : 0 ≤ c ∧ c < s.f0) (hy : (Y : Int) < s.f1) (hx : (X : Int) < s.f2) (hl : xs.length ≤ 10000) (W : Int) (hW : wrap64 (wrap64 (fr + wrap64 (wrap64 (wrap64 (wrap64 (o * s.f0) + c) * x.f2) * x.f2)) + k) = W)
    (hI : ConvI w0 B L C O x s t fr c o xs w) :
    Calls Try.prog 105 #[.int .i64 k, .complex .f64 (fb X) (fb Y), .pointer (some ⟨B, 0, none⟩), .pointer (some ⟨L, 0, none⟩), .pointer (some ⟨C, 0, none⟩), .pointer (some ⟨O, 0, none⟩)] w fun e w' => e = .returned (.tuple #[]) ∧ ConvI w0 B L C O x s t fr c o (xs ++ [⟨Sy.atI s c Y X, W⟩]) w' := by
  obtain ⟨h1, h2, h3, h6, v, h4, h5⟩ := hI
  obtain ⟨r, hr⟩ : ∃ r, r = Sy.atI s c Y X := ⟨_, rfl⟩
  rw [← hr]
  have HC := Aside0.mk (fun w => tat_calls s c r Y X w hs hc hy hx hr.symm)
  have HW := Aside0.mk hW
  have HN := Aside0.mk (And.intro (And.intro hB (And.intro (blk_ne h4 h2 (by decide) : B ≠ L) (And.intro (blk_ne h4 h3 (by decide) : B ≠ C) (blk_ne h4 h6 (by decide) : B ≠ O)))) hl)
  have I0 := Aside0.mk (And.intro (below_drew1 h1) (And.intro (blk_drew h2) (And.intro (blk_drew h3) (And.intro (blk_drew h4) (Kd.R_drew h5)))))
  have J0 := Aside0.mk (blk_drew h6)
  have hS0 : (fun w' : World => w'.cell? ⟨B, 0, none⟩ = some v ∧ w'.cell? ⟨L, 2, none⟩ = some (.int .i64 x.f2) ∧ w'.cell? ⟨L, 4, none⟩ = some (.int .i64 s.f0) ∧ w'.cell? ⟨L, 5, none⟩ = some (.int .i64 s.f1) ∧ w'.cell? ⟨L, 6, none⟩ = some (.int .i64 s.f2) ∧ w'.cell? ⟨L, 10, none⟩ = some (.int .i64 fr) ∧ w'.cell? ⟨C, 0, none⟩ = some (.int .i64 c) ∧ w'.cell? ⟨O, 0, none⟩ = some (.int .i64 o)) w.drew := ⟨(blk_cell h4 0).trans rfl, (blk_cell h2 2).trans rfl, (blk_cell h2 4).trans rfl, (blk_cell h2 5).trans rfl, (blk_cell h2 6).trans rfl, (blk_cell h2 10).trans rfl, (blk_cell h3 0).trans rfl, (blk_cell h6 0).trans rfl⟩
  clear h1 h2 h3 h4 h5 h6 hs hc hy hx hr hB hl hW
  go_enter Try.func105, Try.ntmps105
  go_wp2_with fail
  refine start_ (n := 30) (S := fun w' => w'.cell? ⟨B, 0, none⟩ = some v ∧ w'.cell? ⟨L, 2, none⟩ = some (.int .i64 x.f2) ∧ w'.cell? ⟨L, 4, none⟩ = some (.int .i64 s.f0) ∧ w'.cell? ⟨L, 5, none⟩ = some (.int .i64 s.f1) ∧ w'.cell? ⟨L, 6, none⟩ = some (.int .i64 s.f2) ∧ w'.cell? ⟨L, 10, none⟩ = some (.int .i64 fr) ∧ w'.cell? ⟨C, 0, none⟩ = some (.int .i64 c) ∧ w'.cell? ⟨O, 0, none⟩ = some (.int .i64 o)) (ds := [28, 29]) #[false, false, false, false, false, false, false, false, false, false, false, false, false, false, false, false, false, false, false, false, false, false, false, false, false, false, false, false, false, false] (by kernel_rfl) rfl rfl hS0 (fun hHeld => ?_)
  generalize w.drew = w1 at *
  refine take_ (i := 0) (N := some 8) (v := ?_) (a' := ?_) #[true, false, false, false, false, false, false, false, false, false, false, false, false, false, false, false, false, false, false, false, false, false, false, false, false, false, false, false, false, false] rfl rfl (by kernel_rfl) (fun _ _ _ h => h) (Or.inl ⟨by rfl, ?_⟩) hHeld ?_ ?_; rotate_left
  · rintro w' ⟨s0, s1, s2, s3, s4, s5, s6, s7⟩
    go_simp
    with_reducible rfl
  rotate_left
  · simp only [Act.put, List.setIfInBounds_toArray, List.set_cons_zero, List.set_cons_succ, i64_w]; rfl
  refine pure_ (i := 1) (N := some 9) (v := ?_) (a' := ?_) #[true, true, false, false, false, false, false, false, false, false, false, false, false, false, false, false, false, false, false, false, false, false, false, false, false, false, false, false, false, false] rfl rfl (by kernel_rfl) (fun _ _ _ h => h) (Or.inl ⟨by rfl, ?_⟩) ?_ ?_; rotate_left
  · intro w'; go_simp; with_reducible rfl
  rotate_left; · simp only [Act.put, List.setIfInBounds_toArray, List.set_cons_zero, List.set_cons_succ, i64_w]; rfl
  refine take_ (i := 2) (N := some 10) (v := ?_) (a' := ?_) #[true, true, true, false, false, false, false, false, false, false, false, false, false, false, false, false, false, false, false, false, false, false, false, false, false, false, false, false, false, false] rfl rfl (by kernel_rfl) (fun _ _ _ h => h) (Or.inl ⟨by rfl, ?_⟩) hHeld ?_ ?_; rotate_left
  · rintro w' ⟨s0, s1, s2, s3, s4, s5, s6, s7⟩
    go_simp
    with_reducible rfl
  rotate_left
  · simp only [Act.put, List.setIfInBounds_toArray, List.set_cons_zero, List.set_cons_succ, i64_w]; rfl
  refine take_ (i := 3) (N := some 11) (v := ?_) (a' := ?_) #[true, true, true, true, false, false, false, false, false, false, false, false, false, false, false, false, false, false, false, false, false, false, false, false, false, false, false, false, false, false] rfl rfl (by kernel_rfl) (fun _ _ _ h => h) (Or.inl ⟨by rfl, ?_⟩) hHeld ?_ ?_; rotate_left
  · rintro w' ⟨s0, s1, s2, s3, s4, s5, s6, s7⟩
    go_simp
    with_reducible rfl
  rotate_left
  · simp only [Act.put, List.setIfInBounds_toArray, List.set_cons_zero, List.set_cons_succ, i64_w]; rfl
  refine pure_ (i := 4) (N := some 12) (v := ?_) (a' := ?_) #[true, true, true, true, true, false, false, false, false, false, false, false, false, false, false, false, false, false, false, false, false, false, false, false, false, false, false, false, false, false] rfl rfl (by kernel_rfl) (fun _ _ _ h => h) (Or.inl ⟨by rfl, ?_⟩) ?_ ?_; rotate_left
  · intro w'; go_simp; with_reducible rfl
  rotate_left; · simp only [Act.put, List.setIfInBounds_toArray, List.set_cons_zero, List.set_cons_succ, i64_w]; rfl
  refine pure_ (i := 6) (N := some 14) (v := ?_) (a' := ?_) #[true, true, true, true, true, false, true, false, false, false, false, false, false, false, false, false, false, false, false, false, false, false, false, false, false, false, false, false, false, false] rfl rfl (by kernel_rfl) (fun _ _ _ h => h) (Or.inl ⟨by rfl, ?_⟩) ?_ ?_; rotate_left
  · intro w'; go_simp; with_reducible rfl
  rotate_left; · simp only [Act.put, List.setIfInBounds_toArray, List.set_cons_zero, List.set_cons_succ, i64_w]; rfl
  refine take_ (i := 7) (N := some 15) (v := ?_) (a' := ?_) #[true, true, true, true, true, false, true, true, false, false, false, false, false, false, false, false, false, false, false, false, false, false, false, false, false, false, false, false, false, false] rfl rfl (by kernel_rfl) (fun _ _ _ h => h) (Or.inl ⟨by rfl, ?_⟩) hHeld ?_ ?_; rotate_left
  · rintro w' ⟨s0, s1, s2, s3, s4, s5, s6, s7⟩
    go_simp
    with_reducible rfl
  rotate_left
  · simp only [Act.put, List.setIfInBounds_toArray, List.set_cons_zero, List.set_cons_succ, i64_w]; rfl
  refine take_ (i := 8) (N := some 16) (v := ?_) (a' := ?_) #[true, true, true, true, true, false, true, true, true, false, false, false, false, false, false, false, false, false, false, false, false, false, false, false, false, false, false, false, false, false] rfl rfl (by kernel_rfl) (fun _ _ _ h => h) (Or.inl ⟨by rfl, ?_⟩) hHeld ?_ ?_; rotate_left
  · rintro w' ⟨s0, s1, s2, s3, s4, s5, s6, s7⟩
    go_simp
    with_reducible rfl
  rotate_left
  · simp only [Act.put, List.setIfInBounds_toArray, List.set_cons_zero, List.set_cons_succ, i64_w]; rfl
  refine pure_ (i := 9) (N := some 17) (v := ?_) (a' := ?_) #[true, true, true, true, true, false, true, true, true, true, false, false, false, false, false, false, false, false, false, false, false, false, false, false, false, false, false, false, false, false] rfl rfl (by kernel_rfl) (fun _ _ _ h => h) (Or.inl ⟨by rfl, ?_⟩) ?_ ?_; rotate_left
  · intro w'; go_simp; with_reducible rfl
  rotate_left; · simp only [Act.put, List.setIfInBounds_toArray, List.set_cons_zero, List.set_cons_succ, i64_w]; rfl
  refine pure_ (i := 10) (N := some 18) (v := ?_) (a' := ?_) #[true, true, true, true, true, false, true, true, true, true, true, false, false, false, false, false, false, false, false, false, false, false, false, false, false, false, false, false, false, false] rfl rfl (by kernel_rfl) (fun _ _ _ h => h) (Or.inl ⟨by rfl, ?_⟩) ?_ ?_; rotate_left
  · intro w'; go_simp; with_reducible rfl
  rotate_left; · simp only [Act.put, List.setIfInBounds_toArray, List.set_cons_zero, List.set_cons_succ, i64_w]; rfl
  refine take_ (i := 11) (N := some 19) (v := ?_) (a' := ?_) #[true, true, true, true, true, false, true, true, true, true, true, true, false, false, false, false, false, false, false, false, false, false, false, false, false, false, false, false, false, false] rfl rfl (by kernel_rfl) (fun _ _ _ h => h) (Or.inl ⟨by rfl, ?_⟩) hHeld ?_ ?_; rotate_left
  · rintro w' ⟨s0, s1, s2, s3, s4, s5, s6, s7⟩
    go_simp
    with_reducible rfl
  rotate_left
  · simp only [Act.put, List.setIfInBounds_toArray, List.set_cons_zero, List.set_cons_succ, i64_w]; rfl
  refine pure_ (i := 12) (N := some 20) (v := ?_) (a' := ?_) #[true, true, true, true, true, false, true, true, true, true, true, true, true, false, false, false, false, false, false, false, false, false, false, false, false, false, false, false, false, false] rfl rfl (by kernel_rfl) (fun _ _ _ h => h) (Or.inl ⟨by rfl, ?_⟩) ?_ ?_; rotate_left
  · intro w'; go_simp; with_reducible rfl
  rotate_left; · simp only [Act.put, List.setIfInBounds_toArray, List.set_cons_zero, List.set_cons_succ, i64_w]; rfl
  refine take_ (i := 13) (N := some 21) (v := ?_) (a' := ?_) #[true, true, true, true, true, false, true, true, true, true, true, true, true, true, false, false, false, false, false, false, false, false, false, false, false, false, false, false, false, false] rfl rfl (by kernel_rfl) (fun _ _ _ h => h) (Or.inl ⟨by rfl, ?_⟩) hHeld ?_ ?_; rotate_left
  · rintro w' ⟨s0, s1, s2, s3, s4, s5, s6, s7⟩
    go_simp
    with_reducible rfl
  rotate_left
  · simp only [Act.put, List.setIfInBounds_toArray, List.set_cons_zero, List.set_cons_succ, i64_w]; rfl
  refine pure_ (i := 14) (N := some 22) (v := ?_) (a' := ?_) #[true, true, true, true, true, false, true, true, true, true, true, true, true, true, true, false, false, false, false, false, false, false, false, false, false, false, false, false, false, false] rfl rfl (by kernel_rfl) (fun _ _ _ h => h) (Or.inl ⟨by rfl, ?_⟩) ?_ ?_; rotate_left
  · intro w'; go_simp; with_reducible rfl
  rotate_left; · simp only [Act.put, List.setIfInBounds_toArray, List.set_cons_zero, List.set_cons_succ, i64_w]; rfl
  refine pure_ (i := 15) (N := some 23) (v := ?_) (a' := ?_) #[true, true, true, true, true, false, true, true, true, true, true, true, true, true, true, true, false, false, false, false, false, false, false, false, false, false, false, false, false, false] rfl rfl (by kernel_rfl) (fun _ _ _ h => h) (Or.inl ⟨by rfl, ?_⟩) ?_ ?_; rotate_left
  · intro w'; go_simp; with_reducible rfl
  rotate_left; · simp only [Act.put, List.setIfInBounds_toArray, List.set_cons_zero, List.set_cons_succ, i64_w]; rfl
  refine pure_ (i := 16) (N := some 24) (v := ?_) (a' := ?_) #[true, true, true, true, true, false, true, true, true, true, true, true, true, true, true, true, true, false, false, false, false, false, false, false, false, false, false, false, false, false] rfl rfl (by kernel_rfl) (fun _ _ _ h => h) (Or.inl ⟨by rfl, ?_⟩) ?_ ?_; rotate_left
  · intro w'; go_simp; with_reducible rfl
  rotate_left; · simp only [Act.put, List.setIfInBounds_toArray, List.set_cons_zero, List.set_cons_succ, i64_w]; rfl
  refine take_ (i := 17) (N := some 25) (v := ?_) (a' := ?_) #[true, true, true, true, true, false, true, true, true, true, true, true, true, true, true, true, true, true, false, false, false, false, false, false, false, false, false, false, false, false] rfl rfl (by kernel_rfl) (fun _ _ _ h => h) (Or.inl ⟨by rfl, ?_⟩) hHeld ?_ ?_; rotate_left
  · rintro w' ⟨s0, s1, s2, s3, s4, s5, s6, s7⟩
    go_simp
    with_reducible rfl
  rotate_left
  · simp only [Act.put, List.setIfInBounds_toArray, List.set_cons_zero, List.set_cons_succ, i64_w]; rfl
  refine pure_ (i := 18) (N := some 26) (v := ?_) (a' := ?_) #[true, true, true, true, true, false, true, true, true, true, true, true, true, true, true, true, true, true, true, false, false, false, false, false, false, false, false, false, false, false] rfl rfl (by kernel_rfl) (fun _ _ _ h => h) (Or.inl ⟨by rfl, ?_⟩) ?_ ?_; rotate_left
  · intro w'; go_simp; with_reducible rfl
  rotate_left; · simp only [Act.put, List.setIfInBounds_toArray, List.set_cons_zero, List.set_cons_succ, i64_w]; rfl
  refine pure_ (i := 19) (N := some 27) (v := ?_) (a' := ?_) #[true, true, true, true, true, false, true, true, true, true, true, true, true, true, true, true, true, true, true, true, false, false, false, false, false, false, false, false, false, false] rfl rfl (by kernel_rfl) (fun _ _ _ h => h) (Or.inl ⟨by rfl, ?_⟩) ?_ ?_; rotate_left
  · intro w'; go_simp; with_reducible rfl
  rotate_left; · simp only [Act.put, List.setIfInBounds_toArray, List.set_cons_zero, List.set_cons_succ, i64_w]; rfl
  refine pure_ (i := 20) (N := some 28) (v := ?_) (a' := ?_) #[true, true, true, true, true, false, true, true, true, true, true, true, true, true, true, true, true, true, true, true, true, false, false, false, false, false, false, false, false, false] rfl rfl (by kernel_rfl) (fun _ _ _ h => h) (Or.inl ⟨by rfl, ?_⟩) ?_ ?_; rotate_left
  · intro w'; go_simp; with_reducible rfl
  rotate_left; · simp only [Act.put, List.setIfInBounds_toArray, List.set_cons_zero, List.set_cons_succ, i64_w]; rfl
  refine take_ (i := 21) (N := some 29) (v := ?_) (a' := ?_) #[true, true, true, true, true, false, true, true, true, true, true, true, true, true, true, true, true, true, true, true, true, true, false, false, false, false, false, false, false, false] rfl rfl (by kernel_rfl) (fun _ _ _ h => h) (Or.inl ⟨by rfl, ?_⟩) hHeld ?_ ?_; rotate_left
  · rintro w' ⟨s0, s1, s2, s3, s4, s5, s6, s7⟩
    go_simp
    with_reducible rfl
  rotate_left
  · simp only [Act.put, List.setIfInBounds_toArray, List.set_cons_zero, List.set_cons_succ, i64_w]; rfl
  refine pure_ (i := 22) (N := some 30) (v := ?_) (a' := ?_) #[true, true, true, true, true, false, true, true, true, true, true, true, true, true, true, true, true, true, true, true, true, true, true, false, false, false, false, false, false, false] rfl rfl (by kernel_rfl) (fun _ _ _ h => h) (Or.inl ⟨by rfl, ?_⟩) ?_ ?_; rotate_left
  · intro w'; go_simp; with_reducible rfl
  rotate_left; · simp only [Act.put, List.setIfInBounds_toArray, List.set_cons_zero, List.set_cons_succ, i64_w]; rfl
  refine pure_ (i := 23) (N := some 31) (v := ?_) (a' := ?_) #[true, true, true, true, true, false, true, true, true, true, true, true, true, true, true, true, true, true, true, true, true, true, true, true, false, false, false, false, false, false] rfl rfl (by kernel_rfl) (fun _ _ _ h => h) (Or.inl ⟨by rfl, ?_⟩) ?_ ?_; rotate_left
  · intro w'; go_simp; with_reducible rfl
  rotate_left; · simp only [Act.put, List.setIfInBounds_toArray, List.set_cons_zero, List.set_cons_succ, i64_w]; rfl
  refine pure_ (i := 24) (N := some 32) (v := ?_) (a' := ?_) #[true, true, true, true, true, false, true, true, true, true, true, true, true, true, true, true, true, true, true, true, true, true, true, true, true, false, false, false, false, false] rfl rfl (by kernel_rfl) (fun _ _ _ h => h) (Or.inl ⟨by rfl, ?_⟩) ?_ ?_; rotate_left
  · intro w'; go_simp; with_reducible rfl
  rotate_left; · simp only [Act.put, List.setIfInBounds_toArray, List.set_cons_zero, List.set_cons_succ, i64_w]; rfl
  refine pure_ (i := 25) (N := some 33) (v := ?_) (a' := ?_) #[true, true, true, true, true, false, true, true, true, true, true, true, true, true, true, true, true, true, true, true, true, true, true, true, true, true, false, false, false, false] rfl rfl (by kernel_rfl) (fun _ _ _ h => h) (Or.inl ⟨by rfl, ?_⟩) ?_ ?_; rotate_left
  · intro w'; go_simp; with_reducible rfl
  rotate_left; · simp only [Act.put, List.setIfInBounds_toArray, List.set_cons_zero, List.set_cons_succ, i64_w]; rfl
  refine one_ (i := 5) (N := some 13) #[true, true, true, true, true, true, true, true, true, true, true, true, true, true, true, true, true, true, true, true, true, true, true, true, true, true, false, false, false, false] rfl rfl (by kernel_rfl) (by decide) (fun K hK => ?_)
  refine goes_ Try.func91 (by kernel_rfl) rfl #[.agg #[.int .i64 s.f0, .int .i64 s.f1, .int .i64 s.f2], .int .i64 c, .complex .f64 (fb X) (fb Y)] (by rfl) rfl rfl (by (try simp only [List.map_toArray, List.map_cons, List.map_nil]); first | done | rfl) ?_
  refine (HC.out _).mono ?_
  rintro e w2 ⟨rfl, hb⟩
  refine ⟨_, rfl, ?_⟩
  have I1 := carry hb I0
  have J1 := carry hb J0
  clear hb
  refine hK.out _ _ ⟨(blk_cell I1.out.2.2.2.1 0).trans rfl, (blk_cell I1.out.2.1 2).trans rfl, (blk_cell I1.out.2.1 4).trans rfl, (blk_cell I1.out.2.1 5).trans rfl, (blk_cell I1.out.2.1 6).trans rfl, (blk_cell I1.out.2.1 10).trans rfl, (blk_cell I1.out.2.2.1 0).trans rfl, (blk_cell J1.out 0).trans rfl⟩ (fun hHeld => ?_)
  clear hK K
  refine norm_ (a' := ?_) ?_ ?_; rotate_left
  · show Act.put _ (some 13) _ = _
    simp only [Act.put, List.setIfInBounds_toArray, List.set_cons_zero, List.set_cons_succ, i64_w]
    rfl
  refine pure_ (i := 26) (N := some 34) (v := ?_) (a' := ?_) #[true, true, true, true, true, true, true, true, true, true, true, true, true, true, true, true, true, true, true, true, true, true, true, true, true, true, true, false, false, false] rfl rfl (by kernel_rfl) (fun _ _ _ h => h) (Or.inl ⟨by rfl, ?_⟩) ?_ ?_; rotate_left
  · intro w'; go_simp; with_reducible rfl
  rotate_left; · simp only [Act.put, List.setIfInBounds_toArray, List.set_cons_zero, List.set_cons_succ, i64_w]; rfl
  refine one_ (i := 27) (N := some 35) #[true, true, true, true, true, true, true, true, true, true, true, true, true, true, true, true, true, true, true, true, true, true, true, true, true, true, true, true, false, false] rfl rfl (by kernel_rfl) (by decide) (fun K hK => ?_)
  refine value_ (w1 := ?_) (v := ?_) (by rfl) rfl ?_ ?_
  rotate_left 2
  · go_simp
    constructor
    · rfl
    · rfl
  refine hK.out _ _ ⟨(blk_cell (blk_alloc I1.out.2.2.2.1 _) 0).trans rfl, (blk_cell (blk_alloc I1.out.2.1 _) 2).trans rfl, (blk_cell (blk_alloc I1.out.2.1 _) 4).trans rfl, (blk_cell (blk_alloc I1.out.2.1 _) 5).trans rfl, (blk_cell (blk_alloc I1.out.2.1 _) 6).trans rfl, (blk_cell (blk_alloc I1.out.2.1 _) 10).trans rfl, (blk_cell (blk_alloc I1.out.2.2.1 _) 0).trans rfl, (blk_cell (blk_alloc J1.out _) 0).trans rfl⟩ (fun hHeld => ?_)
  clear hK K
  refine norm_ (a' := ?_) ?_ ?_; rotate_left
  · show Act.put _ (some 35) _ = _
    simp only [Act.put, List.setIfInBounds_toArray, List.set_cons_zero, List.set_cons_succ, i64_w]
    rfl
  refine last_ (i := 28) (N := some 36) #[true, true, true, true, true, true, true, true, true, true, true, true, true, true, true, true, true, true, true, true, true, true, true, true, true, true, true, true, true, false] rfl rfl (by kernel_rfl) (by decide) (fun K hK => ?_)
  refine Kd.R_append_step (k58) (w0 := w0) w0.heap.size (by rfl) (.tmp 8) (.tmp 35) 49 58 (.agg #[(.int .i64 0), (.int .i64 0)]) 16 rfl Try.underlying49 info58 rfl (by decide) (by decide) v xs (⟨r, wrap64 (wrap64 (fr + wrap64 (wrap64 (wrap64 (wrap64 (o * s.f0) + c) * x.f2) * x.f2)) + k)⟩ : S58) [.int .i64 r, .int .i64 (wrap64 (wrap64 (fr + wrap64 (wrap64 (wrap64 (wrap64 (o * s.f0) + c) * x.f2) * x.f2)) + k))] (fun k => k ≠ C) (fun _ => False) rfl rfl ?aP (fun _ hk => hk.elim) ?aF ?aO ?aB ?aS ?aL ?_
  (case aP => exact k58_mkM _ _ _ (⟨r, wrap64 (wrap64 (fr + wrap64 (wrap64 (wrap64 (wrap64 (o * s.f0) + c) * x.f2) * x.f2)) + k)⟩ : S58))
  (case aB => exact I1.out.1)
  (case aF => exact (fun k hk => Nat.ne_of_gt (Nat.lt_of_lt_of_le (blk_lt I1.out.2.2.1) hk)))
  (case aO => exact I1.out.2.2.2.2)
  (case aS => exact I1.out.1.size)
  (case aL => have := HN.out.2; omega)
  intro v1 w3 ho hb hg hat
  have I2 := Aside0.mk (And.intro hb (And.intro (blk_grown I1.out.2.1 hg (Kd.R_ne I1.out.2.2.2.2 I1.out.2.1 (by decide))) (And.intro (blk_grown I1.out.2.2.1 hg (Kd.R_away I1.out.2.2.2.2 (fun _ hk => hk))) (And.intro (blk_grown I1.out.2.2.2.1 hg (Kd.R_ne I1.out.2.2.2.2 I1.out.2.2.2.1 (by decide))) ho))))
  have J2 := Aside0.mk (blk_grown J1.out hg (Kd.R_ne I1.out.2.2.2.2 J1.out (by decide)))
  clear ho hb hg hat
  refine hK.out _ _ ?_
  clear hK K
  refine norm_ (a' := ?_) ?_ ?_; rotate_left
  · show Act.put _ (some 36) _ = _
    simp only [Act.put, List.setIfInBounds_toArray, List.set_cons_zero, List.set_cons_succ, i64_w]
    rfl
  obtain ⟨A1, c1, e⟩ := Kd.R_slice I2.out.2.2.2.2
  subst e
  have nb := (blk_cell I2.out.2.2.2.1 0).trans (show _ = some v from rfl)
  have nz := blk_frozen I2.out.2.2.2.1 0
  refine last_ (i := 29) (N := none) #[true, true, true, true, true, true, true, true, true, true, true, true, true, true, true, true, true, true, true, true, true, true, true, true, true, true, true, true, true, true] rfl rfl (by kernel_rfl) (by decide) (fun K hK => ?_)
  refine skip_ (w1 := ?_) (by rfl) rfl ?_ ?_; rotate_left
  · go_simp
    rfl
  refine hK.out _ _ ?_
  clear hK K
  refine done_ (by kernel_rfl) ?_
  go_wp2_with fail
  go_end0
  have hh := HN.out.1
  have hv : Kd.R k58 58 (w3.setCell ⟨B, 0, none⟩ (.slice A1 (xs.length + 1) c1)) w0.heap.size (fun k => k ≠ C) (.slice A1 (xs.length + 1) c1) (xs ++ [⟨r, W⟩]) := by
    have h := I2.out.2.2.2.2
    rw [HW.out] at h
    simp only [List.length_append, List.length_cons, List.length_nil, Nat.zero_add] at h
    exact Kd.R_mono (ok := fun k => k ≠ C ∧ k ≠ B) (Kd.R_far (p := ⟨B, 0, none⟩) (Kd.R_types h I2.out.2.2.2.1 (by decide)) (fun k hk => hk.2) _) (fun k hk => hk.1)
  exact ⟨rfl, below_set I2.out.1 hh.1, far_set I2.out.2.1 (Ne.symm hh.2.1) 0 _, far_set I2.out.2.2.1 (Ne.symm hh.2.2.1) 0 _, far_set J2.out (Ne.symm hh.2.2.2) 0 _, _, blk_set I2.out.2.2.2.1 0 _, hv⟩
end Go.Proofs.Ytnfcadjckoebkaa.P
