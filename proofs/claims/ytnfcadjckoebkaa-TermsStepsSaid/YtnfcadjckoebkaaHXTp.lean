import Derived.Test.YtnfcadjckoebkaaHXTm
section
namespace Go.Proofs.Ytnfcadjckoebkaa.P
open Go.RowKit Go.Proofs.YtnfcadjckoebkaaW.PrintWords Go.Proofs.YtnfcadjckoebkaaW.PrintLast Go.Proofs.YtnfcadjckoebkaaW.PrintMore
set_option linter.unusedSimpArgs false
set_option linter.unusedVariables false
theorem of_f_yes (S : S23) (l : List S40) (h0 : (Sy.allR S l).2 = 0) (i : Nat) (hi : i < l.length) (x : S40) (s t : S23) (hx : x = rd_T40 l (i : Int)) (hs : rd_T23 (S :: (Sy.stepsR S l).map (·.f2)) (i : Int) = s) (ht : rd_T23 (S :: (Sy.stepsR S l).map (·.f2)) ((i : Int) + 1) = t) (k : Nat) (hk : 12 < k) :
    terms_of.f k S.f0 S.f1 S.f2 l (i : Int) = some (x.f0, x.f1, x.f2, x.f3, s.f0, s.f1, s.f2, t.f0, t.f1, t.f2, Sy.sumW ((Sy.stepsR S l).take i), true) := by
  have h8 : (Sy.stepsR S l).length ≤ 8 := allR_len S l
  have hlen := stepsR_len h0
  have hsz : (S :: (Sy.stepsR S l).map (·.f2)).length = l.length + 1 := by simp; omega
  have hw : Sy.weightsR S l (i : Int) = (Sy.sumW ((Sy.stepsR S l).take i), (rd_T94 (Sy.stepsR S l) (i : Int)).f3) := by unfold Sy.weightsR; rw [if_pos (by omega), Int.toNat_natCast]
  unfold terms_of.f
  rw [shapes_f _ _ _ (by omega), Option.bind_some, shapesR_ok h0, if_pos rfl, if_neg (by omega), if_neg (by omega), weights_f _ _ _ _ (by omega), Option.bind_some, hw, if_pos (by omega), if_pos (by omega), if_pos (by rw [hsz]; omega), w1 (by omega) (by omega), if_pos (by omega), if_pos (by rw [hsz]; omega), hs, ht, hx]
theorem of_f_no (S : S23) (l : List S40) (i : Int) (h : ¬ ((Sy.allR S l).2 = 0 ∧ 0 ≤ i ∧ i < l.length)) (k : Nat) (hk : 12 < k) :
    terms_of.f k S.f0 S.f1 S.f2 l i = some (0, 0, 0, 0, 0, 0, 0, 0, 0, 0, 0, false) := by
  unfold terms_of.f
  rw [shapes_f _ _ _ (by omega), Option.bind_some, shapesR_e]
  by_cases h0 : (Sy.allR S l).2 = 0
  · rw [if_pos h0]
    by_cases h1 : i < 0
    · rw [if_pos h1]
    · rw [if_neg h1, if_pos (by omega)]
  · rw [if_neg h0]
def Sy.partL (s : S23) (sz c y x n : Nat) : List Int := (List.range n).map fun k => Sy.atI s (c : Int) ((y * sz + k / sz : Nat) : Int) ((x * sz + k % sz : Nat) : Int)
theorem parts_step (w : World) (B L C : Nat) (kd ot : Int) (sz : Nat) (sp : Int) (s t : S23) (fr : Int) (c y x : Nat) (hB : w.heap.size ≤ B) (hs : Sy.rightB s = true) (hsz : 1 ≤ sz ∧ sz ≤ 12) (hc : (c : Int) < s.f0) (hfy : ((y * sz + sz : Nat) : Int) ≤ s.f1) (hfx : ((x * sz + sz : Nat) : Int) ≤ s.f2)
    (j : Nat) (hj : j < sz * sz) (w' : World) (hI : PartsI w B L C ⟨kd, ot, (sz : Int), sp⟩ s t fr (c : Int) (Sy.partL s sz c y x j) w') :
    Calls Try.prog 90 #[.int .i64 (j : Int), .complex .f64 (fb (x * sz + j % sz)) (fb (y * sz + j / sz)), .pointer (some ⟨B, 0, none⟩), .pointer (some ⟨L, 0, none⟩), .pointer (some ⟨C, 0, none⟩)] w' fun e w'' => e = .returned (.tuple #[]) ∧ PartsI w B L C ⟨kd, ot, (sz : Int), sp⟩ s t fr (c : Int) (Sy.partL s sz c y x (j + 1)) w'' := by
  have hz : sz * sz ≤ 144 := by have := Nat.mul_le_mul hsz.2 hsz.2; omega
  have hq : j / sz < sz := Nat.div_lt_of_lt_mul hj
  have hr : j % sz < sz := Nat.mod_lt _ (by omega)
  have h := parts_tell w B L C ⟨kd, ot, (sz : Int), sp⟩ s t fr (c : Int) (Sy.partL s sz c y x j) (j : Int) (x * sz + j % sz) (y * sz + j / sz) w' hB hs ⟨by omega, hc⟩ (by omega) (by omega) (by simp [Sy.partL]; omega) hI
  refine h.mono fun e w'' hh => ⟨hh.1, ?_⟩
  have e2 : Sy.partL s sz c y x (j + 1) = Sy.partL s sz c y x j ++ [Sy.atI s (c : Int) ((y * sz + j / sz : Nat) : Int) ((x * sz + j % sz : Nat) : Int)] := by simp [Sy.partL, List.range_succ]
  rw [e2]
  exact hh.2
theorem parts_nolook (S : S23) (A : Option Addr) (c : Nat) (l : List S40) (i p : Int) (w : World) (hr : Kd.C k40 w A l.length l) (hc : l.length ≤ c) (h : ¬ ((Sy.allR S l).2 = 0 ∧ 0 ≤ i ∧ i < l.length)) :
    Calls Try.prog 48 #[.agg #[.int .i64 S.f0, .int .i64 S.f1, .int .i64 S.f2, .slice A l.length c], .int .i64 i, .int .i64 p] w fun e w' => e = .returned (.slice none 0 0) ∧ Below w.heap.size w w' := by
  have I0 := box_one w (.cells #[.int .i64 S.f0, .int .i64 S.f1, .int .i64 S.f2, .slice A l.length c] 26)
  have HR := Aside0.mk hr
  have HC := Aside0.mk hc
  have HO := Aside0.mk (of_f_no S l i h 40 (by omega))
  have HZ := Aside0.mk (fun w => of_no ⟨0, 0, 0⟩ p w (by unfold Sy.sizeI; rw [if_neg (by decide)]; omega))
  clear hr hc h
  go_enter Try.func48, Try.ntmps48
  go_wp2_with fail
  generalize w.alloc (.cells #[.int .i64 S.f0, .int .i64 S.f1, .int .i64 S.f2, .slice A l.length c] 26) = W at *
  refine (terms_of.calls 40 _ _ _ A c l i 0 0 0 0 0 0 0 0 0 0 0 false _ (Kd.C_below HR.out I0.out.1) HC.out HO.out).mono ?_
  rintro e w1 ⟨rfl, hb⟩
  have I1 := carry hb I0
  clear hb I0
  go_wp2_with fail
  have I2 := Aside0.mk (below_alloc I1.out.1 (.cells #[.int .i64 0, .int .i64 0, .int .i64 0, .int .i64 0, .int .i64 0, .int .i64 0, .int .i64 0, .int .i64 0, .int .i64 0, .int .i64 0, .int .i64 0] 101))
  generalize w1.alloc (.cells #[.int .i64 0, .int .i64 0, .int .i64 0, .int .i64 0, .int .i64 0, .int .i64 0, .int .i64 0, .int .i64 0, .int .i64 0, .int .i64 0, .int .i64 0] 101) = W2 at *
  refine (HZ.out _).mono ?_
  rintro e w2 ⟨rfl, hb⟩
  have I3 := Aside0.mk (below_step I2.out hb)
  clear hb I1 I2
  go_wp2_with fail
  go_ret
  exact ⟨rfl, below_alloc I3.out _⟩
set_option maxRecDepth 100000 in
theorem parts_other (S : S23) (A : Option Addr) (c : Nat) (l : List S40) (i p : Int) (w : World) (hr : Kd.C k40 w A l.length l) (hc : l.length ≤ c) (x : S40) (s t : S23) (fr : Int) (h : terms_of.f 40 S.f0 S.f1 S.f2 l i = some (x.f0, x.f1, x.f2, x.f3, s.f0, s.f1, s.f2, t.f0, t.f1, t.f2, fr, true))
    (ht : Sy.rightB t = true) (hn : ¬ (x.f0 = 3 ∧ 0 ≤ p ∧ p < Sy.sizeI t)) :
    Calls Try.prog 48 #[.agg #[.int .i64 S.f0, .int .i64 S.f1, .int .i64 S.f2, .slice A l.length c], .int .i64 i, .int .i64 p] w fun e w' => e = .returned (.slice none 0 0) ∧ Below w.heap.size w w' := by
  have I0 := box_one w (.cells #[.int .i64 S.f0, .int .i64 S.f1, .int .i64 S.f2, .slice A l.length c] 26)
  have HR := Aside0.mk hr
  have HC := Aside0.mk hc
  have HO := Aside0.mk h
  by_cases hp : 0 ≤ p ∧ p < Sy.sizeI t
  · have hx : ¬ x.f0 = 3 := fun e => hn ⟨e, hp⟩
    have hxb : (x.f0 != 3) = true := by simp [hx]
    have hxc : (x.f0 == 3) = false := by simp [hx]
    have HZ := Aside0.mk (fun w => of_yes t p w ht hp _ _ _ rfl rfl rfl)
    generalize p / t.f2 / t.f1 = pc at HZ
    generalize p / t.f2 % t.f1 = py at HZ
    generalize p % t.f2 = px at HZ
    clear hr hc h hp hx hn ht
    go_enter Try.func48, Try.ntmps48
    go_wp2_with fail
    generalize w.alloc (.cells #[.int .i64 S.f0, .int .i64 S.f1, .int .i64 S.f2, .slice A l.length c] 26) = W at *
    refine (terms_of.calls 40 _ _ _ A c l i x.f0 x.f1 x.f2 x.f3 s.f0 s.f1 s.f2 t.f0 t.f1 t.f2 fr true _ (Kd.C_below HR.out I0.out.1) HC.out HO.out).mono ?_
    rintro e w1 ⟨rfl, hb⟩
    have I1 := carry hb I0
    clear hb I0
    go_wp2_with fail
    have I2 : Aside0 (Below w.heap.size w (w1.alloc (.cells #[.int .i64 x.f0, .int .i64 x.f1, .int .i64 x.f2, .int .i64 x.f3, .int .i64 s.f0, .int .i64 s.f1, .int .i64 s.f2, .int .i64 t.f0, .int .i64 t.f1, .int .i64 t.f2, .int .i64 fr] 101)) ∧ (w1.alloc (.cells #[.int .i64 x.f0, .int .i64 x.f1, .int .i64 x.f2, .int .i64 x.f3, .int .i64 s.f0, .int .i64 s.f1, .int .i64 s.f2, .int .i64 t.f0, .int .i64 t.f1, .int .i64 t.f2, .int .i64 fr] 101)).heap[w1.heap.size]? = some (.cells #[.int .i64 x.f0, .int .i64 x.f1, .int .i64 x.f2, .int .i64 x.f3, .int .i64 s.f0, .int .i64 s.f1, .int .i64 s.f2, .int .i64 t.f0, .int .i64 t.f1, .int .i64 t.f2, .int .i64 fr] 101 (0, 0))) := ⟨below_alloc I1.out.1 _, blk_new w1 _⟩
    generalize w1.alloc (.cells #[.int .i64 x.f0, .int .i64 x.f1, .int .i64 x.f2, .int .i64 x.f3, .int .i64 s.f0, .int .i64 s.f1, .int .i64 s.f2, .int .i64 t.f0, .int .i64 t.f1, .int .i64 t.f2, .int .i64 fr] 101) = W2 at *
    generalize w1.heap.size = g at *
    refine (HZ.out _).mono ?_
    rintro e w2 ⟨rfl, hb⟩
    have I3 := carry hb I2
    clear hb I1 I2
    have l0 := (blk_cell I3.out.2 0).trans (show _ = some (Value.int .i64 x.f0) from rfl)
    have hgl := blk_lt I3.out.2
    go_wp2_with fail
    go_ret
    exact ⟨rfl, below_alloc I3.out.1 _⟩
  · have HZ := Aside0.mk (fun w => of_no t p w hp)
    clear hr hc h hp hn ht
    go_enter Try.func48, Try.ntmps48
    go_wp2_with fail
    generalize w.alloc (.cells #[.int .i64 S.f0, .int .i64 S.f1, .int .i64 S.f2, .slice A l.length c] 26) = W at *
    refine (terms_of.calls 40 _ _ _ A c l i x.f0 x.f1 x.f2 x.f3 s.f0 s.f1 s.f2 t.f0 t.f1 t.f2 fr true _ (Kd.C_below HR.out I0.out.1) HC.out HO.out).mono ?_
    rintro e w1 ⟨rfl, hb⟩
    have I1 := carry hb I0
    clear hb I0
    go_wp2_with fail
    have I2 : Aside0 (Below w.heap.size w (w1.alloc (.cells #[.int .i64 x.f0, .int .i64 x.f1, .int .i64 x.f2, .int .i64 x.f3, .int .i64 s.f0, .int .i64 s.f1, .int .i64 s.f2, .int .i64 t.f0, .int .i64 t.f1, .int .i64 t.f2, .int .i64 fr] 101)) ∧ (w1.alloc (.cells #[.int .i64 x.f0, .int .i64 x.f1, .int .i64 x.f2, .int .i64 x.f3, .int .i64 s.f0, .int .i64 s.f1, .int .i64 s.f2, .int .i64 t.f0, .int .i64 t.f1, .int .i64 t.f2, .int .i64 fr] 101)).heap[w1.heap.size]? = some (.cells #[.int .i64 x.f0, .int .i64 x.f1, .int .i64 x.f2, .int .i64 x.f3, .int .i64 s.f0, .int .i64 s.f1, .int .i64 s.f2, .int .i64 t.f0, .int .i64 t.f1, .int .i64 t.f2, .int .i64 fr] 101 (0, 0))) := ⟨below_alloc I1.out.1 _, blk_new w1 _⟩
    generalize w1.alloc (.cells #[.int .i64 x.f0, .int .i64 x.f1, .int .i64 x.f2, .int .i64 x.f3, .int .i64 s.f0, .int .i64 s.f1, .int .i64 s.f2, .int .i64 t.f0, .int .i64 t.f1, .int .i64 t.f2, .int .i64 fr] 101) = W2 at *
    generalize w1.heap.size = g at *
    refine (HZ.out _).mono ?_
    rintro e w2 ⟨rfl, hb⟩
    have I3 := carry hb I2
    clear hb I1 I2
    go_wp2_with fail
    go_ret
    exact ⟨rfl, below_alloc I3.out.1 _⟩
set_option maxRecDepth 100000 in
set_option maxHeartbeats 2000000 in
theorem parts_yes (S : S23) (A : Option Addr) (c : Nat) (l : List S40) (i p : Int) (w : World) (hr : Kd.C k40 w A l.length l) (hc : l.length ≤ c) (ot sp : Int) (sz : Nat) (s t : S23) (fr : Int) (h : terms_of.f 40 S.f0 S.f1 S.f2 l i = some (3, ot, (sz : Int), sp, s.f0, s.f1, s.f2, t.f0, t.f1, t.f2, fr, true))
    (hs : Sy.rightB s = true) (ht : Sy.rightB t = true) (hp : 0 ≤ p ∧ p < Sy.sizeI t) (pc py px : Nat) (e1 : p / t.f2 / t.f1 = (pc : Int)) (e2 : p / t.f2 % t.f1 = (py : Int)) (e3 : p % t.f2 = (px : Int)) (hsz : 1 ≤ sz ∧ sz ≤ 12) (hpc : (pc : Int) < s.f0) (hfy : ((py * sz + sz : Nat) : Int) ≤ s.f1) (hfx : ((px * sz + sz : Nat) : Int) ≤ s.f2) (hy12 : py < 12) (hx12 : px < 12) :
    Calls Try.prog 48 #[.agg #[.int .i64 S.f0, .int .i64 S.f1, .int .i64 S.f2, .slice A l.length c], .int .i64 i, .int .i64 p] w fun e w' => ∃ v, e = .returned v ∧ Kd.R (Kd.int .i64) 3 w' w.heap.size (fun _ => True) v (Sy.partL s sz pc py px (sz * sz)) ∧ Below w.heap.size w w' := by
  have hmf : ∀ (fn : Fn) (first cap : Array Value) (w : World), (Instr.makeFunc fn first cap).run Try.prog w = .ok (.func fn first cap) w := fun _ _ _ _ => rfl
  have I0 := box_one w (.cells #[.int .i64 S.f0, .int .i64 S.f1, .int .i64 S.f2, .slice A l.length c] 26)
  have HR := Aside0.mk hr
  have HC := Aside0.mk hc
  have HO := Aside0.mk h
  have HZ := Aside0.mk (fun w => of_yes t p w ht hp _ _ _ e1 e2 e3)
  have HB := Aside0.mk (And.intro hs (And.intro hsz (And.intro hpc (And.intro hfy (And.intro hfx (And.intro hy12 hx12))))))
  clear hr hc h hp ht hs hsz hpc hfy hfx e1 e2 e3 hy12 hx12
  go_enter Try.func48, Try.ntmps48
  go_wp2_with fail
  generalize w.alloc (.cells #[.int .i64 S.f0, .int .i64 S.f1, .int .i64 S.f2, .slice A l.length c] 26) = W at *
  refine (terms_of.calls 40 _ _ _ A c l i 3 ot sz sp s.f0 s.f1 s.f2 t.f0 t.f1 t.f2 fr true _ (Kd.C_below HR.out I0.out.1) HC.out HO.out).mono ?_
  rintro e w1 ⟨rfl, hb⟩
  have I1 := carry hb I0
  clear hb I0
  go_wp2_with fail
  have I2 : Aside0 (Below w.heap.size w (w1.alloc (.cells #[.int .i64 3, .int .i64 ot, .int .i64 (sz : Int), .int .i64 sp, .int .i64 s.f0, .int .i64 s.f1, .int .i64 s.f2, .int .i64 t.f0, .int .i64 t.f1, .int .i64 t.f2, .int .i64 fr] 101)) ∧ (w1.alloc (.cells #[.int .i64 3, .int .i64 ot, .int .i64 (sz : Int), .int .i64 sp, .int .i64 s.f0, .int .i64 s.f1, .int .i64 s.f2, .int .i64 t.f0, .int .i64 t.f1, .int .i64 t.f2, .int .i64 fr] 101)).heap[w1.heap.size]? = some (.cells #[.int .i64 3, .int .i64 ot, .int .i64 (sz : Int), .int .i64 sp, .int .i64 s.f0, .int .i64 s.f1, .int .i64 s.f2, .int .i64 t.f0, .int .i64 t.f1, .int .i64 t.f2, .int .i64 fr] 101 (0, 0))) := ⟨below_alloc I1.out.1 _, blk_new w1 _⟩
  have hg := I1.out.1.size
  generalize w1.alloc (.cells #[.int .i64 3, .int .i64 ot, .int .i64 (sz : Int), .int .i64 sp, .int .i64 s.f0, .int .i64 s.f1, .int .i64 s.f2, .int .i64 t.f0, .int .i64 t.f1, .int .i64 t.f2, .int .i64 fr] 101) = W2 at *
  generalize w1.heap.size = g at *
  refine (HZ.out _).mono ?_
  rintro e w2 ⟨rfl, hb⟩
  have I3 := carry hb I2
  clear hb I1 I2
  have hgl := blk_lt I3.out.2
  have l0 := (blk_cell I3.out.2 0).trans (show _ = some (Value.int .i64 3) from rfl)
  go_upto_region 6 with fail
  have HC0 : Aside0 (PartsI w (w2.heap.size + 1) g w2.heap.size ⟨3, ot, (sz : Int), sp⟩ s t fr (pc : Int) [] ((w2.alloc (.cells #[.int .i64 (pc : Int)] 3)).alloc (.cells #[.slice none 0 0] 52))) :=
    ⟨below_alloc (below_alloc I3.out.1 _) _, blk_alloc (blk_alloc I3.out.2 _) _, blk_alloc (blk_new w2 _) _, _, blk_new1 w2 _ _, Kd.R_nil _ _ _ _ _⟩
  have l2 := (blk_cell HC0.out.2.1 2).trans (show _ = some (Value.int .i64 (sz : Int)) from rfl)
  clear I3 l0
  generalize (w2.alloc (.cells #[.int .i64 (pc : Int)] 3)).alloc (.cells #[.slice none 0 0] 52) = W3 at *
  generalize w2.heap.size = C at *
  have HST := Aside0.mk (parts_step w (C + 1) g C 3 ot sz sp s t fr pc py px (by omega) HB.out.1 HB.out.2.1 HB.out.2.2.1 HB.out.2.2.2.1 HB.out.2.2.2.2.1)
  go_region_held3 (fun w' => w'.cell? ⟨g, 2, none⟩ = some (.int .i64 (sz : Int))) (go_keep) (first | (go_at_call 89; refine (times_calls py px sz _ HB.out.2.2.2.2.2.1 HB.out.2.2.2.2.2.2 (by have := HB.out.2.1; omega)).mono ?_; rintro e w' ⟨rfl, rfl⟩) | (go_at_call 88; refine (window3 (px * sz) (py * sz) sz _ _ _ _ (fun j w' => PartsI w (C + 1) g C ⟨3, ot, (sz : Int), sp⟩ s t fr (pc : Int) (Sy.partL s sz pc py px j) w') ?_ ?_ HB.out.2.1 ?_ (fun j w n h => h.drew n) HST.out).mono ?_; (have := Nat.mul_le_mul (show px ≤ 11 by have := HB.out.2.2.2.2.2.2; omega) (show sz ≤ 12 by have := HB.out.2.1; omega); omega); (have := Nat.mul_le_mul (show py ≤ 11 by have := HB.out.2.2.2.2.2.1; omega) (show sz ≤ 12 by have := HB.out.2.1; omega); omega); (exact HC0.out.drew 1); rintro e w4 ⟨rfl, hI4⟩; have HI4 := Aside0.mk hI4; clear hI4; have l2' := (blk_cell HI4.out.2.1 2).trans (show _ = some (Value.int .i64 (sz : Int)) from rfl)))
  all_goals
    obtain ⟨g1, g2, g3, v4, g5, g6⟩ := HI4.out
    have lb := (blk_cell g5 0).trans (show _ = some v4 from rfl)
    have H6 := Aside0.mk (And.intro g6 g1)
    clear g1 g2 g3 g5 g6
    go_wp2_with fail
    go_ret
    exact ⟨_, rfl, Kd.R_mono H6.out.1 (fun _ _ => trivial), H6.out.2⟩
end Go.Proofs.Ytnfcadjckoebkaa.P
end
section
namespace Go.Proofs.Ytnfcadjckoebkaa.P
open Go.RowKit Go.Proofs.YtnfcadjckoebkaaW.PrintWords Go.Proofs.YtnfcadjckoebkaaW.PrintLast Go.Proofs.YtnfcadjckoebkaaW.PrintMore
set_option linter.unusedVariables false
def Sy.shp (S : S23) (l : List S40) (i : Int) : S23 := rd_T23 (S :: (Sy.stepsR S l).map (·.f2)) i
def Sy.partsT (x : S40) (s t : S23) (p : Int) : List Int := Sy.partL s x.f2.toNat (p / t.f2 / t.f1).toNat (p / t.f2 % t.f1).toNat (p % t.f2).toNat (x.f2.toNat * x.f2.toNat)
def Sy.partsR (S : S23) (l : List S40) (i p : Int) : List Int :=
  if (Sy.allR S l).2 = 0 ∧ 0 ≤ i ∧ i < l.length then
    if (rd_T40 l i).f0 = 3 ∧ 0 ≤ p ∧ p < Sy.sizeI (Sy.shp S l (i + 1)) then Sy.partsT (rd_T40 l i) (Sy.shp S l i) (Sy.shp S l (i + 1)) p else []
  else []
theorem pool_le {a sz y : Int} (h1 : 1 ≤ sz) (hy : y < a / sz) : y * sz + sz ≤ a := by
  have h3 : (y + 1) * sz ≤ a / sz * sz := Int.mul_le_mul_of_nonneg_right (by omega) (by omega)
  have h4 := Int.ediv_mul_le a (show sz ≠ 0 by omega)
  rw [Int.add_mul, Int.one_mul] at h3
  omega
theorem pool_some {s t : S23} {sz : Int} (h : Sy.poolO s sz = some t) : 1 ≤ sz ∧ s.f1 % sz = 0 ∧ t.f0 = s.f0 ∧ t.f1 = s.f1 / sz ∧ t.f2 = s.f2 / sz := by
  unfold Sy.poolO at h
  split at h
  · rename_i hh
    injection h with h
    subst h
    exact ⟨hh.2.1, hh.2.2.1, rfl, rfl, rfl⟩
  · cases h
theorem parts_all (S : S23) (A : Option Addr) (c : Nat) (l : List S40) (i p : Int) (w : World) (hr : Kd.C k40 w A l.length l) (hc : l.length ≤ c) :
    Calls Try.prog 48 #[.agg #[.int .i64 S.f0, .int .i64 S.f1, .int .i64 S.f2, .slice A l.length c], .int .i64 i, .int .i64 p] w fun e w' => ∃ v, e = .returned v ∧ Kd.R (Kd.int .i64) 3 w' w.heap.size (fun _ => True) v (Sy.partsR S l i p) ∧ Below w.heap.size w w' := by
  unfold Sy.partsR
  by_cases h : (Sy.allR S l).2 = 0 ∧ 0 ≤ i ∧ i < l.length
  · rw [if_pos h]
    obtain ⟨h0, hi0, hi1⟩ := h
    obtain ⟨n, rfl⟩ := Int.eq_ofNat_of_zero_le hi0
    have hlen := stepsR_len h0
    obtain ⟨-, -, hl, s, t, e1, e2, e3, e4, e5⟩ := step_ok (S := S) (l := l) n (by omega)
    have ht := (out_bd e3 e2).1
    have hof := of_f_yes S l h0 n (by omega) _ s t rfl e4 e5 40 (by omega)
    unfold Sy.shp
    rw [e4, e5]
    generalize rd_T40 l (n : Int) = x at *
    by_cases hp : x.f0 = 3 ∧ 0 ≤ p ∧ p < Sy.sizeI t
    · rw [if_pos hp]
      obtain ⟨k3, p0, p1⟩ := hp
      have hq : Sy.poolO s x.f2 = some t := by unfold Sy.outO at e2; rw [if_neg (by omega), if_neg (by omega), if_pos k3] at e2; exact e2
      obtain ⟨z1, z2, t0, t1, t2⟩ := pool_some hq
      obtain ⟨⟨a1, a2⟩, ⟨b1, b2⟩, ⟨c1, c2⟩, -⟩ := right_bd ht
      obtain ⟨⟨s1, s2⟩, ⟨s3, s4⟩, ⟨s5, s6⟩, -⟩ := right_bd e3
      obtain ⟨⟨o1, o2⟩, ⟨y1, y2⟩, ⟨x1, x2⟩⟩ := of_bd ht p0 p1
      have hy := pool_le z1 (show p / t.f2 % t.f1 < s.f1 / x.f2 by omega)
      have hx := pool_le z1 (show p % t.f2 < s.f2 / x.f2 by omega)
      obtain ⟨sz, hsz⟩ := Int.eq_ofNat_of_zero_le (show 0 ≤ x.f2 by omega)
      obtain ⟨o, ho⟩ := Int.eq_ofNat_of_zero_le o1
      obtain ⟨y, hy'⟩ := Int.eq_ofNat_of_zero_le y1
      obtain ⟨cc, hc'⟩ := Int.eq_ofNat_of_zero_le x1
      have hzz : x.f2 ≤ s.f1 := Int.le_of_dvd (by omega) (Int.dvd_of_emod_eq_zero z2)
      unfold Sy.partsT
      have e : Sy.partL s x.f2.toNat (p / t.f2 / t.f1).toNat (p / t.f2 % t.f1).toNat (p % t.f2).toNat (x.f2.toNat * x.f2.toNat) = Sy.partL s sz o y cc (sz * sz) := by rw [ho, hy', hc', hsz]; rfl
      rw [e]
      rw [k3, hsz] at hof
      rw [hy'] at hy y2
      rw [hc'] at hx x2
      rw [ho] at o2
      rw [hsz] at hy hx hzz z1
      refine parts_yes S A c l (n : Int) p w hr hc x.f1 x.f3 sz s t _ hof e3 ht ⟨p0, p1⟩ o y cc ho hy' hc' ⟨by omega, by omega⟩ (by omega) ?_ ?_ (by omega) (by omega)
      · push_cast; exact hy
      · push_cast; exact hx
    · rw [if_neg hp]
      exact (parts_other S A c l (n : Int) p w hr hc x s t _ hof ht hp).mono fun e w' hh => ⟨_, hh.1, Kd.R_nil _ _ _ _ _, hh.2⟩
  · rw [if_neg h]
    exact (parts_nolook S A c l i p w hr hc h).mono fun e w' hh => ⟨_, hh.1, Kd.R_nil _ _ _ _ _, hh.2⟩
def terms_Parts.f (a0_0 : Int) (a0_1 : Int) (a0_2 : Int) (l0_3 : List (S40)) (a1 : Int) (a2 : Int) : Option (List Int) := some (Sy.partsR ⟨a0_0, a0_1, a0_2⟩ l0_3 a1 a2)
theorem terms_Parts.calls (a0_0 : Int) (a0_1 : Int) (a0_2 : Int) (A0_3 : Option Addr) (c0_3 : Nat) (l0_3 : List (S40)) (a1 : Int) (a2 : Int) (r : List Int) (w : World) (hr0_3 : Kd.C k40 w A0_3 l0_3.length l0_3) (hc0_3 : l0_3.length ≤ c0_3) (h : terms_Parts.f a0_0 a0_1 a0_2 l0_3 a1 a2 = some r) :
    Calls Try.prog 48 #[.agg #[.int .i64 a0_0, .int .i64 a0_1, .int .i64 a0_2, .slice A0_3 l0_3.length c0_3], .int .i64 a1, .int .i64 a2] w fun e w' => ∃ v0_ : Value, e = .returned (v0_) ∧ Kd.R (Kd.int .i64) 3 w' w.heap.size (fun _ => True) v0_ r ∧ Below w.heap.size w w' := by
  have e := Option.some.inj h
  subst e
  exact parts_all ⟨a0_0, a0_1, a0_2⟩ A0_3 c0_3 l0_3 a1 a2 w hr0_3 hc0_3
end Go.Proofs.Ytnfcadjckoebkaa.P
end
section
namespace Go.Proofs.Ytnfcadjckoebkaa.P
open Go.RowKit Go.Proofs.YtnfcadjckoebkaaW.PrintWords Go.Proofs.YtnfcadjckoebkaaW.PrintLast Go.Proofs.YtnfcadjckoebkaaW.PrintMore
set_option linter.unusedSimpArgs false
set_option linter.unusedVariables false
def Sy.denseL (m : Nat) (fr p : Int) (n : Nat) : List S58 := (List.range n).map fun (k : Nat) => (⟨(k : Int), fr + p * (m : Int) + (k : Int)⟩ : S58)
def Sy.termsT (x : S40) (s t : S23) (fr p : Int) : List S58 :=
  if x.f0 = 1 then Sy.convT x s t fr p else if x.f0 = 4 then Sy.denseL (Sy.sizeI s).toNat fr p (Sy.sizeI s).toNat else if x.f0 = 2 then [⟨p, -1⟩] else []
def Sy.frm (S : S23) (l : List S40) (i : Int) : Int := Sy.sumW ((Sy.stepsR S l).take i.toNat)
def Sy.termsR (S : S23) (l : List S40) (i p : Int) : List S58 :=
  if (Sy.allR S l).2 = 0 ∧ 0 ≤ i ∧ i < l.length then
    if 0 ≤ p ∧ p < Sy.sizeI (Sy.shp S l (i + 1)) then Sy.termsT (rd_T40 l i) (Sy.shp S l i) (Sy.shp S l (i + 1)) (Sy.frm S l i) p else []
  else []
theorem dense_l0 (m : Nat) (fr p : Int) (hm : m ≤ 128) (hfr : 0 ≤ fr ∧ fr ≤ 100000) (hp : 0 ≤ p ∧ p ≤ 128) (a b c d e f g h j o : Int) : ∀ (n i k : Nat), m - i = n → n < k → i ≤ m →
    terms_look_dense.l0 k p (Sy.denseL m fr p i) (m : Int) (m : Int) (i : Int) a b c d e f g h j o fr = some (Sy.denseL m fr p m) := by
  have hpm := mulB (a := p) (b := (m : Int)) (A := 128) (B := 128) hp ⟨by omega, by omega⟩
  intro n
  induction n with
  | zero =>
    intro i k hd hk hi
    obtain ⟨k, rfl⟩ : ∃ q, k = q + 1 := ⟨k - 1, by omega⟩
    obtain rfl : i = m := by omega
    simp only [terms_look_dense.l0]
    rw [if_neg (by omega)]
  | succ n ih =>
    intro i k hd hk hi
    obtain ⟨k, rfl⟩ : ∃ q, k = q + 1 := ⟨k - 1, by omega⟩
    have hl : (Sy.denseL m fr p i).length = i := by simp [Sy.denseL]
    have e : wrap64 (wrap64 (fr + wrap64 (p * (m : Int))) + (i : Int)) = fr + p * (m : Int) + (i : Int) := by
      rw [wrapB hpm (by decide)]; unfold wrap64; omega
    have e2 : Sy.denseL m fr p i ++ [(⟨(i : Int), fr + p * (m : Int) + (i : Int)⟩ : S58)] = Sy.denseL m fr p (i + 1) := by simp [Sy.denseL, List.range_succ]
    simp only [terms_look_dense.l0]
    rw [if_pos (by omega), if_pos (by omega), e, e2, w1 (by omega) (by omega)]
    exact ih (i + 1) k (by omega) (by omega) (by omega)
theorem conv_ok {x : S40} {s t : S23} {fr p : Int} (hs : Sy.rightB s = true) (hq : Sy.outO s x = some t) (k1 : x.f0 = 1) (hfr : 0 ≤ fr ∧ fr ≤ 100000) (hp : 0 ≤ p ∧ p < Sy.sizeI t) : Sy.convOk x s t fr p = true := by
  unfold Sy.outO at hq
  rw [if_pos k1] at hq
  have ht := (conv_some hq).1
  unfold Sy.convO at hq
  split at hq
  · rename_i hh
    injection hq with hq
    subst hq
    unfold Sy.convOk
    exact decide_eq_true ⟨hs, ht, hh.2.1, hh.2.2.1, hh.2.2.2.1, hh.2.2.2.2.1, hh.2.2.2.2.2.1, rfl, rfl, hfr.1, hfr.2, hp.1, hp.2⟩
  · cases hq
theorem terms_j0 (x : S40) (s t : S23) (fr p : Int) (hs : Sy.rightB s = true) (hl : Sy.layerB x = true) (hq : Sy.outO s x = some t) (hfr : 0 ≤ fr ∧ fr ≤ 100000) (hp : 0 ≤ p ∧ p < Sy.sizeI t) (k : Nat) (hk : 140 < k) :
    terms_Terms.j0 k p false x.f0 x.f1 x.f2 x.f3 s.f0 s.f1 s.f2 t.f0 t.f1 t.f2 fr = some (Sy.termsT x s t fr p) := by
  obtain ⟨k, rfl⟩ : ∃ q, k = q + 1 := ⟨k - 1, by omega⟩
  have ht := (out_bd hs hq).1
  have hz := size_bd hs
  have hzt := size_bd ht
  simp only [terms_Terms.j0]
  unfold Sy.termsT
  rw [if_neg (by decide)]
  by_cases k1 : x.f0 = 1
  · rw [if_pos k1, if_pos k1]
    unfold terms_look_conv.f
    rw [if_pos (conv_ok hs hq k1 hfr hp)]
    rfl
  · rw [if_neg k1, if_neg k1]
    by_cases k4 : x.f0 = 4
    · rw [if_pos k4, if_pos k4]
      unfold terms_look_dense.f
      rw [size_f, Option.bind_some]
      obtain ⟨m, hm⟩ := Int.eq_ofNat_of_zero_le hz.1
      rw [hm]
      have := dense_l0 m fr p (by omega) hfr ⟨hp.1, by omega⟩ x.f0 x.f1 x.f2 x.f3 s.f0 s.f1 s.f2 t.f0 t.f1 t.f2 m 0 k (by omega) (by omega) (by omega)
      have e0 : Sy.denseL m fr p 0 = [] := rfl
      rw [e0] at this
      have this : terms_look_dense.l0 k p [] (m : Int) (m : Int) 0 x.f0 x.f1 x.f2 x.f3 s.f0 s.f1 s.f2 t.f0 t.f1 t.f2 fr = _ := this
      rw [this, Option.bind_some]
      rfl
    · rw [if_neg k4, if_neg k4]
      by_cases k2 : x.f0 = 2
      · rw [if_pos k2, if_pos k2]
      · rw [if_neg k2, if_neg k2]
theorem lay_ok {S : S23} {l : List S40} (h0 : (Sy.allR S l).2 = 0) (i : Nat) (hi : i < l.length) :
    Sy.layerB (rd_T40 l (i : Int)) = true ∧ Sy.rightB (Sy.shp S l (i : Int)) = true ∧ Sy.rightB (Sy.shp S l ((i : Int) + 1)) = true ∧ Sy.outO (Sy.shp S l (i : Int)) (rd_T40 l (i : Int)) = some (Sy.shp S l ((i : Int) + 1)) ∧
    (rd_T94 (Sy.stepsR S l) (i : Int)).f3 = Sy.wts (Sy.shp S l (i : Int)) (rd_T40 l (i : Int)) ∧ (rd_T94 (Sy.stepsR S l) (i : Int)).f4 = Sy.prods (Sy.shp S l (i : Int)) (Sy.shp S l ((i : Int) + 1)) (rd_T40 l (i : Int)) ∧ 0 ≤ Sy.frm S l (i : Int) ∧ Sy.frm S l (i : Int) ≤ 100000 := by
  have hlen := stepsR_len h0
  have h8 : (Sy.stepsR S l).length ≤ 8 := allR_len S l
  obtain ⟨-, -, hl, s, t, e1, e2, e3, e4, e5⟩ := step_ok (S := S) (l := l) i (by omega)
  have hb := sumW_bd S l i (by omega)
  unfold Sy.shp Sy.frm
  rw [e4, e5, Int.toNat_natCast]
  exact ⟨hl, e3, (out_bd e3 e2).1, e2, by rw [e1]; rfl, by rw [e1]; rfl, hb.1, by omega⟩
theorem terms_f (S : S23) (l : List S40) (i p : Int) (k : Nat) (hk : 150 < k) : terms_Terms.f k S.f0 S.f1 S.f2 l i p = some (Sy.termsR S l i p) := by
  unfold terms_Terms.f Sy.termsR
  by_cases h : (Sy.allR S l).2 = 0 ∧ 0 ≤ i ∧ i < l.length
  · rw [if_pos h]
    obtain ⟨h0, hi0, hi1⟩ := h
    obtain ⟨n, rfl⟩ := Int.eq_ofNat_of_zero_le hi0
    obtain ⟨hl, hs, ht, hq, -, -, f0, f1⟩ := lay_ok h0 n (by omega)
    rw [of_f_yes S l h0 n (by omega) (rd_T40 l (n : Int)) (Sy.shp S l (n : Int)) (Sy.shp S l ((n : Int) + 1)) rfl rfl rfl k (by omega), Option.bind_some, if_pos rfl]
    rw [show Sy.sumW ((Sy.stepsR S l).take n) = Sy.frm S l (n : Int) by unfold Sy.frm; rw [Int.toNat_natCast]]
    obtain ⟨k, rfl⟩ : ∃ q, k = q + 1 := ⟨k - 1, by omega⟩
    by_cases hp0 : p < 0
    · rw [if_pos hp0, if_neg (by omega)]
      simp only [terms_Terms.j0]
      rfl
    · rw [if_neg hp0]
      simp only
      rw [size_f, Option.bind_some]
      by_cases hp1 : p ≥ Sy.sizeI (Sy.shp S l ((n : Int) + 1))
      · rw [if_neg (by omega), decide_eq_true hp1]
        simp only [terms_Terms.j0]
        rfl
      · rw [if_pos (by omega), decide_eq_false hp1]
        exact terms_j0 _ _ _ _ p hs hl hq ⟨f0, f1⟩ ⟨by omega, by omega⟩ (k + 1) (by omega)
  · rw [if_neg h, of_f_no S l i h k (by omega), Option.bind_some, if_neg (by decide)]
    obtain ⟨k, rfl⟩ : ∃ q, k = q + 1 := ⟨k - 1, by omega⟩
    simp only [terms_Terms.j0]
    rfl
end Go.Proofs.Ytnfcadjckoebkaa.P
end
