import Derived.Test.YtnfcadjckoebkaaHXTc2
import Derived.Test.YtnfcadjckoebkaaHXPe
import Derived.Test.YtnfcadjckoebkaaHXKw
section
namespace Go.Proofs.Ytnfcadjckoebkaa.P
open Go.RowKit Go.Proofs.YtnfcadjckoebkaaW.PrintWords Go.Proofs.YtnfcadjckoebkaaW.PrintLast Go.Proofs.YtnfcadjckoebkaaW.PrintMore
set_option linter.unusedSimpArgs false
set_option linter.unusedVariables false
def Sy.convW (s : S23) (sz sp : Nat) (fr : Int) (o y x c k : Nat) : S58 := ⟨Sy.atI s (c : Int) ((y * sp + k / sz : Nat) : Int) ((x * sp + k % sz : Nat) : Int), fr + ((o : Int) * s.f0 + (c : Int)) * (sz : Int) * (sz : Int) + (k : Int)⟩
def Sy.convC (s : S23) (sz sp : Nat) (fr : Int) (o y x c : Nat) : List S58 := (List.range (sz * sz)).map (Sy.convW s sz sp fr o y x c)
def Sy.convL (s : S23) (sz sp : Nat) (fr : Int) (o y x n : Nat) : List S58 := (List.range n).flatMap (Sy.convC s sz sp fr o y x)
theorem convL_succ (s : S23) (sz sp : Nat) (fr : Int) (o y x n : Nat) : Sy.convL s sz sp fr o y x (n + 1) = Sy.convL s sz sp fr o y x n ++ Sy.convC s sz sp fr o y x n := by simp [Sy.convL, List.range_succ]
theorem convL_len (s : S23) (sz sp : Nat) (fr : Int) (o y x n : Nat) : (Sy.convL s sz sp fr o y x n).length = n * (sz * sz) := by
  induction n with
  | zero => simp [Sy.convL]
  | succ n ih => rw [convL_succ, List.length_append, ih, Nat.succ_mul]; simp [Sy.convC]
theorem conv_wr (f0 fr o c sz j : Int) (h0 : 1 ≤ f0 ∧ f0 ≤ 8) (hfr : 0 ≤ fr ∧ fr ≤ 100000) (ho : 0 ≤ o ∧ o ≤ 8) (hc : 0 ≤ c ∧ c ≤ 8) (hz : 1 ≤ sz ∧ sz ≤ 12) (hj : 0 ≤ j ∧ j ≤ 200) :
    wrap64 (wrap64 (fr + wrap64 (wrap64 (wrap64 (wrap64 (o * f0) + c) * sz) * sz)) + j) = fr + (o * f0 + c) * sz * sz + j := by
  have m1 := mulB (a := o) (b := f0) ho (show 0 ≤ f0 ∧ f0 ≤ 8 by omega)
  have m2 := mulB (a := o * f0 + c) (b := sz) (A := 72) (B := 12) (by omega) (by omega)
  have m3 := mulB (b := sz) (B := 12) m2 (by omega)
  rw [wrapB m1 (by decide), show wrap64 (o * f0 + c) = o * f0 + c by unfold wrap64; omega, wrapB m2 (by decide), wrapB m3 (by decide)]
  unfold wrap64; omega
theorem conv_step (w : World) (B L C O : Nat) (kd ot : Int) (sz sp : Nat) (s t : S23) (fr : Int) (o y x n k : Nat) (hB : w.heap.size ≤ B) (hs : Sy.rightB s = true) (hfr : 0 ≤ fr ∧ fr ≤ 100000) (ho8 : o ≤ 8) (hsz : 1 ≤ sz ∧ sz ≤ 12) (hfy : ((y * sp + sz : Nat) : Int) ≤ s.f1) (hfx : ((x * sp + sz : Nat) : Int) ≤ s.f2) (hn : s.f0 = (n : Int)) (hk : k < n)
    (j : Nat) (hj : j < sz * sz) (w' : World) (hI : ConvI w B L C O ⟨kd, ot, (sz : Int), (sp : Int)⟩ s t fr (k : Int) (o : Int) (Sy.convL s sz sp fr o y x k ++ (List.range j).map (Sy.convW s sz sp fr o y x k)) w') :
    Calls Try.prog 105 #[.int .i64 (j : Int), .complex .f64 (fb (x * sp + j % sz)) (fb (y * sp + j / sz)), .pointer (some ⟨B, 0, none⟩), .pointer (some ⟨L, 0, none⟩), .pointer (some ⟨C, 0, none⟩), .pointer (some ⟨O, 0, none⟩)] w' fun e w'' => e = .returned (.tuple #[]) ∧ ConvI w B L C O ⟨kd, ot, (sz : Int), (sp : Int)⟩ s t fr (k : Int) (o : Int) (Sy.convL s sz sp fr o y x k ++ (List.range (j + 1)).map (Sy.convW s sz sp fr o y x k)) w'' := by
  obtain ⟨⟨r1, r2⟩, -, -, -⟩ := right_bd hs
  have hz : sz * sz ≤ 144 := by have := Nat.mul_le_mul hsz.2 hsz.2; omega
  have hq : j / sz < sz := Nat.div_lt_of_lt_mul hj
  have hr : j % sz < sz := Nat.mod_lt _ (by omega)
  have hkz : k * (sz * sz) ≤ 8 * 144 := Nat.mul_le_mul (by omega) hz
  have h := conv_tell w B L C O ⟨kd, ot, (sz : Int), (sp : Int)⟩ s t fr (k : Int) (o : Int) (Sy.convL s sz sp fr o y x k ++ (List.range j).map (Sy.convW s sz sp fr o y x k)) (j : Int) (x * sp + j % sz) (y * sp + j / sz) w' hB hs ⟨by omega, by omega⟩ (by omega) (by omega) (by rw [List.length_append, convL_len]; simp; omega) _ (conv_wr s.f0 fr o k sz j ⟨r1, r2⟩ hfr ⟨by omega, by omega⟩ ⟨by omega, by omega⟩ ⟨by omega, by omega⟩ ⟨by omega, by omega⟩) hI
  refine h.mono fun e w'' hh => ⟨hh.1, ?_⟩
  have e2 : Sy.convL s sz sp fr o y x k ++ (List.range (j + 1)).map (Sy.convW s sz sp fr o y x k) = (Sy.convL s sz sp fr o y x k ++ (List.range j).map (Sy.convW s sz sp fr o y x k)) ++ [Sy.convW s sz sp fr o y x k j] := by simp [List.range_succ]
  rw [e2]
  exact hh.2
set_option maxRecDepth 100000 in
set_option maxHeartbeats 4000000 in
theorem conv_walk (kd ot : Int) (sz sp : Nat) (s t : S23) (fr i : Int) (w : World) (hs : Sy.rightB s = true) (ht : Sy.rightB t = true) (hsz : 1 ≤ sz ∧ sz ≤ 12) (hsp : sp < 13) (hfr : 0 ≤ fr ∧ fr ≤ 100000) (hi : 0 ≤ i ∧ i < Sy.sizeI t)
    (o y x : Nat) (ho : i / t.f2 / t.f1 = (o : Int)) (hy : i / t.f2 % t.f1 = (y : Int)) (hx : i % t.f2 = (x : Int)) (ho8 : o ≤ 8) (hfy : ((y * sp + sz : Nat) : Int) ≤ s.f1) (hfx : ((x * sp + sz : Nat) : Int) ≤ s.f2) (hy12 : y < 12) (hx12 : x < 12) (n : Nat) (hn : s.f0 = (n : Int)) :
    Calls Try.prog 84 #[.agg #[.int .i64 kd, .int .i64 ot, .int .i64 (sz : Int), .int .i64 (sp : Int), .int .i64 s.f0, .int .i64 s.f1, .int .i64 s.f2, .int .i64 t.f0, .int .i64 t.f1, .int .i64 t.f2, .int .i64 fr], .int .i64 i] w fun e w' => ∃ v, e = .returned v ∧ Kd.R k58 58 w' w.heap.size (fun _ => True) v (Sy.convL s sz sp fr o y x n) ∧ Below w.heap.size w w' := by
  have hmf : ∀ (fn : Fn) (first cap : Array Value) (w : World), (Instr.makeFunc fn first cap).run Try.prog w = .ok (.func fn first cap) w := fun _ _ _ _ => rfl
  have I0 := box_one w (.cells #[.int .i64 kd, .int .i64 ot, .int .i64 (sz : Int), .int .i64 (sp : Int), .int .i64 s.f0, .int .i64 s.f1, .int .i64 s.f2, .int .i64 t.f0, .int .i64 t.f1, .int .i64 t.f2, .int .i64 fr] 101)
  obtain ⟨⟨r1, r2⟩, ⟨r3, r4⟩, ⟨r5, r6⟩, -⟩ := right_bd hs
  have HO := Aside0.mk (fun w => of_yes t i w ht hi _ _ _ ho hy hx)
  have hn8 : n ≤ 8 := by omega
  have HSS := Aside0.mk hs
  have HNN := Aside0.mk hn
  have HF := Aside0.mk (And.intro hfy hfx)
  have HB := Aside0.mk (And.intro hfr (And.intro ho8 (And.intro hsz (And.intro hsp (And.intro hy12 hx12)))))
  clear hs ht hi ho hy hx hfy hfx hn r1 r2 r3 r4 r5 r6 hfr
  go_enter Try.func84, Try.ntmps84
  go_wp2_with fail
  generalize w.alloc (.cells #[.int .i64 kd, .int .i64 ot, .int .i64 (sz : Int), .int .i64 (sp : Int), .int .i64 s.f0, .int .i64 s.f1, .int .i64 s.f2, .int .i64 t.f0, .int .i64 t.f1, .int .i64 t.f2, .int .i64 fr] 101) = W at *
  refine (HO.out _).mono ?_
  rintro e w1 ⟨rfl, hb⟩
  have I1 := carry hb I0
  clear hb I0
  have hlt := blk_lt I1.out.2
  have l2 := (blk_cell I1.out.2 2).trans (show _ = some (Value.int .i64 (sz : Int)) from rfl)
  have l3 := (blk_cell I1.out.2 3).trans (show _ = some (Value.int .i64 (sp : Int)) from rfl)
  have l4 := (blk_cell I1.out.2 4).trans (show _ = some (Value.int .i64 s.f0) from rfl)
  go_wp2_with fail
  have J0 : Aside0 (Below w.heap.size w ((w1.alloc (.cells #[.int .i64 (o : Int)] 3)).alloc (.cells #[.slice none 0 0] 49)) ∧ ((w1.alloc (.cells #[.int .i64 (o : Int)] 3)).alloc (.cells #[.slice none 0 0] 49)).heap[w.heap.size]? = some (.cells #[.int .i64 kd, .int .i64 ot, .int .i64 (sz : Int), .int .i64 (sp : Int), .int .i64 s.f0, .int .i64 s.f1, .int .i64 s.f2, .int .i64 t.f0, .int .i64 t.f1, .int .i64 t.f2, .int .i64 fr] 101 (0, 0)) ∧ ((w1.alloc (.cells #[.int .i64 (o : Int)] 3)).alloc (.cells #[.slice none 0 0] 49)).heap[w1.heap.size]? = some (.cells #[.int .i64 (o : Int)] 3 (0, 0)) ∧ ((w1.alloc (.cells #[.int .i64 (o : Int)] 3)).alloc (.cells #[.slice none 0 0] 49)).heap[w1.heap.size + 1]? = some (.cells #[.slice none 0 0] 49 (0, 0))) :=
    ⟨⟨below_alloc (below_alloc I1.out.1 _) _, blk_alloc (blk_alloc I1.out.2 _) _, blk_alloc (blk_new w1 _) _, blk_new1 w1 _ _⟩⟩
  clear I1 l2 l3 l4
  generalize (w1.alloc (.cells #[.int .i64 (o : Int)] 3)).alloc (.cells #[.slice none 0 0] 49) = W2 at *
  generalize w1.heap.size = O at *
  go_loopw [10, 25] (fun _ v25 wr => ∃ k : Nat, v25 = .int .i64 k ∧ k ≤ n ∧ Aside0 (Below w.heap.size w wr ∧ wr.heap[w.heap.size]? = some (.cells #[.int .i64 kd, .int .i64 ot, .int .i64 (sz : Int), .int .i64 (sp : Int), .int .i64 s.f0, .int .i64 s.f1, .int .i64 s.f2, .int .i64 t.f0, .int .i64 t.f1, .int .i64 t.f2, .int .i64 fr] 101 (0, 0)) ∧ wr.heap[O]? = some (.cells #[.int .i64 (o : Int)] 3 (0, 0)) ∧ ∃ v, wr.heap[O + 1]? = some (.cells #[v] 49 (0, 0)) ∧ Kd.R k58 58 wr w.heap.size (fun _ => True) v (Sy.convL s sz sp fr o y x k))) (fun _ v25 _ => n - (intOf v25).toNat)
  case atStart => exact ⟨0, rfl, Nat.zero_le _, ⟨J0.out.1, J0.out.2.1, J0.out.2.2.1, _, J0.out.2.2.2, Kd.R_nil _ _ _ _ _⟩⟩
  case round =>
    obtain ⟨k, rfl, hk, HI⟩ := hrel
    have hk0 := HNN.out
    by_cases hkn : k < n
    · have hk1 : (k : Int) < s.f0 := by omega
      obtain ⟨h1, h2, h3, v, h4, h5⟩ := HI.out
      have l2 := pw_cell_below (keep_alloc wr (.cells #[.int .i64 (k : Int)] 3)) ((blk_cell h2 2).trans (show _ = some (Value.int .i64 (sz : Int)) from rfl))
      have l3 := pw_cell_below (keep_alloc wr (.cells #[.int .i64 (k : Int)] 3)) ((blk_cell h2 3).trans (show _ = some (Value.int .i64 (sp : Int)) from rfl))
      have HC0 : Aside0 (ConvI w (O + 1) w.heap.size wr.heap.size O ⟨kd, ot, (sz : Int), (sp : Int)⟩ s t fr (k : Int) (o : Int) (Sy.convL s sz sp fr o y x k) (wr.alloc (.cells #[.int .i64 (k : Int)] 3))) :=
        ⟨below_alloc h1 _, blk_alloc h2 _, blk_new wr _, blk_alloc h3 _, v, blk_alloc h4 _, Kd.R_alloc (Kd.R_mono (Kd.R_elderB h5 wr.heap.size (Nat.le_refl _)) (fun _ h => h.2)) _⟩
      have hwr := h1.size
      clear h1 h2 h3 h4 h5 hk0
      go_upto_region 8 with fail
      generalize wr.alloc (.cells #[.int .i64 (k : Int)] 3) = W3 at *
      generalize wr.heap.size = C at *
      have HST := Aside0.mk (conv_step w (O + 1) w.heap.size C O kd ot sz sp s t fr o y x n k (by omega) HSS.out HB.out.1 HB.out.2.1 HB.out.2.2.1 HF.out.1 HF.out.2 HNN.out hkn)
      go_region_held3 (fun w' => w'.cell? ⟨w.heap.size, 2, none⟩ = some (.int .i64 (sz : Int)) ∧ w'.cell? ⟨w.heap.size, 3, none⟩ = some (.int .i64 (sp : Int))) (go_keep) (first | (go_at_call 89; refine (times_calls y x sp _ HB.out.2.2.2.2.1 HB.out.2.2.2.2.2 HB.out.2.2.2.1).mono ?_; rintro e w' ⟨rfl, rfl⟩) | (go_at_call 88; refine (window4 (x * sp) (y * sp) sz _ _ _ _ _ (fun j w' => ConvI w (O + 1) w.heap.size C O ⟨kd, ot, (sz : Int), (sp : Int)⟩ s t fr (k : Int) (o : Int) (Sy.convL s sz sp fr o y x k ++ (List.range j).map (Sy.convW s sz sp fr o y x k)) w') ?_ ?_ HB.out.2.2.1 ?_ (fun j w n h => h.drew n) HST.out).mono ?_; (have := Nat.mul_le_mul (show x ≤ 11 by have := HB.out.2.2.2.2.2; omega) (show sp ≤ 12 by have := HB.out.2.2.2.1; omega); omega); (have := Nat.mul_le_mul (show y ≤ 11 by have := HB.out.2.2.2.2.1; omega) (show sp ≤ 12 by have := HB.out.2.2.2.1; omega); omega); (show ConvI _ _ _ _ _ _ _ _ _ _ _ (_ ++ (List.range 0).map _) _; rw [List.range_zero, List.map_nil, List.append_nil]; exact HC0.out.drew 1); rintro e w4 ⟨rfl, hI4⟩; have HI4 := Aside0.mk hI4; clear hI4; have l2' := (blk_cell HI4.out.2.1 2).trans (show _ = some (Value.int .i64 (sz : Int)) from rfl); have l3' := (blk_cell HI4.out.2.1 3).trans (show _ = some (Value.int .i64 (sp : Int)) from rfl)))
      all_goals
        go_wp2_with fail
        go_roundw
        case rel =>
          obtain ⟨g1, g2, g3, g4, v4, g5, g6⟩ := HI4.out
          exact ⟨k + 1, by go_num, by omega, ⟨g1, g2, g4, v4, g5, by rw [convL_succ]; exact Kd.R_mono g6 (fun _ _ => trivial)⟩⟩
        case measure => simp [intOf]; omega
    · have hk1 : ¬ (k : Int) < s.f0 := by omega
      obtain ⟨h1, h2, h3, v, h4, h5⟩ := HI.out
      have hkn2 := Aside0.mk (show k = n by omega)
      have lb := (blk_cell h4 0).trans (show _ = some v from rfl)
      have H5 := Aside0.mk (And.intro h5 h1)
      clear h1 h2 h3 h4 h5 hk0
      go_wp2_with fail
      go_ret
      exact ⟨_, rfl, hkn2.out ▸ H5.out.1, H5.out.2⟩
end Go.Proofs.Ytnfcadjckoebkaa.P
end
section
namespace Go.Proofs.Ytnfcadjckoebkaa.P
open Go.RowKit Go.Proofs.YtnfcadjckoebkaaW.PrintWords Go.Proofs.YtnfcadjckoebkaaW.PrintLast Go.Proofs.YtnfcadjckoebkaaW.PrintMore
set_option linter.unusedVariables false
def Sy.convOk (x : S40) (s t : S23) (fr i : Int) : Bool := decide (Sy.rightB s = true ∧ Sy.rightB t = true ∧ 1 ≤ x.f2 ∧ x.f2 ≤ s.f1 ∧ x.f2 ≤ s.f2 ∧ 1 ≤ x.f3 ∧ x.f3 ≤ 12 ∧ t.f1 = (s.f1 - x.f2) / x.f3 + 1 ∧ t.f2 = (s.f2 - x.f2) / x.f3 + 1 ∧ 0 ≤ fr ∧ fr ≤ 100000 ∧ 0 ≤ i ∧ i < Sy.sizeI t)
def Sy.convT (x : S40) (s t : S23) (fr i : Int) : List S58 := Sy.convL s x.f2.toNat x.f3.toNat fr (i / t.f2 / t.f1).toNat (i / t.f2 % t.f1).toNat (i % t.f2).toNat s.f0.toNat
theorem fit_le {a sz sp q y : Int} (h1 : 1 ≤ sp) (hq : q = (a - sz) / sp + 1) (hy : y < q) (h0 : 0 ≤ y) : y * sp + sz ≤ a := by
  have h2 : y ≤ (a - sz) / sp := by omega
  have h3 : y * sp ≤ (a - sz) / sp * sp := Int.mul_le_mul_of_nonneg_right h2 (by omega)
  have h4 := Int.ediv_mul_le (a - sz) (show sp ≠ 0 by omega)
  omega
theorem of_bd {t : S23} {i : Int} (ht : Sy.rightB t = true) (h0 : 0 ≤ i) (h1 : i < Sy.sizeI t) : (0 ≤ i / t.f2 / t.f1 ∧ i / t.f2 / t.f1 < t.f0) ∧ (0 ≤ i / t.f2 % t.f1 ∧ i / t.f2 % t.f1 < t.f1) ∧ (0 ≤ i % t.f2 ∧ i % t.f2 < t.f2) := by
  obtain ⟨⟨a1, a2⟩, ⟨b1, b2⟩, ⟨c1, c2⟩, -⟩ := right_bd ht
  unfold Sy.sizeI at h1
  rw [if_pos ht] at h1
  have g0 : 0 ≤ i / t.f2 := Int.ediv_nonneg h0 (by omega)
  have g1 : i / t.f2 < t.f0 * t.f1 := Int.ediv_lt_of_lt_mul (by omega) h1
  exact ⟨⟨Int.ediv_nonneg g0 (by omega), Int.ediv_lt_of_lt_mul (by omega) g1⟩, ⟨Int.emod_nonneg _ (by omega), Int.emod_lt_of_pos _ (by omega)⟩, ⟨Int.emod_nonneg _ (by omega), Int.emod_lt_of_pos _ (by omega)⟩⟩
theorem conv_look (x : S40) (s t : S23) (fr i : Int) (w : World) (h : Sy.convOk x s t fr i = true) :
    Calls Try.prog 84 #[.agg #[.int .i64 x.f0, .int .i64 x.f1, .int .i64 x.f2, .int .i64 x.f3, .int .i64 s.f0, .int .i64 s.f1, .int .i64 s.f2, .int .i64 t.f0, .int .i64 t.f1, .int .i64 t.f2, .int .i64 fr], .int .i64 i] w fun e w' => ∃ v, e = .returned v ∧ Kd.R k58 58 w' w.heap.size (fun _ => True) v (Sy.convT x s t fr i) ∧ Below w.heap.size w w' := by
  unfold Sy.convOk at h
  obtain ⟨hs, ht, z1, z2, z3, p1, p2, q1, q2, f1, f2, i1, i2⟩ := of_decide_eq_true h
  obtain ⟨⟨a1, a2⟩, ⟨b1, b2⟩, ⟨c1, c2⟩, -⟩ := right_bd ht
  obtain ⟨⟨s1, s2⟩, ⟨s3, s4⟩, ⟨s5, s6⟩, -⟩ := right_bd hs
  obtain ⟨⟨o1, o2⟩, ⟨y1, y2⟩, ⟨x1, x2⟩⟩ := of_bd ht i1 i2
  have hy := fit_le p1 q1 y2 y1
  have hx := fit_le p1 q2 x2 x1
  unfold Sy.convT
  obtain ⟨kd, ot, sz, sp⟩ := x
  obtain ⟨sz, rfl⟩ := Int.eq_ofNat_of_zero_le (show 0 ≤ sz by dsimp only at z1; omega)
  obtain ⟨sp, rfl⟩ := Int.eq_ofNat_of_zero_le (show 0 ≤ sp by dsimp only at p1; omega)
  obtain ⟨o, ho⟩ := Int.eq_ofNat_of_zero_le o1
  obtain ⟨y, hy'⟩ := Int.eq_ofNat_of_zero_le y1
  obtain ⟨c, hc⟩ := Int.eq_ofNat_of_zero_le x1
  obtain ⟨n, hn⟩ := Int.eq_ofNat_of_zero_le (show 0 ≤ s.f0 by omega)
  dsimp only at hy hx z1 z2 z3 p1 p2 ⊢
  have e : Sy.convL s (sz : Int).toNat (sp : Int).toNat fr (i / t.f2 / t.f1).toNat (i / t.f2 % t.f1).toNat (i % t.f2).toNat s.f0.toNat = Sy.convL s sz sp fr o y c n := by rw [ho, hy', hc, hn]; rfl
  rw [e]
  rw [ho] at o2
  rw [hy'] at hy y2
  rw [hc] at hx x2
  refine conv_walk kd ot sz sp s t fr i w hs ht ⟨by omega, by omega⟩ (by omega) ⟨f1, f2⟩ ⟨i1, i2⟩ o y c ho hy' hc (by omega) ?_ ?_ (by omega) (by omega) n hn
  · push_cast; exact hy
  · push_cast; exact hx
def terms_look_conv.f (a0_0 : Int) (a0_1 : Int) (a0_2 : Int) (a0_3 : Int) (a0_4 : Int) (a0_5 : Int) (a0_6 : Int) (a0_7 : Int) (a0_8 : Int) (a0_9 : Int) (a0_10 : Int) (a1 : Int) : Option ((List (S58))) :=
  if Sy.convOk ⟨a0_0, a0_1, a0_2, a0_3⟩ ⟨a0_4, a0_5, a0_6⟩ ⟨a0_7, a0_8, a0_9⟩ a0_10 a1 = true then some (Sy.convT ⟨a0_0, a0_1, a0_2, a0_3⟩ ⟨a0_4, a0_5, a0_6⟩ ⟨a0_7, a0_8, a0_9⟩ a0_10 a1) else none
theorem terms_look_conv.calls (a0_0 : Int) (a0_1 : Int) (a0_2 : Int) (a0_3 : Int) (a0_4 : Int) (a0_5 : Int) (a0_6 : Int) (a0_7 : Int) (a0_8 : Int) (a0_9 : Int) (a0_10 : Int) (a1 : Int) (r : List (S58)) (w : World) (h : terms_look_conv.f a0_0 a0_1 a0_2 a0_3 a0_4 a0_5 a0_6 a0_7 a0_8 a0_9 a0_10 a1 = some r) :
    Calls Try.prog 84 #[.agg #[.int .i64 a0_0, .int .i64 a0_1, .int .i64 a0_2, .int .i64 a0_3, .int .i64 a0_4, .int .i64 a0_5, .int .i64 a0_6, .int .i64 a0_7, .int .i64 a0_8, .int .i64 a0_9, .int .i64 a0_10], .int .i64 a1] w fun e w' => ∃ v0_ : Value, e = .returned (v0_) ∧ Kd.R k58 58 w' w.heap.size (fun _ => True) v0_ r ∧ Below w.heap.size w w' := by
  unfold terms_look_conv.f at h
  split at h
  · rename_i hk
    cases h
    exact conv_look ⟨a0_0, a0_1, a0_2, a0_3⟩ ⟨a0_4, a0_5, a0_6⟩ ⟨a0_7, a0_8, a0_9⟩ a0_10 a1 w hk
  · cases h
end Go.Proofs.Ytnfcadjckoebkaa.P
end
