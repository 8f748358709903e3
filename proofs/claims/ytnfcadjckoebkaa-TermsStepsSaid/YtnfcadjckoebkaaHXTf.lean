import Derived.Test.YtnfcadjckoebkaaHXKw
import Derived.Laws.ComplexArith
import Derived.WalkLawsBesides
import Derived.Test.YtnfcadjckoebkaaHXRh
section
namespace Go.Proofs.Ytnfcadjckoebkaa.P
def fb (n : Nat) : Nat := floatOfInt .f64 (n : Int)
theorem fb_mul : ∀ x, x < 12 → ∀ s, s < 13 → floatBits .mul .f64 (fb x) (fb s) = some (fb (x * s)) := by decide +kernel
theorem fb_mul0 : ∀ x, x < 12 → floatBits .mul .f64 (fb x) 0 = some 0 := by decide +kernel
theorem fb_sub0 : ∀ n, n < 133 → floatBits .sub .f64 (fb n) 0 = some (fb n) := by decide +kernel
theorem fb_add0 : ∀ n, n < 133 → floatBits .add .f64 0 (fb n) = some (fb n) := by decide +kernel
theorem fb_add : ∀ a, a < 133 → ∀ b, b < 13 → floatBits .add .f64 (fb a) (fb b) = some (fb (a + b)) := by decide +kernel
theorem fb_int : ∀ n, n < 150 → floatToIntVal .f64 (fb n) .i64 = some (n : Int) := by decide +kernel
end Go.Proofs.Ytnfcadjckoebkaa.P
end
section
namespace Go.Proofs.Ytnfcadjckoebkaa.P
open Go.RowKit Go.Proofs.YtnfcadjckoebkaaW.PrintWords Go.Proofs.YtnfcadjckoebkaaW.PrintLast Go.Proofs.YtnfcadjckoebkaaW.PrintMore
set_option linter.unusedSimpArgs false
set_option linter.unusedVariables false
theorem box_one (w : World) (o : Obj) : Aside0 (Below w.heap.size w (w.alloc o) ∧ (w.alloc o).heap[w.heap.size]? = some o) := ⟨keep_alloc w o, blk_new w o⟩
theorem within_true (a c : Int) (w : World) (h : 0 ≤ a ∧ a ≤ c) : Calls Try.prog 106 #[.int .i64 a, .int .i64 0, .int .i64 c] w fun e w' => e = .returned (.bool true) ∧ Drawn0 w w' := by
  have := within_calls a 0 c w
  rwa [decide_eq_true h] at this
theorem within_false (a c : Int) (w : World) (h : ¬ (0 ≤ a ∧ a ≤ c)) : Calls Try.prog 106 #[.int .i64 a, .int .i64 0, .int .i64 c] w fun e w' => e = .returned (.bool false) ∧ Drawn0 w w' := by
  have := within_calls a 0 c w
  rwa [decide_eq_false h] at this
def Sy.atI (s : S23) (c y x : Int) : Int := (c * s.f1 + y) * s.f2 + x
theorem atI_bd {s : S23} {c y x : Int} (hs : Sy.rightB s = true) (hc : 0 ≤ c ∧ c < s.f0) (hy : 0 ≤ y ∧ y < s.f1) (hx : 0 ≤ x ∧ x < s.f2) : 0 ≤ Sy.atI s c y x ∧ Sy.atI s c y x < Sy.sizeI s := by
  unfold Sy.atI Sy.sizeI
  rw [if_pos hs]
  obtain ⟨⟨a1, a2⟩, ⟨b1, b2⟩, ⟨c1, c2⟩, d⟩ := right_bd hs
  have m1 : 0 ≤ c * s.f1 := Int.mul_nonneg hc.1 (by omega)
  have m2 : 0 ≤ (c * s.f1 + y) * s.f2 := Int.mul_nonneg (by omega) (by omega)
  have m3 : (c + 1) * s.f1 ≤ s.f0 * s.f1 := Int.mul_le_mul_of_nonneg_right (by omega) (by omega)
  have m4 : (c * s.f1 + y + 1) * s.f2 ≤ s.f0 * s.f1 * s.f2 := Int.mul_le_mul_of_nonneg_right (by rw [Int.add_mul, Int.one_mul] at m3; omega) (by omega)
  rw [Int.add_mul _ 1, Int.one_mul] at m4
  omega
set_option maxHeartbeats 1000000 in
theorem at_calls (s : S23) (c y x r : Int) (w : World) (hs : Sy.rightB s = true) (hc : 0 ≤ c ∧ c < s.f0) (hy : 0 ≤ y ∧ y < s.f1) (hx : 0 ≤ x ∧ x < s.f2) (hr : Sy.atI s c y x = r) :
    Calls Try.prog 108 #[.agg #[.int .i64 s.f0, .int .i64 s.f1, .int .i64 s.f2], .int .i64 c, .int .i64 y, .int .i64 x] w fun e w' => e = .returned (.int .i64 r) ∧ Below w.heap.size w w' := by
  have I0 := box_one w (.cells #[.int .i64 s.f0, .int .i64 s.f1, .int .i64 s.f2] 23)
  obtain ⟨⟨a1, a2⟩, ⟨b1, b2⟩, ⟨c1, c2⟩, -⟩ := right_bd hs
  have hb := atI_bd hs hc hy hx
  have hz := size_bd hs
  have m1 := mulB (a := s.f1) (b := c) (A := 12) (B := 8) ⟨by omega, b2⟩ ⟨hc.1, by omega⟩
  have m2 := mulB (a := s.f2) (b := y + s.f1 * c) (A := 12) (B := 200) ⟨by omega, c2⟩ ⟨by omega, by omega⟩
  have E : wrap64 (x + wrap64 (s.f2 * wrap64 (y + wrap64 (s.f1 * c)))) = r := by
    rw [wrapB m1 (by decide), show wrap64 (y + s.f1 * c) = y + s.f1 * c by unfold wrap64; omega, wrapB m2 (by decide), ← hr]
    unfold Sy.atI
    rw [Int.mul_comm (c * s.f1 + y) s.f2, Int.mul_comm c s.f1, Int.add_comm (s.f1 * c) y, Int.add_comm _ x]
    unfold wrap64; omega
  have HE := Aside0.mk E
  have HS := Aside0.mk hs
  have K1 := Aside0.mk (show 0 ≤ c ∧ c ≤ s.f0 - 1 by omega)
  have K2 := Aside0.mk (show 0 ≤ y ∧ y ≤ s.f1 - 1 by omega)
  have K3 := Aside0.mk (show 0 ≤ x ∧ x ≤ s.f2 - 1 by omega)
  clear E hs hc hy hx hr hb hz m1 m2
  go_enter Try.func108, Try.ntmps108
  go_wp2_with fail
  generalize w.alloc (.cells #[.int .i64 s.f0, .int .i64 s.f1, .int .i64 s.f2] 23) = W at *
  refine (right_any _ _ _ true HS.out _).mono ?_
  rintro e w1 ⟨rfl, hb⟩
  have I1 := carry hb I0
  clear hb I0
  obtain ⟨d0, d1, d2⟩ := box3 I1.out.2
  go_wp2_with fail
  refine (within_true c (s.f0 - 1) _ K1.out).mono ?_
  rintro e w2 ⟨rfl, ⟨⟨m, rfl⟩⟩⟩
  go_wp2_with fail
  refine (within_true y (s.f1 - 1) _ K2.out).mono ?_
  rintro e w3 ⟨rfl, ⟨⟨m', rfl⟩⟩⟩
  go_wp2_with fail
  refine (within_true x (s.f2 - 1) _ K3.out).mono ?_
  rintro e w4 ⟨rfl, ⟨⟨m'', rfl⟩⟩⟩
  go_wp2_with fail
  go_ret
  exact ⟨ret_i64 HE.out, by with_reducible repeat (first | exact I1.out.1 | apply pw_below_drewN)⟩
theorem of_no (s : S23) (i : Int) (w : World) (h : ¬ (0 ≤ i ∧ i < Sy.sizeI s)) :
    Calls Try.prog 87 #[.agg #[.int .i64 s.f0, .int .i64 s.f1, .int .i64 s.f2], .int .i64 i] w fun e w' => e = .returned (.tuple #[.int .i64 0, .int .i64 0, .int .i64 0, .bool false]) ∧ Below w.heap.size w w' := by
  have I0 := box_one w (.cells #[.int .i64 s.f0, .int .i64 s.f1, .int .i64 s.f2] 23)
  have hz : 0 ≤ Sy.sizeI s ∧ Sy.sizeI s ≤ 128 := by
    cases hs : Sy.rightB s with
    | true => exact size_bd hs
    | false => unfold Sy.sizeI; rw [if_neg (by rw [hs]; decide)]; decide
  have K1 := Aside0.mk (show ¬ (0 ≤ i ∧ i ≤ Sy.sizeI s - 1) by omega)
  obtain ⟨z1, z2⟩ := hz
  clear h
  go_enter Try.func87, Try.ntmps87
  go_wp2_with fail
  generalize w.alloc (.cells #[.int .i64 s.f0, .int .i64 s.f1, .int .i64 s.f2] 23) = W at *
  refine (size_calls s _).mono ?_
  rintro e w1 ⟨rfl, hb⟩
  have I1 := carry hb I0
  clear hb I0
  go_wp2_with fail
  refine (within_false i (Sy.sizeI s - 1) _ K1.out).mono ?_
  rintro e w2 ⟨rfl, ⟨⟨m, rfl⟩⟩⟩
  go_wp2_with fail
  refine bodyPost_ret (v := .tuple #[.int .i64 0, .int .i64 0, .int .i64 0, .bool false]) (by simp [results, Try.results87, go_sem]) rfl ⟨rfl, pw_below_drewN I1.out.1 _⟩
set_option maxHeartbeats 1000000 in
theorem of_yes (s : S23) (i : Int) (w : World) (hs : Sy.rightB s = true) (h : 0 ≤ i ∧ i < Sy.sizeI s) (a b c : Int) (ha : i / s.f2 / s.f1 = a) (hb : i / s.f2 % s.f1 = b) (hc : i % s.f2 = c) :
    Calls Try.prog 87 #[.agg #[.int .i64 s.f0, .int .i64 s.f1, .int .i64 s.f2], .int .i64 i] w fun e w' => e = .returned (.tuple #[.int .i64 a, .int .i64 b, .int .i64 c, .bool true]) ∧ Below w.heap.size w w' := by
  have I0 := box_one w (.cells #[.int .i64 s.f0, .int .i64 s.f1, .int .i64 s.f2] 23)
  have hz := size_bd hs
  obtain ⟨-, ⟨b1, b2⟩, ⟨c1, c2⟩, -⟩ := right_bd hs
  have K1 := Aside0.mk (show 0 ≤ i ∧ i ≤ Sy.sizeI s - 1 by omega)
  obtain ⟨z1, z2⟩ := hz
  obtain ⟨i1, i2⟩ := h
  have hn1 : ¬ s.f1 = 0 := by omega
  have hn2 : ¬ s.f2 = 0 := by omega
  have g0 : 0 ≤ i / s.f2 := Int.ediv_nonneg i1 (by omega)
  have g1 : i / s.f2 ≤ i := Int.ediv_le_self _ i1
  have g2 : 0 ≤ i / s.f2 / s.f1 := Int.ediv_nonneg g0 (by omega)
  have g3 : i / s.f2 / s.f1 ≤ i / s.f2 := Int.ediv_le_self _ g0
  have e1 : IntKind.i64.wrap (i / s.f2 / s.f1) = i / s.f2 / s.f1 := IntWalk.i64_in _ (by omega)
  have e2 : (i / s.f2).tdiv s.f1 = i / s.f2 / s.f1 := Int.tdiv_eq_ediv_of_nonneg g0
  have e3 : (i / s.f2).tmod s.f1 = i / s.f2 % s.f1 := Int.tmod_eq_emod_of_nonneg g0
  have e4 : i.tmod s.f2 = i % s.f2 := Int.tmod_eq_emod_of_nonneg i1
  have HE := Aside0.mk (And.intro e1 (And.intro e2 (And.intro e3 e4)))
  clear e1 e2 e3 e4
  have HV := Aside0.mk (And.intro ha (And.intro hb hc))
  clear ha hb hc
  go_enter Try.func87, Try.ntmps87
  go_wp2_with fail
  generalize w.alloc (.cells #[.int .i64 s.f0, .int .i64 s.f1, .int .i64 s.f2] 23) = W at *
  refine (size_calls s _).mono ?_
  rintro e w1 ⟨rfl, hb⟩
  have I1 := carry hb I0
  clear hb I0
  obtain ⟨d0, d1, d2⟩ := box3 I1.out.2
  go_wp2_with fail
  refine (within_true i (Sy.sizeI s - 1) _ K1.out).mono ?_
  rintro e w2 ⟨rfl, ⟨⟨m, rfl⟩⟩⟩
  go_wp2_with fail
  obtain ⟨e1, e2, e3, e4⟩ := HE.out
  go_region
  clear e1 e2 e3 e4 HE
  go_wp2_with fail
  refine bodyPost_ret (v := .tuple #[.int .i64 a, .int .i64 b, .int .i64 c, .bool true]) (by obtain ⟨rfl, rfl, rfl⟩ := HV.out; simp [results, Try.results87, go_sem]) rfl ⟨rfl, below_drew1 (pw_below_drewN I1.out.1 _)⟩
theorem place_calls (y x : Nat) (w : World) : Calls Try.prog 107 #[.int .i64 y, .int .i64 x] w fun e w' => e = .returned (.complex .f64 (fb x) (fb y)) ∧ w' = w := by
  go_enter Try.func107, Try.ntmps107
  go_wp2_with fail
  go_ret
  exact ⟨rfl, rfl⟩
theorem times_calls (y x s : Nat) (w : World) (hy : y < 12) (hx : x < 12) (hs : s < 13) : Calls Try.prog 89 #[.int .i64 y, .int .i64 x, .int .i64 s] w fun e w' => e = .returned (.complex .f64 (fb (x * s)) (fb (y * s))) ∧ w' = w := by
  have hm : ∀ (t : TypeId) (w : World), (binOp .mul t (.complex .f64 (fb x) (fb y)) (.complex .f64 (floatOfInt .f64 (s : Int)) 0)).run Try.prog w = .ok (.complex .f64 (fb (x * s)) (fb (y * s))) w := by
    intro t w
    have a1 : x * s < 133 := by have := Nat.mul_le_mul (show x ≤ 11 by omega) (show s ≤ 12 by omega); omega
    have a2 : y * s < 133 := by have := Nat.mul_le_mul (show y ≤ 11 by omega) (show s ≤ 12 by omega); omega
    refine run_complex_mul w t _ _ _ _ _ _ ?_
    show cMulBits (fb x) (fb y) (fb s) 0 = _
    unfold cMulBits
    rw [fb_mul x hx s hs, fb_mul0 y hy, fb_mul0 x hx, fb_mul y hy s hs]
    simp only [Option.bind_some]
    rw [fb_sub0 _ a1, fb_add0 _ a2]
    rfl
  go_enter Try.func89, Try.ntmps89
  go_wp2_with (go_at_call 107; refine (place_calls y x _).mono ?_; rintro e w' ⟨rfl, rfl⟩)
  go_ret
  exact ⟨rfl, rfl⟩
theorem tat_calls (s : S23) (c r : Int) (y x : Nat) (w : World) (hs : Sy.rightB s = true) (hc : 0 ≤ c ∧ c < s.f0) (hy : (y : Int) < s.f1) (hx : (x : Int) < s.f2) (hr : Sy.atI s c y x = r) :
    Calls Try.prog 91 #[.agg #[.int .i64 s.f0, .int .i64 s.f1, .int .i64 s.f2], .int .i64 c, .complex .f64 (fb x) (fb y)] w fun e w' => e = .returned (.int .i64 r) ∧ Below w.heap.size w w' := by
  have I0 := box_one w (.cells #[.int .i64 s.f0, .int .i64 s.f1, .int .i64 s.f2] 23)
  obtain ⟨-, ⟨b1, b2⟩, ⟨c1, c2⟩, -⟩ := right_bd hs
  have h1 : ∀ (w : World), (convert 132 3 (.float .f64 (fb x))).run Try.prog w = .ok (.int .i64 (x : Int)) w := fun w => run_convert_float_int w 132 3 .f64 .i64 _ _ (by kernel_rfl) Try.underlying3 (fb_int x (by omega))
  have h2 : ∀ (w : World), (convert 132 3 (.float .f64 (fb y))).run Try.prog w = .ok (.int .i64 (y : Int)) w := fun w => run_convert_float_int w 132 3 .f64 .i64 _ _ (by kernel_rfl) Try.underlying3 (fb_int y (by omega))
  have HC := Aside0.mk (fun w => at_calls s c y x r w hs hc ⟨by omega, hy⟩ ⟨by omega, hx⟩ hr)
  clear hs hc hy hx hr b1 b2 c1 c2
  go_enter Try.func91, Try.ntmps91
  go_wp2_with fail
  generalize w.alloc (.cells #[.int .i64 s.f0, .int .i64 s.f1, .int .i64 s.f2] 23) = W at *
  refine (HC.out _).mono ?_
  rintro e w1 ⟨rfl, hb⟩
  have I1 := carry hb I0
  go_wp2_with fail
  go_ret
  exact ⟨rfl, I1.out.1⟩
end Go.Proofs.Ytnfcadjckoebkaa.P
end
section
namespace Go.Proofs.Ytnfcadjckoebkaa.P
open Go.RowKit Go.Proofs.YtnfcadjckoebkaaW.PrintWords Go.Proofs.YtnfcadjckoebkaaW.PrintLast Go.Proofs.YtnfcadjckoebkaaW.PrintMore
set_option linter.unusedSimpArgs false
set_option linter.unusedVariables false
structure Sok (w : World) : Prop
set_option maxHeartbeats 1000000 in
theorem window4 (X Y size : Nat) (p0 p1 p2 p3 : Option Addr) (w : World) (I : Nat → World → Prop) (hX : X < 133) (hY : Y < 133) (hs : 1 ≤ size ∧ size ≤ 12) (h0 : I 0 w)
    (hI : ∀ k w n, I k w → I k (w.drewN n))
    (hstep : ∀ k, k < size * size → ∀ w', I k w' → Calls Try.prog 105 #[.int .i64 (k : Int), .complex .f64 (fb (X + k % size)) (fb (Y + k / size)), .pointer p0, .pointer p1, .pointer p2, .pointer p3] w' fun e w'' => e = .returned (.tuple #[]) ∧ I (k + 1) w'') :
    Calls Try.prog 88 #[.complex .f64 (fb X) (fb Y), .int .i64 (size : Int), .func (.func 105) #[] #[.pointer p0, .pointer p1, .pointer p2, .pointer p3]] w fun e w' => e = .returned (.tuple #[]) ∧ I (size * size) w' := by
  obtain ⟨n2, hn⟩ : ∃ n2, n2 = size * size := ⟨_, rfl⟩
  have hn2 : n2 ≤ 144 := by have := Nat.mul_le_mul hs.2 hs.2; omega
  have hi : (size : Int) * (size : Int) = (n2 : Int) := by rw [hn]; simp
  rw [← hn] at hstep ⊢
  have HST := Aside0.mk hstep
  have HN := Aside0.mk hn
  have H0 := Aside0.mk h0
  have HI := Aside0.mk hI
  have hw : wrap64 ((size : Int) * (size : Int)) = (n2 : Int) := by rw [hi]; unfold wrap64; omega
  have HW := Aside0.mk hw
  clear hw
  obtain ⟨hs1, hs2⟩ := hs
  have hz : ¬ (size : Int) = 0 := by omega
  have hz2 : ¬ size = 0 := by omega
  clear hstep h0 hi hn hI
  go_enter Try.func88, Try.ntmps88
  go_wp2_with fail
  rw [HW.out]
  go_loopw [6, 10] (fun _ v10 wr => ∃ k : Nat, v10 = .int .i64 k ∧ k ≤ n2 ∧ Aside0 (I k wr)) (fun _ v10 _ => n2 - (intOf v10).toNat)
  case atStart => exact ⟨0, rfl, Nat.zero_le _, H0⟩
  case round =>
    obtain ⟨k, rfl, hk, HK⟩ := hrel
    by_cases hlt : k < n2
    · have hq : k / size ≤ 12 := by
        have := Nat.div_lt_of_lt_mul (show k < size * size by rw [← HN.out]; exact hlt)
        omega
      have hr : k % size < size := Nat.mod_lt _ (by omega)
      have HS := HST.out k hlt
      have e1 : (k : Int).tdiv (size : Int) = ((k / size : Nat) : Int) := by rw [Int.tdiv_eq_ediv_of_nonneg (Int.natCast_nonneg _)]; rfl
      have e2 : (k : Int).tmod (size : Int) = ((k % size : Nat) : Int) := by rw [Int.tmod_eq_emod_of_nonneg (Int.natCast_nonneg _)]; rfl
      have e4 : (k : Int) / (size : Int) = ((k / size : Nat) : Int) := rfl
      have e5 : (k : Int) % (size : Int) = ((k % size : Nat) : Int) := rfl
      generalize k / size = q at *
      generalize k % size = r at *
      have hm : ∀ (t : TypeId) (w : World), (binOp .add t (.complex .f64 (fb X) (fb Y)) (.complex .f64 (fb r) (fb q))).run Try.prog w = .ok (.complex .f64 (fb (X + r)) (fb (Y + q))) w := by
        intro t w
        refine run_complex_sum w .add (.inl rfl) t .f64 _ _ _ _ _ _ ?_
        unfold cSumBits
        rw [fb_add X hX _ (by omega), fb_add Y hY _ (by omega)]
        rfl
      have e3 : IntKind.i64.wrap (q : Int) = (q : Int) := IntWalk.i64_in _ (by omega)
      have HE := Aside0.mk (And.intro e1 (And.intro e2 (And.intro e3 (And.intro e4 e5))))
      have HSS := Aside0.mk HS
      clear e1 e2 e3 e4 e5 HS
      go_wp2_with fail
      obtain ⟨e1, e2, e3, e4, e5⟩ := HE.out
      go_region_held3 (fun w' => Sok w') (exact ⟨⟩) (first | (go_at_call 107; refine (place_calls q r _).mono ?_; rintro e w' ⟨rfl, rfl⟩) | (go_at_call 105; refine (HSS.out _ ?_).mono ?_; (exact HI.out k wr 1 HK.out); rintro e w' ⟨rfl, hI2⟩; have HK2 := Aside0.mk hI2; clear hI2))
      clear e1 e2 e3 e4 e5
      go_wp2_with fail
      go_roundw
      case rel => exact ⟨k + 1, by go_num, by omega, HK2⟩
      case measure => simp [intOf]; omega
    · have HKN := Aside0.mk (show k = n2 by omega)
      go_wp2_with fail
      go_end0
      exact ⟨rfl, HKN.out ▸ HK.out⟩
set_option maxHeartbeats 1000000 in
theorem window3 (X Y size : Nat) (p0 p1 p2 : Option Addr) (w : World) (I : Nat → World → Prop) (hX : X < 133) (hY : Y < 133) (hs : 1 ≤ size ∧ size ≤ 12) (h0 : I 0 w)
    (hI : ∀ k w n, I k w → I k (w.drewN n))
    (hstep : ∀ k, k < size * size → ∀ w', I k w' → Calls Try.prog 90 #[.int .i64 (k : Int), .complex .f64 (fb (X + k % size)) (fb (Y + k / size)), .pointer p0, .pointer p1, .pointer p2] w' fun e w'' => e = .returned (.tuple #[]) ∧ I (k + 1) w'') :
    Calls Try.prog 88 #[.complex .f64 (fb X) (fb Y), .int .i64 (size : Int), .func (.func 90) #[] #[.pointer p0, .pointer p1, .pointer p2]] w fun e w' => e = .returned (.tuple #[]) ∧ I (size * size) w' := by
  obtain ⟨n2, hn⟩ : ∃ n2, n2 = size * size := ⟨_, rfl⟩
  have hn2 : n2 ≤ 144 := by have := Nat.mul_le_mul hs.2 hs.2; omega
  have hi : (size : Int) * (size : Int) = (n2 : Int) := by rw [hn]; simp
  rw [← hn] at hstep ⊢
  have HST := Aside0.mk hstep
  have HN := Aside0.mk hn
  have H0 := Aside0.mk h0
  have HI := Aside0.mk hI
  have hw : wrap64 ((size : Int) * (size : Int)) = (n2 : Int) := by rw [hi]; unfold wrap64; omega
  have HW := Aside0.mk hw
  clear hw
  obtain ⟨hs1, hs2⟩ := hs
  have hz : ¬ (size : Int) = 0 := by omega
  have hz2 : ¬ size = 0 := by omega
  clear hstep h0 hi hn hI
  go_enter Try.func88, Try.ntmps88
  go_wp2_with fail
  rw [HW.out]
  go_loopw [6, 10] (fun _ v10 wr => ∃ k : Nat, v10 = .int .i64 k ∧ k ≤ n2 ∧ Aside0 (I k wr)) (fun _ v10 _ => n2 - (intOf v10).toNat)
  case atStart => exact ⟨0, rfl, Nat.zero_le _, H0⟩
  case round =>
    obtain ⟨k, rfl, hk, HK⟩ := hrel
    by_cases hlt : k < n2
    · have hq : k / size ≤ 12 := by
        have := Nat.div_lt_of_lt_mul (show k < size * size by rw [← HN.out]; exact hlt)
        omega
      have hr : k % size < size := Nat.mod_lt _ (by omega)
      have HS := HST.out k hlt
      have e1 : (k : Int).tdiv (size : Int) = ((k / size : Nat) : Int) := by rw [Int.tdiv_eq_ediv_of_nonneg (Int.natCast_nonneg _)]; rfl
      have e2 : (k : Int).tmod (size : Int) = ((k % size : Nat) : Int) := by rw [Int.tmod_eq_emod_of_nonneg (Int.natCast_nonneg _)]; rfl
      have e4 : (k : Int) / (size : Int) = ((k / size : Nat) : Int) := rfl
      have e5 : (k : Int) % (size : Int) = ((k % size : Nat) : Int) := rfl
      generalize k / size = q at *
      generalize k % size = r at *
      have hm : ∀ (t : TypeId) (w : World), (binOp .add t (.complex .f64 (fb X) (fb Y)) (.complex .f64 (fb r) (fb q))).run Try.prog w = .ok (.complex .f64 (fb (X + r)) (fb (Y + q))) w := by
        intro t w
        refine run_complex_sum w .add (.inl rfl) t .f64 _ _ _ _ _ _ ?_
        unfold cSumBits
        rw [fb_add X hX _ (by omega), fb_add Y hY _ (by omega)]
        rfl
      have e3 : IntKind.i64.wrap (q : Int) = (q : Int) := IntWalk.i64_in _ (by omega)
      have HE := Aside0.mk (And.intro e1 (And.intro e2 (And.intro e3 (And.intro e4 e5))))
      have HSS := Aside0.mk HS
      clear e1 e2 e3 e4 e5 HS
      go_wp2_with fail
      obtain ⟨e1, e2, e3, e4, e5⟩ := HE.out
      go_region_held3 (fun w' => Sok w') (exact ⟨⟩) (first | (go_at_call 107; refine (place_calls q r _).mono ?_; rintro e w' ⟨rfl, rfl⟩) | (go_at_call 90; refine (HSS.out _ ?_).mono ?_; (exact HI.out k wr 1 HK.out); rintro e w' ⟨rfl, hI2⟩; have HK2 := Aside0.mk hI2; clear hI2))
      clear e1 e2 e3 e4 e5
      go_wp2_with fail
      go_roundw
      case rel => exact ⟨k + 1, by go_num, by omega, HK2⟩
      case measure => simp [intOf]; omega
    · have HKN := Aside0.mk (show k = n2 by omega)
      go_wp2_with fail
      go_end0
      exact ⟨rfl, HKN.out ▸ HK.out⟩
end Go.Proofs.Ytnfcadjckoebkaa.P
end
