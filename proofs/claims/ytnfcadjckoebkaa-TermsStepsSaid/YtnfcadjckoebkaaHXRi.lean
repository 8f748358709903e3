import Derived.Test.YtnfcadjckoebkaaHXRh
import Derived.Test.YtnfcadjckoebkaaHXPe
import Derived.Test.YtnfcadjckoebkaaHXKw
section
namespace Go.Proofs.Ytnfcadjckoebkaa.P
open Go.RowKit Go.Proofs.YtnfcadjckoebkaaW.PrintWords Go.Proofs.YtnfcadjckoebkaaW.PrintLast Go.Proofs.YtnfcadjckoebkaaW.PrintMore
set_option linter.unusedSimpArgs false
set_option linter.unusedVariables false
theorem layer_kind'' {x : S40} (hl : Sy.layerB x = true) : x.f0 = 1 ∨ x.f0 = 2 ∨ x.f0 = 3 ∨ x.f0 = 4 := by
  unfold Sy.layerB at hl
  by_cases h1 : x.f0 = 1
  · exact .inl h1
  · by_cases h2 : x.f0 = 2
    · exact .inr (.inl h2)
    · by_cases h3 : x.f0 = 3
      · exact .inr (.inr (.inl h3))
      · by_cases h4 : x.f0 = 4
        · exact .inr (.inr (.inr h4))
        · rw [if_neg h1, if_neg h2, if_neg h3, if_neg h4] at hl; cases hl
theorem two_boxes (w : World) (a b : Obj) : Aside0 (Below w.heap.size w ((w.alloc a).alloc b) ∧ ((w.alloc a).alloc b).heap[w.heap.size]? = some a ∧ ((w.alloc a).alloc b).heap[w.heap.size + 1]? = some b) :=
  ⟨below_alloc (keep_alloc w _) _, blk_alloc (blk_new w _) _, blk_new1 w _ _⟩
set_option maxHeartbeats 1000000 in
theorem rwts_dense (s : S23) (o z p : Int) (w : World) (ho : 0 ≤ o ∧ o ≤ 999999) (hs : Sy.rightB s = true) :
    Calls Try.prog 78 #[.agg #[.int .i64 s.f0, .int .i64 s.f1, .int .i64 s.f2], .agg #[.int .i64 4, .int .i64 o, .int .i64 z, .int .i64 p]] w fun e w' => e = .returned (.int .i64 (o * Sy.sizeI s)) ∧ Below w.heap.size w w' := by
  have I0 := two_boxes w (.cells #[.int .i64 s.f0, .int .i64 s.f1, .int .i64 s.f2] 23) (.cells #[.int .i64 4, .int .i64 o, .int .i64 z, .int .i64 p] 40)
  have m1 := mulB (a := o) (b := Sy.sizeI s) ho (size_bd hs)
  obtain ⟨q, hq⟩ : ∃ q, q = Sy.sizeI s := ⟨_, rfl⟩
  rw [← hq] at m1 ⊢
  have hw : IntKind.i64.wrap (o * q) = o * q := IntWalk.i64_in _ (by omega)
  have HW := Aside0.mk hw
  have HQ := Aside0.mk hq
  clear hq hs m1 ho hw
  go_enter Try.func78, Try.ntmps78
  go_upto_region 1 with fail
  generalize (w.alloc (.cells #[.int .i64 s.f0, .int .i64 s.f1, .int .i64 s.f2] 23)).alloc (.cells #[.int .i64 4, .int .i64 o, .int .i64 z, .int .i64 p] 40) = W at *
  obtain ⟨s0, s1, s2⟩ := box3 I0.out.2.1
  obtain ⟨x0, x1, x2, x3⟩ := box4 I0.out.2.2
  go_wp2_with fail
  have hw := HW.out
  go_region_held3 (fun w' => w'.cell? ⟨w.heap.size + 1, 1, none⟩ = some (.int .i64 o) ∧ w'.cell? ⟨w.heap.size, 0, none⟩ = some (.int .i64 s.f0) ∧ w'.cell? ⟨w.heap.size, 1, none⟩ = some (.int .i64 s.f1) ∧ w'.cell? ⟨w.heap.size, 2, none⟩ = some (.int .i64 s.f2)) (go_keep) (first | (go_at_call 41; refine (rsz_calls s _).mono ?_; rintro e w' ⟨rfl, hb⟩; rw [← HQ.out]; have I1 := carry (below_step (below_drew (Below.refl _ _)) hb) I0; obtain ⟨t0, t1, t2⟩ := box3 I1.out.2.1; obtain ⟨u0, u1, u2, u3⟩ := box4 I1.out.2.2))
  clear hw
  go_wp2_with fail
  go_ret
  exact ⟨rfl, I1.out.1⟩
theorem rwts_conv (s : S23) (o z p : Int) (w : World) (ho : 0 ≤ o ∧ o ≤ 999999) (hz : 0 ≤ z ∧ z ≤ 999999) (hs : Sy.rightB s = true) :
    Calls Try.prog 78 #[.agg #[.int .i64 s.f0, .int .i64 s.f1, .int .i64 s.f2], .agg #[.int .i64 1, .int .i64 o, .int .i64 z, .int .i64 p]] w fun e w' => e = .returned (.int .i64 (o * s.f0 * z * z)) ∧ Below w.heap.size w w' := by
  have I0 := two_boxes w (.cells #[.int .i64 s.f0, .int .i64 s.f1, .int .i64 s.f2] 23) (.cells #[.int .i64 1, .int .i64 o, .int .i64 z, .int .i64 p] 40)
  obtain ⟨⟨r1, r2⟩, -, -, -⟩ := right_bd hs
  have m1 := mulB (a := o) (b := s.f0) (B := 8) ho (by omega)
  have m2 := mulB (b := z) m1 hz
  have m3 := mulB (b := z) m2 hz
  have e : wrap64 (wrap64 (wrap64 (o * s.f0) * z) * z) = o * s.f0 * z * z := by
    rw [wrapB m1 (by decide), wrapB m2 (by decide)]; unfold wrap64; omega
  have HE := Aside0.mk e
  clear e m1 m2 m3 hs ho hz r1 r2
  go_enter Try.func78, Try.ntmps78
  go_upto_region 1 with fail
  generalize (w.alloc (.cells #[.int .i64 s.f0, .int .i64 s.f1, .int .i64 s.f2] 23)).alloc (.cells #[.int .i64 1, .int .i64 o, .int .i64 z, .int .i64 p] 40) = W at *
  obtain ⟨s0, s1, s2⟩ := box3 I0.out.2.1
  obtain ⟨x0, x1, x2, x3⟩ := box4 I0.out.2.2
  go_wp2_with fail
  go_ret
  exact ⟨ret_i64 HE.out, I0.out.1⟩
theorem rwts_none (s : S23) (k o z p : Int) (w : World) (h1 : ¬ k = 1) (h4 : ¬ k = 4) :
    Calls Try.prog 78 #[.agg #[.int .i64 s.f0, .int .i64 s.f1, .int .i64 s.f2], .agg #[.int .i64 k, .int .i64 o, .int .i64 z, .int .i64 p]] w fun e w' => e = .returned (.int .i64 0) ∧ Below w.heap.size w w' := by
  have I0 := two_boxes w (.cells #[.int .i64 s.f0, .int .i64 s.f1, .int .i64 s.f2] 23) (.cells #[.int .i64 k, .int .i64 o, .int .i64 z, .int .i64 p] 40)
  have g1 : (k == 1) = false := by simp [h1]
  have g4 : (k == 4) = false := by simp [h4]
  clear h1 h4
  go_enter Try.func78, Try.ntmps78
  go_upto_region 1 with fail
  generalize (w.alloc (.cells #[.int .i64 s.f0, .int .i64 s.f1, .int .i64 s.f2] 23)).alloc (.cells #[.int .i64 k, .int .i64 o, .int .i64 z, .int .i64 p] 40) = W at *
  obtain ⟨x0, x1, x2, x3⟩ := box4 I0.out.2.2
  go_wp2_with fail
  go_ret
  exact ⟨rfl, I0.out.1⟩
theorem rwts_calls (s : S23) (x : S40) (w : World) (hr : Sy.rightB s = true) (hl : Sy.layerB x = true) :
    Calls Try.prog 78 #[.agg #[.int .i64 s.f0, .int .i64 s.f1, .int .i64 s.f2], .agg #[.int .i64 x.f0, .int .i64 x.f1, .int .i64 x.f2, .int .i64 x.f3]] w fun e w' => e = .returned (.int .i64 (Sy.wts s x)) ∧ Below w.heap.size w w' := by
  obtain ⟨k, o, z, p⟩ := x
  unfold Sy.wts
  unfold Sy.layerB Sy.numB at hl
  by_cases k1 : k = 1
  · subst k1
    rw [if_pos rfl] at hl ⊢
    simp only [Bool.and_eq_true, decide_eq_true_eq] at hl
    exact rwts_conv s o z p w hl.1 hl.2.1 hr
  · rw [if_neg k1] at hl ⊢
    by_cases k2 : k = 2
    · subst k2
      rw [if_pos rfl]
      exact rwts_none s 2 o z p w (by decide) (by decide)
    · rw [if_neg k2] at hl ⊢
      by_cases k3 : k = 3
      · subst k3
        rw [if_pos rfl]
        exact rwts_none s 3 o z p w (by decide) (by decide)
      · rw [if_neg k3] at hl ⊢
        by_cases k4 : k = 4
        · subst k4
          rw [if_pos rfl] at hl
          simp only [Bool.and_eq_true, decide_eq_true_eq] at hl
          exact rwts_dense s o z p w hl.1 hr
        · rw [if_neg k4] at hl; cases hl
theorem three_boxes (w : World) (a b c : Obj) : Aside0 (Below w.heap.size w (((w.alloc a).alloc b).alloc c) ∧ (((w.alloc a).alloc b).alloc c).heap[w.heap.size]? = some a ∧ (((w.alloc a).alloc b).alloc c).heap[w.heap.size + 1]? = some b ∧ (((w.alloc a).alloc b).alloc c).heap[w.heap.size + 1 + 1]? = some c) :=
  ⟨below_alloc (below_alloc (keep_alloc w _) _) _, blk_alloc (blk_alloc (blk_new w _) _) _, blk_alloc (blk_new1 w _ _) _, blk_new2 w _ _ _⟩
set_option maxHeartbeats 1000000 in
theorem rprod_conv (s t : S23) (o z p : Int) (w : World) (hr : Sy.rightB s = true) (hl : Sy.layerB ⟨1, o, z, p⟩ = true) (q : Int) (hq : Sy.wts s ⟨1, o, z, p⟩ = q) (r : Int) (hp : wrap64 (wrap64 (q * t.f1) * t.f2) = r) :
    Calls Try.prog 79 #[.agg #[.int .i64 s.f0, .int .i64 s.f1, .int .i64 s.f2], .agg #[.int .i64 t.f0, .int .i64 t.f1, .int .i64 t.f2], .agg #[.int .i64 1, .int .i64 o, .int .i64 z, .int .i64 p]] w fun e w' => e = .returned (.int .i64 r) ∧ Below w.heap.size w w' := by
  have I0 := three_boxes w (.cells #[.int .i64 s.f0, .int .i64 s.f1, .int .i64 s.f2] 23) (.cells #[.int .i64 t.f0, .int .i64 t.f1, .int .i64 t.f2] 23) (.cells #[.int .i64 1, .int .i64 o, .int .i64 z, .int .i64 p] 40)
  have HC := Aside0.mk (fun w => rwts_calls s ⟨1, o, z, p⟩ w hr hl)
  have HP := Aside0.mk hp
  rw [hq] at HC
  clear hq hr hl hp
  go_enter Try.func79, Try.ntmps79
  go_upto_region 1 with fail
  generalize ((w.alloc (.cells #[.int .i64 s.f0, .int .i64 s.f1, .int .i64 s.f2] 23)).alloc (.cells #[.int .i64 t.f0, .int .i64 t.f1, .int .i64 t.f2] 23)).alloc (.cells #[.int .i64 1, .int .i64 o, .int .i64 z, .int .i64 p] 40) = W at *
  obtain ⟨s0, s1, s2⟩ := box3 I0.out.2.1
  obtain ⟨y0, y1, y2⟩ := box3 I0.out.2.2.1
  obtain ⟨x0, x1, x2, x3⟩ := box4 I0.out.2.2.2
  go_wp2_with fail
  go_region_held3 (fun w' => (w'.cell? ⟨w.heap.size, 0, none⟩ = some (.int .i64 s.f0) ∧ w'.cell? ⟨w.heap.size, 1, none⟩ = some (.int .i64 s.f1) ∧ w'.cell? ⟨w.heap.size, 2, none⟩ = some (.int .i64 s.f2)) ∧ (w'.cell? ⟨w.heap.size + 1, 1, none⟩ = some (.int .i64 t.f1) ∧ w'.cell? ⟨w.heap.size + 1, 2, none⟩ = some (.int .i64 t.f2)) ∧ (w'.cell? ⟨w.heap.size + 1 + 1, 0, none⟩ = some (.int .i64 1) ∧ w'.cell? ⟨w.heap.size + 1 + 1, 1, none⟩ = some (.int .i64 o) ∧ w'.cell? ⟨w.heap.size + 1 + 1, 2, none⟩ = some (.int .i64 z) ∧ w'.cell? ⟨w.heap.size + 1 + 1, 3, none⟩ = some (.int .i64 p))) (go_keep) (first | (go_at_call 78; refine (HC.out _).mono ?_; rintro e w' ⟨rfl, hb⟩; have I1 := carry (below_step (below_drew (Below.refl _ _)) hb) I0; obtain ⟨t0, t1, t2⟩ := box3 I1.out.2.1; obtain ⟨v0, v1, v2⟩ := box3 I1.out.2.2.1; obtain ⟨u0, u1, u2, u3⟩ := box4 I1.out.2.2.2))
  simp only [i64_w]
  go_wp2_with fail
  go_ret
  exact ⟨ret_i64 HP.out, I1.out.1⟩
theorem rprod_dense (s t : S23) (o z p : Int) (w : World) (hr : Sy.rightB s = true) (hl : Sy.layerB ⟨4, o, z, p⟩ = true) (q : Int) (hq : Sy.wts s ⟨4, o, z, p⟩ = q) :
    Calls Try.prog 79 #[.agg #[.int .i64 s.f0, .int .i64 s.f1, .int .i64 s.f2], .agg #[.int .i64 t.f0, .int .i64 t.f1, .int .i64 t.f2], .agg #[.int .i64 4, .int .i64 o, .int .i64 z, .int .i64 p]] w fun e w' => e = .returned (.int .i64 q) ∧ Below w.heap.size w w' := by
  have I0 := three_boxes w (.cells #[.int .i64 s.f0, .int .i64 s.f1, .int .i64 s.f2] 23) (.cells #[.int .i64 t.f0, .int .i64 t.f1, .int .i64 t.f2] 23) (.cells #[.int .i64 4, .int .i64 o, .int .i64 z, .int .i64 p] 40)
  have HC := Aside0.mk (fun w => rwts_calls s ⟨4, o, z, p⟩ w hr hl)
  rw [hq] at HC
  clear hq hr hl
  go_enter Try.func79, Try.ntmps79
  go_upto_region 1 with fail
  generalize ((w.alloc (.cells #[.int .i64 s.f0, .int .i64 s.f1, .int .i64 s.f2] 23)).alloc (.cells #[.int .i64 t.f0, .int .i64 t.f1, .int .i64 t.f2] 23)).alloc (.cells #[.int .i64 4, .int .i64 o, .int .i64 z, .int .i64 p] 40) = W at *
  obtain ⟨s0, s1, s2⟩ := box3 I0.out.2.1
  obtain ⟨y0, y1, y2⟩ := box3 I0.out.2.2.1
  obtain ⟨x0, x1, x2, x3⟩ := box4 I0.out.2.2.2
  go_wp2_with fail
  refine (HC.out _).mono ?_
  rintro e w' ⟨rfl, hb⟩
  have I1 := carry hb I0
  go_wp2_with fail
  go_ret
  exact ⟨rfl, I1.out.1⟩
theorem rprod_square (s t : S23) (o z p : Int) (w : World) :
    Calls Try.prog 79 #[.agg #[.int .i64 s.f0, .int .i64 s.f1, .int .i64 s.f2], .agg #[.int .i64 t.f0, .int .i64 t.f1, .int .i64 t.f2], .agg #[.int .i64 2, .int .i64 o, .int .i64 z, .int .i64 p]] w fun e w' => e = .returned (.int .i64 (Sy.sizeI s)) ∧ Below w.heap.size w w' := by
  have I0 := three_boxes w (.cells #[.int .i64 s.f0, .int .i64 s.f1, .int .i64 s.f2] 23) (.cells #[.int .i64 t.f0, .int .i64 t.f1, .int .i64 t.f2] 23) (.cells #[.int .i64 2, .int .i64 o, .int .i64 z, .int .i64 p] 40)
  go_enter Try.func79, Try.ntmps79
  go_upto_region 1 with fail
  generalize ((w.alloc (.cells #[.int .i64 s.f0, .int .i64 s.f1, .int .i64 s.f2] 23)).alloc (.cells #[.int .i64 t.f0, .int .i64 t.f1, .int .i64 t.f2] 23)).alloc (.cells #[.int .i64 2, .int .i64 o, .int .i64 z, .int .i64 p] 40) = W at *
  obtain ⟨s0, s1, s2⟩ := box3 I0.out.2.1
  obtain ⟨y0, y1, y2⟩ := box3 I0.out.2.2.1
  obtain ⟨x0, x1, x2, x3⟩ := box4 I0.out.2.2.2
  go_wp2_with fail
  refine (rsz_calls s _).mono ?_
  rintro e w' ⟨rfl, hb⟩
  have I1 := carry hb I0
  go_wp2_with fail
  go_ret
  exact ⟨rfl, I1.out.1⟩
theorem rprod_pool (s t : S23) (o z p : Int) (w : World) :
    Calls Try.prog 79 #[.agg #[.int .i64 s.f0, .int .i64 s.f1, .int .i64 s.f2], .agg #[.int .i64 t.f0, .int .i64 t.f1, .int .i64 t.f2], .agg #[.int .i64 3, .int .i64 o, .int .i64 z, .int .i64 p]] w fun e w' => e = .returned (.int .i64 0) ∧ Below w.heap.size w w' := by
  have I0 := three_boxes w (.cells #[.int .i64 s.f0, .int .i64 s.f1, .int .i64 s.f2] 23) (.cells #[.int .i64 t.f0, .int .i64 t.f1, .int .i64 t.f2] 23) (.cells #[.int .i64 3, .int .i64 o, .int .i64 z, .int .i64 p] 40)
  go_enter Try.func79, Try.ntmps79
  go_upto_region 1 with fail
  generalize ((w.alloc (.cells #[.int .i64 s.f0, .int .i64 s.f1, .int .i64 s.f2] 23)).alloc (.cells #[.int .i64 t.f0, .int .i64 t.f1, .int .i64 t.f2] 23)).alloc (.cells #[.int .i64 3, .int .i64 o, .int .i64 z, .int .i64 p] 40) = W at *
  obtain ⟨s0, s1, s2⟩ := box3 I0.out.2.1
  obtain ⟨y0, y1, y2⟩ := box3 I0.out.2.2.1
  obtain ⟨x0, x1, x2, x3⟩ := box4 I0.out.2.2.2
  go_wp2_with fail
  go_ret
  exact ⟨rfl, I0.out.1⟩
theorem rprod_calls (s t : S23) (x : S40) (w : World) (hr : Sy.rightB s = true) (hl : Sy.layerB x = true) (hq : Sy.outO s x = some t) :
    Calls Try.prog 79 #[.agg #[.int .i64 s.f0, .int .i64 s.f1, .int .i64 s.f2], .agg #[.int .i64 t.f0, .int .i64 t.f1, .int .i64 t.f2], .agg #[.int .i64 x.f0, .int .i64 x.f1, .int .i64 x.f2, .int .i64 x.f3]] w fun e w' => e = .returned (.int .i64 (Sy.prods s t x)) ∧ Below w.heap.size w w' := by
  obtain ⟨k, o, z, p⟩ := x
  unfold Sy.prods
  dsimp only
  rcases layer_kind'' hl with e | e | e | e
  · have e : k = 1 := e
    subst e
    rw [if_pos rfl]
    have hc : Sy.convO s o z p = some t := by unfold Sy.outO at hq; rw [if_pos rfl] at hq; exact hq
    have hw := (conv_w (l := ⟨1, o, z, p⟩) hr hc).2
    exact rprod_conv s t o z p w hr hl _ rfl _ (by rw [show Sy.wts s ⟨1, o, z, p⟩ = o * s.f0 * z * z from rfl]; exact hw)
  · have e : k = 2 := e
    subst e
    rw [if_neg (by decide), if_pos rfl]
    exact rprod_square s t o z p w
  · have e : k = 3 := e
    subst e
    rw [if_neg (by decide), if_neg (by decide), if_pos rfl]
    exact rprod_pool s t o z p w
  · have e : k = 4 := e
    subst e
    rw [if_neg (by decide), if_neg (by decide), if_neg (by decide)]
    exact rprod_dense s t o z p w hr hl _ rfl
end Go.Proofs.Ytnfcadjckoebkaa.P
end
section
namespace Go.Proofs.Ytnfcadjckoebkaa.P
open Go.RowKit Go.Proofs.YtnfcadjckoebkaaW.PrintWords Go.Proofs.YtnfcadjckoebkaaW.PrintLast Go.Proofs.YtnfcadjckoebkaaW.PrintMore
set_option linter.unusedSimpArgs false
set_option linter.unusedVariables false
theorem sForm (S : S23) (A : Option Addr) (c : Nat) (l : List S40) (w : World) (b : Bool) (h : Sy.formB S l = b) (hr : Kd.C k40 w A l.length l) (hc : l.length ≤ c) :
    Calls Try.prog 42 #[.agg #[.int .i64 S.f0, .int .i64 S.f1, .int .i64 S.f2, .slice A l.length c]] w fun e w' => e = .returned (.bool b) ∧ Below w.heap.size w w' :=
  symbolonref04_Form.calls 40 _ _ _ A c l b w hr hc (by rw [rform_f _ _ _ (by omega), h])
theorem shR_form {S : S23} {l : List S40} (hf : Sy.formB S l = false) : Sy.shapesR S l = ([], 12) := by unfold Sy.shapesR Sy.allR; rw [hf]; rfl
theorem shR_right {S : S23} {l : List S40} (hf : Sy.formB S l = true) (hs : Sy.rightB S = false) : Sy.shapesR S l = ([], 1) := by unfold Sy.shapesR Sy.allR; rw [hf, hs]; rfl
theorem shR_stop {S : S23} {l : List S40} (hf : Sy.formB S l = true) (hs : Sy.rightB S = true) (h : Sy.stepsO S l = none) : Sy.shapesR S l = ([], 21) := by unfold Sy.shapesR Sy.allR; rw [hf, hs, h]; rfl
theorem shR_full {S : S23} {l : List S40} {st : List S94} (hf : Sy.formB S l = true) (hs : Sy.rightB S = true) (h : Sy.stepsO S l = some st) (hn : ¬ (Sy.sumW st ≤ 512 ∧ Sy.sumP st ≤ 512)) : Sy.shapesR S l = ([], 5) := by
  have e : Sy.allR S l = ([], 5) := by unfold Sy.allR; rw [if_pos hf, if_pos hs, h]; show (if Sy.sumW st ≤ 512 ∧ Sy.sumP st ≤ 512 then (st, (0 : Int)) else ([], 5)) = _; rw [if_neg hn]
  unfold Sy.shapesR; rw [e]; rfl
theorem shR_ok {S : S23} {l : List S40} {st : List S94} (hf : Sy.formB S l = true) (hs : Sy.rightB S = true) (h : Sy.stepsO S l = some st) (hn : Sy.sumW st ≤ 512 ∧ Sy.sumP st ≤ 512) : Sy.shapesR S l = (S :: st.map (·.f2), 0) := by
  have e : Sy.allR S l = (st, 0) := by unfold Sy.allR; rw [if_pos hf, if_pos hs, h]; show (if Sy.sumW st ≤ 512 ∧ Sy.sumP st ≤ 512 then (st, (0 : Int)) else ([], 5)) = _; rw [if_pos hn]
  unfold Sy.shapesR; rw [e]; rfl
def ShPost (w : World) (r : List S23) (z : Int) (e : Ending) (w' : World) : Prop := ∃ v : Value, e = .returned (.tuple #[v, .int .i64 z]) ∧ Kd.R k23 23 w' w.heap.size (fun _ => True) v r ∧ Below w.heap.size w w'
theorem ShPost.nil {w w' : World} {z : Int} (hb : Below w.heap.size w w') : ShPost w [] z (.returned (.tuple #[.slice none 0 0, .int .i64 z])) w' := ⟨_, rfl, Kd.R_nil _ _ _ _ _, hb⟩
theorem shapeV_none_inj {a b c : Int} {t : Bool} (h : shapeV none = .tuple #[.agg #[.int .i64 a, .int .i64 b, .int .i64 c], .bool t]) : t = false := by simp [shapeV] at h; exact h.2
theorem shapeV_some_inj {s : S23} {a b c : Int} {t : Bool} (h : shapeV (some s) = .tuple #[.agg #[.int .i64 a, .int .i64 b, .int .i64 c], .bool t]) : t = true ∧ a = s.f0 ∧ b = s.f1 ∧ c = s.f2 := by simp [shapeV] at h; exact ⟨h.2, h.1.1.symm, h.1.2.1.symm, h.1.2.2.symm⟩
theorem rshapes_noform (S : S23) (A : Option Addr) (c : Nat) (l : List S40) (w : World) (hr : Kd.C k40 w A l.length l) (hc : l.length ≤ c) (hf : Sy.formB S l = false) :
    Calls Try.prog 28 #[.agg #[.int .i64 S.f0, .int .i64 S.f1, .int .i64 S.f2, .slice A l.length c]] w (ShPost w [] 12) := by
  have I0 := Aside0.mk (And.intro (keep_alloc w (.cells #[.int .i64 S.f0, .int .i64 S.f1, .int .i64 S.f2, .slice A l.length c] 26)) (blk_new w (.cells #[.int .i64 S.f0, .int .i64 S.f1, .int .i64 S.f2, .slice A l.length c] 26)))
  have HR := Aside0.mk hr
  have HC := Aside0.mk hc
  have HF := Aside0.mk hf
  clear hr hc hf
  go_enter Try.func28, Try.ntmps28
  go_wp2_with fail
  generalize w.alloc (.cells #[.int .i64 S.f0, .int .i64 S.f1, .int .i64 S.f2, .slice A l.length c] 26) = W at *
  refine (sForm S A c l _ _ HF.out (Kd.C_below HR.out I0.out.1) HC.out).mono ?_
  rintro e w1 ⟨rfl, hb⟩
  have I1 := carry hb I0
  clear hb I0
  go_wp2_with fail
  go_ret2
  exact ShPost.nil I1.out.1
theorem rshapes_noright (S : S23) (A : Option Addr) (c : Nat) (l : List S40) (w : World) (hr : Kd.C k40 w A l.length l) (hc : l.length ≤ c) (hf : Sy.formB S l = true) (hs : Sy.rightB S = false) :
    Calls Try.prog 28 #[.agg #[.int .i64 S.f0, .int .i64 S.f1, .int .i64 S.f2, .slice A l.length c]] w (ShPost w [] 1) := by
  have I0 := Aside0.mk (And.intro (keep_alloc w (.cells #[.int .i64 S.f0, .int .i64 S.f1, .int .i64 S.f2, .slice A l.length c] 26)) (blk_new w (.cells #[.int .i64 S.f0, .int .i64 S.f1, .int .i64 S.f2, .slice A l.length c] 26)))
  have HR := Aside0.mk hr
  have HC := Aside0.mk hc
  have HF := Aside0.mk hf
  have HS := Aside0.mk hs
  clear hr hc hf hs
  go_enter Try.func28, Try.ntmps28
  go_wp2_with fail
  generalize w.alloc (.cells #[.int .i64 S.f0, .int .i64 S.f1, .int .i64 S.f2, .slice A l.length c] 26) = W at *
  refine (sForm S A c l _ _ HF.out (Kd.C_below HR.out I0.out.1) HC.out).mono ?_
  rintro e w1 ⟨rfl, hb⟩
  have I1 := carry hb I0
  clear hb I0
  obtain ⟨n0, n1, n2, n3⟩ := box4 I1.out.2
  go_wp2_with fail
  refine (rr_calls S _ HS.out _).mono ?_
  rintro e w2 ⟨rfl, hb⟩
  have I2 := carry hb I1
  clear hb I1 n0 n1 n2 n3
  go_wp2_with fail
  go_ret2
  exact ShPost.nil I2.out.1
set_option maxHeartbeats 4000000 in
theorem rshapes_loop (S : S23) (A : Option Addr) (c : Nat) (l : List S40) (w : World) (hr : Kd.C k40 w A l.length l) (hc : l.length ≤ c) (hf : Sy.formB S l = true) (hs : Sy.rightB S = true) (r : List S23) (z : Int) (h : Sy.shapesR S l = (r, z)) :
    Calls Try.prog 28 #[.agg #[.int .i64 S.f0, .int .i64 S.f1, .int .i64 S.f2, .slice A l.length c]] w (ShPost w r z) := by
  have I0 := Aside0.mk (And.intro (keep_alloc w (.cells #[.int .i64 S.f0, .int .i64 S.f1, .int .i64 S.f2, .slice A l.length c] 26)) (blk_new w (.cells #[.int .i64 S.f0, .int .i64 S.f1, .int .i64 S.f2, .slice A l.length c] 26)))
  have HR := Aside0.mk hr
  have HC := Aside0.mk hc
  have HF := Aside0.mk hf
  have HS := Aside0.mk hs
  have HZ := Aside0.mk h
  have h8 : l.length ≤ 8 := by simp only [Sy.formB, Bool.and_eq_true, decide_eq_true_eq] at hf; exact hf.1.1
  clear hr hc hf hs h
  go_enter Try.func28, Try.ntmps28
  go_wp2_with fail
  generalize w.alloc (.cells #[.int .i64 S.f0, .int .i64 S.f1, .int .i64 S.f2, .slice A l.length c] 26) = W at *
  refine (sForm S A c l _ _ HF.out (Kd.C_below HR.out I0.out.1) HC.out).mono ?_
  rintro e w1 ⟨rfl, hb⟩
  have I1 := carry hb I0
  clear hb I0
  obtain ⟨n0, n1, n2, n3⟩ := box4 I1.out.2
  go_wp2_with fail
  refine (rr_calls S _ HS.out _).mono ?_
  rintro e w2 ⟨rfl, hb⟩
  have I2 := carry hb I1
  clear hb I1 n0 n1 n2 n3
  obtain ⟨n0, n1, n2, n3⟩ := box4 I2.out.2
  go_wp2_with ((with_reducible refine gate_dst (N := 19) rfl ?_); refine Kd.R_lit k23 _ 23 ?hg (N := 19) ?hd (xs := [S]) (inner := [.int .i64 S.f0, .int .i64 S.f1, .int .i64 S.f2]) (ok := fun _ => True) (okp := fun _ => True) ?hr ?hp (fun _ hk => hk) trivial (Below.refl _ _) (Nat.le_refl _) (by simp) ?_; (case hd => rfl); (case hg => rfl); (case hr => first | (go_simp; done) | (go_simp; rfl)); (case hp => exact (Reps.c3 (show Kd.M k23 _ _ _ S [.int .i64 S.f0, .int .i64 S.f1, .int .i64 S.f2] from (k23_mkM _ _ _ S)) (Reps.none _ _))); intro v0 w3 ho hb hg_ hnew_; clear hg_ hnew_; have I3 := carry hb I2; have V3 := Aside0.mk (Kd.R_lower ho (below_size I2.out.1)); clear ho hb I2 n0 n1 n2 n3)
  go_loopw [4, 5, 6, 7] (fun v4 v5 v6 v7 wr => ∃ (k : Nat) (s : S23) (st : List S94) (sw sp : Int), v5 = .int .i64 sw ∧ v6 = .int .i64 sp ∧ v7 = .int .i64 k ∧ k ≤ l.length ∧ (0 ≤ sw ∧ sw ≤ 9216 * k) ∧ (0 ≤ sp ∧ sp ≤ 1327104 * k) ∧ Aside0 (sw = Sy.sumW st) ∧ Aside0 (sp = Sy.sumP st) ∧ Aside0 (Upto S l k s st) ∧ Aside0 (rd_T23 (S :: st.map (·.f2)) (k : Int) = s) ∧ Aside0 (Below w.heap.size w wr ∧ wr.heap[w.heap.size]? = some (.cells #[.int .i64 S.f0, .int .i64 S.f1, .int .i64 S.f2, .slice A l.length c] 26 (0, 0))) ∧ Aside0 (Kd.R k23 23 wr w.heap.size (fun _ => True) v4 (S :: st.map (·.f2)))) (fun _ _ _ v7 _ => l.length - (intOf v7).toNat)
  case atStart =>
    exact ⟨0, S, [], 0, 0, rfl, rfl, rfl, Nat.zero_le _, ⟨by omega, by omega⟩, ⟨by omega, by omega⟩, ⟨rfl⟩, ⟨rfl⟩, ⟨⟨HS.out, rfl, by simp, by simp [Sy.sumW], by simp [Sy.sumP]⟩⟩, ⟨rfl⟩, I3, V3⟩
  case round =>
    obtain ⟨k, s, st, sw, sp, rfl, rfl, rfl, hk, ⟨b1, b2⟩, ⟨b3, b4⟩, HW, HP, HU, HA, HI, HV⟩ := hrel
    obtain ⟨n0, n1, n2, n3⟩ := box4 HI.out.2
    by_cases hlt : k < l.length
    · obtain ⟨A1, c1, e⟩ := Kd.R_slice HV.out
      subst e
      obtain ⟨ad, e, q0, q1, q2, q3⟩ := at_T40 HR.out (k : Int) (by omega) (by omega)
      cases e
      have hsz : (S :: st.map (·.f2)).length = k + 1 := by simp [HU.out.len]
      obtain ⟨ad1, e, p0, p1, p2⟩ := at_T23 (Kd.R_reads' HV.out).2.2 (k : Int) (by omega) (by omega)
      cases e
      replace q0 := pw_cell_below HI.out.1 q0
      replace q1 := pw_cell_below HI.out.1 q1
      replace q2 := pw_cell_below HI.out.1 q2
      replace q3 := pw_cell_below HI.out.1 q3
      rw [HA.out] at p0 p1 p2
      simp only [Int.toNat_natCast] at q0 q1 q2 q3 p0 p1 p2
      have hlay := form_layer _ l HF.out k hlt
      obtain ⟨x, hx⟩ : ∃ x, x = rd_T40 l (k : Int) := ⟨_, rfl⟩
      rw [← hx] at q0 q1 q2 q3 hlay
      have HX := Aside0.mk hx
      have HL := Aside0.mk hlay
      have HZL := Aside0.mk hsz
      clear hx hlay
      have hk0 : (0 : Int) ≤ (k : Int) := Int.natCast_nonneg _
      have hk1 : (k : Int) < (l.length : Int) := by omega
      have hk2 : (k : Int) < ((S :: st.map (·.f2)).length : Int) := by omega
      obtain ⟨n, hn⟩ : ∃ n, n = (S :: st.map (·.f2)).length := ⟨_, rfl⟩
      rw [← hn] at hk2
      have HN := Aside0.mk hn
      clear hsz
      have J0 := Aside0.mk (And.intro HI.out (And.intro (And.intro p0 (And.intro p1 p2)) (And.intro (And.intro q0 (And.intro q1 (And.intro q2 q3))) HV.out)))
      obtain ⟨ta, tb, tc, td, hV⟩ := shapeV_form (Sy.outO s x)
      have HVV := Aside0.mk hV
      clear hV
      rw [← hn] at J0 HV
      clear HV HI hn
      go_wp2_with fail
      rw [← HN.out]
      have e3 := World.new_ne wr _ n3
      have e4 := World.new_ne wr _ p0
      have e5 := World.new_ne wr _ p1
      have e6 := World.new_ne wr _ p2
      have e7 := World.new_ne wr _ q0
      have e8 := World.new_ne wr _ q1
      have e9 := World.new_ne wr _ q2
      have e10 := World.new_ne wr _ q3
      go_cut [8, 9] (fun s8 s9 wc => ∃ g : Nat, s8 = .pointer (some ⟨g, 0, none⟩) ∧ s9 = .bool td ∧ Aside0 (((Below w.heap.size w wc ∧ wc.heap[w.heap.size]? = some (.cells #[.int .i64 S.f0, .int .i64 S.f1, .int .i64 S.f2, .slice (some ad) l.length c] 26 (0, 0))) ∧ (wc.cell? (ad1.add (k * 3)) = some (.int .i64 s.f0) ∧ wc.cell? ⟨(ad1.add (k * 3)).block, (ad1.add (k * 3)).off + 1, none⟩ = some (.int .i64 s.f1) ∧ wc.cell? ⟨(ad1.add (k * 3)).block, (ad1.add (k * 3)).off + 2, none⟩ = some (.int .i64 s.f2)) ∧ (wc.cell? (ad.add (k * 4)) = some (.int .i64 x.f0) ∧ wc.cell? ⟨(ad.add (k * 4)).block, (ad.add (k * 4)).off + 1, none⟩ = some (.int .i64 x.f1) ∧ wc.cell? ⟨(ad.add (k * 4)).block, (ad.add (k * 4)).off + 2, none⟩ = some (.int .i64 x.f2) ∧ wc.cell? ⟨(ad.add (k * 4)).block, (ad.add (k * 4)).off + 3, none⟩ = some (.int .i64 x.f3)) ∧ Kd.R k23 23 wc w.heap.size (fun _ => True) (.slice (some ad1) n c1) (S :: st.map (·.f2)))) ∧ Aside0 (wc.heap[g]? = some (.cells #[.int .i64 ta, .int .i64 tb, .int .i64 tc] 23 (0, 0))))
      case first =>
        go_region_held3 (fun w' => w'.cell? ⟨w.heap.size, 3, none⟩ = some (.slice (some ad) l.length c) ∧ (w'.cell? (ad1.add (k * 3)) = some (.int .i64 s.f0) ∧ w'.cell? ⟨(ad1.add (k * 3)).block, (ad1.add (k * 3)).off + 1, none⟩ = some (.int .i64 s.f1) ∧ w'.cell? ⟨(ad1.add (k * 3)).block, (ad1.add (k * 3)).off + 2, none⟩ = some (.int .i64 s.f2)) ∧ (w'.cell? (ad.add (k * 4)) = some (.int .i64 x.f0) ∧ w'.cell? ⟨(ad.add (k * 4)).block, (ad.add (k * 4)).off + 1, none⟩ = some (.int .i64 x.f1) ∧ w'.cell? ⟨(ad.add (k * 4)).block, (ad.add (k * 4)).off + 2, none⟩ = some (.int .i64 x.f2) ∧ w'.cell? ⟨(ad.add (k * 4)).block, (ad.add (k * 4)).off + 3, none⟩ = some (.int .i64 x.f3))) (go_keep) (first | (go_at_call 77; refine (rout_calls s x _).mono ?_; rintro e w' ⟨rfl, hb⟩; rw [HVV.out]; have hbw := Aside0.mk (below_step (w := wr) (by with_reducible repeat (first | exact Below.refl _ _ | apply below_alloc | apply pw_below_drewN | apply below_drew1)) hb); have J1 := carry hbw.out J0; obtain ⟨m0, m1, m2, m3⟩ := box4 J1.out.1.2; obtain ⟨-, ⟨r0, r1, r2⟩, ⟨t0, t1, t2, t3⟩, -⟩ := J1.out; try (have G1 := Aside0.mk (blk_below (blk_drew (blk_new wr (.cells #[.int .i64 0, .int .i64 0, .int .i64 0] 23))) hb); obtain ⟨g0, g1, g2⟩ := box3 G1.out; obtain ⟨f0, f1, f2⟩ := free3 G1.out)))
        all_goals
          go_wp2_with fail
          go_meet
          first
            | exact ⟨_, rfl, rfl, carry (below_put3 hbw.out (Nat.le_refl _) (.int .i64 ta) (.int .i64 tb) (.int .i64 tc)) J0, ⟨put3 G1.out _ _ _⟩⟩
            | exact ⟨_, rfl, rfl, carry (keep_alloc w' (.cells #[.int .i64 ta, .int .i64 tb, .int .i64 tc] 23)) J1, ⟨blk_new _ _⟩⟩
      case rest =>
        obtain ⟨g, rfl, rfl, J2, G2⟩ := hcut
        clear n0 n1 n2 n3 p0 p1 p2 q0 q1 q2 q3 e3 e4 e5 e6 e7 e8 e9 e10 J0
        cases hq : Sy.outO s x with
        | none =>
          obtain rfl := shapeV_none_inj (hq ▸ HVV.out)
          have HQ := Aside0.mk hq
          clear hq
          go_wp2_with fail
          go_ret2
          have hz := shR_stop HF.out HS.out (HU.out.stop hlt (by rw [← HX.out]; exact HQ.out))
          rw [HZ.out] at hz
          injection hz with h1 h2
          subst h1
          subst h2
          exact ShPost.nil J2.out.1.1
        | some t =>
          obtain ⟨rfl, rfl, rfl, rfl⟩ := shapeV_some_inj (hq ▸ HVV.out)
          have HQ := Aside0.mk hq
          clear hq
          have hbd := out_bd HU.out.right HQ.out
          have HU2 := Aside0.mk (HU.out.next hlt (by rw [← HX.out]; exact HQ.out))
          rw [← HX.out] at HU2
          obtain ⟨qa, hqa⟩ : ∃ q, q = Sy.wts s x := ⟨_, rfl⟩
          obtain ⟨qb, hqb⟩ : ∃ q, q = Sy.prods s t x := ⟨_, rfl⟩
          have ha : 0 ≤ qa ∧ qa ≤ 9216 := by rw [hqa]; exact hbd.2.1
          have hb' : 0 ≤ qb ∧ qb ≤ 1327104 := by rw [hqb]; exact hbd.2.2
          have HQA := Aside0.mk hqa
          have HQB := Aside0.mk hqb
          have J3 := Aside0.mk (And.intro J2.out G2.out)
          clear hbd hqa hqb J2 G2
          obtain ⟨ha1, ha2⟩ := ha
          obtain ⟨hb1, hb2⟩ := hb'
          have w1e : IntKind.i64.wrap (sw + qa) = sw + qa := IntWalk.i64_in _ (by omega)
          have w2e : IntKind.i64.wrap (sp + qb) = sp + qb := IntWalk.i64_in _ (by omega)
          obtain ⟨m0, m1, m2, m3⟩ := box4 J3.out.1.1.2
          obtain ⟨⟨-, ⟨p0, p1, p2⟩, ⟨q0, q1, q2, q3⟩, -⟩, G3⟩ := J3.out
          obtain ⟨g0, g1, g2⟩ := box3 G3
          clear G3
          go_wp2_with fail
          go_region_held3 (fun w' => w'.cell? ⟨w.heap.size, 3, none⟩ = some (.slice (some ad) l.length c) ∧ (w'.cell? (ad1.add (k * 3)) = some (.int .i64 s.f0) ∧ w'.cell? ⟨(ad1.add (k * 3)).block, (ad1.add (k * 3)).off + 1, none⟩ = some (.int .i64 s.f1) ∧ w'.cell? ⟨(ad1.add (k * 3)).block, (ad1.add (k * 3)).off + 2, none⟩ = some (.int .i64 s.f2)) ∧ (w'.cell? (ad.add (k * 4)) = some (.int .i64 x.f0) ∧ w'.cell? ⟨(ad.add (k * 4)).block, (ad.add (k * 4)).off + 1, none⟩ = some (.int .i64 x.f1) ∧ w'.cell? ⟨(ad.add (k * 4)).block, (ad.add (k * 4)).off + 2, none⟩ = some (.int .i64 x.f2) ∧ w'.cell? ⟨(ad.add (k * 4)).block, (ad.add (k * 4)).off + 3, none⟩ = some (.int .i64 x.f3))) (go_keep) (first | (go_at_call 78; refine (rwts_calls s x _ HU.out.right HL.out).mono ?_; rintro e w' ⟨rfl, hb⟩; rw [← HQA.out]; have J4 := carry (W := wc) (below_step (below_drew (Below.refl _ _)) hb) J3; clear hb J3 m0 m1 m2 m3 p0 p1 p2 q0 q1 q2 q3 g0 g1 g2; obtain ⟨m0, m1, m2, m3⟩ := box4 J4.out.1.1.2; obtain ⟨⟨-, ⟨p0, p1, p2⟩, ⟨q0, q1, q2, q3⟩, -⟩, G4⟩ := J4.out; obtain ⟨g0, g1, g2⟩ := box3 G4; clear G4))
          go_wp2_with fail
          go_region_held3 (fun w' => w'.cell? ⟨w.heap.size, 3, none⟩ = some (.slice (some ad) l.length c) ∧ (w'.cell? (ad1.add (k * 3)) = some (.int .i64 s.f0) ∧ w'.cell? ⟨(ad1.add (k * 3)).block, (ad1.add (k * 3)).off + 1, none⟩ = some (.int .i64 s.f1) ∧ w'.cell? ⟨(ad1.add (k * 3)).block, (ad1.add (k * 3)).off + 2, none⟩ = some (.int .i64 s.f2)) ∧ (w'.cell? (ad.add (k * 4)) = some (.int .i64 x.f0) ∧ w'.cell? ⟨(ad.add (k * 4)).block, (ad.add (k * 4)).off + 1, none⟩ = some (.int .i64 x.f1) ∧ w'.cell? ⟨(ad.add (k * 4)).block, (ad.add (k * 4)).off + 2, none⟩ = some (.int .i64 x.f2) ∧ w'.cell? ⟨(ad.add (k * 4)).block, (ad.add (k * 4)).off + 3, none⟩ = some (.int .i64 x.f3)) ∧ (w'.cell? ⟨g, 0, none⟩ = some (.int .i64 t.f0) ∧ w'.cell? ⟨g, 1, none⟩ = some (.int .i64 t.f1) ∧ w'.cell? ⟨g, 2, none⟩ = some (.int .i64 t.f2))) (go_keep) (first | (go_at_call 79; refine (rprod_calls s t x _ HU.out.right HL.out HQ.out).mono ?_; rintro e w6 ⟨rfl, hb⟩; rw [← HQB.out]; have J5 := carry (W := w') (below_step (below_drew (Below.refl _ _)) hb) J4; clear hb J4 m0 m1 m2 m3 p0 p1 p2 q0 q1 q2 q3 g0 g1 g2; obtain ⟨m0, m1, m2, m3⟩ := box4 J5.out.1.1.2; obtain ⟨⟨-, ⟨p0, p1, p2⟩, ⟨q0, q1, q2, q3⟩, -⟩, G5⟩ := J5.out; obtain ⟨g0, g1, g2⟩ := box3 G5; clear G5))
          have hln := HZL.out
          go_wp2_with ((with_reducible refine gate_builtin (b := .append) (xs := #[.tmp 67, .tmp 69]) rfl ?_); at_builtin; refine Kd.R_append k23 (w0 := w) w.heap.size rfl (.tmp 67) (.tmp 69) 29 23 (.agg #[(.int .i64 0), (.int .i64 0), (.int .i64 0)]) 24 rfl Try.underlying29 info23 rfl (by decide) (by omega) (.slice (some ad1) n c1) (S :: st.map (·.f2)) t [.int .i64 t.f0, .int .i64 t.f1, .int .i64 t.f2] (fun _ => True) (fun _ => False) rfl (by rw [HN.out]; rfl) ?aP (fun _ hk => hk.elim) ?aF ?aO ?aB ?aS ?aL ?_; (case aP => exact k23_mkM _ _ _ t); (case aB => exact J5.out.1.1.1); (case aF => exact (fun _ _ => trivial)); (case aO => exact J5.out.1.2.2.2); (case aS => exact below_size J5.out.1.1.1); (case aL => omega); intro v1 w7 ho hb hg hat; have K1 := Aside0.mk (blk_grown J5.out.1.1.2 hg (Kd.R_ne J5.out.1.2.2.2 J5.out.1.1.2 (by decide))); have K2 := Aside0.mk hb; have K3 := Aside0.mk ho; clear ho hb hg hat)
          go_roundw
          case rel =>
            exact ⟨k + 1, t, st ++ [Sy.stepOf s t x], sw + qa, sp + qb, rfl, rfl, by go_num, by omega, ⟨by omega, by omega⟩, ⟨by omega, by omega⟩, ⟨by rw [sumW_snoc, HW.out, HQA.out]; rfl⟩, ⟨by rw [sumP_snoc, HP.out, HQB.out]; rfl⟩, HU2, ⟨by have := last_shape S st (Sy.stepOf s t x); rw [HU.out.len] at this; exact this⟩, ⟨K2.out, K1.out⟩, ⟨by rw [List.map_append]; exact K3.out⟩⟩
          case measure => simp [intOf]; omega
    · have hkl : k = l.length := by omega
      have HD := Aside0.mk ((show Upto S l l.length s st from hkl ▸ HU.out).done)
      have HZ2 : Aside0 ((Sy.sumW st ≤ 512 ∧ Sy.sumP st ≤ 512 → (r, z) = (S :: st.map (·.f2), 0)) ∧ (¬ (Sy.sumW st ≤ 512 ∧ Sy.sumP st ≤ 512) → (r, z) = ([], 5))) :=
        ⟨fun h => HZ.out.symm.trans (shR_ok HF.out HS.out HD.out h), fun h => HZ.out.symm.trans (shR_full HF.out HS.out HD.out h)⟩
      rw [← HW.out, ← HP.out] at HZ2
      clear hkl
      by_cases hs : sw ≤ 512 ∧ sp ≤ 512
      · have e := HZ2.out.1 hs
        injection e with e1 e2
        subst e1
        subst e2
        obtain ⟨hs1, hs2⟩ := hs
        clear HZ HZ2
        go_wp2_with fail
        go_ret2
        exact ⟨_, rfl, HV.out, HI.out.1⟩
      · have e := HZ2.out.2 hs
        injection e with e1 e2
        subst e1
        subst e2
        have HNS := Aside0.mk hs
        clear HZ HZ2 hs
        go_wp2_with fail
        all_goals first
          | (exfalso; have := HNS.out; omega)
          | (go_ret2
             exact ShPost.nil HI.out.1)
theorem rshapes_calls (S : S23) (A : Option Addr) (c : Nat) (l : List S40) (w : World) (r : List S23) (z : Int) (h : Sy.shapesR S l = (r, z)) (hr : Kd.C k40 w A l.length l) (hc : l.length ≤ c) :
    Calls Try.prog 28 #[.agg #[.int .i64 S.f0, .int .i64 S.f1, .int .i64 S.f2, .slice A l.length c]] w (ShPost w r z) := by
  cases hf : Sy.formB S l with
  | false =>
    have e := h.symm.trans (shR_form hf)
    injection e with e1 e2
    subst e1
    subst e2
    exact rshapes_noform S A c l w hr hc hf
  | true =>
    cases hs : Sy.rightB S with
    | false =>
      have e := h.symm.trans (shR_right hf hs)
      injection e with e1 e2
      subst e1
      subst e2
      exact rshapes_noright S A c l w hr hc hf hs
    | true => exact rshapes_loop S A c l w hr hc hf hs r z h
end Go.Proofs.Ytnfcadjckoebkaa.P
end
section
namespace Go.Proofs.Ytnfcadjckoebkaa.P
open Go.RowKit Go.Proofs.YtnfcadjckoebkaaW.PrintWords Go.Proofs.YtnfcadjckoebkaaW.PrintLast Go.Proofs.YtnfcadjckoebkaaW.PrintMore
set_option linter.unusedVariables false
def h05_Shapes.f (a0_0 : Int) (a0_1 : Int) (a0_2 : Int) (l0_3 : List (S40)) : Option ((List (S23)) × Int) := some (Sy.shapesR ⟨a0_0, a0_1, a0_2⟩ l0_3)
theorem h05_Shapes.calls (a0_0 : Int) (a0_1 : Int) (a0_2 : Int) (A0_3 : Option Addr) (c0_3 : Nat) (l0_3 : List (S40)) (r1 : List (S23)) (r2 : Int) (w : World) (hr0_3 : Kd.C k40 w A0_3 l0_3.length l0_3) (hc0_3 : l0_3.length ≤ c0_3) (h : h05_Shapes.f a0_0 a0_1 a0_2 l0_3 = some (r1, r2)) :
    Calls Try.prog 28 #[.agg #[.int .i64 a0_0, .int .i64 a0_1, .int .i64 a0_2, .slice A0_3 l0_3.length c0_3]] w fun e w' => ∃ v0_ : Value, e = .returned (.tuple #[v0_, .int .i64 r2]) ∧ Kd.R k23 23 w' w.heap.size (fun _ => True) v0_ r1 ∧ Below w.heap.size w w' := by
  exact rshapes_calls ⟨a0_0, a0_1, a0_2⟩ A0_3 c0_3 l0_3 w r1 r2 (Option.some.inj h) hr0_3 hc0_3
def h02_Right.f (a0_0 : Int) (a0_1 : Int) (a0_2 : Int) : Option (Bool) := some (Sy.rightB ⟨a0_0, a0_1, a0_2⟩)
theorem h02_Right.calls (a0_0 : Int) (a0_1 : Int) (a0_2 : Int) (r : Bool) (w : World) (h : h02_Right.f a0_0 a0_1 a0_2 = some r) :
    Calls Try.prog 40 #[.agg #[.int .i64 a0_0, .int .i64 a0_1, .int .i64 a0_2]] w fun e w' => e = .returned (.bool r) ∧ Below w.heap.size w w' := by
  exact rr_calls ⟨a0_0, a0_1, a0_2⟩ r (Option.some.inj h) w
def h02_Size.f (a0_0 : Int) (a0_1 : Int) (a0_2 : Int) : Option (Int) := some (Sy.sizeI ⟨a0_0, a0_1, a0_2⟩)
theorem h02_Size.calls (a0_0 : Int) (a0_1 : Int) (a0_2 : Int) (r : Int) (w : World) (h : h02_Size.f a0_0 a0_1 a0_2 = some r) :
    Calls Try.prog 41 #[.agg #[.int .i64 a0_0, .int .i64 a0_1, .int .i64 a0_2]] w fun e w' => e = .returned (.int .i64 r) ∧ Below w.heap.size w w' := by
  have e := Option.some.inj h
  subst e
  exact rsz_calls ⟨a0_0, a0_1, a0_2⟩ w
end Go.Proofs.Ytnfcadjckoebkaa.P
end
