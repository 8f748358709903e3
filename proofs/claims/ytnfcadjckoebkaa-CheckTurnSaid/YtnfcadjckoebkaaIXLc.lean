import Derived.Test.YtnfcadjckoebkaaIXCs
import Derived.Test.YtnfcadjckoebkaaIXRk
namespace Go.Proofs.Ytnfcadjckoebkaa.P
open Go.RowKit Go.Proofs.YtnfcadjckoebkaaW.PrintWords Go.Proofs.YtnfcadjckoebkaaW.PrintLast Go.Proofs.YtnfcadjckoebkaaW.PrintMore
attribute [local go_sem high] eqA23
set_option linter.unusedSimpArgs false
set_option linter.unusedVariables false
theorem layer_kd {x : S40} (hl : Sy.layerB x = true) : x.f0 = 1 ∨ x.f0 = 2 ∨ x.f0 = 3 ∨ x.f0 = 4 := by
  unfold Sy.layerB at hl
  by_cases h1 : x.f0 = 1
  · exact .inl h1
  · by_cases h2 : x.f0 = 2
    · exact .inr (.inl h2)
    · by_cases h3 : x.f0 = 3
      · exact .inr (.inr (.inl h3))
      · by_cases h4 : x.f0 = 4
        · exact .inr (.inr (.inr h4))
        · rw [if_neg h1, if_neg h2, if_neg h3, if_neg h4] at hl; cases hl
theorem conv_t (s t : S23) (c z p : Int) (w : World) (h : Sy.convO s c z p = some t) : Calls Try.prog 38 #[.agg #[.int .i64 s.f0, .int .i64 s.f1, .int .i64 s.f2], .int .i64 c, .int .i64 z, .int .i64 p] w fun e w' => e = .returned (.tuple #[.agg #[.int .i64 t.f0, .int .i64 t.f1, .int .i64 t.f2], .bool true]) ∧ Below w.heap.size w w' := by
  have := rconv_calls s c z p w
  rw [h] at this
  exact this
theorem pool_t (s t : S23) (z : Int) (w : World) (h : Sy.poolO s z = some t) : Calls Try.prog 39 #[.agg #[.int .i64 s.f0, .int .i64 s.f1, .int .i64 s.f2], .int .i64 z] w fun e w' => e = .returned (.tuple #[.agg #[.int .i64 t.f0, .int .i64 t.f1, .int .i64 t.f2], .bool true]) ∧ Below w.heap.size w w' := by
  have := rpool_calls s z w
  rw [h] at this
  exact this
theorem cell_put3 {W : World} {g : Nat} {a : Addr} {v : Value} (h : W.cell? a = some v) (hne : a.block < g) (x y z : Value) : (((W.setCell ⟨g, 0, none⟩ x).setCell ⟨g, 1, none⟩ y).setCell ⟨g, 2, none⟩ z).cell? a = some v := by
  have e : ∀ (W : World) (o : Nat) (x : Value), W.cell? a = some v → (W.setCell ⟨g, o, none⟩ x).cell? a = some v := fun W o x h => (Go.Proofs.YtnfcadjckoebkaaW.PrintWords.cell_far (Nat.ne_of_lt hne) x).trans h
  exact e _ _ _ (e _ _ _ (e _ _ _ h))
variable (S : S23) (A : Option Addr) (c : Nat) (l : List S40) (w : World)
set_option maxHeartbeats 4000000 in
theorem turn_no (hr : Kd.C k40 w A l.length l) (hc : l.length ≤ c) (h : ¬ (l.length ≤ 60 ∧ (Sy.allR S l).2 = 0)) :
    Calls Try.prog 4 #[.agg #[.int .i64 S.f0, .int .i64 S.f1, .int .i64 S.f2, .slice A l.length c]] w fun e w' => e = .returned (.bool true) ∧ Below w.heap.size w w' := by
  have I0 := net_box w S A l.length c
  obtain ⟨g, hg⟩ : ∃ g, decide ((l.length : Int) > 60) = g := ⟨_, rfl⟩
  have HR := Aside0.mk hr
  have HC := Aside0.mk hc
  have HG := Aside0.mk hg
  have HH := Aside0.mk h
  clear hr hc hg h
  go_enter Try.func4, Try.ntmps4
  go_wp2_with fail
  generalize w.alloc (.cells #[.int .i64 S.f0, .int .i64 S.f1, .int .i64 S.f2, .slice A l.length c] 26) = W at *
  refine (sHead5 _).mono ?_
  rintro e w1 ⟨rfl, hb⟩
  have I1 := carry hb I0
  clear hb I0
  obtain ⟨n0, n1, n2, n3⟩ := box4 I1.out.2
  go_wp2_with fail
  refine (sGreat S A c l _ g HG.out (Kd.C_below HR.out I1.out.1) HC.out).mono ?_
  rintro e w2 ⟨rfl, hb⟩
  have I2 := carry hb I1
  clear hb I1 n0 n1 n2 n3
  obtain ⟨n0, n1, n2, n3⟩ := box4 I2.out.2
  cases g with
  | true =>
    go_wp2_with fail
    go_ret
    exact ⟨rfl, I2.out.1⟩
  | false =>
    obtain ⟨z, hz⟩ : ∃ z, (Sy.allR S l).2 = z := ⟨_, rfl⟩
    have hne : (Sy.allR S l).2 ≠ 0 := fun e => HH.out ⟨by have := HG.out; simp at this; omega, e⟩
    have hsh := shapesR_no hne
    rw [hz] at hsh hne
    have HZ := Aside0.mk hsh
    have HB := Aside0.mk (show ((Sy.allR S l).2 == 0) = false by rw [hz]; simp [hne])
    have hzb : (z != 0) = true := by simp [hne]
    clear hsh hz hne HH
    go_wp2_with fail
    refine (sShapes S A c l _ [] z HZ.out (Kd.C_below HR.out I2.out.1) HC.out).mono ?_
    rintro e w3 ⟨v, rfl, hv, hb⟩
    have I3 := carry hb I2
    clear hb I2 n0 n1 n2 n3
    obtain ⟨n0, n1, n2, n3⟩ := box4 I3.out.2
    obtain ⟨A1, c1, e⟩ := Kd.R_slice hv
    subst e
    clear hv
    go_wp2_with fail
    refine (sRight S A c l _ false HB.out (Kd.C_below HR.out (by first | exact I3.out.1 | (with_reducible repeat (first | exact I3.out.1 | apply pw_below_drewN | apply below_drew1)))) HC.out).mono ?_
    rintro e w4 ⟨rfl, hb⟩
    have I4 := carry hb I3
    clear hb I3 n0 n1 n2 n3
    go_wp2_with fail
    go_ret
    exact ⟨rfl, I4.out.1⟩
set_option maxRecDepth 100000 in
set_option maxHeartbeats 8000000 in
theorem turn_yes (hr : Kd.C k40 w A l.length l) (hc : l.length ≤ c) (h : l.length ≤ 60) (h0 : (Sy.allR S l).2 = 0) :
    Calls Try.prog 4 #[.agg #[.int .i64 S.f0, .int .i64 S.f1, .int .i64 S.f2, .slice A l.length c]] w fun e w' => e = .returned (.bool true) ∧ Below w.heap.size w w' := by
  have I0 := net_box w S A l.length c
  have hlen := stepsR_len h0
  have h8 : (Sy.stepsR S l).length ≤ 8 := allR_len S l
  have h9 : l.length ≤ 8 := by omega
  have HLS := Aside0.mk hlen
  have HR := Aside0.mk hr
  have HC := Aside0.mk hc
  have HG := Aside0.mk (show decide ((l.length : Int) > 60) = false by simp; omega)
  have HZ := Aside0.mk (shapesR_ok h0)
  have HB := Aside0.mk (show ((Sy.allR S l).2 == 0) = true by rw [h0]; rfl)
  have HLN := Aside0.mk (show (S :: (Sy.stepsR S l).map (·.f2)).length = l.length + 1 by simp; omega)
  clear hr hc h h0 hlen h8
  go_enter Try.func4, Try.ntmps4
  go_wp2_with fail
  generalize w.alloc (.cells #[.int .i64 S.f0, .int .i64 S.f1, .int .i64 S.f2, .slice A l.length c] 26) = W at *
  refine (sHead5 _).mono ?_
  rintro e w1 ⟨rfl, hb⟩
  have I1 := carry hb I0
  clear hb I0
  obtain ⟨n0, n1, n2, n3⟩ := box4 I1.out.2
  go_wp2_with fail
  refine (sGreat S A c l _ false HG.out (Kd.C_below HR.out I1.out.1) HC.out).mono ?_
  rintro e w2 ⟨rfl, hb⟩
  have I2 := carry hb I1
  clear hb I1 n0 n1 n2 n3
  obtain ⟨n0, n1, n2, n3⟩ := box4 I2.out.2
  go_wp2_with fail
  refine (sShapes S A c l _ _ _ HZ.out (Kd.C_below HR.out I2.out.1) HC.out).mono ?_
  rintro e w3 ⟨v, rfl, hv, hb⟩
  have I3 := carry hb I2
  clear hb I2 n0 n1 n2 n3
  obtain ⟨n0, n1, n2, n3⟩ := box4 I3.out.2
  obtain ⟨A1, c1, e⟩ := Kd.R_slice hv
  subst e
  obtain ⟨n, hn⟩ : ∃ n, n = (S :: (Sy.stepsR S l).map (·.f2)).length := ⟨_, rfl⟩
  obtain ⟨ad1, e, p0, p1, p2⟩ := at_shape hv 0 (by have := HLN.out; omega)
  subst e
  rw [show rd_T23 (S :: (Sy.stepsR S l).map (·.f2)) ((0 : Nat) : Int) = S from rfl] at p0 p1 p2
  rw [← hn] at hv HLN ⊢
  have hn2 := HLN.out
  subst hn2
  clear hn
  have ea : ad1.add (0 * 3) = ad1 := by cases ad1; rfl
  rw [ea] at p0 p1 p2
  clear ea
  have I4 := Aside0.mk (And.intro I3.out hv)
  clear hv I3
  go_wp2_with fail
  have hw : IntKind.i64.wrap ((l.length : Int) + 1) = (l.length : Int) + 1 := IntWalk.i64_in _ (by omega)
  go_region_held3 (fun w' => (w'.cell? ⟨w.heap.size, 0, none⟩ = some (.int .i64 S.f0) ∧ w'.cell? ⟨w.heap.size, 1, none⟩ = some (.int .i64 S.f1) ∧ w'.cell? ⟨w.heap.size, 2, none⟩ = some (.int .i64 S.f2) ∧ w'.cell? ⟨w.heap.size, 3, none⟩ = some (.slice A l.length c)) ∧ (w'.cell? ad1 = some (.int .i64 S.f0) ∧ w'.cell? ⟨ad1.block, ad1.off + 1, none⟩ = some (.int .i64 S.f1) ∧ w'.cell? ⟨ad1.block, ad1.off + 2, none⟩ = some (.int .i64 S.f2))) (go_keep) (first | (go_at_call 34; refine (sRight S A c l _ true HB.out (Kd.C_below HR.out (below_drew I4.out.1.1)) HC.out).mono ?_; rintro e w' ⟨rfl, hb⟩; have I5 := carry (W := w3) (below_step (below_drew (Below.refl _ _)) hb) I4; have I6 := carry (W := w3) (below_step (below_drew (Below.refl _ _)) hb) (Aside0.mk (And.intro (And.intro n0 (And.intro n1 (And.intro n2 n3))) (And.intro p0 (And.intro p1 p2)))); obtain ⟨⟨m0, m1, m2, m3⟩, p0', p1', p2'⟩ := I6.out))
  clear hw m0 m1 m2 m3 p0' p1' p2' p0 p1 p2 n0 n1 n2 n3 I4 I6
  go_wp2_with fail
  go_loopw [6] (fun v6 wr => ∃ (k : Nat), v6 = .int .i64 k ∧ k ≤ l.length ∧ Aside0 ((Below w.heap.size w wr ∧ wr.heap[w.heap.size]? = some (.cells #[.int .i64 S.f0, .int .i64 S.f1, .int .i64 S.f2, .slice A l.length c] 26 (0, 0))) ∧ Kd.R k23 23 wr w2.heap.size (fun _ => True) (.slice (some ad1) (l.length + 1) c1) (S :: (Sy.stepsR S l).map (·.f2)))) (fun v6 _ => l.length - (intOf v6).toNat)
  case atStart => exact ⟨0, rfl, Nat.zero_le _, I5⟩
  case round =>
    obtain ⟨k, rfl, hk, I7⟩ := hrel
    obtain ⟨n0, n1, n2, n3⟩ := box4 I7.out.1.2
    by_cases hlt : k < l.length
    · obtain ⟨-, -, hl, s, t, e1, e2, e3, e4, e5⟩ := step_ok (S := S) (l := l) k (by have := HLS.out; omega)
      obtain ⟨x, hx⟩ : ∃ x, x = rd_T40 l (k : Int) := ⟨_, rfl⟩
      have hE := And.intro e2 (And.intro e3 (And.intro hl (And.intro e4 e5)))
      rw [← hx] at hE
      have HE := Aside0.mk hE
      have HX := Aside0.mk hx
      clear hx hE e1 e2 e3 e4 e5 hl
      obtain ⟨ad, e, q0, q1, q2, q3⟩ := at_layer HR.out I7.out.1.1 k (by omega)
      cases e
      obtain ⟨ad2, e, p0, p1, p2⟩ := at_shape I7.out.2 k (by simp; have := HLS.out; omega)
      cases e
      obtain ⟨ad2, e, o0, o1, o2⟩ := at_shape I7.out.2 (k + 1) (by simp; have := HLS.out; omega)
      cases e
      rw [← HX.out] at q0 q1 q2 q3
      rw [HE.out.2.2.2.1] at p0 p1 p2
      rw [show (((k + 1 : Nat)) : Int) = (k : Int) + 1 by omega, HE.out.2.2.2.2] at o0 o1 o2
      have hk0 : (0 : Int) ≤ (k : Int) := Int.natCast_nonneg _
      have hk1 : (k : Int) < (l.length : Int) := by omega
      have hk2 : (k : Int) < (l.length : Int) + 1 := by omega
      have HT := Aside0.mk (out_bd HE.out.2.1 HE.out.1).1
      have hk3 : (k : Int) + 1 < (l.length : Int) + 1 := by omega
      have hk4 : (0 : Int) ≤ (k : Int) + 1 := by omega
      have HI5 := Aside0.mk (show ((k : Int) + 1).toNat = k + 1 by omega)
      have HI6 := Aside0.mk (show IntKind.i64.wrap ((k : Int) + 1) = (k : Int) + 1 from IntWalk.i64_in _ (by omega))
      have I8 := Aside0.mk (And.intro I7.out (And.intro (And.intro p0 (And.intro p1 p2)) (And.intro o0 (And.intro o1 o2))))
      go_upto_region 13 with fail
      have I9 := carry (keep_alloc wr (.cells #[.int .i64 x.f0, .int .i64 x.f1, .int .i64 x.f2, .int .i64 x.f3] 40)) I8
      have X9 := Aside0.mk (blk_new wr (.cells #[.int .i64 x.f0, .int .i64 x.f1, .int .i64 x.f2, .int .i64 x.f3] 40))
      have GB := Aside0.mk I7.out.1.1.size
      have hW1 := (keep_alloc wr (.cells #[.int .i64 x.f0, .int .i64 x.f1, .int .i64 x.f2, .int .i64 x.f3] 40)).size
      generalize wr.alloc (.cells #[.int .i64 x.f0, .int .i64 x.f1, .int .i64 x.f2, .int .i64 x.f3] 40) = W1 at *
      clear p0 p1 p2 o0 o1 o2 q0 q1 q2 q3 n0 n1 n2 n3 I8
      obtain ⟨-, ⟨p0, p1, p2⟩, ⟨o0, -⟩⟩ := I9.out
      have L1 := Aside0.mk (World.block_lt_of_cell? W1 _ p0)
      have L2 := Aside0.mk (World.block_lt_of_cell? W1 _ (box4 X9.out).1)
      clear o0
      go_upto_region 14 with fail
      have I10 := carry (keep_alloc W1 (.cells #[.int .i64 s.f0, .int .i64 s.f1, .int .i64 s.f2] 23)) I9
      have X10 := carry (keep_alloc W1 (.cells #[.int .i64 s.f0, .int .i64 s.f1, .int .i64 s.f2] 23)) X9
      have B10 := Aside0.mk (keep_alloc W1 (.cells #[.int .i64 s.f0, .int .i64 s.f1, .int .i64 s.f2] 23))
      have T10 := Aside0.mk (blk_new W1 (.cells #[.int .i64 s.f0, .int .i64 s.f1, .int .i64 s.f2] 23))
      have GT := Aside0.mk (Nat.le_trans GB.out hW1)
      generalize W1.alloc (.cells #[.int .i64 s.f0, .int .i64 s.f1, .int .i64 s.f2] 23) = W2 at *
      clear p0 p1 p2
      obtain ⟨y0, y1, y2, y3⟩ := box4 X10.out
      obtain ⟨-, ⟨p0, p1, p2⟩, -⟩ := I10.out
      obtain ⟨z0, z1, z2⟩ := free3 T10.out
      have hq := HE.out.1
      unfold Sy.outO at hq
      rcases layer_kd HE.out.2.2.1 with kd | kd | kd | kd
      · rw [if_pos kd] at hq
        have HQ := Aside0.mk hq
        clear hq
        rw [kd] at y0
        go_wp2_with fail
        go_region_held3 (fun w' => (w'.cell? (ad1.add (k * 3)) = some (.int .i64 s.f0) ∧ w'.cell? ⟨(ad1.add (k * 3)).block, (ad1.add (k * 3)).off + 1, none⟩ = some (.int .i64 s.f1) ∧ w'.cell? ⟨(ad1.add (k * 3)).block, (ad1.add (k * 3)).off + 2, none⟩ = some (.int .i64 s.f2)) ∧ (w'.cell? ⟨wr.heap.size, 1, none⟩ = some (.int .i64 x.f1) ∧ w'.cell? ⟨wr.heap.size, 2, none⟩ = some (.int .i64 x.f2) ∧ w'.cell? ⟨wr.heap.size, 3, none⟩ = some (.int .i64 x.f3))) (first | go_keep | exact ⟨⟨cell_put3 p0' L1.out _ _ _, cell_put3 p1' L1.out _ _ _, cell_put3 p2' L1.out _ _ _⟩, cell_put3 y1' L2.out _ _ _, cell_put3 y2' L2.out _ _ _, cell_put3 y3' L2.out _ _ _⟩) (first | (go_at_call 38; refine (conv_t s t _ _ _ _ HQ.out).mono ?_; rintro e w' ⟨rfl, hb⟩; have I11 := carry (W := W2) (below_step (below_drew (Below.refl _ _)) hb) I10; have X11 := carry (W := W2) (below_step (below_drew (Below.refl _ _)) hb) X10; have T11 := carry (W := W2) (below_step (below_drew (Below.refl _ _)) hb) T10; obtain ⟨-, y1', y2', y3'⟩ := box4 X11.out; obtain ⟨-, ⟨p0', p1', p2'⟩, -⟩ := I11.out; obtain ⟨z0', z1', z2'⟩ := free3 T11.out; have B11 := carry (W := W2) (below_step (below_drew (Below.refl _ _)) hb) B10; obtain ⟨t0, t1, t2⟩ := box3 T11.out))
        have B12 := Aside0.mk (below_put3 B11.out (Nat.le_refl _) (.int .i64 t.f0) (.int .i64 t.f1) (.int .i64 t.f2))
        have T12 := Aside0.mk (put3 T11.out (.int .i64 t.f0) (.int .i64 t.f1) (.int .i64 t.f2))
        clear t0 t1 t2 I11 X11 T11 B11 z0' z1' z2' p0' p1' p2' y1' y2' y3'
        generalize (((_ : World).setCell ⟨W1.heap.size, 0, none⟩ (.int .i64 t.f0)).setCell ⟨W1.heap.size, 1, none⟩ (.int .i64 t.f1)).setCell ⟨W1.heap.size, 2, none⟩ (.int .i64 t.f2) = U at *
        clear y0 y1 y2 y3 p0 p1 p2 z0 z1 z2 X10 T10 B10
        have I12 := carry B12.out I9
        obtain ⟨-, -, o0, o1, o2⟩ := I12.out
        obtain ⟨t0, t1, t2⟩ := box3 T12.out
        go_upto_region 21 with fail
        have hi5 := HI5.out
        have hi6 := HI6.out
        go_region_held3 (fun w' => (w'.cell? (ad1.add ((k + 1) * 3)) = some (.int .i64 t.f0) ∧ w'.cell? ⟨(ad1.add ((k + 1) * 3)).block, (ad1.add ((k + 1) * 3)).off + 1, none⟩ = some (.int .i64 t.f1) ∧ w'.cell? ⟨(ad1.add ((k + 1) * 3)).block, (ad1.add ((k + 1) * 3)).off + 2, none⟩ = some (.int .i64 t.f2)) ∧ (w'.cell? ⟨W1.heap.size, 0, none⟩ = some (.int .i64 t.f0) ∧ w'.cell? ⟨W1.heap.size, 1, none⟩ = some (.int .i64 t.f1) ∧ w'.cell? ⟨W1.heap.size, 2, none⟩ = some (.int .i64 t.f2))) (go_keep) (first | (go_at_call 40; refine (rr_calls t true HT.out _).mono ?_; rintro e w' ⟨rfl, hb⟩; have I13 := carry (W := U) (below_step (below_drew (Below.refl _ _)) hb) I12; have T13 := carry (W := U) (below_step (below_drew (Below.refl _ _)) hb) T12; obtain ⟨-, -, o0', o1', o2'⟩ := I13.out; obtain ⟨t0', t1', t2'⟩ := box3 T13.out))
        clear hi5 hi6
        go_wp2_with fail
        go_roundw
        case rel => exact ⟨k + 1, by go_num, by omega, ⟨I13.out.1⟩⟩
        case measure => simp [intOf]; omega
      · rw [if_neg (by omega), if_pos kd] at hq
        injection hq with hq
        rw [kd] at y0
        go_upto_region 21 with fail
        have B12 := B10
        have T12 := Aside0.mk (show W2.heap[W1.heap.size]? = some (.cells #[.int .i64 t.f0, .int .i64 t.f1, .int .i64 t.f2] 23 (0, 0)) by rw [← hq]; exact T10.out)
        clear hq kd
        generalize W2 = U at *
        clear y0 y1 y2 y3 p0 p1 p2 z0 z1 z2 X10 T10 B10
        have I12 := carry B12.out I9
        obtain ⟨-, -, o0, o1, o2⟩ := I12.out
        obtain ⟨t0, t1, t2⟩ := box3 T12.out
        have hi5 := HI5.out
        have hi6 := HI6.out
        go_region_held3 (fun w' => (w'.cell? (ad1.add ((k + 1) * 3)) = some (.int .i64 t.f0) ∧ w'.cell? ⟨(ad1.add ((k + 1) * 3)).block, (ad1.add ((k + 1) * 3)).off + 1, none⟩ = some (.int .i64 t.f1) ∧ w'.cell? ⟨(ad1.add ((k + 1) * 3)).block, (ad1.add ((k + 1) * 3)).off + 2, none⟩ = some (.int .i64 t.f2)) ∧ (w'.cell? ⟨W1.heap.size, 0, none⟩ = some (.int .i64 t.f0) ∧ w'.cell? ⟨W1.heap.size, 1, none⟩ = some (.int .i64 t.f1) ∧ w'.cell? ⟨W1.heap.size, 2, none⟩ = some (.int .i64 t.f2))) (go_keep) (first | (go_at_call 40; refine (rr_calls t true HT.out _).mono ?_; rintro e w' ⟨rfl, hb⟩; have I13 := carry (W := U) (below_step (below_drew (Below.refl _ _)) hb) I12; have T13 := carry (W := U) (below_step (below_drew (Below.refl _ _)) hb) T12; obtain ⟨-, -, o0', o1', o2'⟩ := I13.out; obtain ⟨t0', t1', t2'⟩ := box3 T13.out))
        clear hi5 hi6
        go_wp2_with fail
        go_roundw
        case rel => exact ⟨k + 1, by go_num, by omega, ⟨I13.out.1⟩⟩
        case measure => simp [intOf]; omega
      · rw [if_neg (by omega), if_neg (by omega), if_pos kd] at hq
        have HQ := Aside0.mk hq
        clear hq
        rw [kd] at y0
        go_wp2_with fail
        go_region_held3 (fun w' => (w'.cell? (ad1.add (k * 3)) = some (.int .i64 s.f0) ∧ w'.cell? ⟨(ad1.add (k * 3)).block, (ad1.add (k * 3)).off + 1, none⟩ = some (.int .i64 s.f1) ∧ w'.cell? ⟨(ad1.add (k * 3)).block, (ad1.add (k * 3)).off + 2, none⟩ = some (.int .i64 s.f2)) ∧ (w'.cell? ⟨wr.heap.size, 2, none⟩ = some (.int .i64 x.f2))) (first | go_keep | exact ⟨⟨cell_put3 p0' L1.out _ _ _, cell_put3 p1' L1.out _ _ _, cell_put3 p2' L1.out _ _ _⟩, cell_put3 y2' L2.out _ _ _⟩) (first | (go_at_call 39; refine (pool_t s t _ _ HQ.out).mono ?_; rintro e w' ⟨rfl, hb⟩; have I11 := carry (W := W2) (below_step (below_drew (Below.refl _ _)) hb) I10; have X11 := carry (W := W2) (below_step (below_drew (Below.refl _ _)) hb) X10; have T11 := carry (W := W2) (below_step (below_drew (Below.refl _ _)) hb) T10; obtain ⟨-, y1', y2', y3'⟩ := box4 X11.out; obtain ⟨-, ⟨p0', p1', p2'⟩, -⟩ := I11.out; obtain ⟨z0', z1', z2'⟩ := free3 T11.out; have B11 := carry (W := W2) (below_step (below_drew (Below.refl _ _)) hb) B10; obtain ⟨t0, t1, t2⟩ := box3 T11.out))
        have B12 := Aside0.mk (below_put3 B11.out (Nat.le_refl _) (.int .i64 t.f0) (.int .i64 t.f1) (.int .i64 t.f2))
        have T12 := Aside0.mk (put3 T11.out (.int .i64 t.f0) (.int .i64 t.f1) (.int .i64 t.f2))
        clear t0 t1 t2 I11 X11 T11 B11 z0' z1' z2' p0' p1' p2' y1' y2' y3'
        generalize (((_ : World).setCell ⟨W1.heap.size, 0, none⟩ (.int .i64 t.f0)).setCell ⟨W1.heap.size, 1, none⟩ (.int .i64 t.f1)).setCell ⟨W1.heap.size, 2, none⟩ (.int .i64 t.f2) = U at *
        clear y0 y1 y2 y3 p0 p1 p2 z0 z1 z2 X10 T10 B10
        have I12 := carry B12.out I9
        obtain ⟨-, -, o0, o1, o2⟩ := I12.out
        obtain ⟨t0, t1, t2⟩ := box3 T12.out
        go_upto_region 21 with fail
        have hi5 := HI5.out
        have hi6 := HI6.out
        go_region_held3 (fun w' => (w'.cell? (ad1.add ((k + 1) * 3)) = some (.int .i64 t.f0) ∧ w'.cell? ⟨(ad1.add ((k + 1) * 3)).block, (ad1.add ((k + 1) * 3)).off + 1, none⟩ = some (.int .i64 t.f1) ∧ w'.cell? ⟨(ad1.add ((k + 1) * 3)).block, (ad1.add ((k + 1) * 3)).off + 2, none⟩ = some (.int .i64 t.f2)) ∧ (w'.cell? ⟨W1.heap.size, 0, none⟩ = some (.int .i64 t.f0) ∧ w'.cell? ⟨W1.heap.size, 1, none⟩ = some (.int .i64 t.f1) ∧ w'.cell? ⟨W1.heap.size, 2, none⟩ = some (.int .i64 t.f2))) (go_keep) (first | (go_at_call 40; refine (rr_calls t true HT.out _).mono ?_; rintro e w' ⟨rfl, hb⟩; have I13 := carry (W := U) (below_step (below_drew (Below.refl _ _)) hb) I12; have T13 := carry (W := U) (below_step (below_drew (Below.refl _ _)) hb) T12; obtain ⟨-, -, o0', o1', o2'⟩ := I13.out; obtain ⟨t0', t1', t2'⟩ := box3 T13.out))
        clear hi5 hi6
        go_wp2_with fail
        go_roundw
        case rel => exact ⟨k + 1, by go_num, by omega, ⟨I13.out.1⟩⟩
        case measure => simp [intOf]; omega
      · rw [if_neg (by omega), if_neg (by omega), if_neg (by omega)] at hq
        have ho : 1 ≤ x.f1 ∧ x.f1 ≤ 8 := by
          by_cases h : 1 ≤ x.f1 ∧ x.f1 ≤ 8
          · exact h
          · rw [if_neg h] at hq; cases hq
        rw [if_pos ho] at hq
        injection hq with hq
        have HQ := Aside0.mk hq
        clear hq ho
        rw [kd] at y0
        obtain ⟨t0, t1, t2⟩ := box3 T10.out
        go_upto_region 21 with fail
        have B12 := Aside0.mk (below_put3 B10.out (Nat.le_refl _) (.int .i64 x.f1) (.int .i64 1) (.int .i64 1))
        have T12 := Aside0.mk (show (((W2.setCell ⟨W1.heap.size, 0, none⟩ (.int .i64 x.f1)).setCell ⟨W1.heap.size, 1, none⟩ (.int .i64 1)).setCell ⟨W1.heap.size, 2, none⟩ (.int .i64 1)).heap[W1.heap.size]? = some (.cells #[.int .i64 t.f0, .int .i64 t.f1, .int .i64 t.f2] 23 (0, 0)) by rw [← HQ.out]; exact put3 T10.out (.int .i64 x.f1) (.int .i64 1) (.int .i64 1))
        clear t0 t1 t2 kd
        generalize ((W2.setCell ⟨W1.heap.size, 0, none⟩ (.int .i64 x.f1)).setCell ⟨W1.heap.size, 1, none⟩ (.int .i64 1)).setCell ⟨W1.heap.size, 2, none⟩ (.int .i64 1) = U at *
        clear y0 y1 y2 y3 p0 p1 p2 z0 z1 z2 X10 T10 B10
        have I12 := carry B12.out I9
        obtain ⟨-, -, o0, o1, o2⟩ := I12.out
        obtain ⟨t0, t1, t2⟩ := box3 T12.out
        have hi5 := HI5.out
        have hi6 := HI6.out
        go_region_held3 (fun w' => (w'.cell? (ad1.add ((k + 1) * 3)) = some (.int .i64 t.f0) ∧ w'.cell? ⟨(ad1.add ((k + 1) * 3)).block, (ad1.add ((k + 1) * 3)).off + 1, none⟩ = some (.int .i64 t.f1) ∧ w'.cell? ⟨(ad1.add ((k + 1) * 3)).block, (ad1.add ((k + 1) * 3)).off + 2, none⟩ = some (.int .i64 t.f2)) ∧ (w'.cell? ⟨W1.heap.size, 0, none⟩ = some (.int .i64 t.f0) ∧ w'.cell? ⟨W1.heap.size, 1, none⟩ = some (.int .i64 t.f1) ∧ w'.cell? ⟨W1.heap.size, 2, none⟩ = some (.int .i64 t.f2))) (go_keep) (first | (go_at_call 40; refine (rr_calls t true HT.out _).mono ?_; rintro e w' ⟨rfl, hb⟩; have I13 := carry (W := U) (below_step (below_drew (Below.refl _ _)) hb) I12; have T13 := carry (W := U) (below_step (below_drew (Below.refl _ _)) hb) T12; obtain ⟨-, -, o0', o1', o2'⟩ := I13.out; obtain ⟨t0', t1', t2'⟩ := box3 T13.out))
        clear hi5 hi6
        go_wp2_with fail
        go_roundw
        case rel => exact ⟨k + 1, by go_num, by omega, ⟨I13.out.1⟩⟩
        case measure => simp [intOf]; omega
    · have hki : k = l.length := by omega
      subst hki
      go_wp2_with fail
      go_ret
      exact ⟨rfl, I7.out.1.1⟩
end Go.Proofs.Ytnfcadjckoebkaa.P
