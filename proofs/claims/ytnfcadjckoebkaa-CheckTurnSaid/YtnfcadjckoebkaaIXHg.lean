import Derived.Test.YtnfcadjckoebkaaIXHn
import Derived.Deep.LoopGhost
namespace Go.Proofs.Ytnfcadjckoebkaa.P
open Go.RowKit Go.Proofs.YtnfcadjckoebkaaW.PrintWords Go.Proofs.YtnfcadjckoebkaaW.PrintLast Go.Proofs.YtnfcadjckoebkaaW.PrintMore
attribute [local go_sem] cell_alloc_drewN frozen_alloc_drewN set_alloc_drewN set_drewN
def rowB (most : Int) (offs : List Nat) (v : Nat → Int) : Bool := offs.all fun o => decide (0 ≤ v o ∧ v o ≤ most)
theorem inB_row (most : Int) (offs : List Nat) (v : Nat → Int) : inB most offs.length (fun i => v (offs.getD i 0)) = rowB most offs v := by
  unfold inB rowB
  rw [Bool.eq_iff_iff, decide_eq_true_eq, List.all_eq_true]
  constructor
  · intro h o ho
    obtain ⟨i, hi, rfl⟩ := List.getElem_of_mem ho
    have := h i hi
    rw [decide_eq_true_eq]
    simpa [List.getD, hi] using this
  · intro h i hi
    have := h (offs[i]) (List.getElem_mem hi)
    rw [decide_eq_true_eq] at this
    simpa [List.getD, hi] using this
theorem dwithin_row (most : Int) (V : Value) (offs : List Nat) (L base : Nat) (v : Nat → Int) (w : World) (hl : offs.length ≤ 3) (h : PRow w base L V offs)
    (hv : ∀ o ∈ offs, w.cell? ⟨L, o, none⟩ = some (.int .i64 (v o))) :
    Calls Try.prog 113 #[.int .i64 most, V] w fun e w' => e = .returned (.bool (rowB most offs v)) ∧ w' = w := by
  rcases h with ⟨rfl, rfl⟩ | ⟨b, _, rfl, hc⟩
  · exact dwithin_nil most w
  · refine (dwithin_calls most b offs.length (fun i => ⟨L, offs.getD i 0, none⟩) (fun i => v (offs.getD i 0)) w hl hc (fun i hi => hv _ ?_)).mono ?_
    · rw [List.getD, List.getElem?_eq_getElem hi]; exact List.getElem_mem hi
    · rw [inB_row]; exact fun _ _ h => h
theorem form_long (a0 a1 a2 : Int) (A : Option Addr) (c : Nat) (l : List S40) (w : World) (hl : 8 < l.length) :
    Calls Try.prog 102 #[.agg #[.int .i64 a0, .int .i64 a1, .int .i64 a2, .slice A l.length c]] w fun e w' => e = .returned (.bool false) ∧ Below w.heap.size w w' := by
  go_enter Try.func102, Try.ntmps102
  go_wp2
  go_ret
  exact ⟨rfl, by with_reducible repeat (first | exact Below.refl _ _ | apply below_alloc)⟩
def inV (a0 a1 a2 : Int) (o : Nat) : Int := if o = 0 then a0 else if o = 1 then a1 else a2
theorem inV_form (a0 a1 a2 : Int) (l : List S40) (h : l.length ≤ 8) : Sy.formB ⟨a0, a1, a2⟩ l = (rowB 999999 [0, 1, 2] (inV a0 a1 a2) && l.all Sy.layerB) := by
  unfold Sy.formB rowB inV Sy.numB
  simp [h]
def fieldV (x : S40) (o : Nat) : Int := if o = 1 then x.f1 else if o = 2 then x.f2 else if o = 3 then x.f3 else x.f0
theorem fields_at {w : World} {L : Nat} {x : S40} (h : w.heap[L]? = some (.cells #[.int .i64 x.f0, .int .i64 x.f1, .int .i64 x.f2, .int .i64 x.f3] 40 (0, 0))) {l : List Nat} : (∀ o ∈ l, o < 4) → ∀ o ∈ l, w.cell? ⟨L, o, none⟩ = some (.int .i64 (fieldV x o)) := fun hl o ho => by
  refine (blk_cell h o).trans ?_
  have := hl o ho
  match o, this with
  | 0, _ => rfl
  | 1, _ => rfl
  | 2, _ => rfl
  | 3, _ => rfl
theorem zero_iff (a : Int) : decide (0 ≤ a ∧ a ≤ 0) = decide (a = 0) := by by_cases h : a = 0 <;> simp [h]; omega
theorem layerB_conv (x : S40) (h : x.f0 = 1) : Sy.layerB x = (rowB 999999 [1, 2, 3] (fieldV x) && rowB 0 [] (fieldV x)) := by simp [Sy.layerB, h, rowB, fieldV, Sy.numB]
theorem layerB_square (x : S40) (h : x.f0 = 2) : Sy.layerB x = (rowB 999999 [] (fieldV x) && rowB 0 [1, 2, 3] (fieldV x)) := by simp only [Sy.layerB, h, rowB, fieldV, Sy.numB, List.all_cons, List.all_nil, zero_iff]; simp
theorem layerB_pool (x : S40) (h : x.f0 = 3) : Sy.layerB x = (rowB 999999 [2] (fieldV x) && rowB 0 [1, 3] (fieldV x)) := by simp only [Sy.layerB, h, rowB, fieldV, Sy.numB, List.all_cons, List.all_nil, zero_iff]; simp
theorem layerB_dense (x : S40) (h : x.f0 = 4) : Sy.layerB x = (rowB 999999 [1] (fieldV x) && rowB 0 [2, 3] (fieldV x)) := by simp only [Sy.layerB, h, rowB, fieldV, Sy.numB, List.all_cons, List.all_nil, zero_iff]; simp
theorem layerB_none (x : S40) (h1 : ¬ x.f0 = 1) (h2 : ¬ x.f0 = 2) (h3 : ¬ x.f0 = 3) (h4 : ¬ x.f0 = 4) : Sy.layerB x = false := by simp [Sy.layerB, h1, h2, h3, h4]
theorem rd_get (l : List S40) (k : Nat) (h : k < l.length) : rd_T40 l (k : Int) = l[k] := by simp [rd_T40, List.getD, h]
theorem all_false (l : List S40) (k : Nat) (h : k < l.length) {x : S40} (hx : x = rd_T40 l (k : Int)) (hb : Sy.layerB x = false) : l.all Sy.layerB = false := by
  rw [List.all_eq_false]
  exact ⟨l[k], List.getElem_mem h, by rw [← rd_get l k h, ← hx, hb]; decide⟩
theorem all_next (l : List S40) (k : Nat) (h : ∀ i, i < k → Sy.layerB (rd_T40 l (i : Int)) = true) {x : S40} (hx : x = rd_T40 l (k : Int)) (hb : Sy.layerB x = true) : ∀ i, i < k + 1 → Sy.layerB (rd_T40 l (i : Int)) = true := by
  intro i hi
  by_cases e : i = k
  · rw [e, ← hx, hb]
  · exact h i (by omega)
theorem all_true (l : List S40) (h : ∀ i, i < l.length → Sy.layerB (rd_T40 l (i : Int)) = true) : l.all Sy.layerB = true := by
  rw [List.all_eq_true]
  intro x hx
  obtain ⟨i, hi, rfl⟩ := List.getElem_of_mem hx
  rw [← rd_get l i hi]
  exact h i hi
set_option maxHeartbeats 4000000 in
theorem form_some (a0 a1 a2 : Int) (ad : Addr) (c : Nat) (l : List S40) (w : World) (hl : l.length ≤ 8) (hr : Kd.C k40 w (some ad) l.length l) :
    Calls Try.prog 102 #[.agg #[.int .i64 a0, .int .i64 a1, .int .i64 a2, .slice (some ad) l.length c]] w fun e w' => e = .returned (.bool (Sy.formB ⟨a0, a1, a2⟩ l)) ∧ Below w.heap.size w w' := by
  have hmf : ∀ (fn : Fn) (first cap : Array Value) (w : World), (Instr.makeFunc fn first cap).run Try.prog w = .ok (.func fn first cap) w := fun _ _ _ _ => rfl
  have HR := Aside0.mk hr
  have HF := Aside0.mk (inV_form a0 a1 a2 l hl)
  have d8 : decide (8 < (l.length : Int)) = false := by simp; omega
  clear hr
  obtain ⟨b, hb⟩ : ∃ b, rowB 999999 [0, 1, 2] (inV a0 a1 a2) = b := ⟨_, rfl⟩
  rw [hb] at HF
  have HV := Aside0.mk hb
  clear hb
  go_enter Try.func102, Try.ntmps102
  go_wp2_with fail
  refine (dwithin_row 999999 _ [0, 1, 2] w.heap.size 0 (inV a0 a1 a2) _ (by decide) (.inr ⟨w.heap.size + 1, Nat.zero_le _, rfl, ?_⟩) ?_).mono ?_
  · intro i hi
    have hi : i < 3 := hi
    match i, hi with
    | 0, _ => simp [go_sem]
    | 1, _ => simp [go_sem]
    | 2, _ => simp [go_sem]
  · intro o ho
    simp only [List.mem_cons, List.not_mem_nil, or_false] at ho
    rcases ho with rfl | rfl | rfl <;> simp [go_sem, inV]
  rw [HV.out]
  rintro e w2 ⟨rfl, rfl⟩
  cases b with
  | false =>
    go_wp2_with fail
    go_ret
    exact ⟨by rw [HF.out]; rfl, by with_reducible repeat (first | exact Below.refl _ _ | apply below_alloc)⟩
  | true =>
    go_wp2_with fail
    go_loopw [27] (fun v27 wr => ∃ k : Nat, v27 = .int .i64 k ∧ k ≤ l.length ∧ Aside0 (∀ i, i < k → Sy.layerB (rd_T40 l (i : Int)) = true) ∧ Aside0 (Below w.heap.size w wr)) (fun v27 _ => l.length - (intOf v27).toNat)
    case atStart => exact ⟨0, rfl, Nat.zero_le _, ⟨fun i hi => absurd hi (Nat.not_lt_zero _)⟩, ⟨by with_reducible repeat (first | exact Below.refl _ _ | apply below_alloc)⟩⟩
    case round =>
      obtain ⟨k, rfl, hk, HK, HB⟩ := hrel
      by_cases hlt : k < l.length
      · obtain ⟨ad', e, q0, q1, q2, q3⟩ := at_T40 HR.out (k : Int) (by omega) (by omega)
        cases e
        replace q0 := pw_cell_below HB.out q0
        replace q1 := pw_cell_below HB.out q1
        replace q2 := pw_cell_below HB.out q2
        replace q3 := pw_cell_below HB.out q3
        simp only [Int.toNat_natCast] at q0 q1 q2 q3
        obtain ⟨x, hx⟩ : ∃ x, x = rd_T40 l (k : Int) := ⟨_, rfl⟩
        rw [← hx] at q0 q1 q2 q3
        have HX := Aside0.mk hx
        clear hx
        go_wp2_with fail
        by_cases k1 : x.f0 = 1
        · have K0 := Aside0.mk k1
          clear k1
          refine (numbers_conv wr.heap.size _ ((blk_cell (blk_new wr (.cells #[.int .i64 x.f0, .int .i64 x.f1, .int .i64 x.f2, .int .i64 x.f3] 40)) 0).trans (congrArg (fun z => some (Value.int .i64 z)) K0.out))).mono ?_
          rintro e w3 ⟨H, M, rfl, hb, hH, hM⟩
          have B3 := Aside0.mk (below_step (below_alloc HB.out (.cells #[.int .i64 x.f0, .int .i64 x.f1, .int .i64 x.f2, .int .i64 x.f3] 40)) hb)
          have Z := Aside0.mk (blk_below (blk_new wr (.cells #[.int .i64 x.f0, .int .i64 x.f1, .int .i64 x.f2, .int .i64 x.f3] 40)) hb)
          have PH := Aside0.mk hH
          have PM := Aside0.mk hM
          clear hb hH hM
          obtain ⟨b1, hb1⟩ : ∃ b1, rowB 999999 [1, 2, 3] (fieldV x) = b1 := ⟨_, rfl⟩
          obtain ⟨b2, hb2⟩ : ∃ b2, rowB 0 [] (fieldV x) = b2 := ⟨_, rfl⟩
          have HB1 := Aside0.mk hb1
          have HB2 := Aside0.mk hb2
          have EV := Aside0.mk ((layerB_conv x K0.out).trans (show _ = (b1 && b2) by rw [hb1, hb2]))
          clear hb1 hb2
          go_wp2_with fail
          refine (dwithin_row 999999 H [1, 2, 3] wr.heap.size _ (fieldV x) _ (by decide) PH.out (fields_at Z.out (by decide))).mono ?_
          rw [HB1.out]
          rintro e w4 ⟨rfl, rfl⟩
          cases b1 with
          | false =>
            go_wp2_with fail
            go_ret
            exact ⟨by rw [HF.out, all_false l k hlt HX.out EV.out]; rfl, B3.out⟩
          | true =>
            go_wp2_with fail
            refine (dwithin_row 0 M [] wr.heap.size _ (fieldV x) _ (by decide) PM.out (fields_at Z.out (by decide))).mono ?_
            rw [HB2.out]
            rintro e w5 ⟨rfl, rfl⟩
            cases b2 with
            | false =>
              go_wp2_with fail
              go_ret
              exact ⟨by rw [HF.out, all_false l k hlt HX.out EV.out]; rfl, B3.out⟩
            | true =>
              go_wp2_with fail
              go_roundw
              case rel => exact ⟨k + 1, by go_num, by omega, ⟨all_next l k HK.out HX.out EV.out⟩, B3⟩
              case measure => simp [intOf]; omega
        ·
          by_cases k2 : x.f0 = 2
          · have K0 := Aside0.mk k2
            clear k2 k1
            refine (numbers_square wr.heap.size _ ((blk_cell (blk_new wr (.cells #[.int .i64 x.f0, .int .i64 x.f1, .int .i64 x.f2, .int .i64 x.f3] 40)) 0).trans (congrArg (fun z => some (Value.int .i64 z)) K0.out))).mono ?_
            rintro e w3 ⟨H, M, rfl, hb, hH, hM⟩
            have B3 := Aside0.mk (below_step (below_alloc HB.out (.cells #[.int .i64 x.f0, .int .i64 x.f1, .int .i64 x.f2, .int .i64 x.f3] 40)) hb)
            have Z := Aside0.mk (blk_below (blk_new wr (.cells #[.int .i64 x.f0, .int .i64 x.f1, .int .i64 x.f2, .int .i64 x.f3] 40)) hb)
            have PH := Aside0.mk hH
            have PM := Aside0.mk hM
            clear hb hH hM
            obtain ⟨b1, hb1⟩ : ∃ b1, rowB 999999 [] (fieldV x) = b1 := ⟨_, rfl⟩
            obtain ⟨b2, hb2⟩ : ∃ b2, rowB 0 [1, 2, 3] (fieldV x) = b2 := ⟨_, rfl⟩
            have HB1 := Aside0.mk hb1
            have HB2 := Aside0.mk hb2
            have EV := Aside0.mk ((layerB_square x K0.out).trans (show _ = (b1 && b2) by rw [hb1, hb2]))
            clear hb1 hb2
            go_wp2_with fail
            refine (dwithin_row 999999 H [] wr.heap.size _ (fieldV x) _ (by decide) PH.out (fields_at Z.out (by decide))).mono ?_
            rw [HB1.out]
            rintro e w4 ⟨rfl, rfl⟩
            cases b1 with
            | false =>
              go_wp2_with fail
              go_ret
              exact ⟨by rw [HF.out, all_false l k hlt HX.out EV.out]; rfl, B3.out⟩
            | true =>
              go_wp2_with fail
              refine (dwithin_row 0 M [1, 2, 3] wr.heap.size _ (fieldV x) _ (by decide) PM.out (fields_at Z.out (by decide))).mono ?_
              rw [HB2.out]
              rintro e w5 ⟨rfl, rfl⟩
              cases b2 with
              | false =>
                go_wp2_with fail
                go_ret
                exact ⟨by rw [HF.out, all_false l k hlt HX.out EV.out]; rfl, B3.out⟩
              | true =>
                go_wp2_with fail
                go_roundw
                case rel => exact ⟨k + 1, by go_num, by omega, ⟨all_next l k HK.out HX.out EV.out⟩, B3⟩
                case measure => simp [intOf]; omega
          ·
            by_cases k3 : x.f0 = 3
            · have K0 := Aside0.mk k3
              clear k3 k2 k1
              refine (numbers_pool wr.heap.size _ ((blk_cell (blk_new wr (.cells #[.int .i64 x.f0, .int .i64 x.f1, .int .i64 x.f2, .int .i64 x.f3] 40)) 0).trans (congrArg (fun z => some (Value.int .i64 z)) K0.out))).mono ?_
              rintro e w3 ⟨H, M, rfl, hb, hH, hM⟩
              have B3 := Aside0.mk (below_step (below_alloc HB.out (.cells #[.int .i64 x.f0, .int .i64 x.f1, .int .i64 x.f2, .int .i64 x.f3] 40)) hb)
              have Z := Aside0.mk (blk_below (blk_new wr (.cells #[.int .i64 x.f0, .int .i64 x.f1, .int .i64 x.f2, .int .i64 x.f3] 40)) hb)
              have PH := Aside0.mk hH
              have PM := Aside0.mk hM
              clear hb hH hM
              obtain ⟨b1, hb1⟩ : ∃ b1, rowB 999999 [2] (fieldV x) = b1 := ⟨_, rfl⟩
              obtain ⟨b2, hb2⟩ : ∃ b2, rowB 0 [1, 3] (fieldV x) = b2 := ⟨_, rfl⟩
              have HB1 := Aside0.mk hb1
              have HB2 := Aside0.mk hb2
              have EV := Aside0.mk ((layerB_pool x K0.out).trans (show _ = (b1 && b2) by rw [hb1, hb2]))
              clear hb1 hb2
              go_wp2_with fail
              refine (dwithin_row 999999 H [2] wr.heap.size _ (fieldV x) _ (by decide) PH.out (fields_at Z.out (by decide))).mono ?_
              rw [HB1.out]
              rintro e w4 ⟨rfl, rfl⟩
              cases b1 with
              | false =>
                go_wp2_with fail
                go_ret
                exact ⟨by rw [HF.out, all_false l k hlt HX.out EV.out]; rfl, B3.out⟩
              | true =>
                go_wp2_with fail
                refine (dwithin_row 0 M [1, 3] wr.heap.size _ (fieldV x) _ (by decide) PM.out (fields_at Z.out (by decide))).mono ?_
                rw [HB2.out]
                rintro e w5 ⟨rfl, rfl⟩
                cases b2 with
                | false =>
                  go_wp2_with fail
                  go_ret
                  exact ⟨by rw [HF.out, all_false l k hlt HX.out EV.out]; rfl, B3.out⟩
                | true =>
                  go_wp2_with fail
                  go_roundw
                  case rel => exact ⟨k + 1, by go_num, by omega, ⟨all_next l k HK.out HX.out EV.out⟩, B3⟩
                  case measure => simp [intOf]; omega
            ·
              by_cases k4 : x.f0 = 4
              · have K0 := Aside0.mk k4
                clear k4 k3 k2 k1
                refine (numbers_dense wr.heap.size _ ((blk_cell (blk_new wr (.cells #[.int .i64 x.f0, .int .i64 x.f1, .int .i64 x.f2, .int .i64 x.f3] 40)) 0).trans (congrArg (fun z => some (Value.int .i64 z)) K0.out))).mono ?_
                rintro e w3 ⟨H, M, rfl, hb, hH, hM⟩
                have B3 := Aside0.mk (below_step (below_alloc HB.out (.cells #[.int .i64 x.f0, .int .i64 x.f1, .int .i64 x.f2, .int .i64 x.f3] 40)) hb)
                have Z := Aside0.mk (blk_below (blk_new wr (.cells #[.int .i64 x.f0, .int .i64 x.f1, .int .i64 x.f2, .int .i64 x.f3] 40)) hb)
                have PH := Aside0.mk hH
                have PM := Aside0.mk hM
                clear hb hH hM
                obtain ⟨b1, hb1⟩ : ∃ b1, rowB 999999 [1] (fieldV x) = b1 := ⟨_, rfl⟩
                obtain ⟨b2, hb2⟩ : ∃ b2, rowB 0 [2, 3] (fieldV x) = b2 := ⟨_, rfl⟩
                have HB1 := Aside0.mk hb1
                have HB2 := Aside0.mk hb2
                have EV := Aside0.mk ((layerB_dense x K0.out).trans (show _ = (b1 && b2) by rw [hb1, hb2]))
                clear hb1 hb2
                go_wp2_with fail
                refine (dwithin_row 999999 H [1] wr.heap.size _ (fieldV x) _ (by decide) PH.out (fields_at Z.out (by decide))).mono ?_
                rw [HB1.out]
                rintro e w4 ⟨rfl, rfl⟩
                cases b1 with
                | false =>
                  go_wp2_with fail
                  go_ret
                  exact ⟨by rw [HF.out, all_false l k hlt HX.out EV.out]; rfl, B3.out⟩
                | true =>
                  go_wp2_with fail
                  refine (dwithin_row 0 M [2, 3] wr.heap.size _ (fieldV x) _ (by decide) PM.out (fields_at Z.out (by decide))).mono ?_
                  rw [HB2.out]
                  rintro e w5 ⟨rfl, rfl⟩
                  cases b2 with
                  | false =>
                    go_wp2_with fail
                    go_ret
                    exact ⟨by rw [HF.out, all_false l k hlt HX.out EV.out]; rfl, B3.out⟩
                  | true =>
                    go_wp2_with fail
                    go_roundw
                    case rel => exact ⟨k + 1, by go_num, by omega, ⟨all_next l k HK.out HX.out EV.out⟩, B3⟩
                    case measure => simp [intOf]; omega
              ·
                have EV := Aside0.mk (layerB_none x k1 k2 k3 k4)
                refine (numbers_none wr.heap.size _ x.f0 ((blk_cell (blk_new wr (.cells #[.int .i64 x.f0, .int .i64 x.f1, .int .i64 x.f2, .int .i64 x.f3] 40)) 0).trans rfl) (by simp [k1]) (by simp [k2]) (by simp [k3]) (by simp [k4])).mono ?_
                rintro e w3 ⟨H, M, rfl, hb, hH, hM⟩
                have B3 := Aside0.mk (below_step (below_alloc HB.out (.cells #[.int .i64 x.f0, .int .i64 x.f1, .int .i64 x.f2, .int .i64 x.f3] 40)) hb)
                clear hb hH hM k1 k2 k3 k4
                go_wp2_with fail
                go_ret
                exact ⟨by rw [HF.out, all_false l k hlt HX.out EV.out]; rfl, B3.out⟩
      · go_wp2_with fail
        go_ret
        exact ⟨by rw [HF.out, all_true l (fun i hi => HK.out i (by omega))]; rfl, HB.out⟩
set_option maxHeartbeats 1000000 in
theorem form_nil (a0 a1 a2 : Int) (c : Nat) (w : World) :
    Calls Try.prog 102 #[.agg #[.int .i64 a0, .int .i64 a1, .int .i64 a2, .slice none 0 c]] w fun e w' => e = .returned (.bool (Sy.formB ⟨a0, a1, a2⟩ [])) ∧ Below w.heap.size w w' := by
  have hmf : ∀ (fn : Fn) (first cap : Array Value) (w : World), (Instr.makeFunc fn first cap).run Try.prog w = .ok (.func fn first cap) w := fun _ _ _ _ => rfl
  have HF := Aside0.mk (inV_form a0 a1 a2 [] (by decide))
  obtain ⟨b, hb⟩ : ∃ b, rowB 999999 [0, 1, 2] (inV a0 a1 a2) = b := ⟨_, rfl⟩
  rw [hb] at HF
  have HV := Aside0.mk hb
  clear hb
  go_enter Try.func102, Try.ntmps102
  go_wp2_with fail
  refine (dwithin_row 999999 _ [0, 1, 2] w.heap.size 0 (inV a0 a1 a2) _ (by decide) (.inr ⟨w.heap.size + 1, Nat.zero_le _, rfl, ?_⟩) ?_).mono ?_
  · intro i hi
    have hi : i < 3 := hi
    match i, hi with
    | 0, _ => simp [go_sem]
    | 1, _ => simp [go_sem]
    | 2, _ => simp [go_sem]
  · intro o ho
    simp only [List.mem_cons, List.not_mem_nil, or_false] at ho
    rcases ho with rfl | rfl | rfl <;> simp [go_sem, inV]
  rw [HV.out]
  rintro e w2 ⟨rfl, rfl⟩
  cases b with
  | false =>
    go_wp2_with fail
    go_ret
    exact ⟨by rw [HF.out]; rfl, by with_reducible repeat (first | exact Below.refl _ _ | apply below_alloc)⟩
  | true =>
    go_wp2_with fail
    refine wp_loop_rounds 1 ?_
    rw [rounds_succ]
    go_wp2_with fail
    go_ret
    exact ⟨by rw [HF.out]; rfl, by with_reducible repeat (first | exact Below.refl _ _ | apply below_alloc)⟩
theorem form_calls (a0 a1 a2 : Int) (A : Option Addr) (c : Nat) (l : List S40) (w : World) (hr : Kd.C k40 w A l.length l) :
    Calls Try.prog 102 #[.agg #[.int .i64 a0, .int .i64 a1, .int .i64 a2, .slice A l.length c]] w fun e w' => e = .returned (.bool (Sy.formB ⟨a0, a1, a2⟩ l)) ∧ Below w.heap.size w w' := by
  by_cases hl : l.length ≤ 8
  · cases A with
    | none =>
      have h0 : l.length = 0 := by
        rcases Nat.eq_zero_or_pos l.length with h | h
        · exact h
        · obtain ⟨ad, e, _⟩ := hr.2.2 h
          cases e
      obtain rfl := List.eq_nil_of_length_eq_zero h0
      exact form_nil a0 a1 a2 c w
    | some ad => exact form_some a0 a1 a2 ad c l w hl hr
  · have e : Sy.formB ⟨a0, a1, a2⟩ l = false := by simp [Sy.formB, hl]
    rw [e]
    exact form_long a0 a1 a2 A c l w (by omega)
end Go.Proofs.Ytnfcadjckoebkaa.P
