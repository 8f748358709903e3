import Derived.Test.YtnfcadjckoebkaaIXHd
import Derived.Test.YtnfcadjckoebkaaIXHy
import Derived.Test.YtnfcadjckoebkaaIXHg
import Derived.Deep.RegionLaw
import Derived.Deep.RegionHeld3
namespace Go.Proofs.Ytnfcadjckoebkaa.P
open Go.RowKit Go.Proofs.YtnfcadjckoebkaaW.PrintWords Go.Proofs.YtnfcadjckoebkaaW.PrintLast Go.Proofs.YtnfcadjckoebkaaW.PrintMore
set_option linter.unusedSimpArgs false
set_option linter.unusedVariables false
attribute [local go_sem] cell_alloc_drewN frozen_alloc_drewN set_alloc_drewN set_drewN
def AllPost (w : World) (r : List S94 × Int) (e : Ending) (w' : World) : Prop :=
  ∃ v0_ : Value, e = .returned (.tuple #[v0_, .int .i64 r.2]) ∧ Kd.R k94 94 w' w.heap.size (fun _ => True) v0_ r.1 ∧ Below w.heap.size w w'
theorem all_results (tmps : Array Value) (W : World) (g h : Nat) (v : Value) (n : Int) (h2 : tmps.getD 2 undef = .pointer (some ⟨g, 0, none⟩)) (h3 : tmps.getD 3 undef = .pointer (some ⟨h, 0, none⟩))
    (hO : W.cell? ⟨g, 0, none⟩ = some v) (hE : W.cell? ⟨h, 0, none⟩ = some (.int .i64 n)) : (results Try.f76 tmps).run Try.prog W = .ok (.tuple #[v, .int .i64 n]) W := by
  have h2' : tmps[2]?.getD undef = .pointer (some ⟨g, 0, none⟩) := by simpa using h2
  have h3' : tmps[3]?.getD undef = .pointer (some ⟨h, 0, none⟩) := by simpa using h3
  simp [results, Try.results76, go_sem, h2', h3', hO, hE, asAddr]
theorem door_panic (x : Int) (tmps : Array Value) (W w : World) (v : Value) (n : Int) (h2 : tmps.getD 2 undef = .pointer (some ⟨w.heap.size + 1, 0, none⟩)) (h3 : tmps.getD 3 undef = .pointer (some ⟨w.heap.size + 1 + 1, 0, none⟩))
    (hO : W.heap[w.heap.size + 1]? = some (.cells #[v] 90 (0, 0))) (hE : W.heap[w.heap.size + 1 + 1]? = some (.cells #[.int .i64 n] 30 (0, 0))) (hB : Below w.heap.size w W) :
    bodyPostD Try.prog Try.f76 (AllPost w ([], x)) (Exit.panic (wrongChain x)) { tmps := tmps, defers := [{ target := .fn (.func 100) #[.pointer (some ⟨w.heap.size + 1, 0, none⟩), .pointer (some ⟨w.heap.size + 1 + 1, 0, none⟩)], args := #[] }] } W := by
  refine leaves_cons (f := 100) (args := #[.pointer (some ⟨w.heap.size + 1, 0, none⟩), .pointer (some ⟨w.heap.size + 1 + 1, 0, none⟩)]) (by simp) (by simp [go_sem]) ?_
  refine (catch_panicking (w.heap.size + 1) (w.heap.size + 1 + 1) v x n [] W (by omega) hO hE).mono ?_
  rintro e u' w'' ⟨rfl, rfl, hO', hE', hB'⟩
  exact ⟨_, all_results tmps w'' _ _ _ _ h2 h3 ((blk_cell hO' 0).trans rfl) ((blk_cell hE' 0).trans rfl), _, rfl, Kd.R_nil _ _ _ _ _, hB' _ _ hB (by omega) (by omega)⟩
theorem door_return (r : List S94) (tmps : Array Value) (W w : World) (v : Value) (h2 : tmps.getD 2 undef = .pointer (some ⟨w.heap.size + 1, 0, none⟩)) (h3 : tmps.getD 3 undef = .pointer (some ⟨w.heap.size + 1 + 1, 0, none⟩))
    (hO : W.heap[w.heap.size + 1]? = some (.cells #[v] 90 (0, 0))) (hE : W.heap[w.heap.size + 1 + 1]? = some (.cells #[.int .i64 0] 30 (0, 0))) (hR : Kd.R k94 94 W w.heap.size (fun _ => True) v r) (hB : Below w.heap.size w W) :
    bodyPostD Try.prog Try.f76 (AllPost w (r, 0)) Exit.ret { tmps := tmps, defers := [{ target := .fn (.func 100) #[.pointer (some ⟨w.heap.size + 1, 0, none⟩), .pointer (some ⟨w.heap.size + 1 + 1, 0, none⟩)], args := #[] }] } W := by
  refine leaves_cons (f := 100) (args := #[.pointer (some ⟨w.heap.size + 1, 0, none⟩), .pointer (some ⟨w.heap.size + 1 + 1, 0, none⟩)]) (by simp) (by simp [go_sem]) ?_
  refine (catch_idle (w.heap.size + 1) (w.heap.size + 1 + 1) W).mono ?_
  rintro e u' w'' ⟨rfl, rfl, hb⟩
  exact ⟨_, all_results tmps w'' _ _ _ _ h2 h3 ((blk_cell (blk_below hO hb) 0).trans rfl) ((blk_cell (blk_below hE hb) 0).trans rfl), _, rfl, Kd.R_below hR hb, below_step hB hb⟩
theorem all_noform (a0 a1 a2 : Int) (A : Option Addr) (c : Nat) (l : List S40) (w : World) (hr : Kd.C k40 w A l.length l) (hf : Sy.formB ⟨a0, a1, a2⟩ l = false) :
    Calls Try.prog 76 #[.agg #[.int .i64 a0, .int .i64 a1, .int .i64 a2, .slice A l.length c]] w (AllPost w ([], 12)) := by
  have hmf : ∀ (fn : Fn) (first cap : Array Value) (w : World), (Instr.makeFunc fn first cap).run Try.prog w = .ok (.func fn first cap) w := fun _ _ _ _ => rfl
  have HR := Aside0.mk hr
  have HF := Aside0.mk hf
  clear hr hf
  go_enter_defers Try.func76, Try.ntmps76
  go_wp2_with fail
  refine (form_calls a0 a1 a2 A c l _ ?_).mono ?_
  · exact Kd.C_below HR.out (by with_reducible repeat (first | exact Below.refl _ _ | apply below_alloc))
  rw [HF.out]
  rintro e w2 ⟨rfl, hb⟩
  go_wp2_with fail
  refine (must_no 12 _).mono ?_
  rintro e w3 ⟨rfl, rfl⟩
  have hB := below_step (below_alloc (below_alloc (below_alloc (Below.refl w.heap.size w) (.cells #[.int .i64 a0, .int .i64 a1, .int .i64 a2, .slice A l.length c] 26)) (.cells #[.slice none 0 0] 90)) (.cells #[.int .i64 0] 30)) hb
  exact door_panic 12 _ _ w (.slice none 0 0) 0 rfl rfl (blk_below (blk_alloc (blk_new1 w _ _) _) hb) (blk_below (blk_new2 w _ _ _) hb) hB
theorem info94 : (Try.prog.info? 94).map (fun i => (i.zero, i.size, i.bytes)) = some (some (.agg #[.int .i64 0, .int .i64 0, .int .i64 0, .int .i64 0, .int .i64 0, .int .i64 0, .int .i64 0, .int .i64 0, .int .i64 0, .int .i64 0, .int .i64 0, .int .i64 0]), 12, 96) := by kernel_rfl
theorem out_bd {s t : S23} {x : S40} (hr : Sy.rightB s = true) (h : Sy.outO s x = some t) : Sy.rightB t = true ∧ (0 ≤ Sy.wts s x ∧ Sy.wts s x ≤ 9216) ∧ (0 ≤ Sy.prods s t x ∧ Sy.prods s t x ≤ 1327104) := by
  obtain ⟨⟨a1, a2⟩, -, -, -⟩ := right_bd hr
  have hs := size_bd hr
  unfold Sy.prods Sy.wts
  unfold Sy.outO at h
  split at h
  · rename_i k
    obtain ⟨ht, hc, h1, h2⟩ := conv_some h
    obtain ⟨⟨b1, b2⟩, ⟨b3, b4⟩, ⟨b5, b6⟩, -⟩ := right_bd ht
    rw [hc] at b1 b2
    have m1 := mulB (a := x.f1) (b := s.f0) (A := 8) (B := 8) (by omega) (by omega)
    have m2 := mulB (b := x.f2) (B := 12) m1 (by omega)
    have m3 := mulB (b := x.f2) (B := 12) m2 (by omega)
    have m4 := mulB (b := t.f1) (B := 12) m3 (by omega)
    have m5 := mulB (b := t.f2) (B := 12) m4 (by omega)
    rw [if_pos k, if_pos k]
    exact ⟨ht, m3, m5⟩
  · rename_i k1
    split at h
    · rename_i k2
      injection h with h
      subst h
      rw [if_neg k1, if_pos k2, if_neg k1, if_pos k2]
      exact ⟨hr, by omega, by omega⟩
    · rename_i k2
      split at h
      · rename_i k3
        unfold Sy.poolO at h
        split at h
        · rename_i hh
          injection h with h
          subst h
          rw [if_neg k1, if_neg k2, if_pos k3, if_neg k1, if_neg k2, if_pos k3]
          exact ⟨div_right s _ hr hh.2.1 hh.2.2.1 hh.2.2.2, by omega, by omega⟩
        · cases h
      · rename_i k3
        split at h
        · rename_i hh
          injection h with h
          subst h
          rw [if_neg k1, if_neg k2, if_neg k3, if_neg k1, if_neg k2, if_neg k3]
          have m := mulB (a := x.f1) (b := Sy.sizeI s) (A := 8) (B := 128) (by omega) hs
          refine ⟨?_, by omega, by omega⟩
          simp only [Sy.rightB, decide_eq_true_eq]
          omega
        · cases h
theorem sumW_snoc (l : List S94) (y : S94) : Sy.sumW (l ++ [y]) = Sy.sumW l + y.f3 := by simp [Sy.sumW]
theorem sumP_snoc (l : List S94) (y : S94) : Sy.sumP (l ++ [y]) = Sy.sumP l + y.f4 := by simp [Sy.sumP]
theorem steps_drop (s : S23) (l : List S40) (k : Nat) (h : k < l.length) : Sy.stepsO s (l.drop k) = (Sy.outO s (rd_T40 l (k : Int))).bind fun t => (Sy.stepsO t (l.drop (k + 1))).map fun r => Sy.stepOf s t (rd_T40 l (k : Int)) :: r := by
  rw [List.drop_eq_getElem_cons h, rd_get l k h]
  rfl
theorem form_layer (s : S23) (l : List S40) (h : Sy.formB s l = true) (k : Nat) (hk : k < l.length) : Sy.layerB (rd_T40 l (k : Int)) = true := by
  simp only [Sy.formB, Bool.and_eq_true, List.all_eq_true] at h
  rw [rd_get l k hk]
  exact h.2 _ (List.getElem_mem hk)
structure Upto (S : S23) (l : List S40) (k : Nat) (s : S23) (st : List S94) : Prop where
  right : Sy.rightB s = true
  len : st.length = k
  rest : Sy.stepsO S l = (Sy.stepsO s (l.drop k)).map (st ++ ·)
  w : 0 ≤ Sy.sumW st ∧ Sy.sumW st ≤ 9216 * k
  p : 0 ≤ Sy.sumP st ∧ Sy.sumP st ≤ 1327104 * k
theorem Upto.next {S : S23} {l : List S40} {k : Nat} {s t : S23} {st : List S94} (h : Upto S l k s st) (hk : k < l.length) (hq : Sy.outO s (rd_T40 l (k : Int)) = some t) : Upto S l (k + 1) t (st ++ [Sy.stepOf s t (rd_T40 l (k : Int))]) := by
  obtain ⟨b1, b2, b3⟩ := out_bd h.right hq
  refine ⟨b1, by simp [h.len], ?_, ?_, ?_⟩
  · rw [h.rest, steps_drop s l k hk, hq]
    simp [Option.map_map, Function.comp_def]
  · rw [sumW_snoc]; have := h.w; show 0 ≤ _ + Sy.wts _ _ ∧ _ + Sy.wts _ _ ≤ _; omega
  · rw [sumP_snoc]; have := h.p; show 0 ≤ _ + Sy.prods _ _ _ ∧ _ + Sy.prods _ _ _ ≤ _; omega
theorem Upto.stop {S : S23} {l : List S40} {k : Nat} {s : S23} {st : List S94} (h : Upto S l k s st) (hk : k < l.length) (hq : Sy.outO s (rd_T40 l (k : Int)) = none) : Sy.stepsO S l = none := by
  rw [h.rest, steps_drop s l k hk, hq]
  rfl
theorem Upto.done {S : S23} {l : List S40} {s : S23} {st : List S94} (h : Upto S l l.length s st) : Sy.stepsO S l = some st := by
  rw [h.rest, List.drop_length]
  simp [Sy.stepsO]
theorem next_none (s : S23) (x : S40) (w : World) (hr : Sy.rightB s = true) (hl : Sy.layerB x = true) (hq : Sy.outO s x = none) : Calls Try.prog 104 #[.agg #[.int .i64 s.f0, .int .i64 s.f1, .int .i64 s.f2], .agg #[.int .i64 x.f0, .int .i64 x.f1, .int .i64 x.f2, .int .i64 x.f3]] w fun e w' => e = .panicked (wrongChain 21) ∧ Below w.heap.size w w' :=
  (next_calls s x w hr hl).mono fun e w' ⟨h1, h2⟩ => ⟨by rw [h2, hq], h1⟩
theorem next_some (s t : S23) (x : S40) (y : S94) (w : World) (hr : Sy.rightB s = true) (hl : Sy.layerB x = true) (hq : Sy.outO s x = some t) (hy : y = Sy.stepOf s t x) : Calls Try.prog 104 #[.agg #[.int .i64 s.f0, .int .i64 s.f1, .int .i64 s.f2], .agg #[.int .i64 x.f0, .int .i64 x.f1, .int .i64 x.f2, .int .i64 x.f3]] w fun e w' => e = .returned (.agg #[.int .i64 y.f0.f0, .int .i64 y.f0.f1, .int .i64 y.f0.f2, .int .i64 y.f0.f3, .int .i64 y.f1.f0, .int .i64 y.f1.f1, .int .i64 y.f1.f2, .int .i64 y.f2.f0, .int .i64 y.f2.f1, .int .i64 y.f2.f2, .int .i64 y.f3, .int .i64 y.f4]) ∧ Below w.heap.size w w' :=
  (next_calls s x w hr hl).mono fun e w' ⟨h1, h2⟩ => ⟨by rw [h2, hq, hy]; rfl, h1⟩
theorem door_panic_r (r : List S94 × Int) (x : Int) (hr : r = ([], x)) (tmps : Array Value) (W w : World) (v : Value) (n : Int) (h2 : tmps.getD 2 undef = .pointer (some ⟨w.heap.size + 1, 0, none⟩)) (h3 : tmps.getD 3 undef = .pointer (some ⟨w.heap.size + 1 + 1, 0, none⟩))
    (hO : W.heap[w.heap.size + 1]? = some (.cells #[v] 90 (0, 0))) (hE : W.heap[w.heap.size + 1 + 1]? = some (.cells #[.int .i64 n] 30 (0, 0))) (hB : Below w.heap.size w W) :
    bodyPostD Try.prog Try.f76 (AllPost w r) (Exit.panic (wrongChain x)) { tmps := tmps, defers := [{ target := .fn (.func 100) #[.pointer (some ⟨w.heap.size + 1, 0, none⟩), .pointer (some ⟨w.heap.size + 1 + 1, 0, none⟩)], args := #[] }] } W := by
  subst hr
  exact door_panic x tmps W w v n h2 h3 hO hE hB
theorem door_return_r (r : List S94 × Int) (st : List S94) (hr : r = (st, 0)) (tmps : Array Value) (W w : World) (v : Value) (h2 : tmps.getD 2 undef = .pointer (some ⟨w.heap.size + 1, 0, none⟩)) (h3 : tmps.getD 3 undef = .pointer (some ⟨w.heap.size + 1 + 1, 0, none⟩))
    (hO : W.heap[w.heap.size + 1]? = some (.cells #[v] 90 (0, 0))) (hE : W.heap[w.heap.size + 1 + 1]? = some (.cells #[.int .i64 0] 30 (0, 0))) (hR : Kd.R k94 94 W w.heap.size (fun _ => True) v st) (hB : Below w.heap.size w W) :
    bodyPostD Try.prog Try.f76 (AllPost w r) Exit.ret { tmps := tmps, defers := [{ target := .fn (.func 100) #[.pointer (some ⟨w.heap.size + 1, 0, none⟩), .pointer (some ⟨w.heap.size + 1 + 1, 0, none⟩)], args := #[] }] } W := by
  subst hr
  exact door_return st tmps W w v h2 h3 hO hE hR hB
set_option maxHeartbeats 8000000 in
set_option maxRecDepth 100000 in
theorem all_loop (a0 a1 a2 : Int) (ad : Addr) (c : Nat) (l : List S40) (w : World) (hr : Kd.C k40 w (some ad) l.length l) (hf : Sy.formB ⟨a0, a1, a2⟩ l = true) (hs : Sy.rightB ⟨a0, a1, a2⟩ = true) (r : List S94 × Int) (hres : r = Sy.allR ⟨a0, a1, a2⟩ l) :
    Calls Try.prog 76 #[.agg #[.int .i64 a0, .int .i64 a1, .int .i64 a2, .slice (some ad) l.length c]] w (AllPost w r) := by
  have HRES := Aside0.mk hres
  clear hres
  have hmf : ∀ (fn : Fn) (first cap : Array Value) (w : World), (Instr.makeFunc fn first cap).run Try.prog w = .ok (.func fn first cap) w := fun _ _ _ _ => rfl
  have hl8 : l.length ≤ 8 := by simp only [Sy.formB, Bool.and_eq_true, decide_eq_true_eq] at hf; exact hf.1.1
  have HR := Aside0.mk hr
  have HF := Aside0.mk hf
  have HS := Aside0.mk hs
  clear hr hf hs
  go_enter_defers Try.func76, Try.ntmps76
  go_wp2_with fail
  refine (form_calls a0 a1 a2 (some ad) c l _ ?_).mono ?_
  · exact Kd.C_below HR.out (by with_reducible repeat (first | exact Below.refl _ _ | apply below_alloc))
  rw [HF.out]
  rintro e w2 ⟨rfl, hb⟩
  have B2 := Aside0.mk (below_step (below_alloc (below_alloc (below_alloc (Below.refl w.heap.size w) (.cells #[.int .i64 a0, .int .i64 a1, .int .i64 a2, .slice (some ad) l.length c] 26)) (.cells #[.slice none 0 0] 90)) (.cells #[.int .i64 0] 30)) hb)
  have N2 := Aside0.mk (blk_below (blk_alloc (blk_alloc (blk_new w (.cells #[.int .i64 a0, .int .i64 a1, .int .i64 a2, .slice (some ad) l.length c] 26)) (.cells #[.slice none 0 0] 90)) (.cells #[.int .i64 0] 30)) hb)
  have O2 := Aside0.mk (blk_below (blk_alloc (blk_new1 w (.cells #[.int .i64 a0, .int .i64 a1, .int .i64 a2, .slice (some ad) l.length c] 26) (.cells #[.slice none 0 0] 90)) (.cells #[.int .i64 0] 30)) hb)
  have E2 := Aside0.mk (blk_below (blk_new2 w (.cells #[.int .i64 a0, .int .i64 a1, .int .i64 a2, .slice (some ad) l.length c] 26) (.cells #[.slice none 0 0] 90) (.cells #[.int .i64 0] 30)) hb)
  clear hb
  go_wp2_with fail
  refine (must_yes 12 _).mono ?_
  rintro e w3 ⟨rfl, rfl⟩
  have n0 : w3.cell? ⟨w.heap.size, 0, none⟩ = some (.int .i64 a0) := (blk_cell N2.out 0).trans rfl
  have n1 : w3.cell? ⟨w.heap.size, 1, none⟩ = some (.int .i64 a1) := (blk_cell N2.out 1).trans rfl
  have n2 : w3.cell? ⟨w.heap.size, 2, none⟩ = some (.int .i64 a2) := (blk_cell N2.out 2).trans rfl
  go_wp2_with fail
  refine (right_any _ _ _ true HS.out _).mono ?_
  rintro e w4 ⟨rfl, hb⟩
  have B4 := Aside0.mk (below_step B2.out hb)
  have N4 := Aside0.mk (blk_below N2.out hb)
  have O4 := Aside0.mk (blk_below O2.out hb)
  have E4 := Aside0.mk (blk_below E2.out hb)
  clear hb B2 N2 O2 E2 n0 n1 n2
  go_wp2_with fail
  refine (must_yes 1 _).mono ?_
  rintro e w5 ⟨rfl, rfl⟩
  have n0 : w5.cell? ⟨w.heap.size, 0, none⟩ = some (.int .i64 a0) := (blk_cell N4.out 0).trans rfl
  have n1 : w5.cell? ⟨w.heap.size, 1, none⟩ = some (.int .i64 a1) := (blk_cell N4.out 1).trans rfl
  have n2 : w5.cell? ⟨w.heap.size, 2, none⟩ = some (.int .i64 a2) := (blk_cell N4.out 2).trans rfl
  have n3 : w5.cell? ⟨w.heap.size, 3, none⟩ = some (.slice (some ad) l.length c) := (blk_cell N4.out 3).trans rfl
  have G5 : w.heap.size < w5.heap.size := blk_lt N4.out
  go_wp2_with fail
  clear n0 n1 n2 n3 N4
  have B5 := Aside0.mk (below_alloc B4.out (.cells #[.int .i64 a0, .int .i64 a1, .int .i64 a2] 23))
  have O5 := Aside0.mk (blk_alloc O4.out (.cells #[.int .i64 a0, .int .i64 a1, .int .i64 a2] 23))
  have E5 := Aside0.mk (blk_alloc E4.out (.cells #[.int .i64 a0, .int .i64 a1, .int .i64 a2] 23))
  have I5 := Aside0.mk (blk_new w5 (.cells #[.int .i64 a0, .int .i64 a1, .int .i64 a2] 23))
  generalize w5.alloc (.cells #[.int .i64 a0, .int .i64 a1, .int .i64 a2] 23) = W at *
  generalize w5.heap.size = g at *
  go_loopw [4, 5, 23] (fun v4 v5 v23 wr => ∃ (k : Nat) (s : S23) (st : List S94) (v : Value) (sw sp : Int), v4 = .int .i64 sw ∧ v5 = .int .i64 sp ∧ v23 = .int .i64 k ∧ k ≤ l.length ∧ (0 ≤ sw ∧ sw ≤ 9216 * k) ∧ (0 ≤ sp ∧ sp ≤ 1327104 * k) ∧ Aside0 (sw = Sy.sumW st) ∧ Aside0 (sp = Sy.sumP st) ∧ Aside0 (Upto ⟨a0, a1, a2⟩ l k s st) ∧ Aside0 (wr.heap[w.heap.size + 1]? = some (.cells #[v] 90 (0, 0))) ∧ Aside0 (Kd.R k94 94 wr w.heap.size (fun _ => True) v st) ∧ Aside0 (wr.heap[w.heap.size + 1 + 1]? = some (.cells #[.int .i64 0] 30 (0, 0))) ∧ Aside0 (wr.heap[g]? = some (.cells #[.int .i64 s.f0, .int .i64 s.f1, .int .i64 s.f2] 23 (0, 0))) ∧ Aside0 (Below w.heap.size w wr)) (fun _ _ v23 _ => l.length - (intOf v23).toNat)
  case atStart =>
    exact ⟨0, ⟨a0, a1, a2⟩, [], .slice none 0 0, 0, 0, rfl, rfl, rfl, Nat.zero_le _, ⟨by omega, by omega⟩, ⟨by omega, by omega⟩, ⟨rfl⟩, ⟨rfl⟩, ⟨⟨HS.out, rfl, by simp, by simp [Sy.sumW], by simp [Sy.sumP]⟩⟩, O5, ⟨Kd.R_nil _ _ _ _ _⟩, E5, I5, B5⟩
  case round =>
    obtain ⟨k, s, st, v, sw, sp, rfl, rfl, rfl, hk, ⟨b1, b2⟩, ⟨b3, b4⟩, HW, HP, HU, HO, HV, HE, HI, HB⟩ := hrel
    by_cases hlt : k < l.length
    · obtain ⟨ad', e, q0, q1, q2, q3⟩ := at_T40 HR.out (k : Int) (by omega) (by omega)
      cases e
      replace q0 := pw_cell_below HB.out q0
      replace q1 := pw_cell_below HB.out q1
      replace q2 := pw_cell_below HB.out q2
      replace q3 := pw_cell_below HB.out q3
      simp only [Int.toNat_natCast] at q0 q1 q2 q3
      have hlay := form_layer _ l HF.out k hlt
      obtain ⟨x, hx⟩ : ∃ x, x = rd_T40 l (k : Int) := ⟨_, rfl⟩
      rw [← hx] at q0 q1 q2 q3 hlay
      have HX := Aside0.mk hx
      have HL := Aside0.mk hlay
      clear hx hlay
      have i0 : wr.cell? ⟨g, 0, none⟩ = some (.int .i64 s.f0) := (blk_cell HI.out 0).trans rfl
      have i1 : wr.cell? ⟨g, 1, none⟩ = some (.int .i64 s.f1) := (blk_cell HI.out 1).trans rfl
      have i2 : wr.cell? ⟨g, 2, none⟩ = some (.int .i64 s.f2) := (blk_cell HI.out 2).trans rfl
      have gi : g < wr.heap.size := blk_lt HI.out
      cases hq : Sy.outO s x with
      | none =>
        have HQ := Aside0.mk hq
        clear hq
        go_wp2_with fail
        refine (next_none s x _ HU.out.right HL.out HQ.out).mono ?_
        rintro e w6 ⟨rfl, hb⟩
        have ea : r = ([], 21) := by
          rw [HRES.out]
          unfold Sy.allR
          rw [if_pos HF.out, if_pos HS.out, HU.out.stop hlt (by rw [← HX.out]; exact HQ.out)]
        exact door_panic_r r 21 ea _ _ w v 0 rfl rfl (blk_below (blk_alloc HO.out (.cells #[.int .i64 x.f0, .int .i64 x.f1, .int .i64 x.f2, .int .i64 x.f3] 40)) hb) (blk_below (blk_alloc HE.out (.cells #[.int .i64 x.f0, .int .i64 x.f1, .int .i64 x.f2, .int .i64 x.f3] 40)) hb) (below_step (below_alloc HB.out (.cells #[.int .i64 x.f0, .int .i64 x.f1, .int .i64 x.f2, .int .i64 x.f3] 40)) hb)
      | some t =>
        have HQ := Aside0.mk hq
        clear hq
        have HU2 := Aside0.mk (HU.out.next hlt (by rw [← HX.out]; exact HQ.out))
        rw [← HX.out] at HU2
        have hbd := out_bd HU.out.right HQ.out
        obtain ⟨y, hy⟩ : ∃ y, y = Sy.stepOf s t x := ⟨_, rfl⟩
        have y3 : 0 ≤ y.f3 ∧ y.f3 ≤ 9216 := by rw [hy]; exact hbd.2.1
        have y4 : 0 ≤ y.f4 ∧ y.f4 ≤ 1327104 := by rw [hy]; exact hbd.2.2
        have HT := Aside0.mk (show y.f2 = t by rw [hy]; rfl)
        rw [← hy] at HU2
        have HY := Aside0.mk hy
        clear hbd hy
        go_wp2_with fail
        refine (next_some s t x y _ HU.out.right HL.out HQ.out HY.out).mono ?_
        rintro e w6 ⟨rfl, hb⟩
        obtain ⟨y31, y32⟩ := y3
        obtain ⟨y41, y42⟩ := y4
        have O6 := Aside0.mk (blk_below (blk_alloc HO.out (.cells #[.int .i64 x.f0, .int .i64 x.f1, .int .i64 x.f2, .int .i64 x.f3] 40)) hb)
        have E6 := Aside0.mk (blk_below (blk_alloc HE.out (.cells #[.int .i64 x.f0, .int .i64 x.f1, .int .i64 x.f2, .int .i64 x.f3] 40)) hb)
        have I6 := Aside0.mk (blk_below (blk_alloc HI.out (.cells #[.int .i64 x.f0, .int .i64 x.f1, .int .i64 x.f2, .int .i64 x.f3] 40)) hb)
        have V6 := Aside0.mk (Kd.R_below (Kd.R_alloc HV.out (.cells #[.int .i64 x.f0, .int .i64 x.f1, .int .i64 x.f2, .int .i64 x.f3] 40)) hb)
        have B6 := Aside0.mk (below_step (below_alloc HB.out (.cells #[.int .i64 x.f0, .int .i64 x.f1, .int .i64 x.f2, .int .i64 x.f3] 40)) hb)
        clear hb HO HE HI HV HB i0 i1 i2 gi q0 q1 q2 q3
        go_upto_region 10 with fail
        have O7 := Aside0.mk (blk_alloc O6.out (.cells #[.int .i64 y.f0.f0, .int .i64 y.f0.f1, .int .i64 y.f0.f2, .int .i64 y.f0.f3, .int .i64 y.f1.f0, .int .i64 y.f1.f1, .int .i64 y.f1.f2, .int .i64 y.f2.f0, .int .i64 y.f2.f1, .int .i64 y.f2.f2, .int .i64 y.f3, .int .i64 y.f4] 94))
        have E7 := Aside0.mk (blk_alloc E6.out (.cells #[.int .i64 y.f0.f0, .int .i64 y.f0.f1, .int .i64 y.f0.f2, .int .i64 y.f0.f3, .int .i64 y.f1.f0, .int .i64 y.f1.f1, .int .i64 y.f1.f2, .int .i64 y.f2.f0, .int .i64 y.f2.f1, .int .i64 y.f2.f2, .int .i64 y.f3, .int .i64 y.f4] 94))
        have I7 := Aside0.mk (blk_alloc I6.out (.cells #[.int .i64 y.f0.f0, .int .i64 y.f0.f1, .int .i64 y.f0.f2, .int .i64 y.f0.f3, .int .i64 y.f1.f0, .int .i64 y.f1.f1, .int .i64 y.f1.f2, .int .i64 y.f2.f0, .int .i64 y.f2.f1, .int .i64 y.f2.f2, .int .i64 y.f3, .int .i64 y.f4] 94))
        have Y7 := Aside0.mk (blk_new w6 (.cells #[.int .i64 y.f0.f0, .int .i64 y.f0.f1, .int .i64 y.f0.f2, .int .i64 y.f0.f3, .int .i64 y.f1.f0, .int .i64 y.f1.f1, .int .i64 y.f1.f2, .int .i64 y.f2.f0, .int .i64 y.f2.f1, .int .i64 y.f2.f2, .int .i64 y.f3, .int .i64 y.f4] 94))
        have V7 := Aside0.mk (Kd.R_alloc V6.out (.cells #[.int .i64 y.f0.f0, .int .i64 y.f0.f1, .int .i64 y.f0.f2, .int .i64 y.f0.f3, .int .i64 y.f1.f0, .int .i64 y.f1.f1, .int .i64 y.f1.f2, .int .i64 y.f2.f0, .int .i64 y.f2.f1, .int .i64 y.f2.f2, .int .i64 y.f3, .int .i64 y.f4] 94))
        have B7 := Aside0.mk (below_alloc B6.out (.cells #[.int .i64 y.f0.f0, .int .i64 y.f0.f1, .int .i64 y.f0.f2, .int .i64 y.f0.f3, .int .i64 y.f1.f0, .int .i64 y.f1.f1, .int .i64 y.f1.f2, .int .i64 y.f2.f0, .int .i64 y.f2.f1, .int .i64 y.f2.f2, .int .i64 y.f3, .int .i64 y.f4] 94))
        have N7 : Aside0 (∀ k, v.ownBlock = some k → k ≠ w6.heap.size) := ⟨fun k hk => Nat.ne_of_lt (Kd.R_lt V6.out k hk)⟩
        clear O6 E6 I6 V6 B6
        generalize w6.alloc (.cells #[.int .i64 y.f0.f0, .int .i64 y.f0.f1, .int .i64 y.f0.f2, .int .i64 y.f0.f3, .int .i64 y.f1.f0, .int .i64 y.f1.f1, .int .i64 y.f1.f2, .int .i64 y.f2.f0, .int .i64 y.f2.f1, .int .i64 y.f2.f2, .int .i64 y.f3, .int .i64 y.f4] 94) = W7 at *
        generalize w6.heap.size = gy at *
        go_cut [] from 30 to 35 (fun wc => ∃ v1, Aside0 (wc.heap[w.heap.size + 1]? = some (.cells #[v1] 90 (0, 0))) ∧ Aside0 (Kd.R k94 94 wc w.heap.size (fun _ => True) v1 (st ++ [y])) ∧ Aside0 (wc.heap[w.heap.size + 1 + 1]? = some (.cells #[.int .i64 0] 30 (0, 0))) ∧ Aside0 (wc.heap[g]? = some (.cells #[.int .i64 y.f2.f0, .int .i64 y.f2.f1, .int .i64 y.f2.f2] 23 (0, 0))) ∧ Aside0 (wc.heap[gy]? = some (.cells #[.int .i64 y.f0.f0, .int .i64 y.f0.f1, .int .i64 y.f0.f2, .int .i64 y.f0.f3, .int .i64 y.f1.f0, .int .i64 y.f1.f1, .int .i64 y.f1.f2, .int .i64 y.f2.f0, .int .i64 y.f2.f1, .int .i64 y.f2.f2, .int .i64 y.f3, .int .i64 y.f4] 94 (0, 0))) ∧ Aside0 (Below w.heap.size w wc))
        case first =>
          have hng : g ≠ w.heap.size + 1 := blk_ne I7.out O7.out (by decide)
          have hgy : gy < W7.heap.size := blk_lt Y7.out
          have hg7o : w.heap.size + 1 < W7.heap.size := blk_lt O7.out
          have hgyo : gy ≠ w.heap.size + 1 := blk_ne Y7.out O7.out (by decide)
          have hgyg : gy ≠ g := blk_ne Y7.out I7.out (by decide)
          have o7 : W7.cell? ⟨w.heap.size + 1, 0, none⟩ = some (v) := (blk_cell O7.out 0).trans rfl
          have y7_0 : W7.cell? ⟨gy, 0, none⟩ = some (.int .i64 y.f0.f0) := (blk_cell Y7.out 0).trans rfl
          have y7_1 : W7.cell? ⟨gy, 1, none⟩ = some (.int .i64 y.f0.f1) := (blk_cell Y7.out 1).trans rfl
          have y7_2 : W7.cell? ⟨gy, 2, none⟩ = some (.int .i64 y.f0.f2) := (blk_cell Y7.out 2).trans rfl
          have y7_3 : W7.cell? ⟨gy, 3, none⟩ = some (.int .i64 y.f0.f3) := (blk_cell Y7.out 3).trans rfl
          have y7_4 : W7.cell? ⟨gy, 4, none⟩ = some (.int .i64 y.f1.f0) := (blk_cell Y7.out 4).trans rfl
          have y7_5 : W7.cell? ⟨gy, 5, none⟩ = some (.int .i64 y.f1.f1) := (blk_cell Y7.out 5).trans rfl
          have y7_6 : W7.cell? ⟨gy, 6, none⟩ = some (.int .i64 y.f1.f2) := (blk_cell Y7.out 6).trans rfl
          have y7_7 : W7.cell? ⟨gy, 7, none⟩ = some (.int .i64 y.f2.f0) := (blk_cell Y7.out 7).trans rfl
          have y7_8 : W7.cell? ⟨gy, 8, none⟩ = some (.int .i64 y.f2.f1) := (blk_cell Y7.out 8).trans rfl
          have y7_9 : W7.cell? ⟨gy, 9, none⟩ = some (.int .i64 y.f2.f2) := (blk_cell Y7.out 9).trans rfl
          have y7_10 : W7.cell? ⟨gy, 10, none⟩ = some (.int .i64 y.f3) := (blk_cell Y7.out 10).trans rfl
          have y7_11 : W7.cell? ⟨gy, 11, none⟩ = some (.int .i64 y.f4) := (blk_cell Y7.out 11).trans rfl
          refine wp_region_noPanic ?_
          go_region_law ((refine Kd.R_append_step k94 (w0 := w) (W := W7.drew) w.heap.size ?aW (.tmp 30) (.tmp 32) 90 94 (.agg #[.int .i64 0, .int .i64 0, .int .i64 0, .int .i64 0, .int .i64 0, .int .i64 0, .int .i64 0, .int .i64 0, .int .i64 0, .int .i64 0, .int .i64 0, .int .i64 0]) 96 ?aC Try.underlying90 info94 rfl (by decide) (by decide) v st y [.int .i64 y.f0.f0, .int .i64 y.f0.f1, .int .i64 y.f0.f2, .int .i64 y.f0.f3, .int .i64 y.f1.f0, .int .i64 y.f1.f1, .int .i64 y.f1.f2, .int .i64 y.f2.f0, .int .i64 y.f2.f1, .int .i64 y.f2.f2, .int .i64 y.f3, .int .i64 y.f4] (fun _ => True) (fun _ => False) ?aX ?aY ?aP (fun _ hk => hk.elim) ?aF ?aO ?aB ?aS ?aL ?_; (case aW => rfl); (case aC => rfl); (case aX => rfl); (case aY => rfl); (case aP => exact k94_mkM _ _ _ y); (case aB => exact below_drew1 B7.out); (case aF => exact (fun _ _ => trivial)); (case aO => exact Kd.R_drew V7.out); (case aS => exact B7.out.size); (case aL => have := HU.out.len; omega); intro v1 w8 ho hb hg hat; obtain ⟨A1, c1, rfl⟩ := Kd.R_slice ho; have O8 := Aside0.mk (blk_grown (w := W7.drew) O7.out hg (Kd.R_ne V7.out O7.out (by decide))); have E8 := Aside0.mk (blk_grown (w := W7.drew) E7.out hg (Kd.R_ne V7.out E7.out (by decide))); have I8 := Aside0.mk (blk_grown (w := W7.drew) I7.out hg (Kd.R_ne V7.out I7.out (by decide))); have Y8 := Aside0.mk (blk_grown (w := W7.drew) Y7.out hg (fun e => N7.out _ e.symm rfl)); have V8 := Aside0.mk (show Kd.R k94 94 w8 w.heap.size (fun _ => True) (.slice A1 (st.length + 1) c1) (st ++ [y]) by simpa using ho); have B8 := Aside0.mk hb; clear ho hb hg hat; have o8 : w8.cell? ⟨w.heap.size + 1, 0, none⟩ = some (v) := (blk_cell O8.out 0).trans rfl; have oz8 : w8.frozen? ⟨w.heap.size + 1, 0, none⟩ = false := blk_frozen O8.out 0; have i8_0 : w8.cell? ⟨g, 0, none⟩ = some (.int .i64 s.f0) := (blk_cell I8.out 0).trans rfl; have iz8_0 : w8.frozen? ⟨g, 0, none⟩ = false := blk_frozen I8.out 0; have i8_1 : w8.cell? ⟨g, 1, none⟩ = some (.int .i64 s.f1) := (blk_cell I8.out 1).trans rfl; have iz8_1 : w8.frozen? ⟨g, 1, none⟩ = false := blk_frozen I8.out 1; have i8_2 : w8.cell? ⟨g, 2, none⟩ = some (.int .i64 s.f2) := (blk_cell I8.out 2).trans rfl; have iz8_2 : w8.frozen? ⟨g, 2, none⟩ = false := blk_frozen I8.out 2; have y8_7 : w8.cell? ⟨gy, 7, none⟩ = some (.int .i64 y.f2.f0) := (blk_cell Y8.out 7).trans rfl; have y8_8 : w8.cell? ⟨gy, 8, none⟩ = some (.int .i64 y.f2.f1) := (blk_cell Y8.out 8).trans rfl; have y8_9 : w8.cell? ⟨gy, 9, none⟩ = some (.int .i64 y.f2.f2) := (blk_cell Y8.out 9).trans rfl))
          all_goals
            refine NoPanic.normal ?_
            go_wp2_with fail
            go_meet
            have hno : w.heap.size + 1 ≠ g := fun e => hng e.symm
            have heo : w.heap.size + 1 + 1 ≠ w.heap.size + 1 := by omega
            have heg : w.heap.size + 1 + 1 ≠ g := blk_ne E8.out I8.out (by decide)
            have ho := far_set (far_set (far_set (blk_set O8.out 0 (.slice A1 (st.length + 1) c1)) hno 0 (.int .i64 y.f2.f0)) hno 1 (.int .i64 y.f2.f1)) hno 2 (.int .i64 y.f2.f2)
            have he := far_set (far_set (far_set (far_set E8.out heo 0 (.slice A1 (st.length + 1) c1)) heg 0 (.int .i64 y.f2.f0)) heg 1 (.int .i64 y.f2.f1)) heg 2 (.int .i64 y.f2.f2)
            have hi := blk_set (blk_set (blk_set (far_set I8.out hng 0 (.slice A1 (st.length + 1) c1)) 0 (.int .i64 y.f2.f0)) 1 (.int .i64 y.f2.f1)) 2 (.int .i64 y.f2.f2)
            have hy := far_set (far_set (far_set (far_set Y8.out hgyo 0 (.slice A1 (st.length + 1) c1)) hgyg 0 (.int .i64 y.f2.f0)) hgyg 1 (.int .i64 y.f2.f1)) hgyg 2 (.int .i64 y.f2.f2)
            have hv := Kd.R_mono (ok' := fun _ => True) (Kd.R_far (p := ⟨g, 2, none⟩) (Kd.R_far (p := ⟨g, 1, none⟩) (Kd.R_far (p := ⟨g, 0, none⟩) (Kd.R_far (p := ⟨w.heap.size + 1, 0, none⟩) (Kd.R_types (Kd.R_types V8.out O8.out (by decide)) I8.out (by decide)) (fun k hk => hk.1.2) (.slice A1 (st.length + 1) c1)) (fun k hk => hk.2) (.int .i64 y.f2.f0)) (fun k hk => hk.2) (.int .i64 y.f2.f1)) (fun k hk => hk.2) (.int .i64 y.f2.f2)) (fun _ _ => trivial)
            have hbl := below_set (g := g) (j := 2) (v := .int .i64 y.f2.f2) (below_set (g := g) (j := 1) (v := .int .i64 y.f2.f1) (below_set (g := g) (j := 0) (v := .int .i64 y.f2.f0) (below_set (g := w.heap.size + 1) (j := 0) (v := .slice A1 (st.length + 1) c1) B8.out (Nat.le_succ _)) (Nat.le_of_lt G5)) (Nat.le_of_lt G5)) (Nat.le_of_lt G5)
            simp only [List.setIfInBounds_toArray, List.set_cons_zero, List.set_cons_succ] at ho hi
            exact ⟨_, ⟨ho⟩, ⟨hv⟩, ⟨he⟩, ⟨hi⟩, ⟨hy⟩, ⟨hbl⟩⟩
        case rest =>
          obtain ⟨v1, O9, V9, E9, I9, Y9, B9⟩ := hcut
          have y9a : wc.cell? ⟨gy, 10, none⟩ = some (.int .i64 y.f3) := (blk_cell Y9.out 10).trans rfl
          have y9b : wc.cell? ⟨gy, 11, none⟩ = some (.int .i64 y.f4) := (blk_cell Y9.out 11).trans rfl
          go_wp2_with fail
          go_roundw
          case rel =>
            exact ⟨k + 1, y.f2, st ++ [y], v1, sw + y.f3, sp + y.f4, rfl, rfl, by go_num, by omega, ⟨by omega, by omega⟩, ⟨by omega, by omega⟩, ⟨by rw [sumW_snoc, HW.out]⟩, ⟨by rw [sumP_snoc, HP.out]⟩, ⟨HT.out ▸ HU2.out⟩, O9, V9, E9, I9, B9⟩
          case measure => simp [intOf]; omega
    · have hkl : k = l.length := by omega
      have HD := Aside0.mk ((show Upto ⟨a0, a1, a2⟩ l l.length s st from hkl ▸ HU.out).done)
      clear hkl
      obtain ⟨A1, c1, hv⟩ := Kd.R_slice HV.out
      subst hv
      have o1 : wr.cell? ⟨w.heap.size + 1, 0, none⟩ = some (.slice A1 st.length c1) := (blk_cell HO.out 0).trans rfl
      have oz1 : wr.frozen? ⟨w.heap.size + 1, 0, none⟩ = false := blk_frozen HO.out 0
      have e1 : wr.cell? ⟨w.heap.size + 1 + 1, 0, none⟩ = some (.int .i64 0) := (blk_cell HE.out 0).trans rfl
      have ez1 : wr.frozen? ⟨w.heap.size + 1 + 1, 0, none⟩ = false := blk_frozen HE.out 0
      by_cases hs : sw ≤ 512
      · by_cases hp : sp ≤ 512
        · have d1 : decide (sw ≤ 512) = true := by simp [hs]
          have d2 : decide (sp ≤ 512) = true := by simp [hp]
          have er : r = (st, 0) := by
            rw [HRES.out]
            unfold Sy.allR
            rw [if_pos HF.out, if_pos HS.out, HD.out]
            show (if Sy.sumW st ≤ 512 ∧ Sy.sumP st ≤ 512 then (st, (0 : Int)) else ([], 5)) = (st, 0)
            rw [if_pos ⟨by rw [← HW.out]; exact hs, by rw [← HP.out]; exact hp⟩]
          have ER := Aside0.mk er
          clear er
          go_wp2_with fail
          refine (must_yes 5 _).mono ?_
          rintro e w6 ⟨rfl, rfl⟩
          go_wp2_with fail
          have heo : w.heap.size + 1 + 1 ≠ w.heap.size + 1 := by omega
          have hoe : w.heap.size + 1 ≠ w.heap.size + 1 + 1 := by omega
          have fo := far_set (blk_set HO.out 0 (.slice A1 st.length c1)) hoe 0 (.int .i64 0)
          have fe := blk_set (far_set HE.out heo 0 (.slice A1 st.length c1)) 0 (.int .i64 0)
          simp only [List.setIfInBounds_toArray, List.set_cons_zero, List.set_cons_succ] at fo fe
          have fv := Kd.R_mono (ok' := fun _ => True) (Kd.R_far (p := ⟨w.heap.size + 1 + 1, 0, none⟩) (Kd.R_far (p := ⟨w.heap.size + 1, 0, none⟩) (Kd.R_types (Kd.R_types HV.out HO.out (by decide)) HE.out (by decide)) (fun k hk => hk.1.2) (.slice A1 st.length c1)) (fun k hk => hk.2) (.int .i64 0)) (fun _ _ => trivial)
          exact door_return_r r st ER.out _ _ w _ rfl rfl fo fe fv (below_set (below_set HB.out (by omega)) (by omega))
        · have d1 : decide (sw ≤ 512) = true := by simp [hs]
          have d2 : decide (sp ≤ 512) = false := by simp [hp]
          have er : r = ([], 5) := by
            rw [HRES.out]
            unfold Sy.allR
            rw [if_pos HF.out, if_pos HS.out, HD.out]
            show (if Sy.sumW st ≤ 512 ∧ Sy.sumP st ≤ 512 then (st, (0 : Int)) else ([], 5)) = ([], 5)
            rw [if_neg (fun h => hp (by rw [HP.out]; exact h.2))]
          have ER := Aside0.mk er
          clear er
          go_wp2_with fail
          refine (must_no 5 _).mono ?_
          rintro e w6 ⟨rfl, rfl⟩
          exact door_panic_r r 5 ER.out _ _ w _ 0 rfl rfl HO.out HE.out HB.out
      · have d1 : decide (sw ≤ 512) = false := by simp [hs]
        have er : r = ([], 5) := by
          rw [HRES.out]
          unfold Sy.allR
          rw [if_pos HF.out, if_pos HS.out, HD.out]
          show (if Sy.sumW st ≤ 512 ∧ Sy.sumP st ≤ 512 then (st, (0 : Int)) else ([], 5)) = ([], 5)
          rw [if_neg (fun h => hs (by rw [HW.out]; exact h.1))]
        have ER := Aside0.mk er
        clear er
        go_wp2_with fail
        refine (must_no 5 _).mono ?_
        rintro e w6 ⟨rfl, rfl⟩
        exact door_panic_r r 5 ER.out _ _ w _ 0 rfl rfl HO.out HE.out HB.out
end Go.Proofs.Ytnfcadjckoebkaa.P
