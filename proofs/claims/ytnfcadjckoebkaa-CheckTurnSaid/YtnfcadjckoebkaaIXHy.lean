import Derived.Test.YtnfcadjckoebkaaIXHx
namespace Go.Proofs.Ytnfcadjckoebkaa.P
open Go.RowKit Go.Proofs.YtnfcadjckoebkaaW.PrintWords Go.Proofs.YtnfcadjckoebkaaW.PrintLast Go.Proofs.YtnfcadjckoebkaaW.PrintMore
set_option linter.unusedSimpArgs false
set_option linter.unusedVariables false
attribute [local go_sem] cell_alloc_drewN frozen_alloc_drewN set_alloc_drewN set_drewN
theorem wrapI {a A : Int} (h : 0 ≤ a ∧ a ≤ A) (hA : A ≤ 4611686018427387904) : IntKind.i64.wrap a = a := IntWalk.i64_in a (by omega)
set_option maxHeartbeats 4000000 in
set_option maxRecDepth 100000 in
theorem next_dense_yes (s : S23) (l : S40) (w : World) (hr : Sy.rightB s = true) (k1 : l.f0 = 4) (hq : 1 ≤ l.f1 ∧ l.f1 ≤ 8) : Calls Try.prog 104 #[.agg #[.int .i64 s.f0, .int .i64 s.f1, .int .i64 s.f2], .agg #[.int .i64 l.f0, .int .i64 l.f1, .int .i64 l.f2, .int .i64 l.f3]] w (NextPost s l w) := by
  have HR := Aside0.mk hr
  have K1 := Aside0.mk k1
  have HQ := Aside0.mk hq
  have e1 : (l.f0 == 1) = false := by simp [k1]
  have e2 : (l.f0 == 2) = false := by simp [k1]
  have e3 : (l.f0 == 3) = false := by simp [k1]
  have d1 : decide (1 ≤ l.f1) = true := by simp [hq.1]
  have d2 : decide (l.f1 ≤ 8) = true := by simp [hq.2]
  clear hr k1 hq
  go_enter Try.func104, Try.ntmps104
  go_upto_region 4 with fail
  have B1 := Aside0.mk (below_alloc (below_alloc (below_alloc (below_alloc (Below.refl w.heap.size w) (.cells #[.int .i64 s.f0, .int .i64 s.f1, .int .i64 s.f2] 23)) (.cells #[.int .i64 l.f0, .int .i64 l.f1, .int .i64 l.f2, .int .i64 l.f3] 40)) (.cells #[.int .i64 0, .int .i64 0, .int .i64 0, .int .i64 0, .int .i64 0, .int .i64 0, .int .i64 0, .int .i64 0, .int .i64 0, .int .i64 0, .int .i64 0, .int .i64 0] 94)) (.cells #[.int .i64 l.f0, .int .i64 l.f1, .int .i64 l.f2, .int .i64 l.f3, .int .i64 s.f0, .int .i64 s.f1, .int .i64 s.f2, .int .i64 s.f0, .int .i64 s.f1, .int .i64 s.f2, .int .i64 0, .int .i64 0] 94))
  have HS1 := Aside0.mk (blk_alloc (blk_alloc (blk_alloc (blk_new w (.cells #[.int .i64 s.f0, .int .i64 s.f1, .int .i64 s.f2] 23)) (.cells #[.int .i64 l.f0, .int .i64 l.f1, .int .i64 l.f2, .int .i64 l.f3] 40)) (.cells #[.int .i64 0, .int .i64 0, .int .i64 0, .int .i64 0, .int .i64 0, .int .i64 0, .int .i64 0, .int .i64 0, .int .i64 0, .int .i64 0, .int .i64 0, .int .i64 0] 94)) (.cells #[.int .i64 l.f0, .int .i64 l.f1, .int .i64 l.f2, .int .i64 l.f3, .int .i64 s.f0, .int .i64 s.f1, .int .i64 s.f2, .int .i64 s.f0, .int .i64 s.f1, .int .i64 s.f2, .int .i64 0, .int .i64 0] 94))
  have HL1 := Aside0.mk (blk_alloc (blk_alloc (blk_new1 w (.cells #[.int .i64 s.f0, .int .i64 s.f1, .int .i64 s.f2] 23) (.cells #[.int .i64 l.f0, .int .i64 l.f1, .int .i64 l.f2, .int .i64 l.f3] 40)) (.cells #[.int .i64 0, .int .i64 0, .int .i64 0, .int .i64 0, .int .i64 0, .int .i64 0, .int .i64 0, .int .i64 0, .int .i64 0, .int .i64 0, .int .i64 0, .int .i64 0] 94)) (.cells #[.int .i64 l.f0, .int .i64 l.f1, .int .i64 l.f2, .int .i64 l.f3, .int .i64 s.f0, .int .i64 s.f1, .int .i64 s.f2, .int .i64 s.f0, .int .i64 s.f1, .int .i64 s.f2, .int .i64 0, .int .i64 0] 94))
  have ZR1 := Aside0.mk (blk_alloc (blk_new2 w (.cells #[.int .i64 s.f0, .int .i64 s.f1, .int .i64 s.f2] 23) (.cells #[.int .i64 l.f0, .int .i64 l.f1, .int .i64 l.f2, .int .i64 l.f3] 40) (.cells #[.int .i64 0, .int .i64 0, .int .i64 0, .int .i64 0, .int .i64 0, .int .i64 0, .int .i64 0, .int .i64 0, .int .i64 0, .int .i64 0, .int .i64 0, .int .i64 0] 94)) (.cells #[.int .i64 l.f0, .int .i64 l.f1, .int .i64 l.f2, .int .i64 l.f3, .int .i64 s.f0, .int .i64 s.f1, .int .i64 s.f2, .int .i64 s.f0, .int .i64 s.f1, .int .i64 s.f2, .int .i64 0, .int .i64 0] 94))
  have ZS1 := Aside0.mk (blk_new3 w (.cells #[.int .i64 s.f0, .int .i64 s.f1, .int .i64 s.f2] 23) (.cells #[.int .i64 l.f0, .int .i64 l.f1, .int .i64 l.f2, .int .i64 l.f3] 40) (.cells #[.int .i64 0, .int .i64 0, .int .i64 0, .int .i64 0, .int .i64 0, .int .i64 0, .int .i64 0, .int .i64 0, .int .i64 0, .int .i64 0, .int .i64 0, .int .i64 0] 94) (.cells #[.int .i64 l.f0, .int .i64 l.f1, .int .i64 l.f2, .int .i64 l.f3, .int .i64 s.f0, .int .i64 s.f1, .int .i64 s.f2, .int .i64 s.f0, .int .i64 s.f1, .int .i64 s.f2, .int .i64 0, .int .i64 0] 94))
  generalize (((w.alloc (.cells #[.int .i64 s.f0, .int .i64 s.f1, .int .i64 s.f2] 23)).alloc (.cells #[.int .i64 l.f0, .int .i64 l.f1, .int .i64 l.f2, .int .i64 l.f3] 40)).alloc (.cells #[.int .i64 0, .int .i64 0, .int .i64 0, .int .i64 0, .int .i64 0, .int .i64 0, .int .i64 0, .int .i64 0, .int .i64 0, .int .i64 0, .int .i64 0, .int .i64 0] 94)).alloc (.cells #[.int .i64 l.f0, .int .i64 l.f1, .int .i64 l.f2, .int .i64 l.f3, .int .i64 s.f0, .int .i64 s.f1, .int .i64 s.f2, .int .i64 s.f0, .int .i64 s.f1, .int .i64 s.f2, .int .i64 0, .int .i64 0] 94) = W at *
  have B2 := Aside0.mk B1.out
  have HS2 := Aside0.mk (blk_below HS1.out (Below.refl _ _))
  have HL2 := Aside0.mk (blk_below HL1.out (Below.refl _ _))
  have ZR2 := Aside0.mk (blk_below ZR1.out (Below.refl _ _))
  have ZS2 := Aside0.mk (blk_below ZS1.out (Below.refl _ _))
  clear B1 HS1 HL1 ZR1 ZS1
  have sc0 : W.cell? ⟨w.heap.size, 0, none⟩ = some (.int .i64 s.f0) := (blk_cell HS2.out 0).trans rfl
  have sc1 : W.cell? ⟨w.heap.size, 1, none⟩ = some (.int .i64 s.f1) := (blk_cell HS2.out 1).trans rfl
  have sc2 : W.cell? ⟨w.heap.size, 2, none⟩ = some (.int .i64 s.f2) := (blk_cell HS2.out 2).trans rfl
  have lc0 : W.cell? ⟨w.heap.size + 1, 0, none⟩ = some (.int .i64 l.f0) := (blk_cell HL2.out 0).trans rfl
  have lc1 : W.cell? ⟨w.heap.size + 1, 1, none⟩ = some (.int .i64 l.f1) := (blk_cell HL2.out 1).trans rfl
  have lc2 : W.cell? ⟨w.heap.size + 1, 2, none⟩ = some (.int .i64 l.f2) := (blk_cell HL2.out 2).trans rfl
  have lc3 : W.cell? ⟨w.heap.size + 1, 3, none⟩ = some (.int .i64 l.f3) := (blk_cell HL2.out 3).trans rfl
  have xc0 : W.cell? ⟨w.heap.size + 1 + 1 + 1, 0, none⟩ = some (.int .i64 l.f0) := (blk_cell ZS2.out 0).trans rfl
  have xc1 : W.cell? ⟨w.heap.size + 1 + 1 + 1, 1, none⟩ = some (.int .i64 l.f1) := (blk_cell ZS2.out 1).trans rfl
  have xc2 : W.cell? ⟨w.heap.size + 1 + 1 + 1, 2, none⟩ = some (.int .i64 l.f2) := (blk_cell ZS2.out 2).trans rfl
  have xc3 : W.cell? ⟨w.heap.size + 1 + 1 + 1, 3, none⟩ = some (.int .i64 l.f3) := (blk_cell ZS2.out 3).trans rfl
  have xc4 : W.cell? ⟨w.heap.size + 1 + 1 + 1, 4, none⟩ = some (.int .i64 s.f0) := (blk_cell ZS2.out 4).trans rfl
  have xc5 : W.cell? ⟨w.heap.size + 1 + 1 + 1, 5, none⟩ = some (.int .i64 s.f1) := (blk_cell ZS2.out 5).trans rfl
  have xc6 : W.cell? ⟨w.heap.size + 1 + 1 + 1, 6, none⟩ = some (.int .i64 s.f2) := (blk_cell ZS2.out 6).trans rfl
  have xc7 : W.cell? ⟨w.heap.size + 1 + 1 + 1, 7, none⟩ = some (.int .i64 s.f0) := (blk_cell ZS2.out 7).trans rfl
  have xc8 : W.cell? ⟨w.heap.size + 1 + 1 + 1, 8, none⟩ = some (.int .i64 s.f1) := (blk_cell ZS2.out 8).trans rfl
  have xc9 : W.cell? ⟨w.heap.size + 1 + 1 + 1, 9, none⟩ = some (.int .i64 s.f2) := (blk_cell ZS2.out 9).trans rfl
  have xc10 : W.cell? ⟨w.heap.size + 1 + 1 + 1, 10, none⟩ = some (.int .i64 0) := (blk_cell ZS2.out 10).trans rfl
  have xc11 : W.cell? ⟨w.heap.size + 1 + 1 + 1, 11, none⟩ = some (.int .i64 0) := (blk_cell ZS2.out 11).trans rfl
  have xz0 : W.frozen? ⟨w.heap.size + 1 + 1 + 1, 0, none⟩ = false := blk_frozen ZS2.out 0
  have xz1 : W.frozen? ⟨w.heap.size + 1 + 1 + 1, 1, none⟩ = false := blk_frozen ZS2.out 1
  have xz2 : W.frozen? ⟨w.heap.size + 1 + 1 + 1, 2, none⟩ = false := blk_frozen ZS2.out 2
  have xz3 : W.frozen? ⟨w.heap.size + 1 + 1 + 1, 3, none⟩ = false := blk_frozen ZS2.out 3
  have xz4 : W.frozen? ⟨w.heap.size + 1 + 1 + 1, 4, none⟩ = false := blk_frozen ZS2.out 4
  have xz5 : W.frozen? ⟨w.heap.size + 1 + 1 + 1, 5, none⟩ = false := blk_frozen ZS2.out 5
  have xz6 : W.frozen? ⟨w.heap.size + 1 + 1 + 1, 6, none⟩ = false := blk_frozen ZS2.out 6
  have xz7 : W.frozen? ⟨w.heap.size + 1 + 1 + 1, 7, none⟩ = false := blk_frozen ZS2.out 7
  have xz8 : W.frozen? ⟨w.heap.size + 1 + 1 + 1, 8, none⟩ = false := blk_frozen ZS2.out 8
  have xz9 : W.frozen? ⟨w.heap.size + 1 + 1 + 1, 9, none⟩ = false := blk_frozen ZS2.out 9
  have xz10 : W.frozen? ⟨w.heap.size + 1 + 1 + 1, 10, none⟩ = false := blk_frozen ZS2.out 10
  have xz11 : W.frozen? ⟨w.heap.size + 1 + 1 + 1, 11, none⟩ = false := blk_frozen ZS2.out 11
  have rc0 : W.cell? ⟨w.heap.size + 1 + 1, 0, none⟩ = some (.int .i64 0) := (blk_cell ZR2.out 0).trans rfl
  have rc1 : W.cell? ⟨w.heap.size + 1 + 1, 1, none⟩ = some (.int .i64 0) := (blk_cell ZR2.out 1).trans rfl
  have rc2 : W.cell? ⟨w.heap.size + 1 + 1, 2, none⟩ = some (.int .i64 0) := (blk_cell ZR2.out 2).trans rfl
  have rc3 : W.cell? ⟨w.heap.size + 1 + 1, 3, none⟩ = some (.int .i64 0) := (blk_cell ZR2.out 3).trans rfl
  have rc4 : W.cell? ⟨w.heap.size + 1 + 1, 4, none⟩ = some (.int .i64 0) := (blk_cell ZR2.out 4).trans rfl
  have rc5 : W.cell? ⟨w.heap.size + 1 + 1, 5, none⟩ = some (.int .i64 0) := (blk_cell ZR2.out 5).trans rfl
  have rc6 : W.cell? ⟨w.heap.size + 1 + 1, 6, none⟩ = some (.int .i64 0) := (blk_cell ZR2.out 6).trans rfl
  have rc7 : W.cell? ⟨w.heap.size + 1 + 1, 7, none⟩ = some (.int .i64 0) := (blk_cell ZR2.out 7).trans rfl
  have rc8 : W.cell? ⟨w.heap.size + 1 + 1, 8, none⟩ = some (.int .i64 0) := (blk_cell ZR2.out 8).trans rfl
  have rc9 : W.cell? ⟨w.heap.size + 1 + 1, 9, none⟩ = some (.int .i64 0) := (blk_cell ZR2.out 9).trans rfl
  have rc10 : W.cell? ⟨w.heap.size + 1 + 1, 10, none⟩ = some (.int .i64 0) := (blk_cell ZR2.out 10).trans rfl
  have rc11 : W.cell? ⟨w.heap.size + 1 + 1, 11, none⟩ = some (.int .i64 0) := (blk_cell ZR2.out 11).trans rfl
  have rz0 : W.frozen? ⟨w.heap.size + 1 + 1, 0, none⟩ = false := blk_frozen ZR2.out 0
  have rz1 : W.frozen? ⟨w.heap.size + 1 + 1, 1, none⟩ = false := blk_frozen ZR2.out 1
  have rz2 : W.frozen? ⟨w.heap.size + 1 + 1, 2, none⟩ = false := blk_frozen ZR2.out 2
  have rz3 : W.frozen? ⟨w.heap.size + 1 + 1, 3, none⟩ = false := blk_frozen ZR2.out 3
  have rz4 : W.frozen? ⟨w.heap.size + 1 + 1, 4, none⟩ = false := blk_frozen ZR2.out 4
  have rz5 : W.frozen? ⟨w.heap.size + 1 + 1, 5, none⟩ = false := blk_frozen ZR2.out 5
  have rz6 : W.frozen? ⟨w.heap.size + 1 + 1, 6, none⟩ = false := blk_frozen ZR2.out 6
  have rz7 : W.frozen? ⟨w.heap.size + 1 + 1, 7, none⟩ = false := blk_frozen ZR2.out 7
  have rz8 : W.frozen? ⟨w.heap.size + 1 + 1, 8, none⟩ = false := blk_frozen ZR2.out 8
  have rz9 : W.frozen? ⟨w.heap.size + 1 + 1, 9, none⟩ = false := blk_frozen ZR2.out 9
  have rz10 : W.frozen? ⟨w.heap.size + 1 + 1, 10, none⟩ = false := blk_frozen ZR2.out 10
  have rz11 : W.frozen? ⟨w.heap.size + 1 + 1, 11, none⟩ = false := blk_frozen ZR2.out 11
  go_region
  go_upto_region 5 with fail
  clear sc0 sc1 sc2 lc0 lc1 lc2 lc3 xc0 xz0 rc0 rz0 xc1 xz1 rc1 rz1 xc2 xz2 rc2 rz2 xc3 xz3 rc3 rz3 xc4 xz4 rc4 rz4 xc5 xz5 rc5 rz5 xc6 xz6 rc6 rz6 xc7 xz7 rc7 rz7 xc8 xz8 rc8 rz8 xc9 xz9 rc9 rz9 xc10 xz10 rc10 rz10 xc11 xz11 rc11 rz11
  have n0 : w.heap.size ≠ w.heap.size + 1 + 1 + 1 := by omega
  have n1 : w.heap.size + 1 ≠ w.heap.size + 1 + 1 + 1 := by omega
  have n2 : w.heap.size + 1 + 1 ≠ w.heap.size + 1 + 1 + 1 := by omega
  have hge3 : w.heap.size ≤ w.heap.size + 1 + 1 + 1 := by omega
  have B3 := Aside0.mk (below_drew1 (below_set (g := w.heap.size + 1 + 1 + 1) (j := 9) (v := .int .i64 1) (below_set (g := w.heap.size + 1 + 1 + 1) (j := 8) (v := .int .i64 1) (below_set (g := w.heap.size + 1 + 1 + 1) (j := 7) (v := .int .i64 l.f1) B2.out hge3) hge3) hge3))
  have HS3 := Aside0.mk (blk_drew (far_set (far_set (far_set HS2.out n0 7 (.int .i64 (l.f1))) n0 8 (.int .i64 (1))) n0 9 (.int .i64 (1))))
  have HL3 := Aside0.mk (blk_drew (far_set (far_set (far_set HL2.out n1 7 (.int .i64 (l.f1))) n1 8 (.int .i64 (1))) n1 9 (.int .i64 (1))))
  have ZR3 := Aside0.mk (blk_drew (far_set (far_set (far_set ZR2.out n2 7 (.int .i64 (l.f1))) n2 8 (.int .i64 (1))) n2 9 (.int .i64 (1))))
  have ZS3 := Aside0.mk (blk_drew (blk_set (blk_set (blk_set ZS2.out 7 (.int .i64 l.f1)) 8 (.int .i64 1)) 9 (.int .i64 1)))
  simp only [List.setIfInBounds_toArray, List.set_cons_zero, List.set_cons_succ] at ZS3
  clear B2 HS2 HL2 ZR2 ZS2 n0 n1 n2 hge3
  generalize (((W.setCell ⟨w.heap.size + 1 + 1 + 1, 7, none⟩ (.int .i64 l.f1)).setCell ⟨w.heap.size + 1 + 1 + 1, 8, none⟩ (.int .i64 1)).setCell ⟨w.heap.size + 1 + 1 + 1, 9, none⟩ (.int .i64 1)).drew = W3 at *
  have sc0 : W3.cell? ⟨w.heap.size, 0, none⟩ = some (.int .i64 s.f0) := (blk_cell HS3.out 0).trans rfl
  have sc1 : W3.cell? ⟨w.heap.size, 1, none⟩ = some (.int .i64 s.f1) := (blk_cell HS3.out 1).trans rfl
  have sc2 : W3.cell? ⟨w.heap.size, 2, none⟩ = some (.int .i64 s.f2) := (blk_cell HS3.out 2).trans rfl
  have lc1 : W3.cell? ⟨w.heap.size + 1, 1, none⟩ = some (.int .i64 l.f1) := (blk_cell HL3.out 1).trans rfl
  have hwr : IntKind.i64.wrap (l.f1 * Sy.sizeI s) = l.f1 * Sy.sizeI s := by
    have hsz := size_bd HR.out
    have hm := mulB (a := l.f1) (b := Sy.sizeI s) (A := 8) (B := 128) (by have := HQ.out; omega) hsz
    exact wrapI hm (by decide)
  go_cut [] (fun wc => Aside0 (Below w.heap.size w wc) ∧ Aside0 (wc.heap[w.heap.size + 1 + 1]? = some (.cells #[.int .i64 0, .int .i64 0, .int .i64 0, .int .i64 0, .int .i64 0, .int .i64 0, .int .i64 0, .int .i64 0, .int .i64 0, .int .i64 0, .int .i64 0, .int .i64 0] 94 (0, 0))) ∧ Aside0 (wc.heap[w.heap.size + 1 + 1 + 1]? = some (.cells #[.int .i64 l.f0, .int .i64 l.f1, .int .i64 l.f2, .int .i64 l.f3, .int .i64 s.f0, .int .i64 s.f1, .int .i64 s.f2, .int .i64 l.f1, .int .i64 1, .int .i64 1, .int .i64 (l.f1 * Sy.sizeI s), .int .i64 0] 94 (0, 0))))
  case first =>
    go_region_held3 (fun w' => w'.cell? ⟨w.heap.size, 0, none⟩ = some (.int .i64 s.f0) ∧ w'.cell? ⟨w.heap.size, 1, none⟩ = some (.int .i64 s.f1) ∧ w'.cell? ⟨w.heap.size, 2, none⟩ = some (.int .i64 s.f2) ∧ w'.cell? ⟨w.heap.size + 1, 1, none⟩ = some (.int .i64 l.f1)) (first | go_keep | (exact ⟨cell_far (by assumption) (by omega) _, cell_far (by assumption) (by omega) _, cell_far (by assumption) (by omega) _, cell_far (by assumption) (by omega) _⟩)) (first | (go_at_call 83; refine (size_calls s _).mono ?_; rintro e w5 ⟨rfl, hb⟩; have B5 := Aside0.mk (below_step (below_drew1 B3.out) hb); have ZR5 := Aside0.mk (blk_below (blk_drew ZR3.out) hb); have ZS5 := Aside0.mk (blk_below (blk_drew ZS3.out) hb); have HL5 := Aside0.mk (blk_below (blk_drew HL3.out) hb); have HS5 := Aside0.mk (blk_below (blk_drew HS3.out) hb); clear hb; have lc5 : w5.cell? ⟨w.heap.size + 1, 1, none⟩ = some (.int .i64 l.f1) := (blk_cell HL5.out 1).trans rfl; have sc50 : w5.cell? ⟨w.heap.size, 0, none⟩ = some (.int .i64 s.f0) := (blk_cell HS5.out 0).trans rfl; have sc51 : w5.cell? ⟨w.heap.size, 1, none⟩ = some (.int .i64 s.f1) := (blk_cell HS5.out 1).trans rfl; have sc52 : w5.cell? ⟨w.heap.size, 2, none⟩ = some (.int .i64 s.f2) := (blk_cell HS5.out 2).trans rfl; have xc5 : w5.cell? ⟨w.heap.size + 1 + 1 + 1, 10, none⟩ = some (.int .i64 0) := (blk_cell ZS5.out 10).trans rfl; have xz5 : w5.frozen? ⟨w.heap.size + 1 + 1 + 1, 10, none⟩ = false := blk_frozen ZS5.out 10))
    all_goals
      go_wp2_with fail
      go_meet
      refine ⟨⟨below_set (g := w.heap.size + 1 + 1 + 1) B5.out (by omega)⟩, ⟨far_set ZR5.out (by omega) 10 _⟩, ⟨?_⟩⟩
      have h := blk_set ZS5.out 10 (.int .i64 (l.f1 * Sy.sizeI s))
      simp only [List.setIfInBounds_toArray, List.set_cons_zero, List.set_cons_succ] at h
      exact h
  case rest =>
    obtain ⟨C1, C2, C3⟩ := hcut
    have xc0 : wc.cell? ⟨w.heap.size + 1 + 1 + 1, 0, none⟩ = some (.int .i64 l.f0) := (blk_cell C3.out 0).trans rfl
    have xc1 : wc.cell? ⟨w.heap.size + 1 + 1 + 1, 1, none⟩ = some (.int .i64 l.f1) := (blk_cell C3.out 1).trans rfl
    have xc2 : wc.cell? ⟨w.heap.size + 1 + 1 + 1, 2, none⟩ = some (.int .i64 l.f2) := (blk_cell C3.out 2).trans rfl
    have xc3 : wc.cell? ⟨w.heap.size + 1 + 1 + 1, 3, none⟩ = some (.int .i64 l.f3) := (blk_cell C3.out 3).trans rfl
    have xc4 : wc.cell? ⟨w.heap.size + 1 + 1 + 1, 4, none⟩ = some (.int .i64 s.f0) := (blk_cell C3.out 4).trans rfl
    have xc5 : wc.cell? ⟨w.heap.size + 1 + 1 + 1, 5, none⟩ = some (.int .i64 s.f1) := (blk_cell C3.out 5).trans rfl
    have xc6 : wc.cell? ⟨w.heap.size + 1 + 1 + 1, 6, none⟩ = some (.int .i64 s.f2) := (blk_cell C3.out 6).trans rfl
    have xc7 : wc.cell? ⟨w.heap.size + 1 + 1 + 1, 7, none⟩ = some (.int .i64 l.f1) := (blk_cell C3.out 7).trans rfl
    have xc8 : wc.cell? ⟨w.heap.size + 1 + 1 + 1, 8, none⟩ = some (.int .i64 1) := (blk_cell C3.out 8).trans rfl
    have xc9 : wc.cell? ⟨w.heap.size + 1 + 1 + 1, 9, none⟩ = some (.int .i64 1) := (blk_cell C3.out 9).trans rfl
    have xc10 : wc.cell? ⟨w.heap.size + 1 + 1 + 1, 10, none⟩ = some (.int .i64 (l.f1 * Sy.sizeI s)) := (blk_cell C3.out 10).trans rfl
    have xc11 : wc.cell? ⟨w.heap.size + 1 + 1 + 1, 11, none⟩ = some (.int .i64 0) := (blk_cell C3.out 11).trans rfl
    have xz0 : wc.frozen? ⟨w.heap.size + 1 + 1 + 1, 0, none⟩ = false := blk_frozen C3.out 0
    have xz1 : wc.frozen? ⟨w.heap.size + 1 + 1 + 1, 1, none⟩ = false := blk_frozen C3.out 1
    have xz2 : wc.frozen? ⟨w.heap.size + 1 + 1 + 1, 2, none⟩ = false := blk_frozen C3.out 2
    have xz3 : wc.frozen? ⟨w.heap.size + 1 + 1 + 1, 3, none⟩ = false := blk_frozen C3.out 3
    have xz4 : wc.frozen? ⟨w.heap.size + 1 + 1 + 1, 4, none⟩ = false := blk_frozen C3.out 4
    have xz5 : wc.frozen? ⟨w.heap.size + 1 + 1 + 1, 5, none⟩ = false := blk_frozen C3.out 5
    have xz6 : wc.frozen? ⟨w.heap.size + 1 + 1 + 1, 6, none⟩ = false := blk_frozen C3.out 6
    have xz7 : wc.frozen? ⟨w.heap.size + 1 + 1 + 1, 7, none⟩ = false := blk_frozen C3.out 7
    have xz8 : wc.frozen? ⟨w.heap.size + 1 + 1 + 1, 8, none⟩ = false := blk_frozen C3.out 8
    have xz9 : wc.frozen? ⟨w.heap.size + 1 + 1 + 1, 9, none⟩ = false := blk_frozen C3.out 9
    have xz10 : wc.frozen? ⟨w.heap.size + 1 + 1 + 1, 10, none⟩ = false := blk_frozen C3.out 10
    have xz11 : wc.frozen? ⟨w.heap.size + 1 + 1 + 1, 11, none⟩ = false := blk_frozen C3.out 11
    have rc0 : wc.cell? ⟨w.heap.size + 1 + 1, 0, none⟩ = some (.int .i64 0) := (blk_cell C2.out 0).trans rfl
    have rc1 : wc.cell? ⟨w.heap.size + 1 + 1, 1, none⟩ = some (.int .i64 0) := (blk_cell C2.out 1).trans rfl
    have rc2 : wc.cell? ⟨w.heap.size + 1 + 1, 2, none⟩ = some (.int .i64 0) := (blk_cell C2.out 2).trans rfl
    have rc3 : wc.cell? ⟨w.heap.size + 1 + 1, 3, none⟩ = some (.int .i64 0) := (blk_cell C2.out 3).trans rfl
    have rc4 : wc.cell? ⟨w.heap.size + 1 + 1, 4, none⟩ = some (.int .i64 0) := (blk_cell C2.out 4).trans rfl
    have rc5 : wc.cell? ⟨w.heap.size + 1 + 1, 5, none⟩ = some (.int .i64 0) := (blk_cell C2.out 5).trans rfl
    have rc6 : wc.cell? ⟨w.heap.size + 1 + 1, 6, none⟩ = some (.int .i64 0) := (blk_cell C2.out 6).trans rfl
    have rc7 : wc.cell? ⟨w.heap.size + 1 + 1, 7, none⟩ = some (.int .i64 0) := (blk_cell C2.out 7).trans rfl
    have rc8 : wc.cell? ⟨w.heap.size + 1 + 1, 8, none⟩ = some (.int .i64 0) := (blk_cell C2.out 8).trans rfl
    have rc9 : wc.cell? ⟨w.heap.size + 1 + 1, 9, none⟩ = some (.int .i64 0) := (blk_cell C2.out 9).trans rfl
    have rc10 : wc.cell? ⟨w.heap.size + 1 + 1, 10, none⟩ = some (.int .i64 0) := (blk_cell C2.out 10).trans rfl
    have rc11 : wc.cell? ⟨w.heap.size + 1 + 1, 11, none⟩ = some (.int .i64 0) := (blk_cell C2.out 11).trans rfl
    have rz0 : wc.frozen? ⟨w.heap.size + 1 + 1, 0, none⟩ = false := blk_frozen C2.out 0
    have rz1 : wc.frozen? ⟨w.heap.size + 1 + 1, 1, none⟩ = false := blk_frozen C2.out 1
    have rz2 : wc.frozen? ⟨w.heap.size + 1 + 1, 2, none⟩ = false := blk_frozen C2.out 2
    have rz3 : wc.frozen? ⟨w.heap.size + 1 + 1, 3, none⟩ = false := blk_frozen C2.out 3
    have rz4 : wc.frozen? ⟨w.heap.size + 1 + 1, 4, none⟩ = false := blk_frozen C2.out 4
    have rz5 : wc.frozen? ⟨w.heap.size + 1 + 1, 5, none⟩ = false := blk_frozen C2.out 5
    have rz6 : wc.frozen? ⟨w.heap.size + 1 + 1, 6, none⟩ = false := blk_frozen C2.out 6
    have rz7 : wc.frozen? ⟨w.heap.size + 1 + 1, 7, none⟩ = false := blk_frozen C2.out 7
    have rz8 : wc.frozen? ⟨w.heap.size + 1 + 1, 8, none⟩ = false := blk_frozen C2.out 8
    have rz9 : wc.frozen? ⟨w.heap.size + 1 + 1, 9, none⟩ = false := blk_frozen C2.out 9
    have rz10 : wc.frozen? ⟨w.heap.size + 1 + 1, 10, none⟩ = false := blk_frozen C2.out 10
    have rz11 : wc.frozen? ⟨w.heap.size + 1 + 1, 11, none⟩ = false := blk_frozen C2.out 11
    go_wp2_with fail
    refine (must_yes 21 _).mono ?_
    rintro e w4 ⟨rfl, rfl⟩
    go_wp2_with fail
    have hne : w.heap.size + 1 + 1 ≠ w.heap.size + 1 + 1 + 1 := by omega
    have HZ := put12 (far_set C2.out hne 11 (.int .i64 (l.f1 * Sy.sizeI s))) (.int .i64 (l.f0)) (.int .i64 (l.f1)) (.int .i64 (l.f2)) (.int .i64 (l.f3)) (.int .i64 (s.f0)) (.int .i64 (s.f1)) (.int .i64 (s.f2)) (.int .i64 (l.f1)) (.int .i64 (1)) (.int .i64 (1)) (.int .i64 (l.f1 * Sy.sizeI s)) (.int .i64 (l.f1 * Sy.sizeI s))
    have hge3 : w.heap.size ≤ w.heap.size + 1 + 1 + 1 := by omega
    have hge2 : w.heap.size ≤ w.heap.size + 1 + 1 := by omega
    have HBB := below_put12 (g := w.heap.size + 1 + 1) (below_set (g := w.heap.size + 1 + 1 + 1) (j := 11) (v := .int .i64 (l.f1 * Sy.sizeI s)) C1.out hge3) hge2 (.int .i64 (l.f0)) (.int .i64 (l.f1)) (.int .i64 (l.f2)) (.int .i64 (l.f3)) (.int .i64 (s.f0)) (.int .i64 (s.f1)) (.int .i64 (s.f2)) (.int .i64 (l.f1)) (.int .i64 (1)) (.int .i64 (1)) (.int .i64 (l.f1 * Sy.sizeI s)) (.int .i64 (l.f1 * Sy.sizeI s))
    refine bodyPost_ret (results_cell_row rfl _ _ (w.heap.size + 1 + 1) 94 #[.int .i64 (l.f0), .int .i64 (l.f1), .int .i64 (l.f2), .int .i64 (l.f3), .int .i64 (s.f0), .int .i64 (s.f1), .int .i64 (s.f2), .int .i64 (l.f1), .int .i64 (1), .int .i64 (1), .int .i64 (l.f1 * Sy.sizeI s), .int .i64 (l.f1 * Sy.sizeI s)] (0, 0) _ rfl HZ Try.underlying94 rfl (by kernel_rfl)) rfl ?_
    refine ⟨HBB, ?_⟩
    clear HZ HBB
    have ho : Sy.outO s l = some ⟨l.f1, 1, 1⟩ := by unfold Sy.outO; rw [if_neg (by rw [K1.out]; decide), if_neg (by rw [K1.out]; decide), if_neg (by rw [K1.out]; decide), if_pos HQ.out]
    rw [ho]
    refine congrArg Ending.returned ?_
    unfold stepV Sy.stepOf Sy.prods Sy.wts
    rw [if_neg (by rw [K1.out]; decide), if_neg (by rw [K1.out]; decide), if_neg (by rw [K1.out]; decide), if_neg (by rw [K1.out]; decide), if_neg (by rw [K1.out]; decide), if_neg (by rw [K1.out]; decide)]
set_option maxHeartbeats 4000000 in
set_option maxRecDepth 100000 in
theorem next_dense_lo (s : S23) (l : S40) (w : World) (hr : Sy.rightB s = true) (k1 : l.f0 = 4) (hb1 : 0 ≤ l.f1 ∧ l.f1 ≤ 999999) (hq : l.f1 < 1) : Calls Try.prog 104 #[.agg #[.int .i64 s.f0, .int .i64 s.f1, .int .i64 s.f2], .agg #[.int .i64 l.f0, .int .i64 l.f1, .int .i64 l.f2, .int .i64 l.f3]] w (NextPost s l w) := by
  have HR := Aside0.mk hr
  have K1 := Aside0.mk k1
  have HQ := Aside0.mk hq
  have HB1 := Aside0.mk hb1
  have e1 : (l.f0 == 1) = false := by simp [k1]
  have e2 : (l.f0 == 2) = false := by simp [k1]
  have e3 : (l.f0 == 3) = false := by simp [k1]
  have d1 : decide (1 ≤ l.f1) = false := by simp; omega
  clear hr k1 hq hb1
  go_enter Try.func104, Try.ntmps104
  go_upto_region 4 with fail
  have B1 := Aside0.mk (below_alloc (below_alloc (below_alloc (below_alloc (Below.refl w.heap.size w) (.cells #[.int .i64 s.f0, .int .i64 s.f1, .int .i64 s.f2] 23)) (.cells #[.int .i64 l.f0, .int .i64 l.f1, .int .i64 l.f2, .int .i64 l.f3] 40)) (.cells #[.int .i64 0, .int .i64 0, .int .i64 0, .int .i64 0, .int .i64 0, .int .i64 0, .int .i64 0, .int .i64 0, .int .i64 0, .int .i64 0, .int .i64 0, .int .i64 0] 94)) (.cells #[.int .i64 l.f0, .int .i64 l.f1, .int .i64 l.f2, .int .i64 l.f3, .int .i64 s.f0, .int .i64 s.f1, .int .i64 s.f2, .int .i64 s.f0, .int .i64 s.f1, .int .i64 s.f2, .int .i64 0, .int .i64 0] 94))
  have HS1 := Aside0.mk (blk_alloc (blk_alloc (blk_alloc (blk_new w (.cells #[.int .i64 s.f0, .int .i64 s.f1, .int .i64 s.f2] 23)) (.cells #[.int .i64 l.f0, .int .i64 l.f1, .int .i64 l.f2, .int .i64 l.f3] 40)) (.cells #[.int .i64 0, .int .i64 0, .int .i64 0, .int .i64 0, .int .i64 0, .int .i64 0, .int .i64 0, .int .i64 0, .int .i64 0, .int .i64 0, .int .i64 0, .int .i64 0] 94)) (.cells #[.int .i64 l.f0, .int .i64 l.f1, .int .i64 l.f2, .int .i64 l.f3, .int .i64 s.f0, .int .i64 s.f1, .int .i64 s.f2, .int .i64 s.f0, .int .i64 s.f1, .int .i64 s.f2, .int .i64 0, .int .i64 0] 94))
  have HL1 := Aside0.mk (blk_alloc (blk_alloc (blk_new1 w (.cells #[.int .i64 s.f0, .int .i64 s.f1, .int .i64 s.f2] 23) (.cells #[.int .i64 l.f0, .int .i64 l.f1, .int .i64 l.f2, .int .i64 l.f3] 40)) (.cells #[.int .i64 0, .int .i64 0, .int .i64 0, .int .i64 0, .int .i64 0, .int .i64 0, .int .i64 0, .int .i64 0, .int .i64 0, .int .i64 0, .int .i64 0, .int .i64 0] 94)) (.cells #[.int .i64 l.f0, .int .i64 l.f1, .int .i64 l.f2, .int .i64 l.f3, .int .i64 s.f0, .int .i64 s.f1, .int .i64 s.f2, .int .i64 s.f0, .int .i64 s.f1, .int .i64 s.f2, .int .i64 0, .int .i64 0] 94))
  have ZR1 := Aside0.mk (blk_alloc (blk_new2 w (.cells #[.int .i64 s.f0, .int .i64 s.f1, .int .i64 s.f2] 23) (.cells #[.int .i64 l.f0, .int .i64 l.f1, .int .i64 l.f2, .int .i64 l.f3] 40) (.cells #[.int .i64 0, .int .i64 0, .int .i64 0, .int .i64 0, .int .i64 0, .int .i64 0, .int .i64 0, .int .i64 0, .int .i64 0, .int .i64 0, .int .i64 0, .int .i64 0] 94)) (.cells #[.int .i64 l.f0, .int .i64 l.f1, .int .i64 l.f2, .int .i64 l.f3, .int .i64 s.f0, .int .i64 s.f1, .int .i64 s.f2, .int .i64 s.f0, .int .i64 s.f1, .int .i64 s.f2, .int .i64 0, .int .i64 0] 94))
  have ZS1 := Aside0.mk (blk_new3 w (.cells #[.int .i64 s.f0, .int .i64 s.f1, .int .i64 s.f2] 23) (.cells #[.int .i64 l.f0, .int .i64 l.f1, .int .i64 l.f2, .int .i64 l.f3] 40) (.cells #[.int .i64 0, .int .i64 0, .int .i64 0, .int .i64 0, .int .i64 0, .int .i64 0, .int .i64 0, .int .i64 0, .int .i64 0, .int .i64 0, .int .i64 0, .int .i64 0] 94) (.cells #[.int .i64 l.f0, .int .i64 l.f1, .int .i64 l.f2, .int .i64 l.f3, .int .i64 s.f0, .int .i64 s.f1, .int .i64 s.f2, .int .i64 s.f0, .int .i64 s.f1, .int .i64 s.f2, .int .i64 0, .int .i64 0] 94))
  generalize (((w.alloc (.cells #[.int .i64 s.f0, .int .i64 s.f1, .int .i64 s.f2] 23)).alloc (.cells #[.int .i64 l.f0, .int .i64 l.f1, .int .i64 l.f2, .int .i64 l.f3] 40)).alloc (.cells #[.int .i64 0, .int .i64 0, .int .i64 0, .int .i64 0, .int .i64 0, .int .i64 0, .int .i64 0, .int .i64 0, .int .i64 0, .int .i64 0, .int .i64 0, .int .i64 0] 94)).alloc (.cells #[.int .i64 l.f0, .int .i64 l.f1, .int .i64 l.f2, .int .i64 l.f3, .int .i64 s.f0, .int .i64 s.f1, .int .i64 s.f2, .int .i64 s.f0, .int .i64 s.f1, .int .i64 s.f2, .int .i64 0, .int .i64 0] 94) = W at *
  have B2 := Aside0.mk B1.out
  have HS2 := Aside0.mk (blk_below HS1.out (Below.refl _ _))
  have HL2 := Aside0.mk (blk_below HL1.out (Below.refl _ _))
  have ZR2 := Aside0.mk (blk_below ZR1.out (Below.refl _ _))
  have ZS2 := Aside0.mk (blk_below ZS1.out (Below.refl _ _))
  clear B1 HS1 HL1 ZR1 ZS1
  have sc0 : W.cell? ⟨w.heap.size, 0, none⟩ = some (.int .i64 s.f0) := (blk_cell HS2.out 0).trans rfl
  have sc1 : W.cell? ⟨w.heap.size, 1, none⟩ = some (.int .i64 s.f1) := (blk_cell HS2.out 1).trans rfl
  have sc2 : W.cell? ⟨w.heap.size, 2, none⟩ = some (.int .i64 s.f2) := (blk_cell HS2.out 2).trans rfl
  have lc0 : W.cell? ⟨w.heap.size + 1, 0, none⟩ = some (.int .i64 l.f0) := (blk_cell HL2.out 0).trans rfl
  have lc1 : W.cell? ⟨w.heap.size + 1, 1, none⟩ = some (.int .i64 l.f1) := (blk_cell HL2.out 1).trans rfl
  have lc2 : W.cell? ⟨w.heap.size + 1, 2, none⟩ = some (.int .i64 l.f2) := (blk_cell HL2.out 2).trans rfl
  have lc3 : W.cell? ⟨w.heap.size + 1, 3, none⟩ = some (.int .i64 l.f3) := (blk_cell HL2.out 3).trans rfl
  have xc0 : W.cell? ⟨w.heap.size + 1 + 1 + 1, 0, none⟩ = some (.int .i64 l.f0) := (blk_cell ZS2.out 0).trans rfl
  have xc1 : W.cell? ⟨w.heap.size + 1 + 1 + 1, 1, none⟩ = some (.int .i64 l.f1) := (blk_cell ZS2.out 1).trans rfl
  have xc2 : W.cell? ⟨w.heap.size + 1 + 1 + 1, 2, none⟩ = some (.int .i64 l.f2) := (blk_cell ZS2.out 2).trans rfl
  have xc3 : W.cell? ⟨w.heap.size + 1 + 1 + 1, 3, none⟩ = some (.int .i64 l.f3) := (blk_cell ZS2.out 3).trans rfl
  have xc4 : W.cell? ⟨w.heap.size + 1 + 1 + 1, 4, none⟩ = some (.int .i64 s.f0) := (blk_cell ZS2.out 4).trans rfl
  have xc5 : W.cell? ⟨w.heap.size + 1 + 1 + 1, 5, none⟩ = some (.int .i64 s.f1) := (blk_cell ZS2.out 5).trans rfl
  have xc6 : W.cell? ⟨w.heap.size + 1 + 1 + 1, 6, none⟩ = some (.int .i64 s.f2) := (blk_cell ZS2.out 6).trans rfl
  have xc7 : W.cell? ⟨w.heap.size + 1 + 1 + 1, 7, none⟩ = some (.int .i64 s.f0) := (blk_cell ZS2.out 7).trans rfl
  have xc8 : W.cell? ⟨w.heap.size + 1 + 1 + 1, 8, none⟩ = some (.int .i64 s.f1) := (blk_cell ZS2.out 8).trans rfl
  have xc9 : W.cell? ⟨w.heap.size + 1 + 1 + 1, 9, none⟩ = some (.int .i64 s.f2) := (blk_cell ZS2.out 9).trans rfl
  have xc10 : W.cell? ⟨w.heap.size + 1 + 1 + 1, 10, none⟩ = some (.int .i64 0) := (blk_cell ZS2.out 10).trans rfl
  have xc11 : W.cell? ⟨w.heap.size + 1 + 1 + 1, 11, none⟩ = some (.int .i64 0) := (blk_cell ZS2.out 11).trans rfl
  have xz0 : W.frozen? ⟨w.heap.size + 1 + 1 + 1, 0, none⟩ = false := blk_frozen ZS2.out 0
  have xz1 : W.frozen? ⟨w.heap.size + 1 + 1 + 1, 1, none⟩ = false := blk_frozen ZS2.out 1
  have xz2 : W.frozen? ⟨w.heap.size + 1 + 1 + 1, 2, none⟩ = false := blk_frozen ZS2.out 2
  have xz3 : W.frozen? ⟨w.heap.size + 1 + 1 + 1, 3, none⟩ = false := blk_frozen ZS2.out 3
  have xz4 : W.frozen? ⟨w.heap.size + 1 + 1 + 1, 4, none⟩ = false := blk_frozen ZS2.out 4
  have xz5 : W.frozen? ⟨w.heap.size + 1 + 1 + 1, 5, none⟩ = false := blk_frozen ZS2.out 5
  have xz6 : W.frozen? ⟨w.heap.size + 1 + 1 + 1, 6, none⟩ = false := blk_frozen ZS2.out 6
  have xz7 : W.frozen? ⟨w.heap.size + 1 + 1 + 1, 7, none⟩ = false := blk_frozen ZS2.out 7
  have xz8 : W.frozen? ⟨w.heap.size + 1 + 1 + 1, 8, none⟩ = false := blk_frozen ZS2.out 8
  have xz9 : W.frozen? ⟨w.heap.size + 1 + 1 + 1, 9, none⟩ = false := blk_frozen ZS2.out 9
  have xz10 : W.frozen? ⟨w.heap.size + 1 + 1 + 1, 10, none⟩ = false := blk_frozen ZS2.out 10
  have xz11 : W.frozen? ⟨w.heap.size + 1 + 1 + 1, 11, none⟩ = false := blk_frozen ZS2.out 11
  have rc0 : W.cell? ⟨w.heap.size + 1 + 1, 0, none⟩ = some (.int .i64 0) := (blk_cell ZR2.out 0).trans rfl
  have rc1 : W.cell? ⟨w.heap.size + 1 + 1, 1, none⟩ = some (.int .i64 0) := (blk_cell ZR2.out 1).trans rfl
  have rc2 : W.cell? ⟨w.heap.size + 1 + 1, 2, none⟩ = some (.int .i64 0) := (blk_cell ZR2.out 2).trans rfl
  have rc3 : W.cell? ⟨w.heap.size + 1 + 1, 3, none⟩ = some (.int .i64 0) := (blk_cell ZR2.out 3).trans rfl
  have rc4 : W.cell? ⟨w.heap.size + 1 + 1, 4, none⟩ = some (.int .i64 0) := (blk_cell ZR2.out 4).trans rfl
  have rc5 : W.cell? ⟨w.heap.size + 1 + 1, 5, none⟩ = some (.int .i64 0) := (blk_cell ZR2.out 5).trans rfl
  have rc6 : W.cell? ⟨w.heap.size + 1 + 1, 6, none⟩ = some (.int .i64 0) := (blk_cell ZR2.out 6).trans rfl
  have rc7 : W.cell? ⟨w.heap.size + 1 + 1, 7, none⟩ = some (.int .i64 0) := (blk_cell ZR2.out 7).trans rfl
  have rc8 : W.cell? ⟨w.heap.size + 1 + 1, 8, none⟩ = some (.int .i64 0) := (blk_cell ZR2.out 8).trans rfl
  have rc9 : W.cell? ⟨w.heap.size + 1 + 1, 9, none⟩ = some (.int .i64 0) := (blk_cell ZR2.out 9).trans rfl
  have rc10 : W.cell? ⟨w.heap.size + 1 + 1, 10, none⟩ = some (.int .i64 0) := (blk_cell ZR2.out 10).trans rfl
  have rc11 : W.cell? ⟨w.heap.size + 1 + 1, 11, none⟩ = some (.int .i64 0) := (blk_cell ZR2.out 11).trans rfl
  have rz0 : W.frozen? ⟨w.heap.size + 1 + 1, 0, none⟩ = false := blk_frozen ZR2.out 0
  have rz1 : W.frozen? ⟨w.heap.size + 1 + 1, 1, none⟩ = false := blk_frozen ZR2.out 1
  have rz2 : W.frozen? ⟨w.heap.size + 1 + 1, 2, none⟩ = false := blk_frozen ZR2.out 2
  have rz3 : W.frozen? ⟨w.heap.size + 1 + 1, 3, none⟩ = false := blk_frozen ZR2.out 3
  have rz4 : W.frozen? ⟨w.heap.size + 1 + 1, 4, none⟩ = false := blk_frozen ZR2.out 4
  have rz5 : W.frozen? ⟨w.heap.size + 1 + 1, 5, none⟩ = false := blk_frozen ZR2.out 5
  have rz6 : W.frozen? ⟨w.heap.size + 1 + 1, 6, none⟩ = false := blk_frozen ZR2.out 6
  have rz7 : W.frozen? ⟨w.heap.size + 1 + 1, 7, none⟩ = false := blk_frozen ZR2.out 7
  have rz8 : W.frozen? ⟨w.heap.size + 1 + 1, 8, none⟩ = false := blk_frozen ZR2.out 8
  have rz9 : W.frozen? ⟨w.heap.size + 1 + 1, 9, none⟩ = false := blk_frozen ZR2.out 9
  have rz10 : W.frozen? ⟨w.heap.size + 1 + 1, 10, none⟩ = false := blk_frozen ZR2.out 10
  have rz11 : W.frozen? ⟨w.heap.size + 1 + 1, 11, none⟩ = false := blk_frozen ZR2.out 11
  go_region
  go_upto_region 5 with fail
  clear sc0 sc1 sc2 lc0 lc1 lc2 lc3 xc0 xz0 rc0 rz0 xc1 xz1 rc1 rz1 xc2 xz2 rc2 rz2 xc3 xz3 rc3 rz3 xc4 xz4 rc4 rz4 xc5 xz5 rc5 rz5 xc6 xz6 rc6 rz6 xc7 xz7 rc7 rz7 xc8 xz8 rc8 rz8 xc9 xz9 rc9 rz9 xc10 xz10 rc10 rz10 xc11 xz11 rc11 rz11
  have n0 : w.heap.size ≠ w.heap.size + 1 + 1 + 1 := by omega
  have n1 : w.heap.size + 1 ≠ w.heap.size + 1 + 1 + 1 := by omega
  have n2 : w.heap.size + 1 + 1 ≠ w.heap.size + 1 + 1 + 1 := by omega
  have hge3 : w.heap.size ≤ w.heap.size + 1 + 1 + 1 := by omega
  have B3 := Aside0.mk (below_drew1 (below_set (g := w.heap.size + 1 + 1 + 1) (j := 9) (v := .int .i64 1) (below_set (g := w.heap.size + 1 + 1 + 1) (j := 8) (v := .int .i64 1) (below_set (g := w.heap.size + 1 + 1 + 1) (j := 7) (v := .int .i64 l.f1) B2.out hge3) hge3) hge3))
  have HS3 := Aside0.mk (blk_drew (far_set (far_set (far_set HS2.out n0 7 (.int .i64 (l.f1))) n0 8 (.int .i64 (1))) n0 9 (.int .i64 (1))))
  have HL3 := Aside0.mk (blk_drew (far_set (far_set (far_set HL2.out n1 7 (.int .i64 (l.f1))) n1 8 (.int .i64 (1))) n1 9 (.int .i64 (1))))
  have ZR3 := Aside0.mk (blk_drew (far_set (far_set (far_set ZR2.out n2 7 (.int .i64 (l.f1))) n2 8 (.int .i64 (1))) n2 9 (.int .i64 (1))))
  have ZS3 := Aside0.mk (blk_drew (blk_set (blk_set (blk_set ZS2.out 7 (.int .i64 l.f1)) 8 (.int .i64 1)) 9 (.int .i64 1)))
  simp only [List.setIfInBounds_toArray, List.set_cons_zero, List.set_cons_succ] at ZS3
  clear B2 HS2 HL2 ZR2 ZS2 n0 n1 n2 hge3
  generalize (((W.setCell ⟨w.heap.size + 1 + 1 + 1, 7, none⟩ (.int .i64 l.f1)).setCell ⟨w.heap.size + 1 + 1 + 1, 8, none⟩ (.int .i64 1)).setCell ⟨w.heap.size + 1 + 1 + 1, 9, none⟩ (.int .i64 1)).drew = W3 at *
  have sc0 : W3.cell? ⟨w.heap.size, 0, none⟩ = some (.int .i64 s.f0) := (blk_cell HS3.out 0).trans rfl
  have sc1 : W3.cell? ⟨w.heap.size, 1, none⟩ = some (.int .i64 s.f1) := (blk_cell HS3.out 1).trans rfl
  have sc2 : W3.cell? ⟨w.heap.size, 2, none⟩ = some (.int .i64 s.f2) := (blk_cell HS3.out 2).trans rfl
  have lc1 : W3.cell? ⟨w.heap.size + 1, 1, none⟩ = some (.int .i64 l.f1) := (blk_cell HL3.out 1).trans rfl
  have hwr : IntKind.i64.wrap (l.f1 * Sy.sizeI s) = l.f1 * Sy.sizeI s := by
    have hsz := size_bd HR.out
    have hm := mulB (a := l.f1) (b := Sy.sizeI s) (A := 999999) (B := 128) HB1.out hsz
    exact wrapI hm (by decide)
  go_cut [] (fun wc => Aside0 (Below w.heap.size w wc) ∧ Aside0 (wc.heap[w.heap.size + 1 + 1]? = some (.cells #[.int .i64 0, .int .i64 0, .int .i64 0, .int .i64 0, .int .i64 0, .int .i64 0, .int .i64 0, .int .i64 0, .int .i64 0, .int .i64 0, .int .i64 0, .int .i64 0] 94 (0, 0))) ∧ Aside0 (wc.heap[w.heap.size + 1 + 1 + 1]? = some (.cells #[.int .i64 l.f0, .int .i64 l.f1, .int .i64 l.f2, .int .i64 l.f3, .int .i64 s.f0, .int .i64 s.f1, .int .i64 s.f2, .int .i64 l.f1, .int .i64 1, .int .i64 1, .int .i64 (l.f1 * Sy.sizeI s), .int .i64 0] 94 (0, 0))))
  case first =>
    go_region_held3 (fun w' => w'.cell? ⟨w.heap.size, 0, none⟩ = some (.int .i64 s.f0) ∧ w'.cell? ⟨w.heap.size, 1, none⟩ = some (.int .i64 s.f1) ∧ w'.cell? ⟨w.heap.size, 2, none⟩ = some (.int .i64 s.f2) ∧ w'.cell? ⟨w.heap.size + 1, 1, none⟩ = some (.int .i64 l.f1)) (first | go_keep | (exact ⟨cell_far (by assumption) (by omega) _, cell_far (by assumption) (by omega) _, cell_far (by assumption) (by omega) _, cell_far (by assumption) (by omega) _⟩)) (first | (go_at_call 83; refine (size_calls s _).mono ?_; rintro e w5 ⟨rfl, hb⟩; have B5 := Aside0.mk (below_step (below_drew1 B3.out) hb); have ZR5 := Aside0.mk (blk_below (blk_drew ZR3.out) hb); have ZS5 := Aside0.mk (blk_below (blk_drew ZS3.out) hb); have HL5 := Aside0.mk (blk_below (blk_drew HL3.out) hb); have HS5 := Aside0.mk (blk_below (blk_drew HS3.out) hb); clear hb; have lc5 : w5.cell? ⟨w.heap.size + 1, 1, none⟩ = some (.int .i64 l.f1) := (blk_cell HL5.out 1).trans rfl; have sc50 : w5.cell? ⟨w.heap.size, 0, none⟩ = some (.int .i64 s.f0) := (blk_cell HS5.out 0).trans rfl; have sc51 : w5.cell? ⟨w.heap.size, 1, none⟩ = some (.int .i64 s.f1) := (blk_cell HS5.out 1).trans rfl; have sc52 : w5.cell? ⟨w.heap.size, 2, none⟩ = some (.int .i64 s.f2) := (blk_cell HS5.out 2).trans rfl; have xc5 : w5.cell? ⟨w.heap.size + 1 + 1 + 1, 10, none⟩ = some (.int .i64 0) := (blk_cell ZS5.out 10).trans rfl; have xz5 : w5.frozen? ⟨w.heap.size + 1 + 1 + 1, 10, none⟩ = false := blk_frozen ZS5.out 10))
    all_goals
      go_wp2_with fail
      go_meet
      refine ⟨⟨below_set (g := w.heap.size + 1 + 1 + 1) B5.out (by omega)⟩, ⟨far_set ZR5.out (by omega) 10 _⟩, ⟨?_⟩⟩
      have h := blk_set ZS5.out 10 (.int .i64 (l.f1 * Sy.sizeI s))
      simp only [List.setIfInBounds_toArray, List.set_cons_zero, List.set_cons_succ] at h
      exact h
  case rest =>
    obtain ⟨C1, C2, C3⟩ := hcut
    have xc0 : wc.cell? ⟨w.heap.size + 1 + 1 + 1, 0, none⟩ = some (.int .i64 l.f0) := (blk_cell C3.out 0).trans rfl
    have xc1 : wc.cell? ⟨w.heap.size + 1 + 1 + 1, 1, none⟩ = some (.int .i64 l.f1) := (blk_cell C3.out 1).trans rfl
    have xc2 : wc.cell? ⟨w.heap.size + 1 + 1 + 1, 2, none⟩ = some (.int .i64 l.f2) := (blk_cell C3.out 2).trans rfl
    have xc3 : wc.cell? ⟨w.heap.size + 1 + 1 + 1, 3, none⟩ = some (.int .i64 l.f3) := (blk_cell C3.out 3).trans rfl
    have xc4 : wc.cell? ⟨w.heap.size + 1 + 1 + 1, 4, none⟩ = some (.int .i64 s.f0) := (blk_cell C3.out 4).trans rfl
    have xc5 : wc.cell? ⟨w.heap.size + 1 + 1 + 1, 5, none⟩ = some (.int .i64 s.f1) := (blk_cell C3.out 5).trans rfl
    have xc6 : wc.cell? ⟨w.heap.size + 1 + 1 + 1, 6, none⟩ = some (.int .i64 s.f2) := (blk_cell C3.out 6).trans rfl
    have xc7 : wc.cell? ⟨w.heap.size + 1 + 1 + 1, 7, none⟩ = some (.int .i64 l.f1) := (blk_cell C3.out 7).trans rfl
    have xc8 : wc.cell? ⟨w.heap.size + 1 + 1 + 1, 8, none⟩ = some (.int .i64 1) := (blk_cell C3.out 8).trans rfl
    have xc9 : wc.cell? ⟨w.heap.size + 1 + 1 + 1, 9, none⟩ = some (.int .i64 1) := (blk_cell C3.out 9).trans rfl
    have xc10 : wc.cell? ⟨w.heap.size + 1 + 1 + 1, 10, none⟩ = some (.int .i64 (l.f1 * Sy.sizeI s)) := (blk_cell C3.out 10).trans rfl
    have xc11 : wc.cell? ⟨w.heap.size + 1 + 1 + 1, 11, none⟩ = some (.int .i64 0) := (blk_cell C3.out 11).trans rfl
    have xz0 : wc.frozen? ⟨w.heap.size + 1 + 1 + 1, 0, none⟩ = false := blk_frozen C3.out 0
    have xz1 : wc.frozen? ⟨w.heap.size + 1 + 1 + 1, 1, none⟩ = false := blk_frozen C3.out 1
    have xz2 : wc.frozen? ⟨w.heap.size + 1 + 1 + 1, 2, none⟩ = false := blk_frozen C3.out 2
    have xz3 : wc.frozen? ⟨w.heap.size + 1 + 1 + 1, 3, none⟩ = false := blk_frozen C3.out 3
    have xz4 : wc.frozen? ⟨w.heap.size + 1 + 1 + 1, 4, none⟩ = false := blk_frozen C3.out 4
    have xz5 : wc.frozen? ⟨w.heap.size + 1 + 1 + 1, 5, none⟩ = false := blk_frozen C3.out 5
    have xz6 : wc.frozen? ⟨w.heap.size + 1 + 1 + 1, 6, none⟩ = false := blk_frozen C3.out 6
    have xz7 : wc.frozen? ⟨w.heap.size + 1 + 1 + 1, 7, none⟩ = false := blk_frozen C3.out 7
    have xz8 : wc.frozen? ⟨w.heap.size + 1 + 1 + 1, 8, none⟩ = false := blk_frozen C3.out 8
    have xz9 : wc.frozen? ⟨w.heap.size + 1 + 1 + 1, 9, none⟩ = false := blk_frozen C3.out 9
    have xz10 : wc.frozen? ⟨w.heap.size + 1 + 1 + 1, 10, none⟩ = false := blk_frozen C3.out 10
    have xz11 : wc.frozen? ⟨w.heap.size + 1 + 1 + 1, 11, none⟩ = false := blk_frozen C3.out 11
    have rc0 : wc.cell? ⟨w.heap.size + 1 + 1, 0, none⟩ = some (.int .i64 0) := (blk_cell C2.out 0).trans rfl
    have rc1 : wc.cell? ⟨w.heap.size + 1 + 1, 1, none⟩ = some (.int .i64 0) := (blk_cell C2.out 1).trans rfl
    have rc2 : wc.cell? ⟨w.heap.size + 1 + 1, 2, none⟩ = some (.int .i64 0) := (blk_cell C2.out 2).trans rfl
    have rc3 : wc.cell? ⟨w.heap.size + 1 + 1, 3, none⟩ = some (.int .i64 0) := (blk_cell C2.out 3).trans rfl
    have rc4 : wc.cell? ⟨w.heap.size + 1 + 1, 4, none⟩ = some (.int .i64 0) := (blk_cell C2.out 4).trans rfl
    have rc5 : wc.cell? ⟨w.heap.size + 1 + 1, 5, none⟩ = some (.int .i64 0) := (blk_cell C2.out 5).trans rfl
    have rc6 : wc.cell? ⟨w.heap.size + 1 + 1, 6, none⟩ = some (.int .i64 0) := (blk_cell C2.out 6).trans rfl
    have rc7 : wc.cell? ⟨w.heap.size + 1 + 1, 7, none⟩ = some (.int .i64 0) := (blk_cell C2.out 7).trans rfl
    have rc8 : wc.cell? ⟨w.heap.size + 1 + 1, 8, none⟩ = some (.int .i64 0) := (blk_cell C2.out 8).trans rfl
    have rc9 : wc.cell? ⟨w.heap.size + 1 + 1, 9, none⟩ = some (.int .i64 0) := (blk_cell C2.out 9).trans rfl
    have rc10 : wc.cell? ⟨w.heap.size + 1 + 1, 10, none⟩ = some (.int .i64 0) := (blk_cell C2.out 10).trans rfl
    have rc11 : wc.cell? ⟨w.heap.size + 1 + 1, 11, none⟩ = some (.int .i64 0) := (blk_cell C2.out 11).trans rfl
    have rz0 : wc.frozen? ⟨w.heap.size + 1 + 1, 0, none⟩ = false := blk_frozen C2.out 0
    have rz1 : wc.frozen? ⟨w.heap.size + 1 + 1, 1, none⟩ = false := blk_frozen C2.out 1
    have rz2 : wc.frozen? ⟨w.heap.size + 1 + 1, 2, none⟩ = false := blk_frozen C2.out 2
    have rz3 : wc.frozen? ⟨w.heap.size + 1 + 1, 3, none⟩ = false := blk_frozen C2.out 3
    have rz4 : wc.frozen? ⟨w.heap.size + 1 + 1, 4, none⟩ = false := blk_frozen C2.out 4
    have rz5 : wc.frozen? ⟨w.heap.size + 1 + 1, 5, none⟩ = false := blk_frozen C2.out 5
    have rz6 : wc.frozen? ⟨w.heap.size + 1 + 1, 6, none⟩ = false := blk_frozen C2.out 6
    have rz7 : wc.frozen? ⟨w.heap.size + 1 + 1, 7, none⟩ = false := blk_frozen C2.out 7
    have rz8 : wc.frozen? ⟨w.heap.size + 1 + 1, 8, none⟩ = false := blk_frozen C2.out 8
    have rz9 : wc.frozen? ⟨w.heap.size + 1 + 1, 9, none⟩ = false := blk_frozen C2.out 9
    have rz10 : wc.frozen? ⟨w.heap.size + 1 + 1, 10, none⟩ = false := blk_frozen C2.out 10
    have rz11 : wc.frozen? ⟨w.heap.size + 1 + 1, 11, none⟩ = false := blk_frozen C2.out 11
    go_wp2_with fail
    refine (must_no 21 _).mono ?_
    rintro e w4 ⟨rfl, rfl⟩
    have hq := HQ.out
    have ho : Sy.outO s l = none := by unfold Sy.outO; rw [if_neg (by rw [K1.out]; decide), if_neg (by rw [K1.out]; decide), if_neg (by rw [K1.out]; decide), if_neg (by omega)]
    have hge3 : w.heap.size ≤ w.heap.size + 1 + 1 + 1 := by omega
    refine ⟨rfl, ?_, by rw [ho]⟩
    with_reducible repeat (first | exact C1.out | refine below_set ?_ hge3)
set_option maxHeartbeats 4000000 in
set_option maxRecDepth 100000 in
theorem next_dense_hi (s : S23) (l : S40) (w : World) (hr : Sy.rightB s = true) (k1 : l.f0 = 4) (hb1 : 0 ≤ l.f1 ∧ l.f1 ≤ 999999) (hq : 8 < l.f1) : Calls Try.prog 104 #[.agg #[.int .i64 s.f0, .int .i64 s.f1, .int .i64 s.f2], .agg #[.int .i64 l.f0, .int .i64 l.f1, .int .i64 l.f2, .int .i64 l.f3]] w (NextPost s l w) := by
  have HR := Aside0.mk hr
  have K1 := Aside0.mk k1
  have HQ := Aside0.mk hq
  have HB1 := Aside0.mk hb1
  have e1 : (l.f0 == 1) = false := by simp [k1]
  have e2 : (l.f0 == 2) = false := by simp [k1]
  have e3 : (l.f0 == 3) = false := by simp [k1]
  have d1 : decide (1 ≤ l.f1) = true := by simp; omega
  have d2 : decide (l.f1 ≤ 8) = false := by simp; omega
  clear hr k1 hq hb1
  go_enter Try.func104, Try.ntmps104
  go_upto_region 4 with fail
  have B1 := Aside0.mk (below_alloc (below_alloc (below_alloc (below_alloc (Below.refl w.heap.size w) (.cells #[.int .i64 s.f0, .int .i64 s.f1, .int .i64 s.f2] 23)) (.cells #[.int .i64 l.f0, .int .i64 l.f1, .int .i64 l.f2, .int .i64 l.f3] 40)) (.cells #[.int .i64 0, .int .i64 0, .int .i64 0, .int .i64 0, .int .i64 0, .int .i64 0, .int .i64 0, .int .i64 0, .int .i64 0, .int .i64 0, .int .i64 0, .int .i64 0] 94)) (.cells #[.int .i64 l.f0, .int .i64 l.f1, .int .i64 l.f2, .int .i64 l.f3, .int .i64 s.f0, .int .i64 s.f1, .int .i64 s.f2, .int .i64 s.f0, .int .i64 s.f1, .int .i64 s.f2, .int .i64 0, .int .i64 0] 94))
  have HS1 := Aside0.mk (blk_alloc (blk_alloc (blk_alloc (blk_new w (.cells #[.int .i64 s.f0, .int .i64 s.f1, .int .i64 s.f2] 23)) (.cells #[.int .i64 l.f0, .int .i64 l.f1, .int .i64 l.f2, .int .i64 l.f3] 40)) (.cells #[.int .i64 0, .int .i64 0, .int .i64 0, .int .i64 0, .int .i64 0, .int .i64 0, .int .i64 0, .int .i64 0, .int .i64 0, .int .i64 0, .int .i64 0, .int .i64 0] 94)) (.cells #[.int .i64 l.f0, .int .i64 l.f1, .int .i64 l.f2, .int .i64 l.f3, .int .i64 s.f0, .int .i64 s.f1, .int .i64 s.f2, .int .i64 s.f0, .int .i64 s.f1, .int .i64 s.f2, .int .i64 0, .int .i64 0] 94))
  have HL1 := Aside0.mk (blk_alloc (blk_alloc (blk_new1 w (.cells #[.int .i64 s.f0, .int .i64 s.f1, .int .i64 s.f2] 23) (.cells #[.int .i64 l.f0, .int .i64 l.f1, .int .i64 l.f2, .int .i64 l.f3] 40)) (.cells #[.int .i64 0, .int .i64 0, .int .i64 0, .int .i64 0, .int .i64 0, .int .i64 0, .int .i64 0, .int .i64 0, .int .i64 0, .int .i64 0, .int .i64 0, .int .i64 0] 94)) (.cells #[.int .i64 l.f0, .int .i64 l.f1, .int .i64 l.f2, .int .i64 l.f3, .int .i64 s.f0, .int .i64 s.f1, .int .i64 s.f2, .int .i64 s.f0, .int .i64 s.f1, .int .i64 s.f2, .int .i64 0, .int .i64 0] 94))
  have ZR1 := Aside0.mk (blk_alloc (blk_new2 w (.cells #[.int .i64 s.f0, .int .i64 s.f1, .int .i64 s.f2] 23) (.cells #[.int .i64 l.f0, .int .i64 l.f1, .int .i64 l.f2, .int .i64 l.f3] 40) (.cells #[.int .i64 0, .int .i64 0, .int .i64 0, .int .i64 0, .int .i64 0, .int .i64 0, .int .i64 0, .int .i64 0, .int .i64 0, .int .i64 0, .int .i64 0, .int .i64 0] 94)) (.cells #[.int .i64 l.f0, .int .i64 l.f1, .int .i64 l.f2, .int .i64 l.f3, .int .i64 s.f0, .int .i64 s.f1, .int .i64 s.f2, .int .i64 s.f0, .int .i64 s.f1, .int .i64 s.f2, .int .i64 0, .int .i64 0] 94))
  have ZS1 := Aside0.mk (blk_new3 w (.cells #[.int .i64 s.f0, .int .i64 s.f1, .int .i64 s.f2] 23) (.cells #[.int .i64 l.f0, .int .i64 l.f1, .int .i64 l.f2, .int .i64 l.f3] 40) (.cells #[.int .i64 0, .int .i64 0, .int .i64 0, .int .i64 0, .int .i64 0, .int .i64 0, .int .i64 0, .int .i64 0, .int .i64 0, .int .i64 0, .int .i64 0, .int .i64 0] 94) (.cells #[.int .i64 l.f0, .int .i64 l.f1, .int .i64 l.f2, .int .i64 l.f3, .int .i64 s.f0, .int .i64 s.f1, .int .i64 s.f2, .int .i64 s.f0, .int .i64 s.f1, .int .i64 s.f2, .int .i64 0, .int .i64 0] 94))
  generalize (((w.alloc (.cells #[.int .i64 s.f0, .int .i64 s.f1, .int .i64 s.f2] 23)).alloc (.cells #[.int .i64 l.f0, .int .i64 l.f1, .int .i64 l.f2, .int .i64 l.f3] 40)).alloc (.cells #[.int .i64 0, .int .i64 0, .int .i64 0, .int .i64 0, .int .i64 0, .int .i64 0, .int .i64 0, .int .i64 0, .int .i64 0, .int .i64 0, .int .i64 0, .int .i64 0] 94)).alloc (.cells #[.int .i64 l.f0, .int .i64 l.f1, .int .i64 l.f2, .int .i64 l.f3, .int .i64 s.f0, .int .i64 s.f1, .int .i64 s.f2, .int .i64 s.f0, .int .i64 s.f1, .int .i64 s.f2, .int .i64 0, .int .i64 0] 94) = W at *
  have B2 := Aside0.mk B1.out
  have HS2 := Aside0.mk (blk_below HS1.out (Below.refl _ _))
  have HL2 := Aside0.mk (blk_below HL1.out (Below.refl _ _))
  have ZR2 := Aside0.mk (blk_below ZR1.out (Below.refl _ _))
  have ZS2 := Aside0.mk (blk_below ZS1.out (Below.refl _ _))
  clear B1 HS1 HL1 ZR1 ZS1
  have sc0 : W.cell? ⟨w.heap.size, 0, none⟩ = some (.int .i64 s.f0) := (blk_cell HS2.out 0).trans rfl
  have sc1 : W.cell? ⟨w.heap.size, 1, none⟩ = some (.int .i64 s.f1) := (blk_cell HS2.out 1).trans rfl
  have sc2 : W.cell? ⟨w.heap.size, 2, none⟩ = some (.int .i64 s.f2) := (blk_cell HS2.out 2).trans rfl
  have lc0 : W.cell? ⟨w.heap.size + 1, 0, none⟩ = some (.int .i64 l.f0) := (blk_cell HL2.out 0).trans rfl
  have lc1 : W.cell? ⟨w.heap.size + 1, 1, none⟩ = some (.int .i64 l.f1) := (blk_cell HL2.out 1).trans rfl
  have lc2 : W.cell? ⟨w.heap.size + 1, 2, none⟩ = some (.int .i64 l.f2) := (blk_cell HL2.out 2).trans rfl
  have lc3 : W.cell? ⟨w.heap.size + 1, 3, none⟩ = some (.int .i64 l.f3) := (blk_cell HL2.out 3).trans rfl
  have xc0 : W.cell? ⟨w.heap.size + 1 + 1 + 1, 0, none⟩ = some (.int .i64 l.f0) := (blk_cell ZS2.out 0).trans rfl
  have xc1 : W.cell? ⟨w.heap.size + 1 + 1 + 1, 1, none⟩ = some (.int .i64 l.f1) := (blk_cell ZS2.out 1).trans rfl
  have xc2 : W.cell? ⟨w.heap.size + 1 + 1 + 1, 2, none⟩ = some (.int .i64 l.f2) := (blk_cell ZS2.out 2).trans rfl
  have xc3 : W.cell? ⟨w.heap.size + 1 + 1 + 1, 3, none⟩ = some (.int .i64 l.f3) := (blk_cell ZS2.out 3).trans rfl
  have xc4 : W.cell? ⟨w.heap.size + 1 + 1 + 1, 4, none⟩ = some (.int .i64 s.f0) := (blk_cell ZS2.out 4).trans rfl
  have xc5 : W.cell? ⟨w.heap.size + 1 + 1 + 1, 5, none⟩ = some (.int .i64 s.f1) := (blk_cell ZS2.out 5).trans rfl
  have xc6 : W.cell? ⟨w.heap.size + 1 + 1 + 1, 6, none⟩ = some (.int .i64 s.f2) := (blk_cell ZS2.out 6).trans rfl
  have xc7 : W.cell? ⟨w.heap.size + 1 + 1 + 1, 7, none⟩ = some (.int .i64 s.f0) := (blk_cell ZS2.out 7).trans rfl
  have xc8 : W.cell? ⟨w.heap.size + 1 + 1 + 1, 8, none⟩ = some (.int .i64 s.f1) := (blk_cell ZS2.out 8).trans rfl
  have xc9 : W.cell? ⟨w.heap.size + 1 + 1 + 1, 9, none⟩ = some (.int .i64 s.f2) := (blk_cell ZS2.out 9).trans rfl
  have xc10 : W.cell? ⟨w.heap.size + 1 + 1 + 1, 10, none⟩ = some (.int .i64 0) := (blk_cell ZS2.out 10).trans rfl
  have xc11 : W.cell? ⟨w.heap.size + 1 + 1 + 1, 11, none⟩ = some (.int .i64 0) := (blk_cell ZS2.out 11).trans rfl
  have xz0 : W.frozen? ⟨w.heap.size + 1 + 1 + 1, 0, none⟩ = false := blk_frozen ZS2.out 0
  have xz1 : W.frozen? ⟨w.heap.size + 1 + 1 + 1, 1, none⟩ = false := blk_frozen ZS2.out 1
  have xz2 : W.frozen? ⟨w.heap.size + 1 + 1 + 1, 2, none⟩ = false := blk_frozen ZS2.out 2
  have xz3 : W.frozen? ⟨w.heap.size + 1 + 1 + 1, 3, none⟩ = false := blk_frozen ZS2.out 3
  have xz4 : W.frozen? ⟨w.heap.size + 1 + 1 + 1, 4, none⟩ = false := blk_frozen ZS2.out 4
  have xz5 : W.frozen? ⟨w.heap.size + 1 + 1 + 1, 5, none⟩ = false := blk_frozen ZS2.out 5
  have xz6 : W.frozen? ⟨w.heap.size + 1 + 1 + 1, 6, none⟩ = false := blk_frozen ZS2.out 6
  have xz7 : W.frozen? ⟨w.heap.size + 1 + 1 + 1, 7, none⟩ = false := blk_frozen ZS2.out 7
  have xz8 : W.frozen? ⟨w.heap.size + 1 + 1 + 1, 8, none⟩ = false := blk_frozen ZS2.out 8
  have xz9 : W.frozen? ⟨w.heap.size + 1 + 1 + 1, 9, none⟩ = false := blk_frozen ZS2.out 9
  have xz10 : W.frozen? ⟨w.heap.size + 1 + 1 + 1, 10, none⟩ = false := blk_frozen ZS2.out 10
  have xz11 : W.frozen? ⟨w.heap.size + 1 + 1 + 1, 11, none⟩ = false := blk_frozen ZS2.out 11
  have rc0 : W.cell? ⟨w.heap.size + 1 + 1, 0, none⟩ = some (.int .i64 0) := (blk_cell ZR2.out 0).trans rfl
  have rc1 : W.cell? ⟨w.heap.size + 1 + 1, 1, none⟩ = some (.int .i64 0) := (blk_cell ZR2.out 1).trans rfl
  have rc2 : W.cell? ⟨w.heap.size + 1 + 1, 2, none⟩ = some (.int .i64 0) := (blk_cell ZR2.out 2).trans rfl
  have rc3 : W.cell? ⟨w.heap.size + 1 + 1, 3, none⟩ = some (.int .i64 0) := (blk_cell ZR2.out 3).trans rfl
  have rc4 : W.cell? ⟨w.heap.size + 1 + 1, 4, none⟩ = some (.int .i64 0) := (blk_cell ZR2.out 4).trans rfl
  have rc5 : W.cell? ⟨w.heap.size + 1 + 1, 5, none⟩ = some (.int .i64 0) := (blk_cell ZR2.out 5).trans rfl
  have rc6 : W.cell? ⟨w.heap.size + 1 + 1, 6, none⟩ = some (.int .i64 0) := (blk_cell ZR2.out 6).trans rfl
  have rc7 : W.cell? ⟨w.heap.size + 1 + 1, 7, none⟩ = some (.int .i64 0) := (blk_cell ZR2.out 7).trans rfl
  have rc8 : W.cell? ⟨w.heap.size + 1 + 1, 8, none⟩ = some (.int .i64 0) := (blk_cell ZR2.out 8).trans rfl
  have rc9 : W.cell? ⟨w.heap.size + 1 + 1, 9, none⟩ = some (.int .i64 0) := (blk_cell ZR2.out 9).trans rfl
  have rc10 : W.cell? ⟨w.heap.size + 1 + 1, 10, none⟩ = some (.int .i64 0) := (blk_cell ZR2.out 10).trans rfl
  have rc11 : W.cell? ⟨w.heap.size + 1 + 1, 11, none⟩ = some (.int .i64 0) := (blk_cell ZR2.out 11).trans rfl
  have rz0 : W.frozen? ⟨w.heap.size + 1 + 1, 0, none⟩ = false := blk_frozen ZR2.out 0
  have rz1 : W.frozen? ⟨w.heap.size + 1 + 1, 1, none⟩ = false := blk_frozen ZR2.out 1
  have rz2 : W.frozen? ⟨w.heap.size + 1 + 1, 2, none⟩ = false := blk_frozen ZR2.out 2
  have rz3 : W.frozen? ⟨w.heap.size + 1 + 1, 3, none⟩ = false := blk_frozen ZR2.out 3
  have rz4 : W.frozen? ⟨w.heap.size + 1 + 1, 4, none⟩ = false := blk_frozen ZR2.out 4
  have rz5 : W.frozen? ⟨w.heap.size + 1 + 1, 5, none⟩ = false := blk_frozen ZR2.out 5
  have rz6 : W.frozen? ⟨w.heap.size + 1 + 1, 6, none⟩ = false := blk_frozen ZR2.out 6
  have rz7 : W.frozen? ⟨w.heap.size + 1 + 1, 7, none⟩ = false := blk_frozen ZR2.out 7
  have rz8 : W.frozen? ⟨w.heap.size + 1 + 1, 8, none⟩ = false := blk_frozen ZR2.out 8
  have rz9 : W.frozen? ⟨w.heap.size + 1 + 1, 9, none⟩ = false := blk_frozen ZR2.out 9
  have rz10 : W.frozen? ⟨w.heap.size + 1 + 1, 10, none⟩ = false := blk_frozen ZR2.out 10
  have rz11 : W.frozen? ⟨w.heap.size + 1 + 1, 11, none⟩ = false := blk_frozen ZR2.out 11
  go_region
  go_upto_region 5 with fail
  clear sc0 sc1 sc2 lc0 lc1 lc2 lc3 xc0 xz0 rc0 rz0 xc1 xz1 rc1 rz1 xc2 xz2 rc2 rz2 xc3 xz3 rc3 rz3 xc4 xz4 rc4 rz4 xc5 xz5 rc5 rz5 xc6 xz6 rc6 rz6 xc7 xz7 rc7 rz7 xc8 xz8 rc8 rz8 xc9 xz9 rc9 rz9 xc10 xz10 rc10 rz10 xc11 xz11 rc11 rz11
  have n0 : w.heap.size ≠ w.heap.size + 1 + 1 + 1 := by omega
  have n1 : w.heap.size + 1 ≠ w.heap.size + 1 + 1 + 1 := by omega
  have n2 : w.heap.size + 1 + 1 ≠ w.heap.size + 1 + 1 + 1 := by omega
  have hge3 : w.heap.size ≤ w.heap.size + 1 + 1 + 1 := by omega
  have B3 := Aside0.mk (below_drew1 (below_set (g := w.heap.size + 1 + 1 + 1) (j := 9) (v := .int .i64 1) (below_set (g := w.heap.size + 1 + 1 + 1) (j := 8) (v := .int .i64 1) (below_set (g := w.heap.size + 1 + 1 + 1) (j := 7) (v := .int .i64 l.f1) B2.out hge3) hge3) hge3))
  have HS3 := Aside0.mk (blk_drew (far_set (far_set (far_set HS2.out n0 7 (.int .i64 (l.f1))) n0 8 (.int .i64 (1))) n0 9 (.int .i64 (1))))
  have HL3 := Aside0.mk (blk_drew (far_set (far_set (far_set HL2.out n1 7 (.int .i64 (l.f1))) n1 8 (.int .i64 (1))) n1 9 (.int .i64 (1))))
  have ZR3 := Aside0.mk (blk_drew (far_set (far_set (far_set ZR2.out n2 7 (.int .i64 (l.f1))) n2 8 (.int .i64 (1))) n2 9 (.int .i64 (1))))
  have ZS3 := Aside0.mk (blk_drew (blk_set (blk_set (blk_set ZS2.out 7 (.int .i64 l.f1)) 8 (.int .i64 1)) 9 (.int .i64 1)))
  simp only [List.setIfInBounds_toArray, List.set_cons_zero, List.set_cons_succ] at ZS3
  clear B2 HS2 HL2 ZR2 ZS2 n0 n1 n2 hge3
  generalize (((W.setCell ⟨w.heap.size + 1 + 1 + 1, 7, none⟩ (.int .i64 l.f1)).setCell ⟨w.heap.size + 1 + 1 + 1, 8, none⟩ (.int .i64 1)).setCell ⟨w.heap.size + 1 + 1 + 1, 9, none⟩ (.int .i64 1)).drew = W3 at *
  have sc0 : W3.cell? ⟨w.heap.size, 0, none⟩ = some (.int .i64 s.f0) := (blk_cell HS3.out 0).trans rfl
  have sc1 : W3.cell? ⟨w.heap.size, 1, none⟩ = some (.int .i64 s.f1) := (blk_cell HS3.out 1).trans rfl
  have sc2 : W3.cell? ⟨w.heap.size, 2, none⟩ = some (.int .i64 s.f2) := (blk_cell HS3.out 2).trans rfl
  have lc1 : W3.cell? ⟨w.heap.size + 1, 1, none⟩ = some (.int .i64 l.f1) := (blk_cell HL3.out 1).trans rfl
  have hwr : IntKind.i64.wrap (l.f1 * Sy.sizeI s) = l.f1 * Sy.sizeI s := by
    have hsz := size_bd HR.out
    have hm := mulB (a := l.f1) (b := Sy.sizeI s) (A := 999999) (B := 128) HB1.out hsz
    exact wrapI hm (by decide)
  go_cut [] (fun wc => Aside0 (Below w.heap.size w wc) ∧ Aside0 (wc.heap[w.heap.size + 1 + 1]? = some (.cells #[.int .i64 0, .int .i64 0, .int .i64 0, .int .i64 0, .int .i64 0, .int .i64 0, .int .i64 0, .int .i64 0, .int .i64 0, .int .i64 0, .int .i64 0, .int .i64 0] 94 (0, 0))) ∧ Aside0 (wc.heap[w.heap.size + 1 + 1 + 1]? = some (.cells #[.int .i64 l.f0, .int .i64 l.f1, .int .i64 l.f2, .int .i64 l.f3, .int .i64 s.f0, .int .i64 s.f1, .int .i64 s.f2, .int .i64 l.f1, .int .i64 1, .int .i64 1, .int .i64 (l.f1 * Sy.sizeI s), .int .i64 0] 94 (0, 0))))
  case first =>
    go_region_held3 (fun w' => w'.cell? ⟨w.heap.size, 0, none⟩ = some (.int .i64 s.f0) ∧ w'.cell? ⟨w.heap.size, 1, none⟩ = some (.int .i64 s.f1) ∧ w'.cell? ⟨w.heap.size, 2, none⟩ = some (.int .i64 s.f2) ∧ w'.cell? ⟨w.heap.size + 1, 1, none⟩ = some (.int .i64 l.f1)) (first | go_keep | (exact ⟨cell_far (by assumption) (by omega) _, cell_far (by assumption) (by omega) _, cell_far (by assumption) (by omega) _, cell_far (by assumption) (by omega) _⟩)) (first | (go_at_call 83; refine (size_calls s _).mono ?_; rintro e w5 ⟨rfl, hb⟩; have B5 := Aside0.mk (below_step (below_drew1 B3.out) hb); have ZR5 := Aside0.mk (blk_below (blk_drew ZR3.out) hb); have ZS5 := Aside0.mk (blk_below (blk_drew ZS3.out) hb); have HL5 := Aside0.mk (blk_below (blk_drew HL3.out) hb); have HS5 := Aside0.mk (blk_below (blk_drew HS3.out) hb); clear hb; have lc5 : w5.cell? ⟨w.heap.size + 1, 1, none⟩ = some (.int .i64 l.f1) := (blk_cell HL5.out 1).trans rfl; have sc50 : w5.cell? ⟨w.heap.size, 0, none⟩ = some (.int .i64 s.f0) := (blk_cell HS5.out 0).trans rfl; have sc51 : w5.cell? ⟨w.heap.size, 1, none⟩ = some (.int .i64 s.f1) := (blk_cell HS5.out 1).trans rfl; have sc52 : w5.cell? ⟨w.heap.size, 2, none⟩ = some (.int .i64 s.f2) := (blk_cell HS5.out 2).trans rfl; have xc5 : w5.cell? ⟨w.heap.size + 1 + 1 + 1, 10, none⟩ = some (.int .i64 0) := (blk_cell ZS5.out 10).trans rfl; have xz5 : w5.frozen? ⟨w.heap.size + 1 + 1 + 1, 10, none⟩ = false := blk_frozen ZS5.out 10))
    all_goals
      go_wp2_with fail
      go_meet
      refine ⟨⟨below_set (g := w.heap.size + 1 + 1 + 1) B5.out (by omega)⟩, ⟨far_set ZR5.out (by omega) 10 _⟩, ⟨?_⟩⟩
      have h := blk_set ZS5.out 10 (.int .i64 (l.f1 * Sy.sizeI s))
      simp only [List.setIfInBounds_toArray, List.set_cons_zero, List.set_cons_succ] at h
      exact h
  case rest =>
    obtain ⟨C1, C2, C3⟩ := hcut
    have xc0 : wc.cell? ⟨w.heap.size + 1 + 1 + 1, 0, none⟩ = some (.int .i64 l.f0) := (blk_cell C3.out 0).trans rfl
    have xc1 : wc.cell? ⟨w.heap.size + 1 + 1 + 1, 1, none⟩ = some (.int .i64 l.f1) := (blk_cell C3.out 1).trans rfl
    have xc2 : wc.cell? ⟨w.heap.size + 1 + 1 + 1, 2, none⟩ = some (.int .i64 l.f2) := (blk_cell C3.out 2).trans rfl
    have xc3 : wc.cell? ⟨w.heap.size + 1 + 1 + 1, 3, none⟩ = some (.int .i64 l.f3) := (blk_cell C3.out 3).trans rfl
    have xc4 : wc.cell? ⟨w.heap.size + 1 + 1 + 1, 4, none⟩ = some (.int .i64 s.f0) := (blk_cell C3.out 4).trans rfl
    have xc5 : wc.cell? ⟨w.heap.size + 1 + 1 + 1, 5, none⟩ = some (.int .i64 s.f1) := (blk_cell C3.out 5).trans rfl
    have xc6 : wc.cell? ⟨w.heap.size + 1 + 1 + 1, 6, none⟩ = some (.int .i64 s.f2) := (blk_cell C3.out 6).trans rfl
    have xc7 : wc.cell? ⟨w.heap.size + 1 + 1 + 1, 7, none⟩ = some (.int .i64 l.f1) := (blk_cell C3.out 7).trans rfl
    have xc8 : wc.cell? ⟨w.heap.size + 1 + 1 + 1, 8, none⟩ = some (.int .i64 1) := (blk_cell C3.out 8).trans rfl
    have xc9 : wc.cell? ⟨w.heap.size + 1 + 1 + 1, 9, none⟩ = some (.int .i64 1) := (blk_cell C3.out 9).trans rfl
    have xc10 : wc.cell? ⟨w.heap.size + 1 + 1 + 1, 10, none⟩ = some (.int .i64 (l.f1 * Sy.sizeI s)) := (blk_cell C3.out 10).trans rfl
    have xc11 : wc.cell? ⟨w.heap.size + 1 + 1 + 1, 11, none⟩ = some (.int .i64 0) := (blk_cell C3.out 11).trans rfl
    have xz0 : wc.frozen? ⟨w.heap.size + 1 + 1 + 1, 0, none⟩ = false := blk_frozen C3.out 0
    have xz1 : wc.frozen? ⟨w.heap.size + 1 + 1 + 1, 1, none⟩ = false := blk_frozen C3.out 1
    have xz2 : wc.frozen? ⟨w.heap.size + 1 + 1 + 1, 2, none⟩ = false := blk_frozen C3.out 2
    have xz3 : wc.frozen? ⟨w.heap.size + 1 + 1 + 1, 3, none⟩ = false := blk_frozen C3.out 3
    have xz4 : wc.frozen? ⟨w.heap.size + 1 + 1 + 1, 4, none⟩ = false := blk_frozen C3.out 4
    have xz5 : wc.frozen? ⟨w.heap.size + 1 + 1 + 1, 5, none⟩ = false := blk_frozen C3.out 5
    have xz6 : wc.frozen? ⟨w.heap.size + 1 + 1 + 1, 6, none⟩ = false := blk_frozen C3.out 6
    have xz7 : wc.frozen? ⟨w.heap.size + 1 + 1 + 1, 7, none⟩ = false := blk_frozen C3.out 7
    have xz8 : wc.frozen? ⟨w.heap.size + 1 + 1 + 1, 8, none⟩ = false := blk_frozen C3.out 8
    have xz9 : wc.frozen? ⟨w.heap.size + 1 + 1 + 1, 9, none⟩ = false := blk_frozen C3.out 9
    have xz10 : wc.frozen? ⟨w.heap.size + 1 + 1 + 1, 10, none⟩ = false := blk_frozen C3.out 10
    have xz11 : wc.frozen? ⟨w.heap.size + 1 + 1 + 1, 11, none⟩ = false := blk_frozen C3.out 11
    have rc0 : wc.cell? ⟨w.heap.size + 1 + 1, 0, none⟩ = some (.int .i64 0) := (blk_cell C2.out 0).trans rfl
    have rc1 : wc.cell? ⟨w.heap.size + 1 + 1, 1, none⟩ = some (.int .i64 0) := (blk_cell C2.out 1).trans rfl
    have rc2 : wc.cell? ⟨w.heap.size + 1 + 1, 2, none⟩ = some (.int .i64 0) := (blk_cell C2.out 2).trans rfl
    have rc3 : wc.cell? ⟨w.heap.size + 1 + 1, 3, none⟩ = some (.int .i64 0) := (blk_cell C2.out 3).trans rfl
    have rc4 : wc.cell? ⟨w.heap.size + 1 + 1, 4, none⟩ = some (.int .i64 0) := (blk_cell C2.out 4).trans rfl
    have rc5 : wc.cell? ⟨w.heap.size + 1 + 1, 5, none⟩ = some (.int .i64 0) := (blk_cell C2.out 5).trans rfl
    have rc6 : wc.cell? ⟨w.heap.size + 1 + 1, 6, none⟩ = some (.int .i64 0) := (blk_cell C2.out 6).trans rfl
    have rc7 : wc.cell? ⟨w.heap.size + 1 + 1, 7, none⟩ = some (.int .i64 0) := (blk_cell C2.out 7).trans rfl
    have rc8 : wc.cell? ⟨w.heap.size + 1 + 1, 8, none⟩ = some (.int .i64 0) := (blk_cell C2.out 8).trans rfl
    have rc9 : wc.cell? ⟨w.heap.size + 1 + 1, 9, none⟩ = some (.int .i64 0) := (blk_cell C2.out 9).trans rfl
    have rc10 : wc.cell? ⟨w.heap.size + 1 + 1, 10, none⟩ = some (.int .i64 0) := (blk_cell C2.out 10).trans rfl
    have rc11 : wc.cell? ⟨w.heap.size + 1 + 1, 11, none⟩ = some (.int .i64 0) := (blk_cell C2.out 11).trans rfl
    have rz0 : wc.frozen? ⟨w.heap.size + 1 + 1, 0, none⟩ = false := blk_frozen C2.out 0
    have rz1 : wc.frozen? ⟨w.heap.size + 1 + 1, 1, none⟩ = false := blk_frozen C2.out 1
    have rz2 : wc.frozen? ⟨w.heap.size + 1 + 1, 2, none⟩ = false := blk_frozen C2.out 2
    have rz3 : wc.frozen? ⟨w.heap.size + 1 + 1, 3, none⟩ = false := blk_frozen C2.out 3
    have rz4 : wc.frozen? ⟨w.heap.size + 1 + 1, 4, none⟩ = false := blk_frozen C2.out 4
    have rz5 : wc.frozen? ⟨w.heap.size + 1 + 1, 5, none⟩ = false := blk_frozen C2.out 5
    have rz6 : wc.frozen? ⟨w.heap.size + 1 + 1, 6, none⟩ = false := blk_frozen C2.out 6
    have rz7 : wc.frozen? ⟨w.heap.size + 1 + 1, 7, none⟩ = false := blk_frozen C2.out 7
    have rz8 : wc.frozen? ⟨w.heap.size + 1 + 1, 8, none⟩ = false := blk_frozen C2.out 8
    have rz9 : wc.frozen? ⟨w.heap.size + 1 + 1, 9, none⟩ = false := blk_frozen C2.out 9
    have rz10 : wc.frozen? ⟨w.heap.size + 1 + 1, 10, none⟩ = false := blk_frozen C2.out 10
    have rz11 : wc.frozen? ⟨w.heap.size + 1 + 1, 11, none⟩ = false := blk_frozen C2.out 11
    go_wp2_with fail
    refine (must_no 21 _).mono ?_
    rintro e w4 ⟨rfl, rfl⟩
    have hq := HQ.out
    have ho : Sy.outO s l = none := by unfold Sy.outO; rw [if_neg (by rw [K1.out]; decide), if_neg (by rw [K1.out]; decide), if_neg (by rw [K1.out]; decide), if_neg (by omega)]
    have hge3 : w.heap.size ≤ w.heap.size + 1 + 1 + 1 := by omega
    refine ⟨rfl, ?_, by rw [ho]⟩
    with_reducible repeat (first | exact C1.out | refine below_set ?_ hge3)
theorem next_calls (s : S23) (l : S40) (w : World) (hr : Sy.rightB s = true) (hl : Sy.layerB l = true) : Calls Try.prog 104 #[.agg #[.int .i64 s.f0, .int .i64 s.f1, .int .i64 s.f2], .agg #[.int .i64 l.f0, .int .i64 l.f1, .int .i64 l.f2, .int .i64 l.f3]] w (NextPost s l w) := by
  by_cases k1 : l.f0 = 1
  · have hs : l.f2 ≤ 999999 := by
      unfold Sy.layerB Sy.numB at hl
      rw [if_pos k1] at hl
      simp only [Bool.and_eq_true, decide_eq_true_eq] at hl
      omega
    cases hq : Sy.convO s l.f1 l.f2 l.f3 with
    | some t => exact next_conv_yes s l t w hr k1 hs hq
    | none => exact next_conv_no s l w hr k1 hs hq
  · by_cases k2 : l.f0 = 2
    · exact next_square s l w hr k2
    · by_cases k3 : l.f0 = 3
      · cases hq : Sy.poolO s l.f2 with
        | some t => exact next_pool_yes s l t w hr k3 hq
        | none => exact next_pool_no s l w hr k3 hq
      · by_cases k4 : l.f0 = 4
        · have hb : 0 ≤ l.f1 ∧ l.f1 ≤ 999999 := by
            unfold Sy.layerB Sy.numB at hl
            rw [if_neg k1, if_neg k2, if_neg k3, if_pos k4] at hl
            simp only [Bool.and_eq_true, decide_eq_true_eq] at hl
            exact hl.1
          by_cases q1 : l.f1 < 1
          · exact next_dense_lo s l w hr k4 hb q1
          · by_cases q2 : 8 < l.f1
            · exact next_dense_hi s l w hr k4 hb q2
            · exact next_dense_yes s l w hr k4 (by omega)
        · unfold Sy.layerB at hl
          rw [if_neg k1, if_neg k2, if_neg k3, if_neg k4] at hl
          cases hl
end Go.Proofs.Ytnfcadjckoebkaa.P
