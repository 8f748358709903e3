import Derived.Test.YtnfcadjckoebkaaIXHs
import Derived.WalkLawsBesides
import Derived.Lib.Hide
import Derived.Deep.RegionWith
import Derived.Deep.DeepCutAuto
import Derived.Deep.RegionHeld3
namespace Go.Proofs.Ytnfcadjckoebkaa.P
open Go.RowKit Go.Proofs.YtnfcadjckoebkaaW.PrintWords Go.Proofs.YtnfcadjckoebkaaW.PrintLast Go.Proofs.YtnfcadjckoebkaaW.PrintMore
theorem shapeV_form (o : Option S23) : ∃ x y z b, shapeV o = .tuple #[.agg #[.int .i64 x, .int .i64 y, .int .i64 z], .bool b] := by
  cases o with
  | none => exact ⟨0, 0, 0, false, rfl⟩
  | some t => exact ⟨t.f0, t.f1, t.f2, true, rfl⟩
theorem conv_calls (s : S23) (c size step : Int) (w : World) (hr : Sy.rightB s = true) (hs : size ≤ 999999) :
    Calls Try.prog 115 #[.agg #[.int .i64 s.f0, .int .i64 s.f1, .int .i64 s.f2], .int .i64 c, .int .i64 size, .int .i64 step] w fun e w' => e = .returned (shapeV (Sy.convO s c size step)) ∧ Below w.heap.size w w' := by
  have hmf : ∀ (fn : Fn) (first cap : Array Value) (w : World), (Instr.makeFunc fn first cap).run Try.prog w = .ok (.func fn first cap) w := fun _ _ _ _ => rfl
  obtain ⟨x, y, z, b, hV⟩ := shapeV_form (Sy.convO s c size step)
  have HV := Aside0.mk hV
  have HS := Aside0.mk ((side_shape s c size step hr).trans hV)
  have HR := Aside0.mk hr
  clear hr hV
  go_enter Try.func115, Try.ntmps115
  go_wp2_with fail
  have B1 := Aside0.mk (below_alloc (below_alloc (below_alloc (below_alloc (Below.refl w.heap.size w) (.cells #[.int .i64 s.f0, .int .i64 s.f1, .int .i64 s.f2] 23)) (.cells #[.int .i64 size] 3)) (.cells #[.int .i64 step] 3)) (.cells #[.int .i64 0, .int .i64 0, .int .i64 0] 23))
  have Z1 := Aside0.mk (blk_new3 w (.cells #[.int .i64 s.f0, .int .i64 s.f1, .int .i64 s.f2] 23) (.cells #[.int .i64 size] 3) (.cells #[.int .i64 step] 3) (.cells #[.int .i64 0, .int .i64 0, .int .i64 0] 23))
  have C1 := Aside0.mk (blk_alloc (blk_alloc (blk_new1 w (.cells #[.int .i64 s.f0, .int .i64 s.f1, .int .i64 s.f2] 23) (.cells #[.int .i64 size] 3)) (.cells #[.int .i64 step] 3)) (.cells #[.int .i64 0, .int .i64 0, .int .i64 0] 23))
  have C2 := Aside0.mk (blk_alloc (blk_new2 w (.cells #[.int .i64 s.f0, .int .i64 s.f1, .int .i64 s.f2] 23) (.cells #[.int .i64 size] 3) (.cells #[.int .i64 step] 3)) (.cells #[.int .i64 0, .int .i64 0, .int .i64 0] 23))
  generalize (((w.alloc (.cells #[.int .i64 s.f0, .int .i64 s.f1, .int .i64 s.f2] 23)).alloc (.cells #[.int .i64 size] 3)).alloc (.cells #[.int .i64 step] 3)).alloc (.cells #[.int .i64 0, .int .i64 0, .int .i64 0] 23) = W at *
  refine (sizedC_calls s c size step _ _ _ HR.out hs ((blk_cell C1.out 0).trans rfl) ((blk_cell C2.out 0).trans rfl)).mono ?_
  rintro e w2 ⟨rfl, hb⟩
  rw [HS.out]
  have L2 := Aside0.mk (below_step B1.out hb)
  have Z2 := Aside0.mk (blk_below Z1.out hb)
  clear B1 Z1 C1 C2 hb
  have c0 : w2.cell? ⟨w.heap.size + 1 + 1 + 1, 0, none⟩ = some (.int .i64 0) := (blk_cell Z2.out 0).trans rfl
  have c1 : w2.cell? ⟨w.heap.size + 1 + 1 + 1, 1, none⟩ = some (.int .i64 0) := (blk_cell Z2.out 1).trans rfl
  have c2 : w2.cell? ⟨w.heap.size + 1 + 1 + 1, 2, none⟩ = some (.int .i64 0) := (blk_cell Z2.out 2).trans rfl
  have z0 : w2.frozen? ⟨w.heap.size + 1 + 1 + 1, 0, none⟩ = false := blk_frozen Z2.out 0
  have z1 : w2.frozen? ⟨w.heap.size + 1 + 1 + 1, 1, none⟩ = false := blk_frozen Z2.out 1
  have z2 : w2.frozen? ⟨w.heap.size + 1 + 1 + 1, 2, none⟩ = false := blk_frozen Z2.out 2
  go_wp2_with fail
  refine bodyPost_ret (results_ct rfl _ _ (w.heap.size + 1 + 1 + 1) 23 #[.int .i64 x, .int .i64 y, .int .i64 z] (0, 0) _ rfl (blk_put (blk_put (blk_put Z2.out 0 _ rfl) 1 _ rfl) 2 _ rfl) Try.underlying23 rfl (by kernel_rfl)) rfl ?_
  exact ⟨congrArg Ending.returned HV.out.symm, below_set (below_set (below_set L2.out (by omega)) (by omega)) (by omega)⟩
theorem pool_calls (s : S23) (size : Int) (w : World) (hr : Sy.rightB s = true) :
    Calls Try.prog 116 #[.agg #[.int .i64 s.f0, .int .i64 s.f1, .int .i64 s.f2], .int .i64 size] w fun e w' => e = .returned (shapeV (Sy.poolO s size)) ∧ Below w.heap.size w w' := by
  have hmf : ∀ (fn : Fn) (first cap : Array Value) (w : World), (Instr.makeFunc fn first cap).run Try.prog w = .ok (.func fn first cap) w := fun _ _ _ _ => rfl
  obtain ⟨x, y, z, b, hV⟩ := shapeV_form (Sy.poolO s size)
  have HV := Aside0.mk hV
  have HS := Aside0.mk ((pool_shape s size hr).trans hV)
  have HR := Aside0.mk hr
  clear hr hV
  go_enter Try.func116, Try.ntmps116
  go_wp2_with fail
  have B1 := Aside0.mk (below_alloc (below_alloc (below_alloc (Below.refl w.heap.size w) (.cells #[.int .i64 s.f0, .int .i64 s.f1, .int .i64 s.f2] 23)) (.cells #[.int .i64 size] 3)) (.cells #[.int .i64 0, .int .i64 0, .int .i64 0] 23))
  have Z1 := Aside0.mk (blk_new2 w (.cells #[.int .i64 s.f0, .int .i64 s.f1, .int .i64 s.f2] 23) (.cells #[.int .i64 size] 3) (.cells #[.int .i64 0, .int .i64 0, .int .i64 0] 23))
  have C1 := Aside0.mk (blk_alloc (blk_new1 w (.cells #[.int .i64 s.f0, .int .i64 s.f1, .int .i64 s.f2] 23) (.cells #[.int .i64 size] 3)) (.cells #[.int .i64 0, .int .i64 0, .int .i64 0] 23))
  generalize ((w.alloc (.cells #[.int .i64 s.f0, .int .i64 s.f1, .int .i64 s.f2] 23)).alloc (.cells #[.int .i64 size] 3)).alloc (.cells #[.int .i64 0, .int .i64 0, .int .i64 0] 23) = W at *
  refine (sizedP_calls s s.f0 size _ _ HR.out ((blk_cell C1.out 0).trans rfl)).mono ?_
  rintro e w2 ⟨rfl, hb⟩
  rw [HS.out]
  have L2 := Aside0.mk (below_step B1.out hb)
  have Z2 := Aside0.mk (blk_below Z1.out hb)
  clear B1 Z1 C1 hb
  have c0 : w2.cell? ⟨w.heap.size + 1 + 1, 0, none⟩ = some (.int .i64 0) := (blk_cell Z2.out 0).trans rfl
  have c1 : w2.cell? ⟨w.heap.size + 1 + 1, 1, none⟩ = some (.int .i64 0) := (blk_cell Z2.out 1).trans rfl
  have c2 : w2.cell? ⟨w.heap.size + 1 + 1, 2, none⟩ = some (.int .i64 0) := (blk_cell Z2.out 2).trans rfl
  have z0 : w2.frozen? ⟨w.heap.size + 1 + 1, 0, none⟩ = false := blk_frozen Z2.out 0
  have z1 : w2.frozen? ⟨w.heap.size + 1 + 1, 1, none⟩ = false := blk_frozen Z2.out 1
  have z2 : w2.frozen? ⟨w.heap.size + 1 + 1, 2, none⟩ = false := blk_frozen Z2.out 2
  go_wp2_with fail
  refine bodyPost_ret (results_ct rfl _ _ (w.heap.size + 1 + 1) 23 #[.int .i64 x, .int .i64 y, .int .i64 z] (0, 0) _ rfl (blk_put (blk_put (blk_put Z2.out 0 _ rfl) 1 _ rfl) 2 _ rfl) Try.underlying23 rfl (by kernel_rfl)) rfl ?_
  exact ⟨congrArg Ending.returned HV.out.symm, below_set (below_set (below_set L2.out (by omega)) (by omega)) (by omega)⟩
end Go.Proofs.Ytnfcadjckoebkaa.P
