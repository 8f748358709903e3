import Derived.Test.YtnfcadjckoebkaaIX0
namespace Go.Proofs.Ytnfcadjckoebkaa.P
open Go.RowKit Go.Proofs.YtnfcadjckoebkaaW.PrintWords Go.Proofs.YtnfcadjckoebkaaW.PrintLast Go.Proofs.YtnfcadjckoebkaaW.PrintMore
theorem cell_alloc_drewN (W : World) (k : Nat) (cs : Array Value) (t : TypeId) (j : Nat) : ((W.drewN k).alloc (.cells cs t)).cell? ⟨W.heap.size, j, none⟩ = cs[j]? := blk_cell (blk_new (W.drewN k) (.cells cs t)) j
theorem frozen_alloc_drewN (W : World) (k : Nat) (cs : Array Value) (t : TypeId) (j : Nat) : ((W.drewN k).alloc (.cells cs t)).frozen? ⟨W.heap.size, j, none⟩ = false := blk_frozen (blk_new (W.drewN k) (.cells cs t)) j
theorem set_alloc_drewN (W : World) (k : Nat) (cs : Array Value) (t : TypeId) (j : Nat) (v : Value) : ((W.drewN k).alloc (.cells cs t)).setCell ⟨W.heap.size, j, none⟩ v = (W.drewN k).alloc (.cells (cs.setIfInBounds j v) t) := World.setCell_alloc_at _ _ _ _ _ rfl
theorem set_drewN (W : World) (k : Nat) (p : Addr) (v : Value) : (W.drewN k).setCell p v = (W.setCell p v).drewN k := by rfl
theorem blk_new_drewN (W : World) (k : Nat) (o : Obj) : ((W.drewN k).alloc o).heap[W.heap.size]? = some o := blk_new (W.drewN k) o
theorem blk_new1 (w : World) (A B : Obj) : ((w.alloc A).alloc B).heap[w.heap.size + 1]? = some B := by have := blk_new (w.alloc A) B; simpa using this
theorem blk_new2 (w : World) (A B C : Obj) : (((w.alloc A).alloc B).alloc C).heap[w.heap.size + 1 + 1]? = some C := by have := blk_new ((w.alloc A).alloc B) C; simpa using this
theorem blk_new3 (w : World) (A B C D : Obj) : ((((w.alloc A).alloc B).alloc C).alloc D).heap[w.heap.size + 1 + 1 + 1]? = some D := by have := blk_new (((w.alloc A).alloc B).alloc C) D; simpa using this
theorem cell_far {W : World} {g j g' j' : Nat} {v : Value} (h : W.cell? ⟨g, j, none⟩ = some v) (hne : g ≠ g') (u : Value) : (W.setCell ⟨g', j', none⟩ u).cell? ⟨g, j, none⟩ = some v := by
  rw [World.cell?_setCell_other _ _ _ _ (by intro e; injection e with e; omega)]; exact h
theorem ret_i64 {a b : Int} (h : a = b) : Ending.returned (.int .i64 a) = .returned (.int .i64 b) := by rw [h]
end Go.Proofs.Ytnfcadjckoebkaa.P
