import Derived.Test.YtnfcadjckoebkaaIXHw
namespace Go.Proofs.Ytnfcadjckoebkaa.P
open Go.RowKit Go.Proofs.YtnfcadjckoebkaaW.PrintWords Go.Proofs.YtnfcadjckoebkaaW.PrintLast Go.Proofs.YtnfcadjckoebkaaW.PrintMore
class Keep (W W' : World) (P : Prop) (Q : outParam Prop) : Prop where
  out : Below W.heap.size W W' → P → Q
instance (priority := low) Keep.any (W W' : World) (p : Prop) : Keep W W' p p := ⟨fun _ h => h⟩
instance Keep.and (W W' : World) (P R Q S : Prop) [f : Keep W W' P Q] [g : Keep W W' R S] : Keep W W' (P ∧ R) (Q ∧ S) := ⟨fun hb h => ⟨f.out hb h.1, g.out hb h.2⟩⟩
instance Keep.below (w W W' : World) : Keep W W' (Below w.heap.size w W) (Below w.heap.size w W') := ⟨fun hb h => below_step h hb⟩
instance Keep.blk (W W' : World) (g : Nat) (o : Obj) : Keep W W' (W.heap[g]? = some o) (W'.heap[g]? = some o) := ⟨fun hb h => blk_below h hb⟩
instance Keep.R {α : Type} (W W' : World) (d : Kd α) (e base : Nat) (ok : Nat → Prop) (v : Value) (xs : List α) : Keep W W' (d.R e W base ok v xs) (d.R e W' base ok v xs) := ⟨fun hb h => Kd.R_below h hb⟩
instance Keep.C {α : Type} (W W' : World) (d : Kd α) (A : Option Addr) (n : Nat) (xs : List α) : Keep W W' (d.C W A n xs) (d.C W' A n xs) := ⟨fun hb h => Kd.C_below h hb⟩
instance Keep.cell (W W' : World) (a : Addr) (v : Value) : Keep W W' (W.cell? a = some v) (W'.cell? a = some v) := ⟨fun hb h => pw_cell_below hb h⟩
theorem carry {W W' : World} {P Q : Prop} (hb : Below W.heap.size W W') (h : Aside0 P) [s : Keep W W' P Q] : Aside0 Q := ⟨s.out hb h.out⟩
theorem keep_alloc (W : World) (o : Obj) : Below W.heap.size W (W.alloc o) := below_alloc (Below.refl _ _) o
theorem box3 {W : World} {g : Nat} {t : TypeId} {a b c : Value} (h : W.heap[g]? = some (.cells #[a, b, c] t (0, 0))) : W.cell? ⟨g, 0, none⟩ = some a ∧ W.cell? ⟨g, 1, none⟩ = some b ∧ W.cell? ⟨g, 2, none⟩ = some c :=
  ⟨blk_cell h 0, blk_cell h 1, blk_cell h 2⟩
theorem box4 {W : World} {g : Nat} {t : TypeId} {a b c d : Value} (h : W.heap[g]? = some (.cells #[a, b, c, d] t (0, 0))) : W.cell? ⟨g, 0, none⟩ = some a ∧ W.cell? ⟨g, 1, none⟩ = some b ∧ W.cell? ⟨g, 2, none⟩ = some c ∧ W.cell? ⟨g, 3, none⟩ = some d :=
  ⟨blk_cell h 0, blk_cell h 1, blk_cell h 2, blk_cell h 3⟩
theorem free3 {W : World} {g : Nat} {t : TypeId} {cs : Array Value} (h : W.heap[g]? = some (.cells cs t (0, 0))) : W.frozen? ⟨g, 0, none⟩ = false ∧ W.frozen? ⟨g, 1, none⟩ = false ∧ W.frozen? ⟨g, 2, none⟩ = false :=
  ⟨blk_frozen h 0, blk_frozen h 1, blk_frozen h 2⟩
theorem put3 {W : World} {g : Nat} {t : TypeId} {z0 z1 z2 : Value} (h : W.heap[g]? = some (.cells #[z0, z1, z2] t (0, 0))) (a b c : Value) : (((W.setCell ⟨g, 0, none⟩ a).setCell ⟨g, 1, none⟩ b).setCell ⟨g, 2, none⟩ c).heap[g]? = some (.cells #[a, b, c] t (0, 0)) :=
  blk_put (blk_put (blk_put h 0 _ rfl) 1 _ rfl) 2 _ rfl
theorem below_put3 {w W : World} {g : Nat} (h : Below w.heap.size w W) (hg : w.heap.size ≤ g) (a b c : Value) : Below w.heap.size w (((W.setCell ⟨g, 0, none⟩ a).setCell ⟨g, 1, none⟩ b).setCell ⟨g, 2, none⟩ c) := below_set (below_set (below_set h hg) hg) hg
end Go.Proofs.Ytnfcadjckoebkaa.P
