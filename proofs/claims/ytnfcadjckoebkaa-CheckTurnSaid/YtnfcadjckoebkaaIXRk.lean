import Derived.Test.YtnfcadjckoebkaaIXRh
import Derived.Test.YtnfcadjckoebkaaIXPe
import Derived.Test.YtnfcadjckoebkaaIXCs
namespace Go.Proofs.Ytnfcadjckoebkaa.P
open Go.RowKit Go.Proofs.YtnfcadjckoebkaaW.PrintWords Go.Proofs.YtnfcadjckoebkaaW.PrintLast Go.Proofs.YtnfcadjckoebkaaW.PrintMore
set_option linter.unusedSimpArgs false
set_option linter.unusedVariables false
theorem at_layer {w W : World} {A : Option Addr} {l : List S40} (hr : Kd.C k40 w A l.length l) (hb : Below w.heap.size w W) (i : Nat) (hi : i < l.length) :
    ∃ ad, A = some ad ∧ W.cell? (ad.add (i * 4)) = some (.int .i64 (rd_T40 l (i : Int)).f0) ∧ W.cell? ⟨(ad.add (i * 4)).block, (ad.add (i * 4)).off + 1, none⟩ = some (.int .i64 (rd_T40 l (i : Int)).f1) ∧ W.cell? ⟨(ad.add (i * 4)).block, (ad.add (i * 4)).off + 2, none⟩ = some (.int .i64 (rd_T40 l (i : Int)).f2) ∧ W.cell? ⟨(ad.add (i * 4)).block, (ad.add (i * 4)).off + 3, none⟩ = some (.int .i64 (rd_T40 l (i : Int)).f3) := by
  obtain ⟨ad, e, q0, q1, q2, q3⟩ := at_T40 hr (i : Int) (by omega) (by omega)
  simp only [Int.toNat_natCast] at q0 q1 q2 q3
  exact ⟨ad, e, pw_cell_below hb q0, pw_cell_below hb q1, pw_cell_below hb q2, pw_cell_below hb q3⟩
theorem at_shape {W : World} {base n c : Nat} {ok : Nat → Prop} {A : Option Addr} {xs : List S23} (hv : Kd.R k23 23 W base ok (.slice A n c) xs) (i : Nat) (hi : i < xs.length) :
    ∃ ad, A = some ad ∧ W.cell? (ad.add (i * 3)) = some (.int .i64 (rd_T23 xs (i : Int)).f0) ∧ W.cell? ⟨(ad.add (i * 3)).block, (ad.add (i * 3)).off + 1, none⟩ = some (.int .i64 (rd_T23 xs (i : Int)).f1) ∧ W.cell? ⟨(ad.add (i * 3)).block, (ad.add (i * 3)).off + 2, none⟩ = some (.int .i64 (rd_T23 xs (i : Int)).f2) := by
  obtain ⟨ad, e, q0, q1, q2⟩ := at_T23 (Kd.R_reads' hv).2.2 (i : Int) (by omega) (by omega)
  simp only [Int.toNat_natCast] at q0 q1 q2
  exact ⟨ad, e, q0, q1, q2⟩
theorem net_box (w : World) (S : S23) (A : Option Addr) (n c : Nat) : Aside0 (Below w.heap.size w (w.alloc (.cells #[.int .i64 S.f0, .int .i64 S.f1, .int .i64 S.f2, .slice A n c] 26)) ∧ (w.alloc (.cells #[.int .i64 S.f0, .int .i64 S.f1, .int .i64 S.f2, .slice A n c] 26)).heap[w.heap.size]? = some (.cells #[.int .i64 S.f0, .int .i64 S.f1, .int .i64 S.f2, .slice A n c] 26 (0, 0))) :=
  ⟨keep_alloc w _, blk_new w _⟩
variable (S : S23) (A : Option Addr) (c : Nat) (l : List S40) (w : World)
end Go.Proofs.Ytnfcadjckoebkaa.P
