import Derived.Test.YtnfcadjckoebkaaIX0
import Derived.Test.YtnfcadjckoebkaaRows
import Derived.ProofKit
import Derived.WalkKit
import Derived.Deep.Slices
import Derived.Deep.Strs
import Derived.Lib.SmallJoins
namespace Go.Proofs.Ytnfcadjckoebkaa.P
open Go.ChangeShapes Go.WideShapes Go.ChangeAt Go.RowKit Go.Proofs.YtnfcadjckoebkaaW.PrintWords Go.Proofs.YtnfcadjckoebkaaW.PrintLast
set_option maxRecDepth 100000
section
variable {H : Type} {enc : TypeId × Value → H} {W : World} {base : Nat} {r : Nat → Bool}
theorem reads_i64 {n : Nat} {cs : List Value} {y : DataW H × List MemPlace} (h : DataW.trod enc Try.prog W base r true n 3 cs = some y) : ∃ z, cs = [.int .i64 z] := by
  obtain ⟨z, e, -, -⟩ := DataW.trod_int Try.underlying3 h
  exact ⟨z, e⟩
theorem reads_23 {n : Nat} {cs : List Value} {y : DataW H × List MemPlace} (h : DataW.trod enc Try.prog W base r true n 23 cs = some y) : ∃ s : S23, cs = [.int .i64 s.f0, .int .i64 s.f1, .int .i64 s.f2] := by
  obtain ⟨y0, y1, y2, m, -, hl, h0, h1, h2⟩ := Go.Deep.trod_struct3 Try.underlying23 h
  rw [show Try.prog.cellsOf 23 = 3 by kernel_rfl] at hl
  match cs, hl with
  | [c0, c1, c2], _ =>
    rw [show Try.prog.cellsOf 3 = 1 by kernel_rfl] at h0 h1 h2
    obtain ⟨z0, e0⟩ := reads_i64 h0
    obtain ⟨z1, e1⟩ := reads_i64 h1
    obtain ⟨z2, e2⟩ := reads_i64 h2
    simp at e0 e1 e2
    subst e0 e1 e2
    exact ⟨⟨z0, z1, z2⟩, rfl⟩
theorem reads_40 {n : Nat} {cs : List Value} {y : DataW H × List MemPlace} (h : DataW.trod enc Try.prog W base r true n 40 cs = some y) : ∃ s : S40, cs = [.int .i64 s.f0, .int .i64 s.f1, .int .i64 s.f2, .int .i64 s.f3] := by
  obtain ⟨y0, y1, y2, y3, m, -, hl, h0, h1, h2, h3⟩ := Go.Joins.trod_struct4 Try.underlying40 h
  rw [show Try.prog.cellsOf 40 = 4 by kernel_rfl] at hl
  match cs, hl with
  | [c0, c1, c2, c3], _ =>
    rw [show Try.prog.cellsOf 3 = 1 by kernel_rfl] at h0 h1 h2 h3
    obtain ⟨z0, e0⟩ := reads_i64 h0
    obtain ⟨z1, e1⟩ := reads_i64 h1
    obtain ⟨z2, e2⟩ := reads_i64 h2
    obtain ⟨z3, e3⟩ := reads_i64 h3
    simp at e0 e1 e2 e3
    subst e0 e1 e2 e3
    exact ⟨⟨z0, z1, z2, z3⟩, rfl⟩
instance : Inhabited S40 := ⟨z40⟩
theorem reads_layers {n : Nat} {cs : List Value} {y : DataW H × List MemPlace} (h : DataW.trod enc Try.prog W base r true n 24 cs = some y) :
    ∃ (A : Option Addr) (c : Nat) (l : List S40), cs = [.slice A l.length c] ∧ Kd.C k40 W A l.length l ∧ l.length ≤ c := by
  rcases Go.Deep.open_slice Try.underlying24 h with ⟨rfl, -⟩ | ⟨a, len, cap, m, n', D, Pl, rfl, hb, hl, hm, hmm, rfl, hx⟩
  · exact ⟨none, 0, [], rfl, ⟨rfl, by simp, fun h => absurd h (by simp)⟩, by simp⟩
  · have hlm : len ≤ m := by rw [hmm]; split <;> omega
    rw [show Try.prog.cellsOf 40 = 4 by kernel_rfl] at hx
    have hc : ∀ i, i < m → ∃ s : S40, W.cells? base (a.add (i * 4)) 4 = some [.int .i64 s.f0, .int .i64 s.f1, .int .i64 s.f2, .int .i64 s.f3] := by
      intro i hi
      obtain ⟨cs', h1, h2⟩ := hx i hi
      obtain ⟨s, rfl⟩ := reads_40 h2
      exact ⟨s, h1⟩
    obtain ⟨V, hV⟩ := Go.Deep.choose_lt (α := S40) hc
    refine ⟨some a, cap, (List.range len).map V, by simp, ⟨by simp, ?_, ?_⟩, by simpa using hl⟩
    · rw [List.length_map, List.length_range]; unfold maxLen at hm; omega
    · intro _
      refine ⟨a, rfl, fun j p hp => ?_⟩
      rw [List.getElem?_map] at hp
      obtain ⟨j', hj', rfl⟩ := Option.map_eq_some_iff.1 hp
      obtain ⟨hj0, rfl⟩ : j < len ∧ j = j' := by
        rw [List.getElem?_eq_some_iff] at hj'
        obtain ⟨h1, h2⟩ := hj'
        simp at h1 h2
        exact ⟨h1, h2⟩
      refine ⟨_, rfl, k40_mk W (V j), fun i u hu => ?_⟩
      obtain ⟨-, -, hcell⟩ := World.cells?_some (hV j (by omega))
      rw [← Go.Deep.add_add]
      have hi : i < 4 := by
        rcases Nat.lt_or_ge i 4 with h | h
        · exact h
        · rw [List.getElem?_eq_none (by simpa using h)] at hu; exact absurd hu (by simp)
      rw [show k40.sz = 4 from rfl, hcell i hi]
      exact hu
theorem open_net {b0 : Nat} {v : Value} {d : DataW H} {ps : List MemPlace} (hv : Value.okWide Try.prog W .any b0 26 v) (h : DataW.Trod enc Try.prog W base r true 26 v d ps) :
    ∃ (S : S23) (A : Option Addr) (c : Nat) (l : List S40), v = .agg #[.int .i64 S.f0, .int .i64 S.f1, .int .i64 S.f2, .slice A l.length c] ∧ Kd.C k40 W A l.length l ∧ l.length ≤ c := by
  obtain ⟨cs, rfl, hs⟩ := okWide_struct Try.underlying26 hv
  rw [show Try.prog.cellsOf 26 = 4 by kernel_rfl] at hs
  obtain ⟨c0, c1, c2, c3, rfl⟩ := Go.Joins.array4 hs
  obtain ⟨fuel, hf⟩ := h
  rw [show (Value.agg #[c0, c1, c2, c3]).cells.toList = [c0, c1, c2, c3] from rfl] at hf
  obtain ⟨y0, y1, m, -, -, h0, h1⟩ := trod_struct2 Try.underlying26 hf
  rw [show Try.prog.cellsOf 23 = 3 by kernel_rfl] at h0
  rw [show Try.prog.cellsOf 24 = 1 by kernel_rfl] at h1
  obtain ⟨S, e0⟩ := reads_23 h0
  obtain ⟨A, c, l, e1, hA, hc⟩ := reads_layers h1
  simp at e0 e1
  obtain ⟨rfl, rfl, rfl⟩ := e0
  subst e1
  exact ⟨S, A, c, l, rfl, hA, hc⟩
end
end Go.Proofs.Ytnfcadjckoebkaa.P
