import Derived.Test.YtnfcadjckoebkaaIXPe
import Derived.Test.YtnfcadjckoebkaaIXKw
namespace Go.Proofs.Ytnfcadjckoebkaa.P
open Go.RowKit Go.Proofs.YtnfcadjckoebkaaW.PrintWords Go.Proofs.YtnfcadjckoebkaaW.PrintLast Go.Proofs.YtnfcadjckoebkaaW.PrintMore
variable (S : S23) (A : Option Addr) (c : Nat) (l : List S40) (w : World)
theorem sHead5 : Calls Try.prog 25 #[] w fun e w' => e = .returned (.bool true) ∧ Below w.heap.size w w' := symbolonlaw05_head.calls 40 true w head5
theorem sGreat (g : Bool) (hg : decide ((l.length : Int) > 60) = g) (hr : Kd.C k40 w A l.length l) (hc : l.length ≤ c) :
    Calls Try.prog 26 #[.agg #[.int .i64 S.f0, .int .i64 S.f1, .int .i64 S.f2, .slice A l.length c]] w fun e w' => e = .returned (.bool g) ∧ Below w.heap.size w w' :=
  symbolonlaw04_Great.calls _ _ _ A c l g w hr hc (by unfold symbolonlaw04_Great.f; rw [hg])
theorem sShapes (r : List S23) (z : Int) (h : Sy.shapesR S l = (r, z)) (hr : Kd.C k40 w A l.length l) (hc : l.length ≤ c) :
    Calls Try.prog 27 #[.agg #[.int .i64 S.f0, .int .i64 S.f1, .int .i64 S.f2, .slice A l.length c]] w fun e w' => ∃ v : Value, e = .returned (.tuple #[v, .int .i64 z]) ∧ Kd.R k23 23 w' w.heap.size (fun _ => True) v r ∧ Below w.heap.size w w' :=
  check_Shapes.calls 40 _ _ _ A c l r z w hr hc (by rw [shapes_f _ _ _ (by omega), h])
theorem sRight (b : Bool) (h : ((Sy.allR S l).2 == 0) = b) (hr : Kd.C k40 w A l.length l) (hc : l.length ≤ c) :
    Calls Try.prog 34 #[.agg #[.int .i64 S.f0, .int .i64 S.f1, .int .i64 S.f2, .slice A l.length c]] w fun e w' => e = .returned (.bool b) ∧ Below w.heap.size w w' :=
  check_Right.calls _ _ _ A c l b w hr hc (by rw [cright_f, h])
end Go.Proofs.Ytnfcadjckoebkaa.P
