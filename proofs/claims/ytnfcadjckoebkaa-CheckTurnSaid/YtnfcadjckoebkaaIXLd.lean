import Derived.Test.YtnfcadjckoebkaaIXLc
namespace Go.Proofs.Ytnfcadjckoebkaa.P
open Go.RowKit Go.Proofs.YtnfcadjckoebkaaW.PrintWords Go.Proofs.YtnfcadjckoebkaaW.PrintLast Go.Proofs.YtnfcadjckoebkaaW.PrintMore
set_option linter.unusedVariables false
set_option linter.unusedSimpArgs false
def hand_CheckTurn.f (k : Nat) (a b c : Int) (l : List S40) : Option Bool := some true
theorem hand_CheckTurn.calls (k : Nat) (a0_0 : Int) (a0_1 : Int) (a0_2 : Int) (A0_3 : Option Addr) (c0_3 : Nat) (l0_3 : List (S40)) (r : Bool) (w : World) (hr0_3 : Kd.C k40 w A0_3 l0_3.length l0_3) (hc0_3 : l0_3.length ≤ c0_3) (h : hand_CheckTurn.f k a0_0 a0_1 a0_2 l0_3 = some r) :
    Calls Try.prog 4 #[.agg #[.int .i64 a0_0, .int .i64 a0_1, .int .i64 a0_2, .slice A0_3 l0_3.length c0_3]] w fun e w' => e = .returned (.bool r) ∧ Below w.heap.size w w' := by
  injection h with h
  subst h
  by_cases g : l0_3.length ≤ 60 ∧ (Sy.allR ⟨a0_0, a0_1, a0_2⟩ l0_3).2 = 0
  · exact turn_yes ⟨a0_0, a0_1, a0_2⟩ A0_3 c0_3 l0_3 w hr0_3 hc0_3 g.1 g.2
  · exact turn_no ⟨a0_0, a0_1, a0_2⟩ A0_3 c0_3 l0_3 w hr0_3 hc0_3 g
theorem handTurn_f (S : S23) (l : List S40) : hand_CheckTurn.f 40 S.f0 S.f1 S.f2 l = some true := rfl
end Go.Proofs.Ytnfcadjckoebkaa.P
