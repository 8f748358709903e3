/- The plain law of symbolonlaw05.CheckTells: whatever comes in, it answers true. -/
import Derived.Test.YtnfcadjckoebkaaAXPg
import Derived.Test.YtnfcadjckoebkaaAXFsymbolonlaw05CheckTells
namespace Go.Proofs.Ytnfcadjckoebkaa.P

theorem checkTells_f (S : S23) (l : List S40) (a : Int) : symbolonlaw05_CheckTells.f 40 S.f0 S.f1 S.f2 l a = some true := by
  unfold symbolonlaw05_CheckTells.f symbolonlaw04_Great.f
  rw [head5, Option.bind_some, Option.bind_some]
  by_cases h : decide ((l.length : Int) > 60) = true
  · rw [if_pos h]
  · rw [if_neg h, shapes_f _ _ _ (by omega), Option.bind_some, rshapes_f _ _ _ (by omega), Option.bind_some,
      weights_f _ _ _ _ (by omega), Option.bind_some, rWeights_f _ _ _ _ (by omega), Option.bind_some,
      all_f _ _ _ (by omega), Option.bind_some, rAll_f _ _ _ (by omega), Option.bind_some, if_pos rfl,
      same_f _ (by have := shapesR_len S l; omega) _ (by have := shapesR_len S l; omega), Option.bind_some, if_pos rfl, if_pos rfl,
      cright_f, Option.bind_some, rRight_f _ _ _ (by omega), Option.bind_some, if_pos (by simp), if_pos rfl, if_pos rfl,
      cproducts_f, Option.bind_some, rProducts_f _ _ _ _ (by omega), Option.bind_some, if_pos rfl, if_pos rfl]
    simp
end Go.Proofs.Ytnfcadjckoebkaa.P
