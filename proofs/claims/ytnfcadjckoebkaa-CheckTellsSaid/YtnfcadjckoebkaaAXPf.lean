/- Plain facts on layer 5, on: shapes, weights, products of whole networks, by the reference and by the program. -/
import Derived.Test.YtnfcadjckoebkaaAXPe
import Derived.Test.YtnfcadjckoebkaaAXHcheckall
namespace Go.Proofs.Ytnfcadjckoebkaa.P
open Go.RowKit Go.Proofs.YtnfcadjckoebkaaW.PrintWords Go.Proofs.YtnfcadjckoebkaaW.PrintLast Go.Proofs.YtnfcadjckoebkaaW.PrintMore
set_option linter.unusedSimpArgs false
set_option linter.unusedVariables false

namespace Sy
def shapesR (S : S23) (l : List S40) : List S23 × Int := if (allR S l).2 = 0 then (S :: (allR S l).1.map (·.f2), 0) else ([], (allR S l).2)
end Sy
theorem stepsO_len (l : List S40) : ∀ (s : S23) (st : List S94), Sy.stepsO s l = some st → st.length = l.length := by
  induction l with
  | nil => intro s st h; simp [Sy.stepsO] at h; simp [← h]
  | cons x l ih =>
    intro s st h
    simp only [Sy.stepsO, Option.bind_eq_some_iff, Option.map_eq_some_iff] at h
    obtain ⟨t, ht, r, hr, rfl⟩ := h
    simp [ih t r hr]
/-- What 'all' comes to, case by case. -/
theorem allR_ok {S : S23} {l : List S40} (h : (Sy.allR S l).2 = 0) : Sy.formB S l = true ∧ Sy.rightB S = true ∧ Sy.stepsO S l = some (Sy.allR S l).1 ∧ Sy.sumW (Sy.allR S l).1 ≤ 512 ∧ Sy.sumP (Sy.allR S l).1 ≤ 512 := by
  unfold Sy.allR at h ⊢
  by_cases hf : Sy.formB S l = true
  · rw [if_pos hf] at h ⊢
    by_cases hs : Sy.rightB S = true
    · rw [if_pos hs] at h ⊢
      cases hq : Sy.stepsO S l with
      | none => rw [hq] at h; simp at h
      | some st =>
        rw [hq] at h
        simp only at h ⊢
        by_cases hh : Sy.sumW st ≤ 512 ∧ Sy.sumP st ≤ 512
        · rw [if_pos hh]; exact ⟨hf, hs, rfl, hh⟩
        · rw [if_neg hh] at h; simp at h
    · rw [if_neg hs] at h; simp at h
  · rw [if_neg hf] at h; simp at h
theorem allR_no {S : S23} {l : List S40} (h : (Sy.allR S l).2 ≠ 0) : (Sy.allR S l).1 = [] := by
  unfold Sy.allR at h ⊢
  by_cases hf : Sy.formB S l = true
  · rw [if_pos hf] at h ⊢
    by_cases hs : Sy.rightB S = true
    · rw [if_pos hs] at h ⊢
      cases hq : Sy.stepsO S l with
      | none => rfl
      | some st =>
        rw [hq] at h
        simp only at h ⊢
        by_cases hh : Sy.sumW st ≤ 512 ∧ Sy.sumP st ≤ 512
        · rw [if_pos hh] at h; simp at h
        · rw [if_neg hh]
    · rw [if_neg hs]
  · rw [if_neg hf]
theorem allR_len (S : S23) (l : List S40) : (Sy.allR S l).1.length ≤ 8 := by
  by_cases h : (Sy.allR S l).2 = 0
  · obtain ⟨hf, -, hst, -⟩ := allR_ok h
    rw [stepsO_len l S _ hst]
    simp only [Sy.formB, Bool.and_eq_true, decide_eq_true_eq] at hf
    exact hf.1.1
  · rw [allR_no h]; simp
theorem rd94 (l : List S94) (i : Nat) (h : i < l.length) : rd_T94 l (i : Int) = l[i] := by simp [rd_T94, List.getD, h]
theorem shapes_l0 (st : List S94) (hl : st.length ≤ 8) : ∀ (d i k : Nat) (acc : List S23), st.length - i = d → d < k → i ≤ st.length → acc.length ≤ 1 + i → check_Shapes.l0 k acc st (st.length : Int) (i : Int) = some (acc ++ (st.drop i).map (·.f2), 0) := by
  intro d
  induction d with
  | zero =>
    intro i k acc hd hk hi ha
    obtain ⟨k, rfl⟩ : ∃ m, k = m + 1 := ⟨k - 1, by omega⟩
    simp only [check_Shapes.l0]
    rw [if_neg (by omega), List.drop_of_length_le (by omega)]
    simp
  | succ d ih =>
    intro i k acc hd hk hi ha
    obtain ⟨k, rfl⟩ : ∃ m, k = m + 1 := ⟨k - 1, by omega⟩
    simp only [check_Shapes.l0]
    rw [if_pos (by omega), if_pos (by omega), if_pos (by omega), if_pos (by omega), w1 (by omega) (by omega), rd94 st i (by omega)]
    have e := ih (i + 1) k (acc ++ [st[i].f2]) (by omega) (by omega) (by omega) (by simp; omega)
    rw [show (((i + 1 : Nat)) : Int) = (i : Int) + 1 by omega] at e
    refine e.trans ?_
    rw [List.drop_eq_getElem_cons (show i < st.length by omega), List.map_cons, List.append_assoc]
    rfl
theorem shapes_f (S : S23) (l : List S40) (k : Nat) (hk : 10 < k) : check_Shapes.f k S.f0 S.f1 S.f2 l = some (Sy.shapesR S l) := by
  unfold check_Shapes.f check_all.f Sy.shapesR
  rw [Option.bind_some]
  show (if (Sy.allR S l).2 = 0 then _ else _) = _
  by_cases h : (Sy.allR S l).2 = 0
  · rw [if_pos h, if_pos h]
    have := allR_len S l
    exact shapes_l0 (Sy.allR S l).1 this _ 0 k [⟨S.f0, S.f1, S.f2⟩] rfl (by omega) (by omega) (by simp)
  · rw [if_neg h, if_neg h]
def sres (S : S23) (o : Option (List S94)) : List S23 × Int := match o with
  | none => ([], 21)
  | some st => if Sy.sumW st ≤ 512 ∧ Sy.sumP st ≤ 512 then (S :: st.map (·.f2), 0) else ([], 5)
theorem last_shape (S : S23) (st : List S94) (y : S94) : rd_T23 (S :: (st ++ [y]).map (·.f2)) ((st.length : Int) + 1) = y.f2 := by
  unfold rd_T23
  rw [show ((st.length : Int) + 1).toNat = st.length + 1 by omega]
  simp [List.getD]
theorem rshapes_l0 (S : S23) (l : List S40) (hl : l.length ≤ 8) (hf : ∀ i, i < l.length → Sy.layerB (rd_T40 l (i : Int)) = true) (a b c : Int) : ∀ (d i k : Nat) (s : S23) (st : List S94), l.length - i = d → d + 1 < k → i ≤ l.length → Upto S l i s st → rd_T23 (S :: st.map (·.f2)) (i : Int) = s →
    symbolonref05_Shapes.l0 k (S :: st.map (·.f2)) (Sy.sumW st) (Sy.sumP st) (i : Int) a b c l = some (sres S (Sy.stepsO S l)) := by
  intro d
  induction d with
  | zero =>
    intro i k s st hd hk hi hu hs
    obtain ⟨k, rfl⟩ : ∃ m, k = m + 1 := ⟨k - 1, by omega⟩
    simp only [symbolonref05_Shapes.l0]
    have e : i = l.length := by omega
    subst e
    rw [if_neg (by omega), hu.done]
    unfold sres
    by_cases h1 : Sy.sumW st ≤ 512
    · by_cases h2 : Sy.sumP st ≤ 512
      · rw [if_neg (by omega), if_neg (by omega)]; simp [h1, h2]
      · rw [if_neg (by omega), if_pos (by omega)]; simp [h1, h2]
    · rw [if_pos (by omega)]; simp [h1]
  | succ d ih =>
    intro i k s st hd hk hi hu hs
    obtain ⟨k, rfl⟩ : ∃ m, k = m + 1 := ⟨k - 1, by omega⟩
    have hlt : i < l.length := by omega
    have hlen := hu.len
    simp only [symbolonref05_Shapes.l0]
    rw [if_pos (by omega), if_pos (by omega), if_pos (by simp; omega), hs, rout_f s _ k (by omega), Option.bind_some]
    cases hq : Sy.outO s (rd_T40 l (i : Int)) with
    | none =>
      rw [hu.stop hlt hq]
      simp [quad, sres]
    | some t =>
      have hu2 := hu.next hlt hq
      simp only [quad]
      rw [if_pos trivial, rweights_f s _ hu.right (hf i hlt), Option.bind_some, rproducts_f s t _ hu.right (hf i hlt) hq, Option.bind_some, if_pos (by simp; omega), w1 (by omega) (by omega)]
      obtain ⟨b1, b2, b3⟩ := out_bd hu.right hq
      have hw := hu.w
      have hp := hu.p
      have e1 : wrap64 (Sy.sumW st + Sy.wts s (rd_T40 l (i : Int))) = Sy.sumW (st ++ [Sy.stepOf s t (rd_T40 l (i : Int))]) := by
        rw [sumW_snoc]; show _ = _ + Sy.wts _ _; unfold wrap64; omega
      have e2 : wrap64 (Sy.sumP st + Sy.prods s t (rd_T40 l (i : Int))) = Sy.sumP (st ++ [Sy.stepOf s t (rd_T40 l (i : Int))]) := by
        rw [sumP_snoc]; show _ = _ + Sy.prods _ _ _; unfold wrap64; omega
      rw [e1, e2]
      have hls := last_shape S st (Sy.stepOf s t (rd_T40 l (i : Int)))
      rw [hlen] at hls
      have h := ih (i + 1) k t (st ++ [Sy.stepOf s t (rd_T40 l (i : Int))]) (by omega) (by omega) (by omega) hu2 hls
      rw [show (((i + 1 : Nat)) : Int) = (i : Int) + 1 by omega] at h
      rw [← h]
      simp [Sy.stepOf]
theorem rshapes_f (S : S23) (l : List S40) (k : Nat) (hk : 12 < k) : symbolonref05_Shapes.f k S.f0 S.f1 S.f2 l = some (Sy.shapesR S l) := by
  unfold symbolonref05_Shapes.f Sy.shapesR Sy.allR
  rw [rform_f S l k (by omega), Option.bind_some]
  cases hf : Sy.formB S l with
  | false => simp
  | true =>
    rw [if_pos rfl, if_pos rfl, rright_f, Option.bind_some]
    cases hs : Sy.rightB S with
    | false => simp
    | true =>
      have hl8 : l.length ≤ 8 := by simp only [Sy.formB, Bool.and_eq_true, decide_eq_true_eq] at hf; exact hf.1.1
      rw [if_pos rfl, if_pos rfl]
      have h := rshapes_l0 S l hl8 (form_layer S l hf) S.f0 S.f1 S.f2 l.length 0 k S [] (by omega) (by omega) (by omega) ⟨hs, rfl, by simp, by simp [Sy.sumW], by simp [Sy.sumP]⟩ rfl
      refine Eq.trans h ?_
      unfold sres
      cases Sy.stepsO S l with
      | none => simp
      | some st =>
        simp only
        by_cases hh : Sy.sumW st ≤ 512 ∧ Sy.sumP st ≤ 512
        · simp [hh]
        · rw [if_neg hh, if_neg (by simp [hh])]; simp [hh]
end Go.Proofs.Ytnfcadjckoebkaa.P
