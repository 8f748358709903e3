import Derived.Test.YtnfcadjckoebkaaIX0
namespace Go.Proofs.Ytnfcadjckoebkaa.P.Sy
def rightB (s : S23) : Bool := decide (1 ≤ s.f0 ∧ s.f0 ≤ 8 ∧ 1 ≤ s.f1 ∧ s.f1 ≤ 12 ∧ 1 ≤ s.f2 ∧ s.f2 ≤ 12 ∧ s.f0 * s.f1 * s.f2 ≤ 128)
def sizeI (s : S23) : Int := if rightB s = true then s.f0 * s.f1 * s.f2 else 0
def numB (n : Int) : Bool := decide (0 ≤ n ∧ n ≤ 999999)
def layerB (l : S40) : Bool :=
  if l.f0 = 1 then numB l.f1 && (numB l.f2 && numB l.f3)
  else if l.f0 = 2 then decide (l.f1 = 0) && (decide (l.f2 = 0) && decide (l.f3 = 0))
  else if l.f0 = 3 then numB l.f2 && (decide (l.f1 = 0) && decide (l.f3 = 0))
  else if l.f0 = 4 then numB l.f1 && (decide (l.f2 = 0) && decide (l.f3 = 0))
  else false
def formB (s : S23) (ls : List S40) : Bool := decide (ls.length ≤ 8) && (numB s.f0 && (numB s.f1 && numB s.f2)) && ls.all layerB
def convO (s : S23) (out size step : Int) : Option S23 :=
  if rightB s = true ∧ 1 ≤ size ∧ size ≤ s.f1 ∧ size ≤ s.f2 ∧ 1 ≤ step ∧ step ≤ 12 ∧ rightB ⟨out, (s.f1 - size) / step + 1, (s.f2 - size) / step + 1⟩ = true
  then some ⟨out, (s.f1 - size) / step + 1, (s.f2 - size) / step + 1⟩ else none
def poolO (s : S23) (size : Int) : Option S23 :=
  if rightB s = true ∧ 1 ≤ size ∧ s.f1 % size = 0 ∧ s.f2 % size = 0 then some ⟨s.f0, s.f1 / size, s.f2 / size⟩ else none
def outO (s : S23) (l : S40) : Option S23 :=
  if l.f0 = 1 then convO s l.f1 l.f2 l.f3 else if l.f0 = 2 then some s else if l.f0 = 3 then poolO s l.f2
  else if 1 ≤ l.f1 ∧ l.f1 ≤ 8 then some ⟨l.f1, 1, 1⟩ else none
def wts (s : S23) (l : S40) : Int :=
  if l.f0 = 1 then l.f1 * s.f0 * l.f2 * l.f2 else if l.f0 = 2 then 0 else if l.f0 = 3 then 0 else l.f1 * sizeI s
def prods (s t : S23) (l : S40) : Int :=
  if l.f0 = 1 then wts s l * t.f1 * t.f2 else if l.f0 = 2 then sizeI s else if l.f0 = 3 then 0 else wts s l
def stepOf (s t : S23) (l : S40) : S94 := ⟨l, s, t, wts s l, prods s t l⟩
def stepsO (s : S23) : List S40 → Option (List S94)
  | [] => some []
  | l :: ls => (outO s l).bind fun t => (stepsO t ls).map fun r => stepOf s t l :: r
def sumW (l : List S94) : Int := l.foldl (fun a x => a + x.f3) 0
def sumP (l : List S94) : Int := l.foldl (fun a x => a + x.f4) 0
def allR (s : S23) (ls : List S40) : List S94 × Int :=
  if formB s ls = true then
    if rightB s = true then
      match stepsO s ls with
      | none => ([], 21)
      | some st => if sumW st ≤ 512 ∧ sumP st ≤ 512 then (st, 0) else ([], 5)
    else ([], 1)
  else ([], 12)
end Go.Proofs.Ytnfcadjckoebkaa.P.Sy
