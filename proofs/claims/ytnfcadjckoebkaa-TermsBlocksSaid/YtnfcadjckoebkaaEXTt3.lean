/- The plain law of symbolonlaw06.TermsBlocks: whatever comes in, it answers true. -/
import Derived.Test.YtnfcadjckoebkaaEXPv
import Derived.Test.YtnfcadjckoebkaaEXFsymbolonlaw06TermsBlocks
namespace Go.Proofs.Ytnfcadjckoebkaa.P
open Go.RowKit Go.Proofs.YtnfcadjckoebkaaW.PrintWords Go.Proofs.YtnfcadjckoebkaaW.PrintLast Go.Proofs.YtnfcadjckoebkaaW.PrintMore
set_option linter.unusedSimpArgs false
set_option linter.unusedVariables false

/-- The j-th part of place p, where rows have w blocks of z numbers. -/
def partF (w z p j : Nat) : Nat := (p / w * z + j / z) * (w * z) + (p % w * z + j % z)
/-- The place of which a number is a part; the how many-th. -/
def partP (w z q : Nat) : Nat := q / (w * z) / z * w + q % (w * z) / z
def partJ (w z q : Nat) : Nat := q / (w * z) % z * z + q % (w * z) % z
theorem dm (a b n : Nat) (h : b < n) : (a * n + b) / n = a ∧ (a * n + b) % n = b := by
  have h0 : 0 < n := by omega
  constructor
  · rw [Nat.add_comm, Nat.add_mul_div_right _ _ h0, Nat.div_eq_of_lt h, Nat.zero_add]
  · rw [Nat.add_comm, Nat.add_mul_mod_self_right, Nat.mod_eq_of_lt h]
theorem part_back {w z p j : Nat} (hw : 0 < w) (hj : j < z * z) : partP w z (partF w z p j) = p ∧ partJ w z (partF w z p j) = j := by
  have hz : 0 < z := by rcases Nat.eq_zero_or_pos z with h | h; · subst h; omega
                        · exact h
  have h1 : j / z < z := Nat.div_lt_of_lt_mul hj
  have h2 : j % z < z := Nat.mod_lt _ hz
  have h3 : p % w < w := Nat.mod_lt _ hw
  have h4 : p % w * z + j % z < w * z := by
    have : (p % w + 1) * z ≤ w * z := Nat.mul_le_mul_right z h3
    rw [Nat.add_mul, Nat.one_mul] at this
    omega
  obtain ⟨e1, e2⟩ := dm (p / w * z + j / z) (p % w * z + j % z) (w * z) h4
  obtain ⟨e3, e4⟩ := dm (p / w) (j / z) z h1
  obtain ⟨e5, e6⟩ := dm (p % w) (j % z) z h2
  unfold partP partJ partF
  rw [e1, e2, e3, e4, e5, e6]
  have d1 := Nat.div_add_mod p w
  have d2 := Nat.div_add_mod j z
  rw [Nat.mul_comm] at d1 d2
  exact ⟨d1, d2⟩
theorem part_forth {w z q : Nat} (hw : 0 < w) (hz : 0 < z) : partF w z (partP w z q) (partJ w z q) = q ∧ partJ w z q < z * z := by
  have hwz : 0 < w * z := Nat.mul_pos hw hz
  have h1 : q % (w * z) < w * z := Nat.mod_lt _ hwz
  have h2 : q % (w * z) / z < w := Nat.div_lt_of_lt_mul (by rw [Nat.mul_comm z w]; exact h1)
  have h3 : q % (w * z) % z < z := Nat.mod_lt _ hz
  have h4 : q / (w * z) % z < z := Nat.mod_lt _ hz
  obtain ⟨e1, e2⟩ := dm (q / (w * z) / z) (q % (w * z) / z) w h2
  obtain ⟨e3, e4⟩ := dm (q / (w * z) % z) (q % (w * z) % z) z h3
  constructor
  · unfold partF partP partJ
    rw [e1, e2, e3, e4]
    have d1 := Nat.div_add_mod (q / (w * z)) z
    have d2 := Nat.div_add_mod (q % (w * z)) z
    have d3 := Nat.div_add_mod q (w * z)
    rw [Nat.mul_comm] at d1 d2 d3
    rw [d1, d2, d3]
  · unfold partJ
    have : (q / (w * z) % z + 1) * z ≤ z * z := Nat.mul_le_mul_right z h4
    rw [Nat.add_mul, Nat.one_mul] at this
    omega
/-- Which numbers were met, ahead of part j of place p. -/
def partB (w z p j q : Nat) : Bool := decide (partP w z q < p ∨ (partP w z q = p ∧ partJ w z q < j))
def partM (w z N p j : Nat) : List Int := (List.range N).map fun q => if partB w z p j q = true then 1 else 0
theorem partM_len (w z N p j : Nat) : (partM w z N p j).length = N := by simp [partM]
theorem partM_get (w z N p j q : Nat) (h : q < N) : rd (partM w z N p j) (q : Int) = if partB w z p j q = true then 1 else 0 := by
  simp [partM, rd, List.getD, h]
theorem partM_set (w z N p j : Nat) (hw : 0 < w) (hj : j < z * z) (hN : partF w z p j < N) : (partM w z N p j).set (partF w z p j) 1 = partM w z N p (j + 1) := by
  have hz : 0 < z := by rcases Nat.eq_zero_or_pos z with h | h; · subst h; omega
                        · exact h
  apply List.ext_getElem
  · simp [partM]
  · intro q h1 h2
    have hq : q < N := by simpa [partM] using h2
    rw [List.getElem_set]
    simp only [partM, List.getElem_map, List.getElem_range]
    obtain ⟨b1, b2⟩ := part_back (p := p) hw hj
    by_cases e : partF w z p j = q
    · rw [if_pos e, if_pos]
      unfold partB
      rw [← e, b1, b2]
      simp
    · rw [if_neg e]
      have : partB w z p (j + 1) q = partB w z p j q := by
        unfold partB
        apply decide_eq_decide.mpr
        have hne : ¬ (partP w z q = p ∧ partJ w z q = j) := by
          rintro ⟨h3, h4⟩
          apply e
          rw [← h3, ← h4]
          exact (part_forth hw hz).1
        omega
      rw [this]
theorem partM_next (w z N p : Nat) (hw : 0 < w) (hz : 0 < z) : partM w z N p (z * z) = partM w z N (p + 1) 0 := by
  unfold partM
  apply List.map_congr_left
  intro q _
  have : partB w z p (z * z) q = partB w z (p + 1) 0 q := by
    unfold partB
    apply decide_eq_decide.mpr
    have := (part_forth (q := q) hw hz).2
    omega
  rw [this]
theorem blocks_l2 (w z N M : Nat) (hz : 0 < z) (hw : 0 < w) (hN : N ≤ 1000) (hM : N = M * (w * z) * z) : ∀ (n q k : Nat), N - q = n → n < k → q ≤ N → symbolonlaw06_TermsBlocks.l2 k true (N : Int) (partM w z N (M * w) 0) (q : Int) = some true := by
  intro n
  induction n with
  | zero =>
    intro q k hn hk hq
    obtain ⟨k, rfl⟩ : ∃ m, k = m + 1 := ⟨k - 1, by omega⟩
    simp only [symbolonlaw06_TermsBlocks.l2]
    rw [if_neg (by omega)]
  | succ n ih =>
    intro q k hn hk hq
    obtain ⟨k, rfl⟩ : ∃ m, k = m + 1 := ⟨k - 1, by omega⟩
    have hqN : q < N := by omega
    have hP : partP w z q < M * w := by
      unfold partP
      have hwz : 0 < w * z := Nat.mul_pos hw hz
      have h1 : q / (w * z) < M * z := Nat.div_lt_of_lt_mul (by rw [hM] at hqN; rw [Nat.mul_comm (w * z)]; rw [Nat.mul_assoc M (w * z) z, Nat.mul_comm (w * z) z, ← Nat.mul_assoc] at hqN; exact hqN)
      have h2 : q / (w * z) / z < M := Nat.div_lt_of_lt_mul (by rw [Nat.mul_comm z M]; exact h1)
      have h3 : q % (w * z) / z < w := Nat.div_lt_of_lt_mul (by rw [Nat.mul_comm z w]; exact Nat.mod_lt _ hwz)
      have : (q / (w * z) / z + 1) * w ≤ M * w := Nat.mul_le_mul_right w h2
      rw [Nat.add_mul, Nat.one_mul] at this
      omega
    have e : partB w z (M * w) 0 q = true := by unfold partB; rw [decide_eq_true_eq]; exact .inl hP
    simp only [symbolonlaw06_TermsBlocks.l2]
    rw [if_pos (by omega), if_pos (by omega), if_pos (by rw [partM_len]; omega), partM_get _ _ _ _ _ _ hqN, if_pos e, if_pos rfl, w1 (by omega) (by omega)]
    exact ih (q + 1) k (by omega) (by omega) (by omega)
theorem blocks_l1 (i : Int) (out : Int) (w z N p : Nat) (L : List Int) (S : S23) (l : List S40) (hw : 0 < w) (hz : 0 < z) (hz12 : z ≤ 12) (hN : N ≤ 1000) (hL : L.length = z * z) (hp : p ≤ 1000)
    (h : ∀ j, j < z * z → rd L (j : Int) = (partF w z p j : Int) ∧ partF w z p j < N) : ∀ (n j k : Nat), z * z - j = n → n < k → j ≤ z * z →
    symbolonlaw06_TermsBlocks.l1 k true i (N : Int) out (partM w z N p j) (p : Int) L (j : Int) S.f0 S.f1 S.f2 l = symbolonlaw06_TermsBlocks.l0 (k - n - 1) true i (N : Int) out (partM w z N (p + 1) 0) ((p : Int) + 1) S.f0 S.f1 S.f2 l := by
  have hzz : z * z ≤ 144 := by have := Nat.mul_le_mul hz12 hz12; omega
  intro n
  induction n with
  | zero =>
    intro j k hn hk hj
    obtain ⟨k, rfl⟩ : ∃ m, k = m + 1 := ⟨k - 1, by omega⟩
    obtain rfl : j = z * z := by omega
    simp only [symbolonlaw06_TermsBlocks.l1]
    rw [if_neg (by omega), w1 (by omega) (by omega), partM_next _ _ _ _ hw hz]
    rfl
  | succ n ih =>
    intro j k hn hk hj
    obtain ⟨k, rfl⟩ : ∃ m, k = m + 1 := ⟨k - 1, by omega⟩
    have hjz : j < z * z := by omega
    obtain ⟨h1, h2⟩ := h j hjz
    have hr := ih (j + 1) k (by omega) (by omega) (by omega)
    have e : k + 1 - (n + 1) - 1 = k - n - 1 := by omega
    obtain ⟨b1, b2⟩ := part_back (p := p) hw hjz
    have eB : ¬ partB w z p j (partF w z p j) = true := by unfold partB; rw [decide_eq_true_eq, b1, b2]; omega
    simp only [symbolonlaw06_TermsBlocks.l1]
    rw [e, h1, if_pos (by omega), if_pos (by omega), if_neg (by omega), if_neg (by omega), if_pos (by omega), if_pos (by rw [partM_len]; omega), partM_get _ _ _ _ _ _ h2, if_neg eB, w1 (x := (j : Int)) (by omega) (by omega), show wrap64 ((0 : Int) + 1) = 1 by unfold wrap64; omega, Int.toNat_natCast, partM_set _ _ _ _ _ hw hjz h2]
    exact hr
/-- A Pool's numbers: channels, rows, columns of blocks. -/
structure PoolN (x : S40) (s t : S23) (C h w z : Nat) : Prop where
  x2 : x.f2 = (z : Int)
  z1 : 0 < z
  z12 : z ≤ 12
  w1 : 0 < w
  h1 : 0 < h
  s0 : s.f0 = (C : Int)
  s1 : s.f1 = ((h * z : Nat) : Int)
  s2 : s.f2 = ((w * z : Nat) : Int)
  t0 : t.f0 = (C : Int)
  t1 : t.f1 = (h : Int)
  t2 : t.f2 = (w : Int)
theorem pool_n {x : S40} {s t : S23} (hs : Sy.rightB s = true) (hq : Sy.outO s x = some t) (k3 : x.f0 = 3) : ∃ C h w z, PoolN x s t C h w z := by
  have ht := (out_bd hs hq).1
  have hp : Sy.poolO s x.f2 = some t := by unfold Sy.outO at hq; rw [if_neg (by omega), if_neg (by omega), if_pos k3] at hq; exact hq
  obtain ⟨z1, z2, t0, t1, t2⟩ := pool_some hp
  have z3 : s.f2 % x.f2 = 0 := by
    unfold Sy.poolO at hp
    split at hp
    · rename_i hh; exact hh.2.2.2
    · cases hp
  obtain ⟨⟨a1, a2⟩, ⟨b1, b2⟩, ⟨c1, c2⟩, -⟩ := right_bd ht
  obtain ⟨⟨s1, s2⟩, ⟨s3, s4⟩, ⟨s5, s6⟩, -⟩ := right_bd hs
  have hle : x.f2 ≤ s.f1 := Int.le_of_dvd (by omega) (Int.dvd_of_emod_eq_zero z2)
  have e1 : s.f1 = t.f1 * x.f2 := by rw [t1]; exact (Int.ediv_mul_cancel (Int.dvd_of_emod_eq_zero z2)).symm
  have e2 : s.f2 = t.f2 * x.f2 := by rw [t2]; exact (Int.ediv_mul_cancel (Int.dvd_of_emod_eq_zero z3)).symm
  obtain ⟨z, hz⟩ := Int.eq_ofNat_of_zero_le (show 0 ≤ x.f2 by omega)
  obtain ⟨h, hh⟩ := Int.eq_ofNat_of_zero_le (show 0 ≤ t.f1 by omega)
  obtain ⟨w, hw⟩ := Int.eq_ofNat_of_zero_le (show 0 ≤ t.f2 by omega)
  obtain ⟨C, hC⟩ := Int.eq_ofNat_of_zero_le (show 0 ≤ s.f0 by omega)
  exact ⟨C, h, w, z, ⟨hz, by omega, by omega, by omega, by omega, hC, by rw [e1, hh, hz]; push_cast; rfl, by rw [e2, hw, hz]; push_cast; rfl, by rw [t0, hC], hh, hw⟩⟩
theorem PoolN.out {x : S40} {s t : S23} {C h w z : Nat} (g : PoolN x s t C h w z) (ht : Sy.rightB t = true) : Sy.sizeI t = ((C * h * w : Nat) : Int) := by rw [size_mul ht, g.t0, g.t1, g.t2]; push_cast; rfl
theorem PoolN.inn {x : S40} {s t : S23} {C h w z : Nat} (g : PoolN x s t C h w z) (hs : Sy.rightB s = true) : Sy.sizeI s = ((C * h * (w * z) * z : Nat) : Int) := by
  rw [size_mul hs, g.s0, g.s1, g.s2]; push_cast; simp only [Int.mul_assoc, Int.mul_comm, Int.mul_left_comm]
theorem partsT_len (x : S40) (s t : S23) (p : Int) : (Sy.partsT x s t p).length = x.f2.toNat * x.f2.toNat := by simp [Sy.partsT, Sy.partL]
theorem partsT_get {x : S40} {s t : S23} {C h w z : Nat} (g : PoolN x s t C h w z) (p j : Nat) (hj : j < z * z) : rd (Sy.partsT x s t (p : Int)) (j : Int) = (partF w z p j : Int) := by
  have e1 : x.f2.toNat = z := by rw [g.x2]; rfl
  have e2 : ((p : Int) / t.f2 / t.f1).toNat = p / w / h := by rw [g.t2, g.t1]; rfl
  have e3 : ((p : Int) / t.f2 % t.f1).toNat = p / w % h := by rw [g.t2, g.t1]; rfl
  have e4 : ((p : Int) % t.f2).toNat = p % w := by rw [g.t2]; rfl
  unfold Sy.partsT
  rw [e1, e2, e3, e4]
  have e5 : rd (Sy.partL s z (p / w / h) (p / w % h) (p % w) (z * z)) (j : Int) = Sy.atI s ((p / w / h : Nat) : Int) ((p / w % h * z + j / z : Nat) : Int) ((p % w * z + j % z : Nat) : Int) := by simp [Sy.partL, rd, List.getD, hj]
  rw [e5]
  unfold Sy.atI partF
  rw [g.s1, g.s2, ← Int.natCast_mul, ← Int.natCast_add, ← Int.natCast_mul, ← Int.natCast_add]
  have d := Nat.div_add_mod (p / w) h
  rw [Nat.mul_comm] at d
  have e6 : p / w / h * (h * z) + (p / w % h * z + j / z) = p / w * z + j / z := by
    rw [← Nat.mul_assoc, ← Nat.add_assoc, ← Nat.add_mul, d]
  rw [e6]
theorem partF_lt {C h w z p j : Nat} (hw : 0 < w) (hp : p < C * h * w) (hj : j < z * z) : partF w z p j < C * h * (w * z) * z := by
  have hz : 0 < z := by rcases Nat.eq_zero_or_pos z with h | h; · subst h; omega
                        · exact h
  have h1 : j / z < z := Nat.div_lt_of_lt_mul hj
  have h2 : j % z < z := Nat.mod_lt _ hz
  have h3 : p % w < w := Nat.mod_lt _ hw
  have h4 : p / w < C * h := Nat.div_lt_of_lt_mul (by rw [Nat.mul_comm w]; exact hp)
  have g1 : p % w * z + j % z < w * z := by
    have : (p % w + 1) * z ≤ w * z := Nat.mul_le_mul_right z h3
    rw [Nat.add_mul, Nat.one_mul] at this
    omega
  have g2 : p / w * z + j / z + 1 ≤ C * h * z := by
    have : (p / w + 1) * z ≤ C * h * z := Nat.mul_le_mul_right z h4
    rw [Nat.add_mul, Nat.one_mul] at this
    omega
  have g3 : (p / w * z + j / z + 1) * (w * z) ≤ C * h * z * (w * z) := Nat.mul_le_mul_right _ g2
  rw [Nat.add_mul (p / w * z + j / z) 1, Nat.one_mul] at g3
  have e : C * h * (w * z) * z = C * h * z * (w * z) := by rw [Nat.mul_assoc (C * h) (w * z) z, Nat.mul_comm (w * z) z, ← Nat.mul_assoc]
  unfold partF
  omega
theorem step_k (a Z k : Nat) (hk : a + (Z + 2) + 160 < k + 1) : Z < k ∧ a + 160 < k - Z - 1 := by omega
theorem step_n (a p n : Nat) (hn : a - p = n + 1) : a - (p + 1) = n ∧ p + 1 ≤ a ∧ p < a := by omega
theorem blocks_l0 (S : S23) (l : List S40) (h0 : (Sy.allR S l).2 = 0) (i : Nat) (hi : i < l.length) (k3 : (rd_T40 l (i : Int)).f0 = 3) (C h w z : Nat) (g : PoolN (rd_T40 l (i : Int)) (Sy.shp S l (i : Int)) (Sy.shp S l ((i : Int) + 1)) C h w z) (hN : C * h * (w * z) * z ≤ 128) (hm : C * h * w ≤ 128) :
    ∀ (n p k : Nat), C * h * w - p = n → n * (z * z + 2) + 160 < k → p ≤ C * h * w →
    symbolonlaw06_TermsBlocks.l0 k true (i : Int) ((C * h * (w * z) * z : Nat) : Int) ((C * h * w : Nat) : Int) (partM w z (C * h * (w * z) * z) p 0) (p : Int) S.f0 S.f1 S.f2 l = some true := by
  obtain ⟨hl, hs, ht, hq, f3, f4, fr0, fr1⟩ := lay_ok h0 i hi
  have hzz : z * z ≤ 144 := by have := Nat.mul_le_mul g.z12 g.z12; omega
  intro n
  induction n with
  | zero =>
    intro p k hn hk hp
    obtain ⟨k, rfl⟩ : ∃ q, k = q + 1 := ⟨k - 1, by omega⟩
    obtain rfl : p = C * h * w := by omega
    simp only [symbolonlaw06_TermsBlocks.l0]
    rw [if_neg (by omega)]
    exact blocks_l2 w z _ (C * h) g.z1 g.w1 (by omega) rfl _ 0 k rfl (by omega) (by omega)
  | succ n ih =>
    intro p k hn hk hp
    obtain ⟨k, rfl⟩ : ∃ q, k = q + 1 := ⟨k - 1, by omega⟩
    rw [Nat.add_mul, Nat.one_mul] at hk
    obtain ⟨k1, k2⟩ := step_k (n * (z * z + 2)) (z * z) k hk
    obtain ⟨n1, n2, n3⟩ := step_n (C * h * w) p n hn
    have n4 : p ≤ 1000 := by clear hk k1 k2 ih; omega
    have n5 : C * h * (w * z) * z ≤ 1000 := Nat.le_trans hN (by decide)
    have hpr : Sy.partsR S l (i : Int) (p : Int) = Sy.partsT (rd_T40 l (i : Int)) (Sy.shp S l (i : Int)) (Sy.shp S l ((i : Int) + 1)) (p : Int) := by
      unfold Sy.partsR
      rw [if_pos ⟨h0, by omega, by omega⟩, if_pos ⟨k3, by omega, by rw [g.out ht]; omega⟩]
    have hlp : (Sy.partsT (rd_T40 l (i : Int)) (Sy.shp S l (i : Int)) (Sy.shp S l ((i : Int) + 1)) (p : Int)).length = z * z := by rw [partsT_len, g.x2]; rfl
    have e : wrap64 ((z : Int) * (z : Int)) = ((z * z : Nat) : Int) := by rw [← Int.natCast_mul]; unfold wrap64; omega
    simp only [symbolonlaw06_TermsBlocks.l0]
    unfold terms_Parts.f
    rw [if_pos (by omega), Option.bind_some, show Sy.partsR ⟨S.f0, S.f1, S.f2⟩ l (i : Int) (p : Int) = Sy.partsR S l (i : Int) (p : Int) from rfl, hpr, if_pos (by omega), if_pos (by omega), hlp, g.x2, e, if_pos rfl]
    have := blocks_l1 (i : Int) ((C * h * w : Nat) : Int) w z (C * h * (w * z) * z) p _ S l g.w1 g.z1 g.z12 n5 hlp n4 (fun j hj => ⟨partsT_get g p j hj, partF_lt g.w1 n3 hj⟩) (z * z) 0 k (Nat.sub_zero _) k1 (Nat.zero_le _)
    refine this.trans ?_
    exact ih (p + 1) (k - z * z - 1) n1 k2 n2
theorem termsBlocks_f (S : S23) (l : List S40) (a : Int) (ha : 0 ≤ a ∧ a ≤ 255) : symbolonlaw06_TermsBlocks.f 2000 S.f0 S.f1 S.f2 l a = some true := by
  obtain ⟨i, hi8, hmod⟩ := byte_mod ha
  unfold symbolonlaw06_TermsBlocks.f symbolonlaw04_Great.f
  rw [head6, Option.bind_some, Option.bind_some, hmod]
  by_cases hg : decide ((l.length : Int) > 60) = true
  · rw [if_pos hg]
  · rw [if_neg hg]
    by_cases hh : (Sy.allR S l).2 = 0 ∧ 0 ≤ (i : Int) ∧ (i : Int) < l.length
    · obtain ⟨h0, -, hi⟩ := hh
      have hi : i < l.length := by omega
      obtain ⟨hl, hs, ht, hq, f3, f4, fr0, fr1⟩ := lay_ok h0 i hi
      have hz := size_bd hs
      have hzt := size_bd ht
      rw [sizes_yes h0 i hi _ (by omega), Option.bind_some, if_pos rfl, if_pos (by omega), if_pos (by omega)]
      by_cases k3 : (rd_T40 l (i : Int)).f0 = 3
      · obtain ⟨C, h, w, z, g⟩ := pool_n hs hq k3
        rw [if_pos k3, if_pos hz.1, if_pos (by omega)]
        have hN := g.inn hs
        have hM := g.out ht
        have := blocks_l0 S l h0 i hi k3 C h w z g (by omega) (by omega) (C * h * w) 0 2000 (by omega) (by
          have h1 : C * h * w * (z * z) ≤ 128 := by
            have e : C * h * w * (z * z) = C * h * (w * z) * z := by simp only [Nat.mul_assoc]
            omega
          rw [Nat.mul_add]; omega) (by omega)
        have e0 : partM w z (C * h * (w * z) * z) 0 0 = List.replicate (C * h * (w * z) * z) 0 := by
          apply List.ext_getElem
          · simp [partM]
          · intro q h1 h2
            simp [partM, partB]
        rw [e0] at this
        rw [hN, hM]
        exact this
      · rw [if_neg k3, if_pos rfl]
        unfold terms_Parts.f
        have : Sy.partsR ⟨S.f0, S.f1, S.f2⟩ l (i : Int) 0 = [] := by
          unfold Sy.partsR
          rw [if_pos ⟨h0, by omega, by omega⟩, if_neg (fun hh => k3 hh.1)]
        rw [Option.bind_some, this]
        rfl
    · rw [sizes_no hh _ (by omega), Option.bind_some, if_neg (by decide)]
end Go.Proofs.Ytnfcadjckoebkaa.P
