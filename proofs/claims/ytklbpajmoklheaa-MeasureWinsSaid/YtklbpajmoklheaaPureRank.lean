/-
  Plain: ranks of tuples, so that lifting ends. No program.
-/
import Derived.Test.YtklbpajmoklheaaPureLeast
set_option linter.unusedVariables false
namespace Go.Proofs.Ytklbpajmoklheaa
open Go Go.RowKit
theorem digit_lt {x x' n y y' : Int} (h0 : 0 ≤ x') (h1 : x ≤ n) (hn : 0 ≤ n) (h : y < y') : x + (n + 1) * y < x' + (n + 1) * y' := by
  have := Int.mul_le_mul_of_nonneg_left (show y + 1 ≤ y' by omega) (show 0 ≤ n + 1 by omega)
  rw [Int.mul_add] at this
  omega
def rankN (n0 n1 n2 : Int) (t : Tup) : Int := t.c0 + (n0 + 1) * (t.c1 + (n1 + 1) * (t.c2 + (n2 + 1) * t.c3))
def fullN (n0 n1 n2 n3 : Int) : Int := (n0 + 1) * ((n1 + 1) * ((n2 + 1) * (n3 + 1)))
def rankT (n0 n1 n2 n3 : Int) (t : Tup) : Int := if t.top = true then fullN n0 n1 n2 n3 else rankN n0 n1 n2 t
theorem rankN_lt {n0 n1 n2 n3 : Int} {a b : Tup} (ha : Bnd n0 n1 n2 n3 a) (hb : Bnd n0 n1 n2 n3 b) (h : a.c3 < b.c3 ∨ (a.c3 = b.c3 ∧ (a.c2 < b.c2 ∨ (a.c2 = b.c2 ∧ (a.c1 < b.c1 ∨ (a.c1 = b.c1 ∧ a.c0 < b.c0)))))) : rankN n0 n1 n2 a < rankN n0 n1 n2 b := by
  obtain ⟨_, a0, a1, a2, a3⟩ := ha
  obtain ⟨_, b0, b1, b2, b3⟩ := hb
  unfold rankN
  rcases h with h | ⟨e, h⟩
  · exact digit_lt b0.1 a0.2 (by omega) (digit_lt b1.1 a1.2 (by omega) (digit_lt b2.1 a2.2 (by omega) h))
  · rw [e]
    rcases h with h | ⟨e, h⟩
    · exact digit_lt b0.1 a0.2 (by omega) (digit_lt b1.1 a1.2 (by omega) (by omega))
    · rw [e]
      rcases h with h | ⟨e, h⟩
      · exact digit_lt b0.1 a0.2 (by omega) (by omega)
      · rw [e]
        omega
theorem rankN_full {n0 n1 n2 n3 : Int} {a : Tup} (ha : Bnd n0 n1 n2 n3 a) : rankN n0 n1 n2 a < fullN n0 n1 n2 n3 := by
  obtain ⟨_, a0, a1, a2, a3⟩ := ha
  have h := digit_lt (Int.le_refl 0) a0.2 (by omega) (digit_lt (Int.le_refl 0) a1.2 (by omega) (digit_lt (Int.le_refl 0) a2.2 (by omega) (show a.c3 < n3 + 1 by omega)))
  unfold rankN fullN
  simpa using h
theorem rankN_nonneg {n0 n1 n2 n3 : Int} {a : Tup} (ha : Bnd n0 n1 n2 n3 a) : 0 ≤ rankN n0 n1 n2 a := by
  obtain ⟨_, a0, a1, a2, a3⟩ := ha
  unfold rankN
  have h1 := Int.mul_nonneg (show 0 ≤ n2 + 1 by omega) a3.1
  have h2 := Int.mul_nonneg (show 0 ≤ n1 + 1 by omega) (show 0 ≤ a.c2 + (n2 + 1) * a.c3 by omega)
  have h3 := Int.mul_nonneg (show 0 ≤ n0 + 1 by omega) (show 0 ≤ a.c1 + (n1 + 1) * (a.c2 + (n2 + 1) * a.c3) by omega)
  omega
theorem rankT_le {n0 n1 n2 n3 : Int} {a : Tup} (ha : Bnd n0 n1 n2 n3 a) : 0 ≤ rankT n0 n1 n2 n3 a ∧ rankT n0 n1 n2 n3 a ≤ fullN n0 n1 n2 n3 := by
  have h1 := rankN_nonneg ha
  have h2 := rankN_full ha
  unfold rankT
  split <;> omega
theorem rankT_lt {n0 n1 n2 n3 : Int} {a b : Tup} (ha : Bnd n0 n1 n2 n3 a) (hb : Bnd n0 n1 n2 n3 b) (h : cmpT b a 0 > 0) : rankT n0 n1 n2 n3 a < rankT n0 n1 n2 n3 b := by
  unfold rankT
  cases hta : a.top
  · cases htb : b.top
    · rw [if_neg (by decide), if_neg (by decide)]
      refine rankN_lt ha hb ?_
      rw [low_ff htb hta] at h
      unfold lowT at h
      omega
    · rw [if_neg (by decide), if_pos rfl]
      exact rankN_full ha
  · cases htb : b.top
    · rw [← cmp_ft htb hta] at h
      omega
    · rw [← cmp_tt htb hta] at h
      omega
/-- How far a list of tuples is from its end. -/
def farL (M : Int) (r : Tup → Int) (l : List Tup) : Nat := (l.map fun t => (M - r t).toNat).sum
theorem far_set {M : Int} {r : Tup → Int} : ∀ {l : List Tup} {i : Nat} {t : Tup}, i < l.length → r (l.getD i tup0) < r t → r t ≤ M → farL M r (l.set i t) < farL M r l
  | [], i, t, h, _, _ => by simp at h
  | x :: l, 0, t, h, h1, h2 => by
    simp only [farL, List.set_cons_zero, List.map_cons, List.sum_cons]
    simp only [List.getD_cons_zero] at h1
    omega
  | x :: l, i + 1, t, h, h1, h2 => by
    have := far_set (l := l) (i := i) (t := t) (by simpa using h) (by simpa using h1) h2
    simp only [farL, List.set_cons_succ, List.map_cons, List.sum_cons] at this ⊢
    omega
def farG (g : GameL) (l : List Tup) : Nat := farL (fullN (cnt g.pr 1) (cnt g.pr 3) (cnt g.pr 5) (cnt g.pr 7)) (rankT (cnt g.pr 1) (cnt g.pr 3) (cnt g.pr 5) (cnt g.pr 7)) l
theorem farG_lt {g : GameL} (hG : RightG g) {l : List Tup} (hb : BndL g l) {i : Int} (h0 : 0 ≤ i) (h1 : i < g.ow.length) (h : cmpT (liftT g l i) (gT l i) 0 > 0) : farG g (l.set i.toNat (liftT g l i)) < farG g l := by
  have e1 := hb.1
  have k := lift_bnd hG hb.1 hb.2 h0 h1
  exact far_set (by omega) (rankT_lt (hb.2 i h0 h1) k h) (rankT_le k).2
theorem bnd_ok {g : GameL} {l : List Tup} (h : BndL g l) : okL l := fun i => by
  by_cases hi : 0 ≤ i ∧ i < g.ow.length
  · obtain ⟨_, k0, k1, k2, k3⟩ := h.2 i hi.1 hi.2
    unfold okT
    omega
  · by_cases h0 : i.toNat < l.length
    · have hl := h.1
      have e : gT l i = gT l 0 := by
        simp only [gA]
        rw [show i.toNat = (0 : Int).toNat by omega]
      rw [e]
      obtain ⟨_, k0, k1, k2, k3⟩ := h.2 0 (by omega) (by omega)
      unfold okT
      omega
    · have e : gT l i = tup0 := by
        simp only [gA, List.getD_eq_getElem?_getD]
        rw [List.getElem?_eq_none (by omega)]
        rfl
      rw [e]
      unfold okT tup0
      decide
/-- What Solve tells. -/
def SolvedT (g : GameL) (l : List Tup) : Prop := (isR g = false ∧ l = []) ∨ (isR g = true ∧ LeastT g l)
theorem solve_meas {g : GameL} {l lb : List Tup} {mo m2 : Bool} (hq : m2 = false → lb = l) (hf : m2 = true → farG g lb < farG g l) (hm : mo = true) : 2 * farG g lb + m2.toNat < 2 * farG g l + mo.toNat := by
  subst hm
  cases m2
  · rw [hq rfl]
    simp
  · have := hf rfl
    simp
    omega
/-- One round of the document's Solve, positions below i having been gone through. -/
structure RoundT (g : GameL) (l lb : List Tup) (i : Int) (m : Bool) : Prop where
  no : m = false → lb = l
  st : m = false → ∀ j : Int, 0 ≤ j → j < i → leT (liftT g lb j) (gT lb j)
  yes : m = true → farG g lb < farG g l
theorem round0 {g : GameL} {l : List Tup} : RoundT g l l 0 false := ⟨fun _ => rfl, fun _ j a b => by omega, fun h => by cases h⟩
theorem round_keep {g : GameL} {l lb : List Tup} {i : Int} {m : Bool} (h : RoundT g l lb i m) (hc : ¬ cmpT (liftT g lb i) (gT lb i) 0 > 0) : RoundT g l lb (i + 1) m :=
  ⟨h.no, fun e j a b => by
    by_cases hj : j = i
    · subst hj
      exact leT_of_not_gt hc
    · exact h.st e j a (by omega), h.yes⟩
theorem round_lift {g : GameL} (hG : RightG g) {l lb : List Tup} {i : Int} {m : Bool} (h : RoundT g l lb i m) (hb : BndL g lb) (h0 : 0 ≤ i) (h1 : i < g.ow.length) (hc : cmpT (liftT g lb i) (gT lb i) 0 > 0) : RoundT g l (lb.set i.toNat (liftT g lb i)) (i + 1) true :=
  ⟨fun e => (by cases e), fun e => (by cases e), fun _ => by
    have := farG_lt hG hb h0 h1 hc
    cases m
    · rw [← h.no rfl]
      exact this
    · have := h.yes rfl
      omega⟩
end Go.Proofs.Ytklbpajmoklheaa
