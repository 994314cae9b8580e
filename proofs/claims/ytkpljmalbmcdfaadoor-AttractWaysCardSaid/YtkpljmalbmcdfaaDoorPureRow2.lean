/-
  Plain: a game of which all stands is right; owners exchanged. No program.
-/
import Derived.Test.YtkpljmalbmcdfaaDoorPureRow
set_option linter.unusedVariables false
set_option linter.unusedSimpArgs false
namespace Go.Proofs.YtkpljmalbmcdfaaDoor
open Go Go.RowKit
theorem row_fine {n : Int} {row : List Int} (h1 : ∀ k : Int, 0 ≤ k → k < (row.length : Int) → 0 ≤ gI row k ∧ gI row k < n) (h2 : ∀ k : Int, 0 < k → k < (row.length : Int) → gI row (k - 1) < gI row k) : ∀ q : Nat, q ≤ row.length → rowBad n (-1) (row.take q) = false
  | 0, _ => by simp [rowBad]
  | q + 1, h => by
    have ih := row_fine h1 h2 q (by omega)
    have h3 := h1 (q : Int) (by omega) (by omega)
    have := bad_next (n := n) (row := row) (q := (q : Int)) (by omega) (by omega) (by rw [Int.toNat_natCast]; exact ih) (by
      by_cases hq : q = 0
      · subst hq
        rw [Int.toNat_natCast, lastOf_zero]
        omega
      · have h4 := h2 (q : Int) (by omega) (by omega)
        rw [last_at (by omega) (by omega)] at h4
        exact h4) h3.2
    rwa [show ((q : Int) + 1).toNat = q + 1 by omega] at this
theorem isR_of {g : GameL} (hG : RightG g) : isR g = true := by
  have hpl := hG.pl
  have hml := hG.ml
  have hn0 := hG.n0
  have hn1 := hG.n1
  have e : (rightP g).2 = 0 := by
    rw [right_ok ⟨hpl, hml⟩ (by omega) fun j hj => ?_]
    have h1 := hG.ow j (by omega) (by omega)
    have h4 := hG.pr j (by omega) (by omega)
    have h5 := hG.ne j (by omega) (by omega)
    have hb := row_fine (n := (g.ow.length : Int)) (row := gL g.mv j) (fun k a b => hG.mv j (by omega) (by omega) k a b) (fun k a b => hG.up j (by omega) (by omega) k a b) (gL g.mv j).length (Nat.le_refl _)
    rw [List.take_of_length_le (Nat.le_refl _)] at hb
    simp only [gI, gL, Int.toNat_natCast] at h1 h4 h5 hb
    unfold GameL.err posErr
    rw [if_neg (by omega), if_neg (by omega), if_neg (by omega), if_neg (by rw [hb]; decide)]
  unfold isR
  simp [e]
/-- Other owners, the same moves. -/
theorem right_ow {g : GameL} (hG : RightG g) {xs : List Int} (hl : xs.length = g.ow.length) (hx : ∀ j : Int, 0 ≤ j → j < (g.ow.length : Int) → gI xs j = 0 ∨ gI xs j = 1) : RightG ⟨xs, g.pr, g.mv⟩ := by
  refine ⟨hG.pl.trans hl.symm, hG.ml.trans hl.symm, ?_, ?_, ?_, ?_, ?_, ?_, ?_⟩
  · show 0 < xs.length
    rw [hl]; exact hG.n0
  · show xs.length ≤ 200
    rw [hl]; exact hG.n1
  · intro i a b
    exact hx i a (by rw [← hl]; exact b)
  · intro i a b
    exact hG.pr i a (by rw [← hl]; exact b)
  · intro i a b
    exact hG.ne i a (by rw [← hl]; exact b)
  · intro i a b k c d
    show 0 ≤ gI (gL g.mv i) k ∧ gI (gL g.mv i) k < (xs.length : Int)
    rw [hl]
    exact hG.mv i a (by rw [← hl]; exact b) k c d
  · intro i a b
    exact hG.up i a (by rw [← hl]; exact b)
end Go.Proofs.YtkpljmalbmcdfaaDoor
