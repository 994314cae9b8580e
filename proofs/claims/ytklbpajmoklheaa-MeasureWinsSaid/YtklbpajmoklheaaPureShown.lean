/-
  Plain: what the solver by tuples tells of the smallest game that is shown. No program.
-/
import Derived.Test.YtklbpajmoklheaaPureEven
set_option linter.unusedVariables false
namespace Go.Proofs.Ytklbpajmoklheaa
open Go Go.RowKit
def shownG : GameL := ⟨[0, 1], [1, 2], [[0, 1], [0]]⟩
def shownL : List Tup := [⟨false, 1, 0, 0, 0⟩, tup0]
theorem shown_isR : isR shownG = true := by decide
theorem shown_step : (List.replicate shownG.ow.length tup0).set (0 : Int).toNat (liftT shownG (List.replicate shownG.ow.length tup0) 0) = shownL := by decide
theorem shown_least : LeastT shownG shownL := by
  have hG := isR_ok shown_isR
  rw [← shown_step]
  refine ⟨bnd_set hG (bnd_zero _) (by decide) (by decide), ?_, low_set hG (bnd_zero _) (low_zero _) (by decide) (by decide)⟩
  rw [shown_step]
  intro i h0 h1
  have h1 : i < 2 := h1
  obtain rfl | rfl : i = 0 ∨ i = 1 := by omega
  · show leT (liftT shownG shownL 0) (gT shownL 0)
    unfold leT
    decide
  · show leT (liftT shownG shownL 1) (gT shownL 1)
    unfold leT
    decide
theorem shown_solved {l : List Tup} (h : SolvedT shownG l) : l = shownL := by
  rcases h with ⟨h, _⟩ | ⟨_, h⟩
  · exact absurd h (by decide)
  · exact least_one h shown_least
theorem shown_ok {l : List Tup} (h : l = shownL) : okL l := by
  subst h
  exact bnd_ok shown_least.1
theorem shown_even {l : List Tup} {a b : List Int} (hl : l = shownL) (h : EvenT shownG l a b) : a = [0, 1] ∧ b = [1, -1] := by
  subst hl
  exact even_one h (.inr ⟨by decide, by decide, by decide⟩)
end Go.Proofs.Ytklbpajmoklheaa
