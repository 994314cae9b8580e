/-
  Plain: the order of tuples, from a priority on. No program.
-/
import Derived.Test.YtklbpajmoklheaaPureLift
set_option linter.unusedVariables false
namespace Go.Proofs.Ytklbpajmoklheaa
open Go Go.RowKit
theorem cmp_back (a b c : Tup) : cmpT a b 0 = - cmpT b a 0 ∧ (cmpT a b 0 ≤ 0 → cmpT b c 0 ≤ 0 → cmpT a c 0 ≤ 0) ∧ (cmpT a b 0 ≥ 0 → cmpT b c 0 ≥ 0 → cmpT a c 0 ≥ 0) := by
  refine ⟨cmp_swap a b 0, fun h1 h2 => leT_trans h1 h2, fun h1 h2 => ?_⟩
  have e1 := cmp_swap a b 0
  have e2 := cmp_swap b c 0
  have e3 := cmp_swap a c 0
  have := leT_trans (a := c) (b := b) (c := a) (by unfold leT; omega) (by unfold leT; omega)
  unfold leT at this
  omega
theorem cmp_step (a b : Tup) (p : Int) : cmpT a b (p + 1) ≠ 0 → cmpT a b p = cmpT a b (p + 1) := by
  cases ha : a.top <;> cases hb : b.top
  · rw [low_ff ha hb, low_ff ha hb]
    unfold lowT
    (repeat' split) <;> omega
  · rw [← cmp_ft ha hb, ← cmp_ft ha hb]
    omega
  · rw [← cmp_tf ha hb, ← cmp_tf ha hb]
    omega
  · rw [← cmp_tt ha hb, ← cmp_tt ha hb]
    omega
end Go.Proofs.Ytklbpajmoklheaa
