/-
  Plain: bounds of products; lists that are copied. No program.
-/
import Derived.Test.YtklbpajmoklheaaPureWork
set_option linter.unusedVariables false
namespace Go.Proofs.Ytklbpajmoklheaa
open Go Go.RowKit
theorem mul_bound {n k : Int} (h0 : 0 ≤ n) (h1 : n ≤ 3000) (k0 : 0 ≤ k) : 0 ≤ n * k ∧ n * k ≤ 3000 * k :=
  ⟨Int.mul_nonneg h0 k0, Int.mul_le_mul_of_nonneg_right h1 k0⟩
end Go.Proofs.Ytklbpajmoklheaa
