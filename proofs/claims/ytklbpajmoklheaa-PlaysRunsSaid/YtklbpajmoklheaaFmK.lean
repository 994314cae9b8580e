/-
  The keys of plays.Run's map: pairs of ints. Conditions: what the theorem names.
-/
import Derived.Test.YtklbpajmoklheaaFm
set_option linter.unusedVariables false
set_option linter.unusedSimpArgs false
namespace Go.Proofs.Ytklbpajmoklheaa
open Go Go.RowKit
theorem keyT : KeyT Try.prog 72 74 3 where
  m := by kernel_rfl
  wide := by kernel_rfl
  ck := fun em x w => by kernel_rfl
  eq := fun a b w => by
    have h := eqV_sound (P := Try.prog) (d := 10000) (t := 74) (x := key2 a) (y := key2 b) (b := (a.1 == b.1) && ((a.2 == b.2) && true)) (by kernel_rfl) w
    have e : ((a.1 == b.1) && ((a.2 == b.2) && true)) = decide (a = b) := by
      rw [Bool.eq_iff_iff]
      simp [Prod.ext_iff]
    rw [e] at h
    exact h
  z := fun w => by rfl
end Go.Proofs.Ytklbpajmoklheaa
