/-
  The first position that may not be, of the game without positions.
-/
import Derived.Test.YtkkophhnliplhaaDoorWRight2
import Derived.Test.YtkkophhnliplhaaDoorPureGame9
set_option linter.unusedVariables false
namespace Go.Proofs.YtkkophhnliplhaaDoor
open Go Go.RowKit
theorem right_nil {w : World} : Calls Tryd.prog 14 #[.agg #[.slice none 0 0, .slice none 0 0, .slice none 0 0]] w fun e w' => e = .returned (.tuple #[.int .i64 0, .int .i64 10]) ∧ Ext w w' := by
  have h := right_any (g := (⟨[], [], []⟩ : GameL)) (w := w) (Ag0 := none) (Ag1 := none) (Ag2 := none) (cg0 := 0) (cg1 := 0) (cg2 := 0) rdG_nil
  have e1 : (rightP (⟨[], [], []⟩ : GameL)) = (0, 10) := by decide +kernel
  rw [e1] at h
  exact h
end Go.Proofs.YtkkophhnliplhaaDoor
