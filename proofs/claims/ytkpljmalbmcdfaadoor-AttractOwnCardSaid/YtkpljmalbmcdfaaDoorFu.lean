/-
  An operation reads one element of an array that is a value.
-/
import Derived.Test.YtkpljmalbmcdfaaDoorFt
set_option linter.unusedVariables false
namespace Go.Proofs.YtkpljmalbmcdfaaDoor
open Go Go.RowKit
theorem idxM {α : Type} (f : α → Value) {l : List α} (d : α) (i : Int) (h0 : 0 ≤ i) (h1 : i < (l.length : Int)) : ((l.map f).toArray : Array Value)[i.toNat * 1]? = some (f (l.getD i.toNat d)) := by
  have h : i.toNat < l.length := by omega
  simp [h, List.getD]
end Go.Proofs.YtkpljmalbmcdfaaDoor
