/-
  The walks of the program's sets, their values named.
-/
import Derived.Test.YtkpljmalbmcdfaaDoorPureSet3
import Derived.Test.YtkpljmalbmcdfaaDoorWSetX
import Derived.Test.YtkpljmalbmcdfaaDoorWFull
import Derived.Test.YtkpljmalbmcdfaaDoorWList
import Derived.Test.YtkpljmalbmcdfaaDoorWLeast
set_option linter.unusedVariables false
namespace Go.Proofs.YtkpljmalbmcdfaaDoor
open Go Go.RowKit
theorem orS_any {s t : List Int} {w : World} (hs : OkW s) (ht : OkW t) : Calls Tryd.prog 25 #[.agg (s.map wV).toArray, .agg (t.map wV).toArray] w fun e w' => e = .returned (.agg ((orS s t).map wV).toArray) ∧ Ext w w' := or_any hs ht
theorem andS_any {s t : List Int} {w : World} (hs : OkW s) (ht : OkW t) : Calls Tryd.prog 19 #[.agg (s.map wV).toArray, .agg (t.map wV).toArray] w fun e w' => e = .returned (.agg ((andS s t).map wV).toArray) ∧ Ext w w' := and_any hs ht
theorem minusS_any {s t : List Int} {w : World} (hs : OkW s) (ht : OkW t) : Calls Tryd.prog 22 #[.agg (s.map wV).toArray, .agg (t.map wV).toArray] w fun e w' => e = .returned (.agg ((minusS s t).map wV).toArray) ∧ Ext w w' := minus_any hs ht
end Go.Proofs.YtkpljmalbmcdfaaDoor
