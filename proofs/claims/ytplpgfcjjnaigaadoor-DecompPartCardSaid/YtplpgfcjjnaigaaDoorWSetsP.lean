/-
  The walks of the program's sets, their values named.
-/
import Derived.Test.YtplpgfcjjnaigaaDoorPureSet3
import Derived.Test.YtplpgfcjjnaigaaDoorWSetX
import Derived.Test.YtplpgfcjjnaigaaDoorWFull
import Derived.Test.YtplpgfcjjnaigaaDoorWList
import Derived.Test.YtplpgfcjjnaigaaDoorWLeast
set_option linter.unusedVariables false
namespace Go.Proofs.YtplpgfcjjnaigaaDoor
open Go Go.RowKit
theorem orS_any {s t : List Int} {w : World} (hs : OkW s) (ht : OkW t) : Calls Tryd.prog 32 #[.agg (s.map wV).toArray, .agg (t.map wV).toArray] w fun e w' => e = .returned (.agg ((orS s t).map wV).toArray) ∧ Ext w w' := or_any hs ht
theorem andS_any {s t : List Int} {w : World} (hs : OkW s) (ht : OkW t) : Calls Tryd.prog 26 #[.agg (s.map wV).toArray, .agg (t.map wV).toArray] w fun e w' => e = .returned (.agg ((andS s t).map wV).toArray) ∧ Ext w w' := and_any hs ht
theorem minusS_any {s t : List Int} {w : World} (hs : OkW s) (ht : OkW t) : Calls Tryd.prog 42 #[.agg (s.map wV).toArray, .agg (t.map wV).toArray] w fun e w' => e = .returned (.agg ((minusS s t).map wV).toArray) ∧ Ext w w' := minus_any hs ht
end Go.Proofs.YtplpgfcjjnaigaaDoor
