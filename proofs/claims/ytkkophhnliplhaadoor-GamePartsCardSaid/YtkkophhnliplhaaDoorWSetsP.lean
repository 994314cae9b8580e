/-
  The walks of the program's sets, their values named.
-/
import Derived.Test.YtkkophhnliplhaaDoorPureSet3
import Derived.Test.YtkkophhnliplhaaDoorWSetX
import Derived.Test.YtkkophhnliplhaaDoorWFull
import Derived.Test.YtkkophhnliplhaaDoorWList
import Derived.Test.YtkkophhnliplhaaDoorWLeast
set_option linter.unusedVariables false
namespace Go.Proofs.YtkkophhnliplhaaDoor
open Go Go.RowKit
theorem orS_any {s t : List Int} {w : World} (hs : OkW s) (ht : OkW t) : Calls Tryd.prog 32 #[.agg (s.map wV).toArray, .agg (t.map wV).toArray] w fun e w' => e = .returned (.agg ((orS s t).map wV).toArray) ∧ Ext w w' := or_any hs ht
theorem andS_any {s t : List Int} {w : World} (hs : OkW s) (ht : OkW t) : Calls Tryd.prog 31 #[.agg (s.map wV).toArray, .agg (t.map wV).toArray] w fun e w' => e = .returned (.agg ((andS s t).map wV).toArray) ∧ Ext w w' := and_any hs ht
end Go.Proofs.YtkkophhnliplhaaDoor
