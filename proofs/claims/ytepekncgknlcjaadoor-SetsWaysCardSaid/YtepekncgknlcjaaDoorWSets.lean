/-
  The walks of sets, their values named; the names are not opened from here on.
-/
import Derived.Test.YtepekncgknlcjaaDoorPureSet3
import Derived.Test.YtepekncgknlcjaaDoorWSetX
import Derived.Test.YtepekncgknlcjaaDoorWSetD
import Derived.Test.YtepekncgknlcjaaDoorWSetD2
import Derived.Test.YtepekncgknlcjaaDoorWLenR
import Derived.Test.YtepekncgknlcjaaDoorWFull
import Derived.Test.YtepekncgknlcjaaDoorWSame01
import Derived.Test.YtepekncgknlcjaaDoorWEqual01
import Derived.Test.YtepekncgknlcjaaDoorWList
import Derived.Test.YtepekncgknlcjaaDoorWLeast
set_option linter.unusedVariables false
namespace Go.Proofs.YtepekncgknlcjaaDoor
open Go Go.RowKit
theorem orS_any {s t : List Int} {w : World} (hs : OkW s) (ht : OkW t) : Calls Tryd.prog 32 #[.agg (s.map wV).toArray, .agg (t.map wV).toArray] w fun e w' => e = .returned (.agg ((orS s t).map wV).toArray) ∧ Ext w w' := or_any hs ht
theorem andS_any {s t : List Int} {w : World} (hs : OkW s) (ht : OkW t) : Calls Tryd.prog 35 #[.agg (s.map wV).toArray, .agg (t.map wV).toArray] w fun e w' => e = .returned (.agg ((andS s t).map wV).toArray) ∧ Ext w w' := and_any hs ht
theorem minusS_any {s t : List Int} {w : World} (hs : OkW s) (ht : OkW t) : Calls Tryd.prog 37 #[.agg (s.map wV).toArray, .agg (t.map wV).toArray] w fun e w' => e = .returned (.agg ((minusS s t).map wV).toArray) ∧ Ext w w' := minus_any hs ht
theorem orD_any {l r : List Bool} {w : World} (hl : l.length = 256) (hr : r.length = 256) : Calls Tryd.prog 34 #[.agg (l.map Value.bool).toArray, .agg (r.map Value.bool).toArray] w fun e w' => e = .returned (.agg ((orD l r).map Value.bool).toArray) ∧ Ext w w' := orR_any hl hr
theorem andD_any {l r : List Bool} {w : World} (hl : l.length = 256) (hr : r.length = 256) : Calls Tryd.prog 36 #[.agg (l.map Value.bool).toArray, .agg (r.map Value.bool).toArray] w fun e w' => e = .returned (.agg ((andD l r).map Value.bool).toArray) ∧ Ext w w' := andR_any hl hr
theorem minusD_any {l r : List Bool} {w : World} (hl : l.length = 256) (hr : r.length = 256) : Calls Tryd.prog 38 #[.agg (l.map Value.bool).toArray, .agg (r.map Value.bool).toArray] w fun e w' => e = .returned (.agg ((minusD l r).map Value.bool).toArray) ∧ Ext w w' := minusR_any hl hr
theorem fullD_any {n : Int} {w : World} : Calls Tryd.prog 17 #[.int .i64 n] w fun e w' => e = .returned (.agg ((fullD n).map Value.bool).toArray) ∧ Ext w w' := fullR_any
end Go.Proofs.YtepekncgknlcjaaDoor
