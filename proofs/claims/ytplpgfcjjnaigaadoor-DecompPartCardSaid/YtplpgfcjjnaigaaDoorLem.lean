/-
  Plain lemmas on lists that the walks lean on. No program.
-/
import Derived.Test.YtplpgfcjjnaigaaDoorFy
namespace Go.Proofs.YtplpgfcjjnaigaaDoor
open Go Go.RowKit

/-- Where a number first stands in a list; -1: nowhere. -/
def idxI (l : List Int) (v : Int) : Int := if v ∈ l then ((l.idxOf v : Nat) : Int) else -1
/-- The first k of what f tells. -/
def limL {α : Type} (f : Int → α) (k : Int) : List α := (List.range k.toNat).map fun (i : Nat) => f (i : Int)
end Go.Proofs.YtplpgfcjjnaigaaDoor
