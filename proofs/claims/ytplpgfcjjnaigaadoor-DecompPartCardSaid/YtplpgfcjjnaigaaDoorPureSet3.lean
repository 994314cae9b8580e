/-
  Plain: what the walks of sets ask beside. No program.
-/
import Derived.Test.YtplpgfcjjnaigaaDoorPureList
set_option linter.unusedVariables false
set_option linter.unusedSimpArgs false
namespace Go.Proofs.YtplpgfcjjnaigaaDoor
open Go Go.RowKit
theorem leastD_b (l : List Bool) : -1 ≤ leastD l ∧ leastD l < 256 := by
  unfold leastD
  split
  · rename_i i h
    have := List.mem_of_find?_eq_some h
    have := List.mem_range.1 this
    omega
  · omega
/-- The words of all numbers below n. -/
def fullW (n : Int) : List Int := ofZW (fun j => lowW (if max n 0 > 256 then 64 else min (max (max n 0 - 64 * j) 0) 64))
theorem fullW_W (n : Int) : OkW (fullW n) := okW_of4 fun j _ _ => lowW_W (by split <;> omega) (by split <;> omega)
def orS (s t : List Int) : List Int := ofZW (fun j => orW (gI s j) (gI t j))
def andS (s t : List Int) : List Int := ofZW (fun j => andW (gI s j) (gI t j))
def minusS (s t : List Int) : List Int := ofZW (fun j => notW (gI s j) (gI t j))
def orD (l r : List Bool) : List Bool := ofZ (fun j => gB l j || gB r j)
def andD (l r : List Bool) : List Bool := ofZ (fun j => gB l j && gB r j)
def minusD (l r : List Bool) : List Bool := ofZ (fun j => gB l j && !gB r j)
def fullD (n : Int) : List Bool := ofZ (fun j => decide (j < n))
def emptyD : List Bool := List.replicate 256 false
theorem okW_orS {s t : List Int} (h : OkW s) (h2 : OkW t) : OkW (orS s t) := okW_or h h2
theorem okW_andS {s t : List Int} (h : OkW s) (h2 : OkW t) : OkW (andS s t) := okW_and h h2
theorem okW_minusS {s t : List Int} (h : OkW s) (h2 : OkW t) : OkW (minusS s t) := okW_minus h h2
theorem orD_len (l r : List Bool) : (orD l r).length = 256 := ofZ_len _
theorem andD_len (l r : List Bool) : (andD l r).length = 256 := ofZ_len _
theorem minusD_len (l r : List Bool) : (minusD l r).length = 256 := ofZ_len _
theorem fullD_len (n : Int) : (fullD n).length = 256 := ofZ_len _
theorem from_orS {s t : List Int} : fromW (orS s t) = orD (fromW s) (fromW t) := from_or
theorem from_andS {s t : List Int} : fromW (andS s t) = andD (fromW s) (fromW t) := from_and
theorem from_minusS {s t : List Int} (ht : OkW t) : fromW (minusS s t) = minusD (fromW s) (fromW t) := from_minus ht
theorem from_00 : fromW ([0, 0, 0, 0] : List Int) = emptyD := from_0
theorem gB_orD {l r : List Bool} {j : Int} (h0 : 0 ≤ j) (h1 : j < 256) : gB (orD l r) j = (gB l j || gB r j) := gB_ofZ h0 h1
theorem gB_andD {l r : List Bool} {j : Int} (h0 : 0 ≤ j) (h1 : j < 256) : gB (andD l r) j = (gB l j && gB r j) := gB_ofZ h0 h1
theorem gB_minusD {l r : List Bool} {j : Int} (h0 : 0 ≤ j) (h1 : j < 256) : gB (minusD l r) j = (gB l j && !gB r j) := gB_ofZ h0 h1
theorem gB_fullD {n j : Int} (h0 : 0 ≤ j) (h1 : j < 256) : gB (fullD n) j = decide (j < n) := gB_ofZ h0 h1
theorem gB_emptyD (j : Int) : gB emptyD j = false := gB_rep _ _
theorem from_full {n : Int} : fromW (fullW n) = fullD n :=
  list_ext (from_len _) (fullD_len n) fun j a b => by
    rw [gB_from a b, gB_fullD a b, fullW, gI_ofZW (by omega) (by omega), bit_low (by split <;> omega) (by omega), decide_eq_decide]
    split <;> omega
end Go.Proofs.YtplpgfcjjnaigaaDoor
