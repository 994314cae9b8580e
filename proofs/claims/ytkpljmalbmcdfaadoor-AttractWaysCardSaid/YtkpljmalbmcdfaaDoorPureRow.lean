/-
  Plain: rows of numbers, of a right game. No program.
-/
import Derived.Test.YtkpljmalbmcdfaaDoorPureRight
set_option linter.unusedVariables false
namespace Go.Proofs.YtkpljmalbmcdfaaDoor
open Go Go.RowKit
theorem row_ge {g : GameL} (hG : RightG g) {i : Int} (h0 : 0 ≤ i) (h1 : i < g.ow.length) : ∀ k : Nat, k < (gL g.mv i).length → (k : Int) ≤ gI (gL g.mv i) k := by
  intro k
  induction k with
  | zero => intro h; have := (hG.mv i h0 h1 0 (by omega) (by omega)).1; simpa using this
  | succ k ih =>
    intro h
    have h2 := ih (by omega)
    have h3 := hG.up i h0 h1 (k + 1 : Nat) (by omega) (by omega)
    rw [show ((k + 1 : Nat) : Int) - 1 = (k : Int) by omega] at h3
    omega
theorem row_len {g : GameL} (hG : RightG g) {i : Int} (h0 : 0 ≤ i) (h1 : i < g.ow.length) : (gL g.mv i).length ≤ g.ow.length := by
  have hne := hG.ne i h0 h1
  have h := row_ge hG h0 h1 ((gL g.mv i).length - 1) (by omega)
  have h2 := (hG.mv i h0 h1 ((gL g.mv i).length - 1 : Nat) (by omega) (by omega)).2
  omega
theorem gL_rep (n : Nat) (m : Int) : gL (List.replicate n []) m = [] := by
  simp only [gL, List.getD_eq_getElem?_getD, List.getElem?_replicate]
  split <;> rfl
theorem gL_set {fr : List (List Int)} {i j : Int} {v : List Int} (h0 : 0 ≤ i) (h1 : i < fr.length) (h2 : 0 ≤ j) : gL (fr.set i.toNat v) j = if i = j then v else gL fr j := by
  simp only [gL, List.getD_eq_getElem?_getD, List.getElem?_set]
  by_cases h : i = j
  · subst h
    rw [if_pos rfl, if_pos rfl, if_pos (by omega)]
    rfl
  · rw [if_neg h, if_neg (by omega)]
theorem mem_of_gI {l : List Int} {k : Int} (h0 : 0 ≤ k) (h1 : k < l.length) : gI l k ∈ l := by
  simp only [gI, List.getD_eq_getElem?_getD, List.getElem?_eq_getElem (show k.toNat < l.length by omega), Option.getD_some]
  exact List.getElem_mem _
end Go.Proofs.YtkpljmalbmcdfaaDoor
