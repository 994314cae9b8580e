/-
  Plain: what is known of a game that is right. No program.
-/
import Derived.Test.YtkpljmalbmcdfaaDoorPureGame
set_option linter.unusedVariables false
namespace Go.Proofs.YtkpljmalbmcdfaaDoor
open Go Go.RowKit
structure RightG (g : GameL) : Prop where
  pl : g.pr.length = g.ow.length
  ml : g.mv.length = g.ow.length
  n0 : 0 < g.ow.length
  n1 : g.ow.length ≤ 200
  ow : ∀ i : Int, 0 ≤ i → i < g.ow.length → gI g.ow i = 0 ∨ gI g.ow i = 1
  pr : ∀ i : Int, 0 ≤ i → i < g.ow.length → 0 ≤ gI g.pr i ∧ gI g.pr i ≤ 7
  ne : ∀ i : Int, 0 ≤ i → i < g.ow.length → 0 < (gL g.mv i).length
  mv : ∀ i : Int, 0 ≤ i → i < g.ow.length → ∀ k : Int, 0 ≤ k → k < (gL g.mv i).length → 0 ≤ gI (gL g.mv i) k ∧ gI (gL g.mv i) k < g.ow.length
  up : ∀ i : Int, 0 ≤ i → i < g.ow.length → ∀ k : Int, 0 < k → k < (gL g.mv i).length → gI (gL g.mv i) (k - 1) < gI (gL g.mv i) k
theorem rowBad_all {n : Int} {row : List Int} (h : rowBad n (-1) row = false) : ∀ k : Nat, k < row.length → lastOf row k < row.getD k 0 ∧ row.getD k 0 < n := by
  intro k hk
  have h1 : rowBad n (-1) (row.take (k + 1)) = false := by
    by_cases hb : rowBad n (-1) (row.take (k + 1)) = true
    · rw [rowBad_take n row (k + 1) hb] at h
      cases h
    · simpa using hb
  rw [rowBad_succ n row k hk] at h1
  simp only [Bool.or_eq_false_iff, decide_eq_false_iff_not] at h1
  omega
theorem rowBad_last {n : Int} {row : List Int} (h : rowBad n (-1) row = false) (k : Nat) : -1 ≤ lastOf row k := by
  by_cases hb : rowBad n (-1) (row.take k) = true
  · rw [rowBad_take n row k hb] at h
    cases h
  · exact last_ge (by simpa using hb)
theorem right_lens' {g : GameL} (h : (rightP g).2 = 0) : g.pr.length = g.ow.length ∧ g.mv.length = g.ow.length ∧ 0 < g.ow.length ∧ g.ow.length ≤ 200 ∧ ∀ i : Nat, i < g.ow.length → g.err i = 0 := by
  by_cases h1 : g.pr.length = g.ow.length ∧ g.mv.length = g.ow.length
  · by_cases h2 : g.ow.length = 0 ∨ 200 < g.ow.length
    · rw [right_many h1 h2] at h
      cases h
    · refine ⟨h1.1, h1.2, by omega, by omega, fun i hi => ?_⟩
      rw [right_find h1 h2] at h
      cases hf : (List.range g.ow.length).find? (fun i => g.err i != 0) with
      | none =>
        rw [List.find?_eq_none] at hf
        have := hf i (by simpa using hi)
        simpa using this
      | some j =>
        rw [hf] at h
        have := List.find?_some hf
        simp only [bne_iff_ne] at this
        exact absurd h this
  · rw [right_lens h1] at h
    cases h
theorem right_yes {g : GameL} (h : (rightP g).2 = 0) : RightG g := by
  obtain ⟨hp, hm, h0, h1, he⟩ := right_lens' h
  have key : ∀ i : Int, 0 ≤ i → i < g.ow.length → (gI g.ow i = 0 ∨ gI g.ow i = 1) ∧ (0 ≤ gI g.pr i ∧ gI g.pr i ≤ 7) ∧ 0 < (gL g.mv i).length ∧ rowBad g.ow.length (-1) (gL g.mv i) = false := by
    intro i hi0 hi1
    have := he i.toNat (by omega)
    unfold GameL.err posErr at this
    by_cases k1 : g.ow.getD i.toNat 0 = 0 ∨ g.ow.getD i.toNat 0 = 1
    · rw [if_neg (by simp only [Decidable.not_not]; exact k1)] at this
      by_cases k2 : 0 ≤ g.pr.getD i.toNat 0 ∧ g.pr.getD i.toNat 0 ≤ 7
      · rw [if_neg (by simp only [Decidable.not_not]; exact k2)] at this
        by_cases k3 : (g.mv.getD i.toNat []).length = 0
        · rw [if_pos k3] at this
          cases this
        · rw [if_neg k3] at this
          by_cases k4 : rowBad g.ow.length (-1) (g.mv.getD i.toNat []) = true
          · rw [if_pos k4] at this
            cases this
          · exact ⟨k1, k2, Nat.pos_of_ne_zero k3, by unfold gL; exact eq_false_of_ne_true k4⟩
      · rw [if_pos k2] at this
        cases this
    · rw [if_pos k1] at this
      cases this
  refine ⟨hp, hm, h0, h1, fun i a b => (key i a b).1, fun i a b => (key i a b).2.1, fun i a b => (key i a b).2.2.1, fun i a b k c d => ?_, fun i a b k c d => ?_⟩
  · have hb := (key i a b).2.2.2
    have h3 := rowBad_all hb k.toNat (by omega)
    have h4 := rowBad_last hb k.toNat
    simp only [gI]
    omega
  · have hb := (key i a b).2.2.2
    have h3 := rowBad_all hb k.toNat (by omega)
    have h4 := last_at (row := gL g.mv i) (q := k) c (by omega)
    rw [h4]
    exact h3.1
theorem isR_ok {g : GameL} (h : isR g = true) : RightG g := by
  refine right_yes ?_
  simpa [isR] using h
end Go.Proofs.YtkpljmalbmcdfaaDoor
