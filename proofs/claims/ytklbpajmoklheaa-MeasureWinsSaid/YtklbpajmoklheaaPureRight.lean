/-
  Plain: what is known of a game that is right. No program. Plain: rows of numbers, of a right game. No program. Plain: a game of which all stands is right; owners exchanged. No program.
-/
import Derived.Test.YtklbpajmoklheaaPureGame
set_option linter.unusedVariables false
namespace Go.Proofs.Ytklbpajmoklheaa
open Go Go.RowKit
structure RightG (g : GameL) : Prop where
  pl : g.pr.length = g.ow.length
  ml : g.mv.length = g.ow.length
  n0 : 0 < g.ow.length
  n1 : g.ow.length ≤ 200
  ow : ∀ i : Int, 0 ≤ i → i < g.ow.length → gI g.ow i = 0 ∨ gI g.ow i = 1
  pr : ∀ i : Int, 0 ≤ i → i < g.ow.length → 0 ≤ gI g.pr i ∧ gI g.pr i ≤ 7
  ne : ∀ i : Int, 0 ≤ i → i < g.ow.length → 0 < (gL g.mv i).length
  mv : ∀ i : Int, 0 ≤ i → i < g.ow.length → ∀ k : Int, 0 ≤ k → k < (gL g.mv i).length → 0 ≤ gI (gL g.mv i) k ∧ gI (gL g.mv i) k < g.ow.length
  up : ∀ i : Int, 0 ≤ i → i < g.ow.length → ∀ k : Int, 0 < k → k < (gL g.mv i).length → gI (gL g.mv i) (k - 1) < gI (gL g.mv i) k
theorem rowBad_all {n : Int} {row : List Int} (h : rowBad n (-1) row = false) : ∀ k : Nat, k < row.length → lastOf row k < row.getD k 0 ∧ row.getD k 0 < n := by
  intro k hk
  have h1 : rowBad n (-1) (row.take (k + 1)) = false := by
    by_cases hb : rowBad n (-1) (row.take (k + 1)) = true
    · rw [rowBad_take n row (k + 1) hb] at h
      cases h
    · simpa using hb
  rw [rowBad_succ n row k hk] at h1
  simp only [Bool.or_eq_false_iff, decide_eq_false_iff_not] at h1
  omega
theorem rowBad_last {n : Int} {row : List Int} (h : rowBad n (-1) row = false) (k : Nat) : -1 ≤ lastOf row k := by
  by_cases hb : rowBad n (-1) (row.take k) = true
  · rw [rowBad_take n row k hb] at h
    cases h
  · exact last_ge (by simpa using hb)
theorem right_lens' {g : GameL} (h : (rightP g).2 = 0) : g.pr.length = g.ow.length ∧ g.mv.length = g.ow.length ∧ 0 < g.ow.length ∧ g.ow.length ≤ 200 ∧ ∀ i : Nat, i < g.ow.length → g.err i = 0 := by
  by_cases h1 : g.pr.length = g.ow.length ∧ g.mv.length = g.ow.length
  · by_cases h2 : g.ow.length = 0 ∨ 200 < g.ow.length
    · rw [right_many h1 h2] at h
      cases h
    · refine ⟨h1.1, h1.2, by omega, by omega, fun i hi => ?_⟩
      rw [right_find h1 h2] at h
      cases hf : (List.range g.ow.length).find? (fun i => g.err i != 0) with
      | none =>
        rw [List.find?_eq_none] at hf
        have := hf i (by simpa using hi)
        simpa using this
      | some j =>
        rw [hf] at h
        have := List.find?_some hf
        simp only [bne_iff_ne] at this
        exact absurd h this
  · rw [right_lens h1] at h
    cases h
theorem right_yes {g : GameL} (h : (rightP g).2 = 0) : RightG g := by
  obtain ⟨hp, hm, h0, h1, he⟩ := right_lens' h
  have key : ∀ i : Int, 0 ≤ i → i < g.ow.length → (gI g.ow i = 0 ∨ gI g.ow i = 1) ∧ (0 ≤ gI g.pr i ∧ gI g.pr i ≤ 7) ∧ 0 < (gL g.mv i).length ∧ rowBad g.ow.length (-1) (gL g.mv i) = false := by
    intro i hi0 hi1
    have := he i.toNat (by omega)
    unfold GameL.err posErr at this
    by_cases k1 : g.ow.getD i.toNat 0 = 0 ∨ g.ow.getD i.toNat 0 = 1
    · rw [if_neg (by simp only [Decidable.not_not]; exact k1)] at this
      by_cases k2 : 0 ≤ g.pr.getD i.toNat 0 ∧ g.pr.getD i.toNat 0 ≤ 7
      · rw [if_neg (by simp only [Decidable.not_not]; exact k2)] at this
        by_cases k3 : (g.mv.getD i.toNat []).length = 0
        · rw [if_pos k3] at this
          cases this
        · rw [if_neg k3] at this
          by_cases k4 : rowBad g.ow.length (-1) (g.mv.getD i.toNat []) = true
          · rw [if_pos k4] at this
            cases this
          · exact ⟨k1, k2, Nat.pos_of_ne_zero k3, by unfold gL; exact eq_false_of_ne_true k4⟩
      · rw [if_pos k2] at this
        cases this
    · rw [if_pos k1] at this
      cases this
  refine ⟨hp, hm, h0, h1, fun i a b => (key i a b).1, fun i a b => (key i a b).2.1, fun i a b => (key i a b).2.2.1, fun i a b k c d => ?_, fun i a b k c d => ?_⟩
  · have hb := (key i a b).2.2.2
    have h3 := rowBad_all hb k.toNat (by omega)
    have h4 := rowBad_last hb k.toNat
    simp only [gI]
    omega
  · have hb := (key i a b).2.2.2
    have h3 := rowBad_all hb k.toNat (by omega)
    have h4 := last_at (row := gL g.mv i) (q := k) c (by omega)
    rw [h4]
    exact h3.1
theorem isR_ok {g : GameL} (h : isR g = true) : RightG g := by
  refine right_yes ?_
  simpa [isR] using h
end Go.Proofs.Ytklbpajmoklheaa
set_option linter.unusedVariables false
namespace Go.Proofs.Ytklbpajmoklheaa
open Go Go.RowKit
theorem row_ge {g : GameL} (hG : RightG g) {i : Int} (h0 : 0 ≤ i) (h1 : i < g.ow.length) : ∀ k : Nat, k < (gL g.mv i).length → (k : Int) ≤ gI (gL g.mv i) k := by
  intro k
  induction k with
  | zero => intro h; have := (hG.mv i h0 h1 0 (by omega) (by omega)).1; simpa using this
  | succ k ih =>
    intro h
    have h2 := ih (by omega)
    have h3 := hG.up i h0 h1 (k + 1 : Nat) (by omega) (by omega)
    rw [show ((k + 1 : Nat) : Int) - 1 = (k : Int) by omega] at h3
    omega
theorem row_len {g : GameL} (hG : RightG g) {i : Int} (h0 : 0 ≤ i) (h1 : i < g.ow.length) : (gL g.mv i).length ≤ g.ow.length := by
  have hne := hG.ne i h0 h1
  have h := row_ge hG h0 h1 ((gL g.mv i).length - 1) (by omega)
  have h2 := (hG.mv i h0 h1 ((gL g.mv i).length - 1 : Nat) (by omega) (by omega)).2
  omega
theorem gL_rep (n : Nat) (m : Int) : gL (List.replicate n []) m = [] := by
  simp only [gL, List.getD_eq_getElem?_getD, List.getElem?_replicate]
  split <;> rfl
theorem gL_set {fr : List (List Int)} {i j : Int} {v : List Int} (h0 : 0 ≤ i) (h1 : i < fr.length) (h2 : 0 ≤ j) : gL (fr.set i.toNat v) j = if i = j then v else gL fr j := by
  simp only [gL, List.getD_eq_getElem?_getD, List.getElem?_set]
  by_cases h : i = j
  · subst h
    rw [if_pos rfl, if_pos rfl, if_pos (by omega)]
    rfl
  · rw [if_neg h, if_neg (by omega)]
theorem mem_of_gI {l : List Int} {k : Int} (h0 : 0 ≤ k) (h1 : k < l.length) : gI l k ∈ l := by
  simp only [gI, List.getD_eq_getElem?_getD, List.getElem?_eq_getElem (show k.toNat < l.length by omega), Option.getD_some]
  exact List.getElem_mem _
end Go.Proofs.Ytklbpajmoklheaa
set_option linter.unusedVariables false
set_option linter.unusedSimpArgs false
namespace Go.Proofs.Ytklbpajmoklheaa
open Go Go.RowKit
theorem row_fine {n : Int} {row : List Int} (h1 : ∀ k : Int, 0 ≤ k → k < (row.length : Int) → 0 ≤ gI row k ∧ gI row k < n) (h2 : ∀ k : Int, 0 < k → k < (row.length : Int) → gI row (k - 1) < gI row k) : ∀ q : Nat, q ≤ row.length → rowBad n (-1) (row.take q) = false
  | 0, _ => by simp [rowBad]
  | q + 1, h => by
    have ih := row_fine h1 h2 q (by omega)
    have h3 := h1 (q : Int) (by omega) (by omega)
    have := bad_next (n := n) (row := row) (q := (q : Int)) (by omega) (by omega) (by rw [Int.toNat_natCast]; exact ih) (by
      by_cases hq : q = 0
      · subst hq
        rw [Int.toNat_natCast, lastOf_zero]
        omega
      · have h4 := h2 (q : Int) (by omega) (by omega)
        rw [last_at (by omega) (by omega)] at h4
        exact h4) h3.2
    rwa [show ((q : Int) + 1).toNat = q + 1 by omega] at this
theorem isR_of {g : GameL} (hG : RightG g) : isR g = true := by
  have hpl := hG.pl
  have hml := hG.ml
  have hn0 := hG.n0
  have hn1 := hG.n1
  have e : (rightP g).2 = 0 := by
    rw [right_ok ⟨hpl, hml⟩ (by omega) fun j hj => ?_]
    have h1 := hG.ow j (by omega) (by omega)
    have h4 := hG.pr j (by omega) (by omega)
    have h5 := hG.ne j (by omega) (by omega)
    have hb := row_fine (n := (g.ow.length : Int)) (row := gL g.mv j) (fun k a b => hG.mv j (by omega) (by omega) k a b) (fun k a b => hG.up j (by omega) (by omega) k a b) (gL g.mv j).length (Nat.le_refl _)
    rw [List.take_of_length_le (Nat.le_refl _)] at hb
    simp only [gI, gL, Int.toNat_natCast] at h1 h4 h5 hb
    unfold GameL.err posErr
    rw [if_neg (by omega), if_neg (by omega), if_neg (by omega), if_neg (by rw [hb]; decide)]
  unfold isR
  simp [e]
/-- Other owners, the same moves. -/
theorem right_ow {g : GameL} (hG : RightG g) {xs : List Int} (hl : xs.length = g.ow.length) (hx : ∀ j : Int, 0 ≤ j → j < (g.ow.length : Int) → gI xs j = 0 ∨ gI xs j = 1) : RightG ⟨xs, g.pr, g.mv⟩ := by
  refine ⟨hG.pl.trans hl.symm, hG.ml.trans hl.symm, ?_, ?_, ?_, ?_, ?_, ?_, ?_⟩
  · show 0 < xs.length
    rw [hl]; exact hG.n0
  · show xs.length ≤ 200
    rw [hl]; exact hG.n1
  · intro i a b
    exact hx i a (by rw [← hl]; exact b)
  · intro i a b
    exact hG.pr i a (by rw [← hl]; exact b)
  · intro i a b
    exact hG.ne i a (by rw [← hl]; exact b)
  · intro i a b k c d
    show 0 ≤ gI (gL g.mv i) k ∧ gI (gL g.mv i) k < (xs.length : Int)
    rw [hl]
    exact hG.mv i a (by rw [← hl]; exact b) k c d
  · intro i a b
    exact hG.up i a (by rw [← hl]; exact b)
end Go.Proofs.Ytklbpajmoklheaa
