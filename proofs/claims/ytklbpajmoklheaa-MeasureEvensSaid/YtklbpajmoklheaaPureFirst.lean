/-
  Plain: the first move that needs least. No program.
-/
import Derived.Test.YtklbpajmoklheaaPureEven
set_option linter.unusedVariables false
namespace Go.Proofs.Ytklbpajmoklheaa
open Go Go.RowKit
theorem bestB_first {f : Int → Tup} {own : Int} {row : List Int} (hm : ∀ k : Int, 0 ≤ k → k < (row.length : Int) → 0 ≤ gI row k) : ∀ k : Nat, 0 < k → k ≤ row.length →
    ∃ j : Int, 0 ≤ j ∧ j < k ∧ bestB f own (row.take k) = (f (gI row j), gI row j) ∧ (∀ i : Int, 0 ≤ i → i < j → cmpT (f (gI row i)) (f (gI row j)) 0 ≠ 0) ∧ ∀ i : Int, 0 ≤ i → i < k → if own = 1 then leT (f (gI row i)) (f (gI row j)) else leT (f (gI row j)) (f (gI row i)) := by
  intro k hk hl
  induction k with
  | zero => omega
  | succ k ih =>
    have hn := bestB_next (f := f) (own := own) (row := row) (k := (k : Int)) (by omega) (by omega)
    rw [show ((k : Int) + 1).toNat = k + 1 by omega, show (k : Int).toNat = k by omega] at hn
    by_cases h0 : k = 0
    · subst h0
      refine ⟨0, by omega, by omega, ?_, fun i a b => by omega, fun i a b => ?_⟩
      · rw [hn]
        unfold stepB
        rw [if_pos (.inl (by simp [bestB]))]
        rfl
      · obtain rfl : i = 0 := by omega
        split
        · exact leT_refl _
        · exact leT_refl _
    · obtain ⟨j, j0, j1, e, hfirst, hall⟩ := ih (by omega) (by omega)
      have hj := hm j j0 (by omega)
      rw [e] at hn
      unfold stepB at hn
      simp only at hn
      by_cases hc : (if own = 1 then cmpT (f (gI row (k : Int))) (f (gI row j)) 0 > 0 else cmpT (f (gI row (k : Int))) (f (gI row j)) 0 < 0)
      · rw [if_pos (.inr hc)] at hn
        refine ⟨(k : Int), by omega, by omega, hn, fun i a b => ?_, fun i a b => ?_⟩
        · have h1 := hall i a b
          have s1 := cmp_swap (f (gI row i)) (f (gI row (k : Int))) 0
          intro h2
          by_cases ho : own = 1
          · rw [if_pos ho] at hc h1
            have h3 := leT_trans (a := f (gI row (k : Int))) (b := f (gI row i)) (c := f (gI row j)) (by unfold leT; omega) h1
            unfold leT at h3
            omega
          · rw [if_neg ho] at hc h1
            have s2 := cmp_swap (f (gI row (k : Int))) (f (gI row j)) 0
            have h3 := leT_trans (a := f (gI row j)) (b := f (gI row i)) (c := f (gI row (k : Int))) h1 (by unfold leT; omega)
            unfold leT at h3
            omega
        · by_cases hi : i = (k : Int)
          · subst hi
            split
            · exact leT_refl _
            · exact leT_refl _
          · have h1 := hall i a (by omega)
            by_cases ho : own = 1
            · rw [if_pos ho] at hc h1 ⊢
              have s2 := cmp_swap (f (gI row (k : Int))) (f (gI row j)) 0
              exact leT_trans h1 (by unfold leT; omega)
            · rw [if_neg ho] at hc h1 ⊢
              exact leT_trans (by unfold leT; omega) h1
      · rw [if_neg (fun h => h.elim (fun h => by omega) hc)] at hn
        refine ⟨j, j0, by omega, hn, hfirst, fun i a b => ?_⟩
        by_cases hi : i = (k : Int)
        · subst hi
          by_cases ho : own = 1
          · rw [if_pos ho] at hc ⊢
            exact leT_of_not_gt hc
          · rw [if_neg ho] at hc ⊢
            exact leT_of_not_lt hc
        · exact hall i a (by omega)
/-- The first of the moves behind k that needs as much as b. -/
def FirstT (f : Int → Tup) (b : Tup) (row : List Int) (k mv : Int) : Prop :=
  (∃ j : Int, k < j ∧ j < row.length ∧ cmpT (f (gI row j)) b 0 = 0 ∧ (∀ i : Int, k < i → i < j → cmpT (f (gI row i)) b 0 ≠ 0) ∧ mv = gI row j) ∨ (mv = -1 ∧ ∀ i : Int, k < i → i < row.length → cmpT (f (gI row i)) b 0 ≠ 0)
theorem first_0 {f : Int → Tup} {b : Tup} {row : List Int} : FirstT f b row ((row.length : Int) - 1) (-1) := .inr ⟨rfl, fun i a c => by omega⟩
theorem first_yes {f : Int → Tup} {b : Tup} {row : List Int} {k mv : Int} (h : FirstT f b row k mv) (h1 : k < row.length) (hc : cmpT (f (gI row k)) b 0 = 0) : FirstT f b row (k - 1) (gI row k) :=
  .inl ⟨k, by omega, h1, hc, fun i a c => by omega, rfl⟩
theorem first_no {f : Int → Tup} {b : Tup} {row : List Int} {k mv : Int} (h : FirstT f b row k mv) (hc : cmpT (f (gI row k)) b 0 ≠ 0) : FirstT f b row (k - 1) mv := by
  rcases h with ⟨j, j0, j1, hj, hi, e⟩ | ⟨e, hi⟩
  · refine .inl ⟨j, by omega, j1, hj, fun i a c => ?_, e⟩
    by_cases h : i = k
    · rw [h]; exact hc
    · exact hi i (by omega) c
  · refine .inr ⟨e, fun i a c => ?_⟩
    by_cases h : i = k
    · rw [h]; exact hc
    · exact hi i (by omega) c
theorem first_end {f : Int → Tup} {own : Int} {row : List Int} {k mv : Int} (hm : ∀ k : Int, 0 ≤ k → k < (row.length : Int) → 0 ≤ gI row k) (hne : 0 < row.length) (h : FirstT f (bestB f own row).1 row k mv) (hk : k = -1) : mv = (bestB f own row).2 := by
  subst hk
  obtain ⟨j, j0, j1, e, hfirst, _⟩ := bestB_first (f := f) (own := own) hm row.length hne (Nat.le_refl _)
  rw [List.take_length] at e
  rw [e] at h ⊢
  have hr : cmpT (f (gI row j)) (f (gI row j)) 0 = 0 := by have := cmp_swap (f (gI row j)) (f (gI row j)) 0; omega
  rcases h with ⟨i, i0, i1, hi, hall, rfl⟩ | ⟨_, hi⟩
  · have h1 : i = j := by
      rcases Int.lt_trichotomy i j with h | h | h
      · exact absurd hi (hfirst i (by omega) h)
      · exact h
      · exact absurd hr (hall j (by omega) h)
    rw [h1]
  · exact absurd hr (hi j (by omega) j1)
theorem and_f1 {g : GameL} {n : Nat} (h : isR g = false) : (isR g && decide (n = g.ow.length)) = false := by rw [h]; rfl
theorem and_f2 {g : GameL} {n : Nat} (h : ((n : Int)) ≠ (g.ow.length : Int)) : (isR g && decide (n = g.ow.length)) = false := by rw [decide_eq_false (by omega), Bool.and_false]
theorem and_t {g : GameL} {n : Nat} (h : isR g = true) (h2 : ((n : Int)) = (g.ow.length : Int)) : (isR g && decide (n = g.ow.length)) = true := by rw [h, decide_eq_true (by omega)]; rfl
end Go.Proofs.Ytklbpajmoklheaa
