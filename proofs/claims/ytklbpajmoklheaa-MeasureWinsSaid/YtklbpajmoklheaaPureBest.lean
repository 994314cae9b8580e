/-
  Plain: the best move's tuple. No program.
-/
import Derived.Test.YtklbpajmoklheaaPureTup
import Derived.Test.YtklbpajmoklheaaPureRight
set_option linter.unusedVariables false
namespace Go.Proofs.Ytklbpajmoklheaa
open Go Go.RowKit
def okL (l : List Tup) : Prop := ∀ i : Int, okT (gT l i)
def upG (g : GameL) (l : List Tup) (a m : Int) : Tup := upT (cnt g.pr 1) (cnt g.pr 3) (cnt g.pr 5) (cnt g.pr 7) (gI g.pr a) (gT l m)
def stepB (f : Int → Tup) (own : Int) (acc : Tup × Int) (m : Int) : Tup × Int :=
  if acc.2 < 0 ∨ (if own = 1 then cmpT (f m) acc.1 0 > 0 else cmpT (f m) acc.1 0 < 0) then (f m, m) else acc
def bestB (f : Int → Tup) (own : Int) (ms : List Int) : Tup × Int := ms.foldl (stepB f own) (tup0, -1)
theorem bestB_next {f : Int → Tup} {own : Int} {row : List Int} {k : Int} (h0 : 0 ≤ k) (h1 : k < (row.length : Int)) : bestB f own (row.take (k + 1).toNat) = stepB f own (bestB f own (row.take k.toNat)) (gI row k) := by
  rw [show (k + 1).toNat = k.toNat + 1 by omega, List.take_succ_eq_append_getElem (by omega)]
  simp only [bestB, List.foldl_append, List.foldl_cons, List.foldl_nil, gI, List.getD_eq_getElem?_getD, List.getElem?_eq_getElem (show k.toNat < row.length by omega), Option.getD_some]
theorem bestB_yes {f : Int → Tup} {own : Int} {row : List Int} {k : Int} (h0 : 0 ≤ k) (h1 : k < (row.length : Int)) (h : (bestB f own (row.take k.toNat)).2 < 0 ∨ (own = 1 ∧ cmpT (f (gI row k)) (bestB f own (row.take k.toNat)).1 0 > 0) ∨ (own ≠ 1 ∧ cmpT (f (gI row k)) (bestB f own (row.take k.toNat)).1 0 < 0)) :
    (f (gI row k), gI row k) = bestB f own (row.take (k + 1).toNat) := by
  rw [bestB_next h0 h1, stepB, if_pos]
  rcases h with h | ⟨h, h2⟩ | ⟨h, h2⟩
  · exact .inl h
  · exact .inr (by rw [if_pos h]; exact h2)
  · exact .inr (by rw [if_neg h]; exact h2)
theorem bestB_no {f : Int → Tup} {own : Int} {row : List Int} {k : Int} (h0 : 0 ≤ k) (h1 : k < (row.length : Int)) (h : ¬ (bestB f own (row.take k.toNat)).2 < 0) (h2 : own = 1 → ¬ cmpT (f (gI row k)) (bestB f own (row.take k.toNat)).1 0 > 0) (h3 : own ≠ 1 → ¬ cmpT (f (gI row k)) (bestB f own (row.take k.toNat)).1 0 < 0) :
    bestB f own (row.take k.toNat) = bestB f own (row.take (k + 1).toNat) := by
  rw [bestB_next h0 h1, stepB, if_neg]
  rintro (h4 | h4)
  · exact h h4
  · split at h4
    · exact h2 ‹_› h4
    · exact h3 ‹_› h4
theorem tupC_eq {t u : Tup} (h : t = u) : ([.bool t.top, .int .i64 t.c0, .int .i64 t.c1, .int .i64 t.c2, .int .i64 t.c3] : List Value) = [.bool u.top, .int .i64 u.c0, .int .i64 u.c1, .int .i64 u.c2, .int .i64 u.c3] := by rw [h]
theorem bestB_all {f : Int → Tup} {own : Int} {row : List Int} {k : Int} (h1 : (row.length : Int) ≤ k) : bestB f own (row.take k.toNat) = bestB f own row := by rw [List.take_of_length_le (by omega)]
theorem bestB_zero {f : Int → Tup} {own : Int} {row : List Int} : bestB f own (row.take (0 : Int).toNat) = (tup0, -1) := by simp [bestB]
theorem stepB_or (f : Int → Tup) (own : Int) (acc : Tup × Int) (m : Int) : stepB f own acc m = (f m, m) ∨ (stepB f own acc m = acc ∧ ¬ acc.2 < 0) := by
  unfold stepB
  by_cases h : acc.2 < 0
  · exact .inl (if_pos (.inl h))
  · by_cases h2 : (if own = 1 then cmpT (f m) acc.1 0 > 0 else cmpT (f m) acc.1 0 < 0)
    · exact .inl (if_pos (.inr h2))
    · exact .inr ⟨if_neg (fun h3 => h3.elim h h2), h⟩
theorem bestB_in {f : Int → Tup} {own : Int} {row : List Int} (hm : ∀ k : Int, 0 ≤ k → k < (row.length : Int) → 0 ≤ gI row k) : ∀ k : Nat, 0 < k → k ≤ row.length → 0 ≤ (bestB f own (row.take k)).2 := by
  intro k hk hl
  induction k with
  | zero => omega
  | succ k ih =>
    have := bestB_next (f := f) (own := own) (row := row) (k := (k : Int)) (by omega) (by omega)
    rw [show ((k : Int) + 1).toNat = k + 1 by omega, show (k : Int).toNat = k by omega] at this
    rw [this]
    rcases stepB_or f own (bestB f own (row.take k)) (gI row (k : Int)) with e | ⟨e, h⟩
    · rw [e]
      exact hm k (by omega) (by omega)
    · rw [e]
      omega
theorem bestB_one {f : Int → Tup} {own : Int} {row : List Int} (h : 0 < row.length) : (f (gI row 0), gI row 0) = bestB f own (row.take (1 : Int).toNat) := by
  have := bestB_next (f := f) (own := own) (row := row) (k := 0) (by omega) (by omega)
  rw [show (0 : Int) + 1 = 1 by omega] at this
  rw [this, bestB_zero, stepB, if_pos (.inl (by decide))]
theorem right_t {g : GameL} {n : Nat} (h : (rightP g).2 = 0) : ((((n : Nat) : Int) : Int) == ((g.ow.length : Nat) : Int)) = (isR g && decide (n = g.ow.length)) := by
  have e1 : isR g = true := by simp [isR, h]
  rw [e1, Bool.true_and]
  by_cases hn : n = g.ow.length
  · simp [hn]
  · have : ¬ (n : Int) = (g.ow.length : Int) := by omega
    rw [decide_eq_false hn]
    exact beq_eq_false_iff_ne.2 this
theorem right_f {g : GameL} {n : Nat} (h : (((rightP g).2 : Int) == 0) = false) : false = (isR g && decide (n = g.ow.length)) := by
  have e1 : isR g = false := h
  rw [e1, Bool.false_and]
theorem best_ret {p q : Tup × Int} (h : p = q) : Ending.returned (packL [.agg #[.bool p.1.top, .int .i64 p.1.c0, .int .i64 p.1.c1, .int .i64 p.1.c2, .int .i64 p.1.c3], .int .i64 p.2]) = .returned (.tuple #[.agg #[.bool q.1.top, .int .i64 q.1.c0, .int .i64 q.1.c1, .int .i64 q.1.c2, .int .i64 q.1.c3], .int .i64 q.2]) := by subst h; rfl
end Go.Proofs.Ytklbpajmoklheaa
