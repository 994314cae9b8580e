/-
  Plain: what Even tells of tuples. No program.
-/
import Derived.Test.YtklbpajmoklheaaPureWork
set_option linter.unusedVariables false
namespace Go.Proofs.Ytklbpajmoklheaa
open Go Go.RowKit
def evA (l : List Tup) : Nat → List Int
  | 0 => []
  | n + 1 => if (gT l (n : Int)).top = true then evA l n else evA l n ++ [(n : Int)]
def mvT (g : GameL) (l : List Tup) (i : Int) : Int := if (gT l i).top = true then -1 else if gI g.ow i = 0 then (bestB (upG g l i) (gI g.ow i) (gL g.mv i)).2 else -1
def evB (g : GameL) (l : List Tup) : Nat → List Int
  | 0 => []
  | n + 1 => evB g l n ++ [mvT g l (n : Int)]
theorem evA_no {l : List Tup} {xa : List Int} {i : Int} (h : xa = evA l i.toNat) (h0 : 0 ≤ i) (ht : (gT l i).top = true) : xa = evA l (i + 1).toNat := by
  rw [show (i + 1).toNat = i.toNat + 1 by omega, evA, show ((i.toNat : Nat) : Int) = i by omega, if_pos ht]
  exact h
theorem evA_yes {l : List Tup} {xa : List Int} {i : Int} (h : xa = evA l i.toNat) (h0 : 0 ≤ i) (ht : (gT l i).top = false) : xa ++ [i] = evA l (i + 1).toNat := by
  rw [show (i + 1).toNat = i.toNat + 1 by omega, evA, show ((i.toNat : Nat) : Int) = i by omega, if_neg (by rw [ht]; decide), h]
theorem evB_next {g : GameL} {l : List Tup} {xb : List Int} {i v : Int} (h : xb = evB g l i.toNat) (h0 : 0 ≤ i) (hv : v = mvT g l i) : xb ++ [v] = evB g l (i + 1).toNat := by
  rw [show (i + 1).toNat = i.toNat + 1 by omega, evB, show ((i.toNat : Nat) : Int) = i by omega, h, hv]
theorem mvT_top {g : GameL} {l : List Tup} {i : Int} (h : (gT l i).top = true) : -1 = mvT g l i := by rw [mvT, if_pos h]
theorem mvT_own {g : GameL} {l : List Tup} {i : Int} (h : (gT l i).top = false) (h2 : gI g.ow i = 0) : (bestB (upG g l i) (gI g.ow i) (gL g.mv i)).2 = mvT g l i := by rw [mvT, if_neg (by rw [h]; decide), if_pos h2]
theorem mvT_oth {g : GameL} {l : List Tup} {i : Int} (h : (gT l i).top = false) (h2 : gI g.ow i ≠ 0) : -1 = mvT g l i := by rw [mvT, if_neg (by rw [h]; decide), if_neg h2]
theorem evA_len (l : List Tup) : ∀ n, (evA l n).length ≤ n
  | 0 => Nat.le_refl _
  | n + 1 => by
    have := evA_len l n
    rw [evA]
    split
    · omega
    · rw [List.length_append]; simp; omega
theorem evB_len (g : GameL) (l : List Tup) : ∀ n, (evB g l n).length = n
  | 0 => rfl
  | n + 1 => by rw [evB, List.length_append, evB_len g l n]; rfl
/-- What Even tells. -/
def EvenT (g : GameL) (l : List Tup) (a b : List Int) : Prop :=
  ((isR g && decide (l.length = g.ow.length)) = false ∧ a = [] ∧ b = []) ∨ ((isR g && decide (l.length = g.ow.length)) = true ∧ a = evA l l.length ∧ b = evB g l l.length)
theorem even_one {g : GameL} {l : List Tup} {a b a' b' : List Int} (h : EvenT g l a b) (h' : EvenT g l a' b') : a = a' ∧ b = b' := by
  rcases h with ⟨x, rfl, rfl⟩ | ⟨x, rfl, rfl⟩ <;> rcases h' with ⟨y, rfl, rfl⟩ | ⟨y, rfl, rfl⟩ <;> simp_all
theorem even_len {g : GameL} {l : List Tup} {a b : List Int} (h : EvenT g l a b) : a.length ≤ l.length ∧ b.length ≤ l.length := by
  rcases h with ⟨_, rfl, rfl⟩ | ⟨_, rfl, rfl⟩
  · exact ⟨Nat.zero_le _, Nat.zero_le _⟩
  · exact ⟨evA_len _ _, by rw [evB_len]; exact Nat.le_refl _⟩
theorem solved_one {g : GameL} {l l' : List Tup} (h : SolvedT g l) (h' : SolvedT g l') : l = l' := by
  rcases h with ⟨x, rfl⟩ | ⟨x, h⟩ <;> rcases h' with ⟨y, rfl⟩ | ⟨y, h'⟩
  · rfl
  · rw [x] at y; cases y
  · rw [x] at y; cases y
  · exact least_one h h'
theorem solved_len {g : GameL} {l : List Tup} (h : SolvedT g l) : l.length ≤ 1000 := by
  rcases h with ⟨_, rfl⟩ | ⟨x, h⟩
  · exact Nat.zero_le _
  · have := (isR_ok x).n1
    have := h.1.1
    omega
theorem right_len {g : GameL} {n m : Nat} (h : (isR g && decide (n = m)) = true) : n = m := by
  simp only [Bool.and_eq_true, decide_eq_true_eq] at h
  exact h.2
theorem evT_end {g : GameL} {l : List Tup} {xa xb : List Int} {i : Int} (hR : (isR g && decide (l.length = g.ow.length)) = true) (ha : xa = evA l i.toNat) (hb : xb = evB g l i.toNat) (h0 : i ≤ (l.length : Int)) (h1 : (l.length : Int) ≤ i) : EvenT g l xa xb := by
  have e : i.toNat = l.length := by omega
  rw [e] at ha hb
  exact .inr ⟨hR, ha, hb⟩
end Go.Proofs.Ytklbpajmoklheaa
