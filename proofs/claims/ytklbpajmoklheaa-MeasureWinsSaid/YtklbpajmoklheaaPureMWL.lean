/-
  Plain: what the walk of law MeasureWins leans on. No program.
-/
import Derived.Test.YtklbpajmoklheaaPureMW
import Derived.Test.YtklbpajmoklheaaPureEven
import Derived.Test.YtklbpajmoklheaaPureRank
import Derived.Test.YtklbpajmoklheaaPureWins
set_option linter.unusedVariables false
set_option linter.unusedSimpArgs false
namespace Go.Proofs.Ytklbpajmoklheaa
open Go Go.RowKit
theorem mneF {a b : Int} (h : a = b) : (a != b) = false := by simp [h]
theorem nxbF {a b : Bool} (h : a = b) : (!(a == b)) = false := by subst h; cases a <;> rfl
section
variable {g : GameL} {l : List Tup} {a b d0 d1 : List Int}
theorem evA_mem (l : List Tup) : ∀ (n : Nat) (i : Int), i ∈ evA l n ↔ (0 ≤ i ∧ i < (n : Int)) ∧ (gT l i).top = false
  | 0, i => by
    constructor
    · intro h; cases h
    · rintro ⟨h, _⟩; omega
  | n + 1, i => by
    unfold evA
    by_cases e : (gT l (n : Int)).top = true
    · rw [if_pos e, evA_mem l n i]
      constructor
      · rintro ⟨h1, h2⟩
        exact ⟨by omega, h2⟩
      · rintro ⟨h1, h2⟩
        have : i ≠ (n : Int) := fun k => by rw [k, e] at h2; cases h2
        exact ⟨by omega, h2⟩
    · rw [if_neg e, List.mem_append, evA_mem l n i, List.mem_singleton]
      constructor
      · rintro (⟨h1, h2⟩ | h1)
        · exact ⟨by omega, h2⟩
        · rw [h1]
          exact ⟨by omega, by simpa using e⟩
      · rintro ⟨h1, h2⟩
        by_cases k : i = (n : Int)
        · exact .inr k
        · exact .inl ⟨by omega, h2⟩
theorem evA_rise (l : List Tup) : ∀ n : Nat, (evA l n).Pairwise (· < ·)
  | 0 => List.Pairwise.nil
  | n + 1 => by
    unfold evA
    by_cases e : (gT l (n : Int)).top = true
    · rw [if_pos e]
      exact evA_rise l n
    · rw [if_neg e, List.pairwise_append]
      refine ⟨evA_rise l n, List.pairwise_singleton _ _, fun x hx y hy => ?_⟩
      rw [List.mem_singleton] at hy
      have := ((evA_mem l n x).1 hx).1
      omega
theorem evB_at (g : GameL) (l : List Tup) : ∀ (n : Nat) (i : Int), 0 ≤ i → i < (n : Int) → gI (evB g l n) i = mvT g l i
  | 0, i, a, b => by omega
  | n + 1, i, a, b => by
    unfold evB
    have hl := evB_len g l n
    simp only [gI, List.getD_eq_getElem?_getD]
    by_cases e : i < (n : Int)
    · rw [List.getElem?_append_left (by omega)]
      have := evB_at g l n i a e
      simpa only [gI, List.getD_eq_getElem?_getD] using this
    · rw [List.getElem?_append_right (by omega), show i.toNat - (evB g l n).length = 0 by omega]
      rw [show i = (n : Int) by omega]
      rfl
/-- What the law holds against the document. -/
structure MwT (g : GameL) (a b d0 : List Int) : Prop where
  same : a = d0
  len : b.length = g.ow.length
  wins : WinsT g 0 b a
  own : ∀ i : Int, 0 ≤ i → i < (g.ow.length : Int) → (gI b i ≥ 0 ↔ ((d0.count i : Int) > 0 ∧ gI g.ow i = 0))
theorem mw_all (hR : isR g = true) (hS : SolvedT g l) (hE : EvenT g l a b) (hD : DocT g d0 d1) : MwT g a b d0 := by
  have hG := isR_ok hR
  have hl : LeastT g l := by
    rcases hS with ⟨h, _⟩ | ⟨_, h⟩
    · rw [hR] at h
      cases h
    · exact h
  have hln := hl.bnd.1
  rcases hE with ⟨h, _⟩ | ⟨_, rfl, rfl⟩
  · rw [hR, decide_eq_true hln] at h
    cases h
  rcases hD with ⟨h, _⟩ | ⟨_, x, y, hx, hy, rfl, rfl, f0, f1, hs⟩
  · rw [hR] at h
    cases h
  have hmem : ∀ i, i ∈ evA l l.length ↔ W0 g l i := fun i => by rw [evA_mem, hln]; exact Iff.rfl
  have hmv : ∀ i : Int, 0 ≤ i → i < (g.ow.length : Int) → gI (evB g l l.length) i = mvT g l i := fun i c d => evB_at g l _ i c (by omega)
  have hwin : WinT g (fun i => 0 ≤ i ∧ i < (g.ow.length : Int)) 0 (gI (evB g l l.length)) (W0 g l) := mw_win hR hl fun i hi e => by
    rw [hmv i hi.1.1 hi.1.2, mvT, if_neg (by rw [hi.2]; decide), if_pos e]
    rfl
  have hrng : ∀ i, 0 ≤ i → i < (g.ow.length : Int) → ∀ m ∈ gL g.mv i, 0 ≤ m ∧ m < (g.ow.length : Int) := fun i c d m hm => row_rng hR c d hm
  have hsame : ∀ i, W0 g l i ↔ inB x i := fun i => by
    constructor
    · intro hi
      exact (hs.all i hi.1.1 hi.1.2).resolve_right (win_one hwin hs.w1 hrng hG.ow i hi)
    · exact fun hi => mw_in hR hl hs.w0 i hi
  have he : evA l l.length = onesL x g.ow.length := rise_eq (evA_rise l _) (ones_rise x _) fun i => by rw [hmem, hsame, ones_mem (by omega)]
  refine ⟨he, by rw [evB_len, hln], ⟨hwin.iff hmem, by rw [evB_len, hln]⟩, fun i c d => ?_⟩
  rw [hmv i c d]
  have hc : ((onesL x g.ow.length).count i : Int) > 0 ↔ W0 g l i := by
    rw [hsame, ← ones_mem (k := g.ow.length) (by omega)]
    exact ⟨fun h => List.count_pos_iff.1 (by omega), fun h => by have := List.count_pos_iff.2 h; omega⟩
  rw [hc]
  unfold mvT
  by_cases ht : (gT l i).top = true
  · rw [if_pos ht]
    constructor
    · intro h; omega
    · rintro ⟨h1, _⟩
      rw [h1.2] at ht
      cases ht
  · rw [if_neg ht]
    have hw : W0 g l i := ⟨⟨c, d⟩, by simpa using ht⟩
    by_cases e : gI g.ow i = 0
    · rw [if_pos e]
      refine ⟨fun _ => ⟨hw, e⟩, fun _ => ?_⟩
      obtain ⟨j, j0, j1, hb, hk⟩ := lift_spec hG l c d
      rw [hb]
      exact (hG.mv i c d j j0 j1).1
    · rw [if_neg e]
      exact ⟨fun h => by omega, fun h => absurd h.2 e⟩
end
end Go.Proofs.Ytklbpajmoklheaa
