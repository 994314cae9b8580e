/-
  How many a set of words holds: the sum over its four words.
-/
import Derived.Test.YtplpgfcjjnaigaaDoorWOnes
import Derived.Test.YtplpgfcjjnaigaaDoorFt
set_option linter.unusedVariables false
namespace Go.Proofs.YtplpgfcjjnaigaaDoor
open Go Go.RowKit
def onI (z : Int) : Int := ((popN z.toNat 64 : Nat) : Int)
def lenN (s : List Int) : Nat → Int
  | 0 => 0
  | n + 1 => lenN s n + onI (gI s (n : Int))
def lenW (s : List Int) : Int := lenN s 4
theorem pop_le (x : Nat) : ∀ n, popN x n ≤ n
  | 0 => by unfold popN; exact Nat.le_refl _
  | n + 1 => by have := pop_le x n; unfold popN; split <;> omega
theorem onI_le (z : Int) : 0 ≤ onI z ∧ onI z ≤ 64 := by
  have := pop_le z.toNat 64
  unfold onI
  omega
theorem len_next {s : List Int} {k r : Int} (h : r = lenN s k.toNat) (h0 : 0 ≤ k) : r + onI (gI s k) = lenN s (k + 1).toNat := by
  obtain ⟨n, rfl⟩ := Int.eq_ofNat_of_zero_le h0
  subst h
  rfl
theorem len_end {s : List Int} {k r : Int} (h : r = lenN s k.toNat) (h0 : 4 ≤ k) (h1 : k ≤ 4) : r = lenW s := by
  have : k = 4 := by omega
  subst this
  exact h
theorem onesI {z : Int} {w : World} (h : W64 z) : Calls Tryd.prog 62 #[.int .u64 z] w fun e w' => e = .returned (.int .i64 (onI z)) ∧ Ext w w' := by
  have h2 : z = ((z.toNat : Nat) : Int) := by have := h.1; omega
  have h3 : z.toNat < 18446744073709551616 := by have := h.1; have := h.2; omega
  have := ones_any (x := z.toNat) (w := w) h3
  rw [← h2] at this
  exact this
end Go.Proofs.YtplpgfcjjnaigaaDoor
