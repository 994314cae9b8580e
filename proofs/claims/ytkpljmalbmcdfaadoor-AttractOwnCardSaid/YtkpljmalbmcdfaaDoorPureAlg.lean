/-
  Plain: sets are a lattice; how many are in them. No program.
-/
import Derived.Test.YtkpljmalbmcdfaaDoorPureSet3
set_option linter.unusedVariables false
set_option linter.unusedSimpArgs false
namespace Go.Proofs.YtkpljmalbmcdfaaDoor
open Go Go.RowKit
theorem set_iff {a b : List Int} (ha : OkW a) (hb : OkW b) : a = b ↔ ∀ j : Int, 0 ≤ j → j < 256 → gB (fromW a) j = gB (fromW b) j :=
  ⟨fun h j _ _ => by rw [h], fun h => from_inj ha hb (list_ext (from_len _) (from_len _) h)⟩
theorem alg_eq {a b : List Int} (ha : OkW a) (hb : OkW b) (h : ∀ j : Int, 0 ≤ j → j < 256 → gB (fromW a) j = gB (fromW b) j) : decide (a = b) = true := decide_eq_true ((set_iff ha hb).2 h)
theorem inD_iff {l r : List Bool} : inD l r = true ↔ ∀ j : Int, 0 ≤ j → j < 256 → gB l j = true → gB r j = true := by
  constructor
  · intro h j a b hj
    by_cases hr : gB r j = true
    · exact hr
    · have := in_bad a b hj (by simpa using hr)
      rw [← this] at h
      cases h
  · intro h
    exact (in_good (k := 256) (by omega) h).symm
section
variable {s t u : List Int} (hs : OkW s) (ht : OkW t) (hu : OkW u)
include hs ht
theorem alg1 : decide (orS s t = orS t s) = true := alg_eq (okW_orS hs ht) (okW_orS ht hs) fun j a b => by
  simp only [from_orS, gB_orD a b]
  exact Bool.or_comm _ _
theorem alg2 : decide (andS s t = andS t s) = true := alg_eq (okW_andS hs ht) (okW_andS ht hs) fun j a b => by
  simp only [from_andS, gB_andD a b]
  exact Bool.and_comm _ _
theorem alg7 : decide (orS s (andS s t) = s) = true := alg_eq (okW_orS hs (okW_andS hs ht)) hs fun j a b => by
  simp only [from_orS, gB_orD a b, from_andS, gB_andD a b]
  cases gB (fromW s) j <;> cases gB (fromW t) j <;> rfl
theorem alg8 : decide (andS s (orS s t) = s) = true := alg_eq (okW_andS hs (okW_orS hs ht)) hs fun j a b => by
  simp only [from_orS, gB_orD a b, from_andS, gB_andD a b]
  cases gB (fromW s) j <;> cases gB (fromW t) j <;> rfl
theorem alg9 : decide (minusS s t = minusS s (andS s t)) = true := alg_eq (okW_minusS hs ht) (okW_minusS hs (okW_andS hs ht)) fun j a b => by
  simp only [from_minusS ht, from_minusS (okW_andS hs ht), gB_minusD a b, from_andS, gB_andD a b]
  cases gB (fromW s) j <;> cases gB (fromW t) j <;> rfl
theorem alg10 : decide (andS (minusS s t) t = [0, 0, 0, 0]) = true := alg_eq (okW_andS (okW_minusS hs ht) ht) okW_00 fun j a b => by
  simp only [from_minusS ht, gB_minusD a b, from_andS, gB_andD a b, from_00, gB_emptyD]
  cases gB (fromW s) j <;> cases gB (fromW t) j <;> rfl
theorem alg11 : decide (orS (minusS s t) (andS s t) = s) = true := alg_eq (okW_orS (okW_minusS hs ht) (okW_andS hs ht)) hs fun j a b => by
  simp only [from_minusS ht, gB_minusD a b, from_andS, gB_andD a b, from_orS, gB_orD a b]
  cases gB (fromW s) j <;> cases gB (fromW t) j <;> rfl
theorem alg13 : (inW s t == decide (orS s t = t)) = true := by
  rw [beq_iff_eq, inW_from hs ht, Bool.eq_iff_iff, decide_eq_true_iff, inD_iff, set_iff (okW_orS hs ht) ht]
  refine ⟨fun h j a b => ?_, fun h j a b hj => ?_⟩
  · have h1 := h j a b
    simp only [from_orS, gB_orD a b]
    cases h2 : gB (fromW s) j <;> cases h3 : gB (fromW t) j <;> simp_all
  · have h1 := h j a b
    simp only [from_orS, gB_orD a b] at h1
    rw [hj] at h1
    exact h1.symm
theorem alg14 : (inW s t == decide (andS s t = s)) = true := by
  rw [beq_iff_eq, inW_from hs ht, Bool.eq_iff_iff, decide_eq_true_iff, inD_iff, set_iff (okW_andS hs ht) hs]
  refine ⟨fun h j a b => ?_, fun h j a b hj => ?_⟩
  · have h1 := h j a b
    simp only [from_andS, gB_andD a b]
    cases h2 : gB (fromW s) j <;> cases h3 : gB (fromW t) j <;> simp_all
  · have h1 := h j a b
    simp only [from_andS, gB_andD a b] at h1
    rw [hj] at h1
    exact h1
theorem alg15 : inW (andS s t) s = true := by
  rw [inW_from (okW_andS hs ht) hs, inD_iff]
  intro j a b hj
  simp only [from_andS, gB_andD a b] at hj
  cases h2 : gB (fromW s) j <;> simp_all
theorem alg16 : inW s (orS s t) = true := by
  rw [inW_from hs (okW_orS hs ht), inD_iff]
  intro j a b hj
  simp only [from_orS, gB_orD a b, hj, Bool.true_or]
include hu
theorem alg3 : decide (orS s (orS t u) = orS (orS s t) u) = true := alg_eq (okW_orS hs (okW_orS ht hu)) (okW_orS (okW_orS hs ht) hu) fun j a b => by
  simp only [from_orS, gB_orD a b]
  exact (Bool.or_assoc _ _ _).symm
theorem alg4 : decide (andS s (andS t u) = andS (andS s t) u) = true := alg_eq (okW_andS hs (okW_andS ht hu)) (okW_andS (okW_andS hs ht) hu) fun j a b => by
  simp only [from_andS, gB_andD a b]
  exact (Bool.and_assoc _ _ _).symm
theorem alg5 : decide (andS s (orS t u) = orS (andS s t) (andS s u)) = true := alg_eq (okW_andS hs (okW_orS ht hu)) (okW_orS (okW_andS hs ht) (okW_andS hs hu)) fun j a b => by
  simp only [from_andS, gB_andD a b, from_orS, gB_orD a b]
  exact Bool.and_or_distrib_left _ _ _
theorem alg6 : decide (orS s (andS t u) = andS (orS s t) (orS s u)) = true := alg_eq (okW_orS hs (okW_andS ht hu)) (okW_andS (okW_orS hs ht) (okW_orS hs hu)) fun j a b => by
  simp only [from_andS, gB_andD a b, from_orS, gB_orD a b]
  exact Bool.or_and_distrib_left _ _ _
theorem alg12 : decide (minusS s (orS t u) = minusS (minusS s t) u) = true := alg_eq (okW_minusS hs (okW_orS ht hu)) (okW_minusS (okW_minusS hs ht) hu) fun j a b => by
  simp only [from_minusS (okW_orS ht hu), from_minusS ht, from_minusS hu, gB_minusD a b, from_orS, gB_orD a b]
  cases gB (fromW s) j <;> cases gB (fromW t) j <;> cases gB (fromW u) j <;> rfl
end
/-- How many numbers below n are in a set. -/
def cB (l : List Bool) (n : Nat) : Int := ((lsD l n).length : Int)
theorem cB_0 (l : List Bool) : cB l 0 = 0 := rfl
theorem cB_s (l : List Bool) (n : Nat) : cB l (n + 1) = cB l n + (if gB l (n : Int) = true then 1 else 0) := by
  unfold cB
  rw [lsD]
  split <;> simp
theorem cB_ge (l : List Bool) (n : Nat) : 0 ≤ cB l n := Int.natCast_nonneg _
theorem lenW_c (s : List Int) : lenW s = cB (fromW s) 256 := lenW_ls s
theorem cB_or (l r : List Bool) : ∀ n, n ≤ 256 → cB (orD l r) n + cB (andD l r) n = cB l n + cB r n
  | 0, _ => rfl
  | n + 1, h => by
    have ih := cB_or l r n (by omega)
    rw [cB_s, cB_s, cB_s, cB_s, gB_orD (by omega) (by omega), gB_andD (by omega) (by omega)]
    cases gB l (n : Int) <;> cases gB r (n : Int) <;> simp <;> omega
theorem cB_minus (l r : List Bool) : ∀ n, n ≤ 256 → cB (minusD l r) n = cB l n - cB (andD l r) n
  | 0, _ => rfl
  | n + 1, h => by
    have ih := cB_minus l r n (by omega)
    rw [cB_s, cB_s, cB_s, gB_minusD (by omega) (by omega), gB_andD (by omega) (by omega)]
    cases gB l (n : Int) <;> cases gB r (n : Int) <;> simp <;> omega
theorem cB_put {l : List Bool} (hl : l.length = 256) (k : Int) (v : Bool) : ∀ n, n ≤ 256 → cB (putD l k v) n = cB l n + (if 0 ≤ k ∧ k < n then (if v = true then 1 else 0) - (if gB l k = true then 1 else 0) else 0)
  | 0, _ => by rw [if_neg (by omega)]; rfl
  | n + 1, h => by
    have ih := cB_put hl k v n (by omega)
    rw [cB_s, cB_s, gB_put hl (by omega) (by omega), ih]
    by_cases hk : k = (n : Int)
    · subst hk
      rw [if_neg (show ¬ (0 ≤ (n : Int) ∧ (n : Int) < (n : Int)) by omega), if_pos rfl, if_pos (show 0 ≤ (n : Int) ∧ (n : Int) < ((n + 1 : Nat) : Int) by omega)]
      cases v <;> cases gB l (n : Int) <;> simp <;> omega
    · rw [if_neg hk]
      by_cases h1 : 0 ≤ k ∧ k < (n : Int)
      · rw [if_pos h1, if_pos (show 0 ≤ k ∧ k < ((n + 1 : Nat) : Int) by omega)]
        omega
      · rw [if_neg h1, if_neg (show ¬ (0 ≤ k ∧ k < ((n + 1 : Nat) : Int)) by omega)]
        omega
theorem len_or {s t : List Int} : lenW (orS s t) + lenW (andS s t) = lenW s + lenW t := by
  rw [lenW_c, lenW_c, lenW_c, lenW_c, from_orS, from_andS]
  exact cB_or _ _ 256 (by omega)
theorem len_minus {s t : List Int} (ht : OkW t) : lenW (minusS s t) = lenW s - lenW (andS s t) := by
  rw [lenW_c, lenW_c, lenW_c, from_minusS ht, from_andS]
  exact cB_minus _ _ 256 (by omega)
theorem len_with {s : List Int} {n m : Int} (hs : OkW s) (hm : m = if 0 ≤ n ∧ n < 256 ∧ hasW s n = false then 1 else 0) : lenW (withW s n) = lenW s + m := by
  subst hm
  rw [lenW_c, lenW_c, from_with hs, cB_put (from_len _) n true 256 (by omega), hasW_from, hasD]
  by_cases h : 0 ≤ n ∧ n < 256
  · rw [if_pos (show 0 ≤ n ∧ n < ((256 : Nat) : Int) by omega), decide_eq_true h, Bool.true_and]
    cases gB (fromW s) n
    · rw [if_pos (show 0 ≤ n ∧ n < 256 ∧ false = false from ⟨h.1, h.2, rfl⟩)]
      rfl
    · rw [if_neg (show ¬ (0 ≤ n ∧ n < 256 ∧ true = false) from fun hh => by cases hh.2.2)]
      rfl
  · rw [if_neg (show ¬ (0 ≤ n ∧ n < ((256 : Nat) : Int)) by omega), if_neg (fun hh => h ⟨hh.1, hh.2.1⟩)]
theorem len_less {s : List Int} {n m : Int} (hs : OkW s) (hm : m = if hasW s n = true then 1 else 0) : lenW (lessW s n) = lenW s - m := by
  subst hm
  rw [lenW_c, lenW_c, from_less hs, cB_put (from_len _) n false 256 (by omega), hasW_from, hasD]
  by_cases h : 0 ≤ n ∧ n < 256
  · rw [if_pos (show 0 ≤ n ∧ n < ((256 : Nat) : Int) by omega), decide_eq_true h, Bool.true_and]
    cases gB (fromW s) n <;> simp <;> omega
  · rw [if_neg (show ¬ (0 ≤ n ∧ n < ((256 : Nat) : Int)) by omega), decide_eq_false h, Bool.false_and, if_neg (by decide)]
    omega
theorem bneF {a b : Int} (h : a = b) : (a != b) = false := by simp [h]
theorem beqT {a b : Int} (h : a = b) : (a == b) = true := by simp [h]
end Go.Proofs.YtkpljmalbmcdfaaDoor
