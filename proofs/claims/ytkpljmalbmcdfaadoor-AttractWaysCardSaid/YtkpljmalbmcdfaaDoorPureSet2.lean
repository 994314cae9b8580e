/-
  Plain: the four words of a set and its truths say the same. No program.
-/
import Derived.Test.YtkpljmalbmcdfaaDoorPureSet
set_option linter.unusedVariables false
set_option linter.unusedSimpArgs false
namespace Go.Proofs.YtkpljmalbmcdfaaDoor
open Go Go.RowKit
theorem from_len (s : List Int) : (fromW s).length = 256 := ofZ_len _
theorem gB_from {s : List Int} {j : Int} (h0 : 0 ≤ j) (h1 : j < 256) : gB (fromW s) j = bitI (gI s (j / 64)) (j % 64) := gB_ofZ h0 h1
theorem bits_ext {s t : List Int} (hs : OkW s) (ht : OkW t) (h : ∀ j : Int, 0 ≤ j → j < 256 → bitI (gI s (j / 64)) (j % 64) = bitI (gI t (j / 64)) (j % 64)) : s = t :=
  words_ext hs.1 ht.1 fun q a b => word_ext (hs.2 q) (ht.2 q) fun r c d => by
    have := h (64 * q + r) (by omega) (by omega)
    rwa [show (64 * q + r) / 64 = q by omega, show (64 * q + r) % 64 = r by omega] at this
theorem from_inj {s t : List Int} (hs : OkW s) (ht : OkW t) (h : fromW s = fromW t) : s = t :=
  bits_ext hs ht fun j a b => by rw [← gB_from a b, ← gB_from a b, h]
theorem bit_words {l : List Bool} {q r : Int} (q0 : 0 ≤ q) (q1 : q < 4) (r0 : 0 ≤ r) (r1 : r < 64) : bitI (gI (wordsD l) q) r = gB l (64 * q + r) := by
  rw [wordsD, gI_ofZW q0 q1, bitI, Int.toNat_natCast, wP_bit, decide_eq_true (by omega), Bool.true_and]
  congr 1
  omega
theorem from_words {l : List Bool} (h : l.length = 256) : fromW (wordsD l) = l :=
  list_ext (from_len _) h fun j a b => by
    rw [gB_from a b, bit_words (by omega) (by omega) (by omega) (by omega)]
    congr 1
    omega
/-- The document's words of a set are the program's set, where both hold the same. -/
theorem same_iff {s : List Int} {l : List Bool} (hs : OkW s) (hl : l.length = 256) : s = wordsD l ↔ fromW s = l :=
  ⟨fun h => by rw [h, from_words hl], fun h => from_inj hs (wordsD_W l) (by rw [from_words hl, h])⟩
theorem gB_put {l : List Bool} {n j : Int} {v : Bool} (hl : l.length = 256) (h0 : 0 ≤ j) (h1 : j < 256) : gB (putD l n v) j = if n = j then v else gB l j := by
  unfold putD
  by_cases h : 0 ≤ n ∧ n < 256
  · rw [if_pos h, gB_set' h.1 (by omega) h0]
  · rw [if_neg h, if_neg (by omega)]
theorem bit_set {s : List Int} {n v : Int} {j : Int} (hs : OkW s) (h0 : 0 ≤ n) (h1 : n < 256) (j0 : 0 ≤ j) (j1 : j < 256) : bitI (gI (s.set (n / 64).toNat v) (j / 64)) (j % 64) = if n / 64 = j / 64 then bitI v (j % 64) else bitI (gI s (j / 64)) (j % 64) := by
  have := hs.1
  rw [gI_set' (by omega) (by omega) (by omega)]
  split <;> rfl
theorem from_with {s : List Int} {n : Int} (hs : OkW s) : fromW (withW s n) = putD (fromW s) n true :=
  list_ext (from_len _) (put_len (from_len _)) fun j a b => by
    rw [gB_from a b, gB_put (from_len _) a b]
    unfold withW
    by_cases h : 0 ≤ n ∧ n < 256
    · rw [if_pos h, bit_set hs h.1 h.2 a b, gB_from a b]
      by_cases e : n / 64 = j / 64
      · rw [if_pos e, orW, bit_or, bit_one (by omega) (by omega), e]
        by_cases e2 : n = j
        · rw [if_pos e2, decide_eq_true (by omega), Bool.or_true]
        · rw [if_neg e2, decide_eq_false (by omega), Bool.or_false]
      · rw [if_neg e, if_neg (by omega)]
    · rw [if_neg h, if_neg (by omega), gB_from a b]
theorem from_less {s : List Int} {n : Int} (hs : OkW s) : fromW (lessW s n) = putD (fromW s) n false :=
  list_ext (from_len _) (put_len (from_len _)) fun j a b => by
    rw [gB_from a b, gB_put (from_len _) a b]
    unfold lessW
    by_cases h : 0 ≤ n ∧ n < 256
    · rw [if_pos h, bit_set hs h.1 h.2 a b, gB_from a b]
      by_cases e : n / 64 = j / 64
      · rw [if_pos e, notW, bit_andNot (oneW_W (by omega) (by omega)) (by omega) (by omega), bit_one (by omega) (by omega), e]
        by_cases e2 : n = j
        · rw [if_pos e2, decide_eq_true (by omega)]
          simp
        · rw [if_neg e2, decide_eq_false (by omega)]
          simp
      · rw [if_neg e, if_neg (by omega)]
    · rw [if_neg h, if_neg (by omega), gB_from a b]
theorem from_or {s t : List Int} : fromW (ofZW (fun j => orW (gI s j) (gI t j))) = ofZ (fun j => gB (fromW s) j || gB (fromW t) j) :=
  list_ext (from_len _) (ofZ_len _) fun j a b => by
    rw [gB_from a b, gB_ofZ a b, gI_ofZW (by omega) (by omega), orW, bit_or, gB_from a b, gB_from a b]
theorem from_and {s t : List Int} : fromW (ofZW (fun j => andW (gI s j) (gI t j))) = ofZ (fun j => gB (fromW s) j && gB (fromW t) j) :=
  list_ext (from_len _) (ofZ_len _) fun j a b => by
    rw [gB_from a b, gB_ofZ a b, gI_ofZW (by omega) (by omega), andW, bit_and, gB_from a b, gB_from a b]
theorem from_minus {s t : List Int} (ht : OkW t) : fromW (ofZW (fun j => notW (gI s j) (gI t j))) = ofZ (fun j => gB (fromW s) j && !gB (fromW t) j) :=
  list_ext (from_len _) (ofZ_len _) fun j a b => by
    rw [gB_from a b, gB_ofZ a b, gI_ofZW (by omega) (by omega), notW, bit_andNot (ht.2 _) (by omega) (by omega), gB_from a b, gB_from a b]
theorem hasW_from (s : List Int) (n : Int) : hasW s n = hasD (fromW s) n := by
  unfold hasW hasD
  by_cases h : 0 ≤ n ∧ n < 256
  · rw [decide_eq_true h, gB_from h.1 h.2]
  · rw [decide_eq_false h, Bool.false_and, Bool.false_and]
theorem from_0 : fromW (List.replicate 4 (0 : Int)) = List.replicate 256 false :=
  list_ext (from_len _) List.length_replicate fun j a b => by
    rw [gB_from a b, gB_rep]
    have e : gI (List.replicate 4 (0 : Int)) (j / 64) = 0 := by
      obtain h | h | h | h : j / 64 = 0 ∨ j / 64 = 1 ∨ j / 64 = 2 ∨ j / 64 = 3 := by omega
      all_goals rw [h]; rfl
    rw [e, bit_zero]
theorem from_of (l : List Int) : fromW (ofW l) = ofD l := by
  unfold ofW ofD
  have : ∀ (l : List Int) (s : List Int), OkW s → fromW (l.foldl withW s) = l.foldl (fun s n => putD s n true) (fromW s) := by
    intro l
    induction l with
    | nil => intro s h; rfl
    | cons n l ih => intro s h; rw [List.foldl_cons, List.foldl_cons, ih _ (okW_with h), from_with h]
  rw [this l _ okW_0, from_0]
theorem inW_from {s t : List Int} (hs : OkW s) (ht : OkW t) : inW s t = inD (fromW s) (fromW t) := by
  unfold inW
  by_cases h : ofZW (fun j => notW (gI s j) (gI t j)) = ([0, 0, 0, 0] : List Int)
  · rw [decide_eq_true h]
    refine in_good (k := 256) (by omega) fun j a b hj => ?_
    have e := from_minus (s := s) ht
    rw [h] at e
    have e2 : gB _ j = gB _ j := congrArg (fun l => gB l j) e
    rw [gB_ofZ a b, hj, Bool.true_and, show ([0, 0, 0, 0] : List Int) = List.replicate 4 0 from rfl, from_0, gB_rep] at e2
    simpa using e2.symm
  · rw [decide_eq_false h]
    refine Eq.symm ?_
    rw [Bool.eq_false_iff]
    intro hin
    refine h (from_inj (okW_minus hs ht) okW_0 ?_)
    rw [from_minus ht, show fromW ([0, 0, 0, 0] : List Int) = fromW (List.replicate 4 (0 : Int)) from rfl, from_0]
    refine list_ext (ofZ_len _) List.length_replicate fun j a b => ?_
    rw [gB_ofZ a b, gB_rep]
    rw [inD, List.all_eq_true] at hin
    have := hin j.toNat (List.mem_range.2 (by omega))
    rw [show ((j.toNat : Nat) : Int) = j by omega] at this
    cases h1 : gB (fromW s) j <;> cases h2 : gB (fromW t) j <;> simp_all
end Go.Proofs.YtkpljmalbmcdfaaDoor
