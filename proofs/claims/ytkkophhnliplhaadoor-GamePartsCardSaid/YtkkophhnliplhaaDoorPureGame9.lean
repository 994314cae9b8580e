/-
  Plain: what the laws of games ask. No program.
-/
import Derived.Test.YtkkophhnliplhaaDoorPureSub
import Derived.Test.YtkkophhnliplhaaDoorPureDual
set_option linter.unusedVariables false
set_option linter.unusedSimpArgs false
namespace Go.Proofs.YtkkophhnliplhaaDoor
open Go Go.RowKit
theorem amoD_len (l : List Int) (n : Int) : (amoD l n).length = 256 := ofZ_len _
theorem gB_amoD {l : List Int} {n j : Int} (a : 0 ≤ j) (b : j < 256) : gB (amoD l n) j = (decide (j < (l.length : Int)) && decide (gI l j = n)) := gB_ofZ a b
theorem amoR_end {l : List Int} {n k : Int} {xs : List Bool} (h : MixL (List.replicate 256 false) xs (fun j => decide (gI l j = n)) k) (hk : (l.length : Int) ≤ k ∨ 256 ≤ k) (hk2 : k ≤ (l.length : Int)) : xs = amoD l n :=
  list_ext h.1 (amoD_len l n) fun j a b => by
    rw [h.2 j a b, gB_amoD a b]
    by_cases e : j < k
    · rw [if_pos e, decide_eq_true (show j < (l.length : Int) by omega), Bool.true_and]
    · rw [if_neg e, gB_rep, decide_eq_false (show ¬ j < (l.length : Int) by omega), Bool.false_and]
theorem fromW_words {l : List Bool} (h : l.length = 256) : fromW (wordsD l) = l := from_words h
theorem amo_none {l : List Int} {n : Int} (hl : l.length ≤ 256) : wordsD (amoD l n) = [0, 0, 0, 0] ↔ n ∉ l := by
  constructor
  · intro h hm
    obtain ⟨i, hi, e⟩ := List.mem_iff_getElem.1 hm
    have h2 : gB (fromW (wordsD (amoD l n))) (i : Int) = false := by rw [h, from_00, gB_emptyD]
    rw [from_words (amoD_len l n), gB_amoD (by omega) (by omega), gI_eq (by omega) (by omega)] at h2
    simp only [Int.toNat_natCast, e] at h2
    simp at h2
    omega
  · intro h
    refine eq_00 (wordsD_W _) fun j a b => ?_
    rw [from_words (amoD_len l n), gB_amoD a b]
    by_cases hj : j < (l.length : Int)
    · rw [decide_eq_true hj, Bool.true_and]
      exact decide_eq_false (not_mem_gI h a hj)
    · rw [decide_eq_false hj, Bool.false_and]
theorem amo_all {g : GameL} (hG : RightG g) : orS (wordsD (amoD g.ow 0)) (wordsD (amoD g.ow 1)) = fullW (g.ow.length : Int) := by
  refine (set_iff (okW_orS (wordsD_W _) (wordsD_W _)) (fullW_W _)).2 fun j a b => ?_
  rw [from_orS, gB_orD a b, from_words (amoD_len _ _), from_words (amoD_len _ _), gB_amoD a b, gB_amoD a b, from_full, gB_fullD a b]
  by_cases hj : j < (g.ow.length : Int)
  · have := hG.ow j a hj
    rw [decide_eq_true hj]
    rcases this with h | h <;> rw [h] <;> simp
  · rw [decide_eq_false hj]
    simp
theorem amo_both {l : List Int} {n m : Int} (h : n ≠ m) : andS (wordsD (amoD l n)) (wordsD (amoD l m)) = [0, 0, 0, 0] := by
  refine eq_00 (okW_andS (wordsD_W _) (wordsD_W _)) fun j a b => ?_
  rw [from_andS, gB_andD a b, from_words (amoD_len _ _), from_words (amoD_len _ _), gB_amoD a b, gB_amoD a b]
  by_cases hn : gI l j = n
  · rw [hn, decide_eq_false h]
    simp
  · rw [decide_eq_false hn]
    simp
theorem amo_dual {g : GameL} (hR : isR g = true) (h2 : ¬ (7 ∈ g.pr ∧ 0 ∈ g.pr)) {p : Int} : amoD (dualG g).ow p = amoD g.ow (1 - p) := by
  refine list_ext (amoD_len _ _) (amoD_len _ _) fun j a b => ?_
  rw [gB_amoD a b, gB_amoD a b, dual_yes hR h2, List.length_map]
  by_cases hj : j < (g.ow.length : Int)
  · rw [gI_map a hj]
    congr 1
    rw [decide_eq_decide]
    omega
  · rw [decide_eq_false hj, Bool.false_and, Bool.false_and]
/-- The places of the priorities below p. -/
def SomeAt (g : GameL) (sm : List Int) (p : Int) : Prop := OkW sm ∧ ∀ j : Int, 0 ≤ j → j < 256 → gB (fromW sm) j = (decide (j < (g.pr.length : Int)) && decide (gI g.pr j < p))
theorem someAt_0 {g : GameL} (hG : RightG g) : SomeAt g (List.replicate 4 (0 : Int)) 0 := ⟨okW_0, fun j a b => by
  rw [from_0, gB_rep]
  by_cases hj : j < (g.pr.length : Int)
  · have := hG.pr j a (by have := hG.pl; omega)
    rw [decide_eq_false (show ¬ gI g.pr j < 0 by omega), Bool.and_false]
  · rw [decide_eq_false hj, Bool.false_and]⟩
theorem someAt_no {g : GameL} {sm : List Int} {p : Int} (h : SomeAt g sm p) : andS sm (wordsD (amoD g.pr p)) = [0, 0, 0, 0] := by
  refine eq_00 (okW_andS h.1 (wordsD_W _)) fun j a b => ?_
  rw [from_andS, gB_andD a b, h.2 j a b, from_words (amoD_len _ _), gB_amoD a b]
  by_cases hn : gI g.pr j = p
  · rw [decide_eq_false (show ¬ gI g.pr j < p by omega)]
    simp
  · rw [decide_eq_false hn]
    simp
theorem someAt_next {g : GameL} {sm : List Int} {p : Int} (h : SomeAt g sm p) : SomeAt g (orS sm (wordsD (amoD g.pr p))) (p + 1) := ⟨okW_orS h.1 (wordsD_W _), fun j a b => by
  rw [from_orS, gB_orD a b, h.2 j a b, from_words (amoD_len _ _), gB_amoD a b]
  by_cases hj : j < (g.pr.length : Int)
  · rw [decide_eq_true hj, Bool.true_and, Bool.true_and, Bool.true_and, Bool.eq_iff_iff, Bool.or_eq_true, decide_eq_true_iff, decide_eq_true_iff, decide_eq_true_iff]
    omega
  · rw [decide_eq_false hj]
    simp⟩
theorem someAt_end {g : GameL} (hG : RightG g) {sm : List Int} {p : Int} (h : SomeAt g sm p) (hp : 7 < p) : sm = fullW (g.ow.length : Int) := by
  refine (set_iff h.1 (fullW_W _)).2 fun j a b => ?_
  rw [h.2 j a b, from_full, gB_fullD a b]
  have hpl := hG.pl
  by_cases hj : j < (g.pr.length : Int)
  · have := hG.pr j a (by omega)
    rw [decide_eq_true hj, decide_eq_true (show gI g.pr j < p by omega), decide_eq_true (show j < (g.ow.length : Int) by omega)]
    rfl
  · rw [decide_eq_false hj, decide_eq_false (show ¬ j < (g.ow.length : Int) by omega), Bool.false_and]
theorem amo_out {g : GameL} (hG : RightG g) : wordsD (amoD g.ow 2) = [0, 0, 0, 0] ∧ wordsD (amoD g.pr 8) = [0, 0, 0, 0] := by
  have hn := hG.n1
  have hpl := hG.pl
  refine ⟨(amo_none (by omega)).2 fun h => ?_, (amo_none (by omega)).2 fun h => ?_⟩
  · obtain ⟨i, hi, e⟩ := List.mem_iff_getElem.1 h
    have := hG.ow (i : Int) (by omega) (by omega)
    rw [gI_eq (by omega) (by omega)] at this
    simp only [Int.toNat_natCast, e] at this
    omega
  · obtain ⟨i, hi, e⟩ := List.mem_iff_getElem.1 h
    have := hG.pr (i : Int) (by omega) (by omega)
    rw [gI_eq (by omega) (by omega)] at this
    simp only [Int.toNat_natCast, e] at this
    omega
theorem rdG_nil {w : World} {lo hi : Nat} : RdG w lo hi none none none 0 0 0 (⟨[], [], []⟩ : GameL) := ⟨rdI_nil, rdI_nil, rdII_nil, Nat.le_refl _, Nat.le_refl _, Nat.le_refl _⟩
end Go.Proofs.YtkkophhnliplhaaDoor
namespace Go.Proofs.YtkkophhnliplhaaDoor
open Go Go.RowKit
/- The example. -/
def exG9 : GameL := ⟨[0, 1, 1], [1, 4, 7], [[1, 2], [0], [0, 2]]⟩
theorem exG9_R : isR exG9 = true := by decide
theorem exG9_dual : dualG exG9 = ⟨[1, 0, 0], [0, 3, 6], [[1, 2], [0], [0, 2]]⟩ := by decide +kernel
theorem exG9_sub : subG exG9 (inT exG9 (ofW [0, 2, 9])) = ⟨[0, 1], [1, 7], [[1], [0, 1]]⟩ ∧ subO exG9 (inT exG9 (ofW [0, 2, 9])) = [0, 2] ∧ subB exG9 (inT exG9 (ofW [0, 2, 9])) = true := by decide +kernel
end Go.Proofs.YtkkophhnliplhaaDoor
