/-
  Plain: what the laws of lists of sets ask. No program.
-/
import Derived.Test.YtkpljmalbmcdfaaDoorPureLs
set_option linter.unusedVariables false
set_option linter.unusedSimpArgs false
namespace Go.Proofs.YtkpljmalbmcdfaaDoor
open Go Go.RowKit
theorem OwnR.rdIpre {w : World} {base : Nat} {os : List (Option Nat)} {A : Option Addr} {c : Nat} {e : TypeId} {l la m : List Int} (h : OwnR w (Sx base os) A c e l) (he : l = la ++ m) (hl : la.length * 8 ≤ 140737488351232) : RdI w 0 w.heap.size A la := by
  subst he
  refine ⟨hl, fun i q hi hq => ?_⟩
  obtain rfl : q = 0 := by omega
  obtain ⟨ad, hA, hs, _, hc⟩ := h.get (i : Int) (by omega) (by rw [List.length_append]; omega) (sz := 1) rfl
  refine ⟨ad, hA, Nat.zero_le _, hs, ?_⟩
  have := hc 0 (.int .i64 (gA (la ++ m) (i : Int))) rfl
  refine this.trans ?_
  simp only [gA, Int.toNat_natCast, List.getD_eq_getElem?_getD, List.getElem?_append_left hi]
  rfl
theorem gI_app (la m : List Int) (k : Int) (h : 0 ≤ k) : gI (la ++ m) (((la.length : Nat) : Int) + k) = gI m k := by
  simp only [gI, List.getD_eq_getElem?_getD]
  rw [List.getElem?_append_right (by omega), show (((la.length : Nat) : Int) + k).toNat - la.length = k.toNat by omega]
theorem gI_app7 (la : List Int) : gI (la ++ [7, 8]) ((la.length : Nat) : Int) = 7 := by
  have := gI_app la [7, 8] 0 (by omega)
  rw [Int.add_zero] at this
  exact this
theorem gI_app8 (la : List Int) : gI (la ++ [7, 8]) (((la.length : Nat) : Int) + 1) = 8 := gI_app la [7, 8] 1 (by omega)
theorem of_list {s : List Int} (hs : OkW s) : ofW (lsD (fromW s) 256) = s := from_inj (ofW_ok _) hs (by rw [from_of, ofD_ls (from_len _)])
theorem ls_get {l : List Bool} {k : Int} (h0 : 0 ≤ k) (h1 : k < ((lsD l 256).length : Int)) : gI (lsD l 256) k ∈ lsD l 256 := by
  simp only [gI, List.getD_eq_getElem?_getD, List.getElem?_eq_getElem (show k.toNat < (lsD l 256).length by omega), Option.getD_some]
  exact List.getElem_mem _
theorem list_has {s : List Int} {k : Int} (h0 : 0 ≤ k) (h1 : k < ((lsD (fromW s) 256).length : Int)) : hasW s (gI (lsD (fromW s) 256) k) = true := by
  have := mem_ls.1 (ls_get h0 h1)
  rw [hasW_from, hasD, decide_eq_true ⟨this.1, by omega⟩, this.2.2]
  rfl
theorem list_step {l : List Bool} {k : Int} (h0 : 0 < k) (h1 : k < ((lsD l 256).length : Int)) : gI (lsD l 256) (k - 1) < gI (lsD l 256) k := by
  have := List.pairwise_iff_getElem.1 (ls_lt l 256) (k - 1).toNat k.toNat (by omega) (by omega) (by omega)
  simp only [gI, List.getD_eq_getElem?_getD, List.getElem?_eq_getElem (show k.toNat < (lsD l 256).length by omega), List.getElem?_eq_getElem (show (k - 1).toNat < (lsD l 256).length by omega), Option.getD_some]
  exact this
theorem list_first {l : List Bool} (h1 : (0 : Int) < ((lsD l 256).length : Int)) : gI (lsD l 256) 0 = leastD l := by
  rw [least_ls]
  cases h : lsD l 256 with
  | nil => rw [h] at h1; simp at h1
  | cons x r => rfl
theorem list_some (l : List Bool) : (decide (((lsD l 256).length : Int) > 0) == decide (leastD l ≥ 0)) = true := by
  rw [beq_iff_eq, decide_eq_decide, least_ls]
  cases h : lsD l 256 with
  | nil => simp
  | cons x r =>
    have hx : x ∈ lsD l 256 := by rw [h]; exact List.mem_cons_self
    have := (mem_ls.1 hx).1
    simp
    omega
theorem fine_next {la : List Int} {k : Int} (h0 : 0 ≤ k) (h1 : k < (la.length : Int)) : FineT (la.take (k + 1).toNat) ↔ FineT (la.take k.toNat) ∧ 0 ≤ gI la k ∧ gI la k ≤ 255 ∧ (k = 0 ∨ gI la (k - 1) < gI la k) := by
  have hk : k.toNat < la.length := by omega
  have e : gI la k = la[k.toNat] := by simp only [gI, List.getD_eq_getElem?_getD, List.getElem?_eq_getElem hk, Option.getD_some]
  rw [show (k + 1).toNat = k.toNat + 1 by omega, List.take_succ_eq_append_getElem hk, ← e]
  unfold FineT
  rw [List.pairwise_append]
  constructor
  · rintro ⟨h2, h3, _, h4⟩
    refine ⟨⟨fun z hz => h2 z (List.mem_append.2 (.inl hz)), h3⟩, (h2 _ (List.mem_append.2 (.inr (List.mem_singleton.2 rfl)))).1, (h2 _ (List.mem_append.2 (.inr (List.mem_singleton.2 rfl)))).2, ?_⟩
    by_cases hz : k = 0
    · exact .inl hz
    · refine .inr (h4 _ ?_ _ (List.mem_singleton.2 rfl))
      have e2 : gI la (k - 1) = (la.take k.toNat)[(k - 1).toNat]'(by rw [List.length_take]; omega) := by
        rw [List.getElem_take]
        simp only [gI, List.getD_eq_getElem?_getD, List.getElem?_eq_getElem (show (k - 1).toNat < la.length by omega), Option.getD_some]
      rw [e2]
      exact List.getElem_mem _
  · rintro ⟨⟨h2, h3⟩, h4, h5, h6⟩
    refine ⟨fun z hz => ?_, h3, List.pairwise_singleton _ _, fun a ha b hb => ?_⟩
    · rcases List.mem_append.1 hz with hz | hz
      · exact h2 z hz
      · rw [List.mem_singleton] at hz
        subst hz
        exact ⟨h4, h5⟩
    · rw [List.mem_singleton] at hb
      subst hb
      obtain ⟨i, hi, rfl⟩ := List.mem_iff_getElem.1 ha
      have hi2 : i < k.toNat := by rw [List.length_take] at hi; omega
      have h7 : gI la (k - 1) < gI la k := by omega
      have e2 : gI la (k - 1) = (la.take k.toNat)[(k - 1).toNat]'(by rw [List.length_take]; omega) := by
        rw [List.getElem_take]
        simp only [gI, List.getD_eq_getElem?_getD, List.getElem?_eq_getElem (show (k - 1).toNat < la.length by omega), Option.getD_some]
      by_cases he : i = (k - 1).toNat
      · subst he
        rw [← e2]
        exact h7
      · have := List.pairwise_iff_getElem.1 h3 i (k - 1).toNat hi (by rw [List.length_take]; omega) (by omega)
        omega
theorem fine_step {la : List Int} {k : Int} {fi v : Bool} (h : fi = decide (FineT (la.take k.toNat))) (h0 : 0 ≤ k) (h1 : k < (la.length : Int)) (hv : v = true ↔ (fi = true ∧ 0 ≤ gI la k ∧ gI la k ≤ 255 ∧ (k = 0 ∨ gI la (k - 1) < gI la k))) : v = decide (FineT (la.take (k + 1).toNat)) := by
  rw [Bool.eq_iff_iff, hv, decide_eq_true_iff, fine_next h0 h1, h, decide_eq_true_iff]
theorem fine_0 {la : List Int} : true = decide (FineT (la.take (0 : Int).toNat)) := by
  refine (decide_eq_true ?_).symm
  exact ⟨fun z hz => by simp at hz, by simp⟩
theorem back_fine {la : List Int} {k : Int} {fi : Bool} (h : fi = decide (FineT (la.take k.toNat))) (hk : (la.length : Int) ≤ k) : (decide (lsD (fromW (ofW la)) 256 = la) == fi) = true := by
  rw [h, List.take_of_length_le (by omega), from_of, beq_iff_eq, decide_eq_decide]
  exact fine_iff
/- Ways. -/
theorem ofW_app (l : List Int) (a : Int) : ofW (l ++ [a]) = withW (ofW l) a := by
  unfold ofW
  rw [List.foldl_append]
  rfl
theorem ways_y {la ys : List Int} {k : Int} (h : ys = ofW (la.drop (k + 1).toNat).reverse) (h0 : 0 ≤ k) (h1 : k < (la.length : Int)) : withW ys (gI la k) = ofW (la.drop (k - 1 + 1).toNat).reverse := by
  rw [show k - 1 + 1 = k by omega, drop_at (r := []) h0 h1, List.reverse_cons, ofW_app, h]
theorem ways_y0 {la : List Int} : List.replicate 4 (0 : Int) = ofW (la.drop (((la.length : Nat) : Int) - 1 + 1).toNat).reverse := by
  rw [List.drop_eq_nil_of_le (by omega)]
  rfl
theorem of_perm {l r : List Int} (h : ∀ z, z ∈ l ↔ z ∈ r) : ofD l = ofD r :=
  list_ext (of_len _) (of_len _) fun j a b => by
    rw [gB_ofD l a b, gB_ofD r a b, decide_eq_decide]
    exact h j
theorem ways_xy {la ys : List Int} {k : Int} (h : ys = ofW (la.drop (k + 1).toNat).reverse) (h1 : k < 0) : ofW la = ys := by
  subst h
  rw [show (k + 1).toNat = 0 by omega, List.drop_zero]
  refine from_inj (ofW_ok _) (ofW_ok _) ?_
  rw [from_of, from_of]
  exact of_perm fun z => List.mem_reverse.symm
theorem ways_z {la zs : List Int} {k : Int} (h : fromW zs = ofD (la.take k.toNat)) (h0 : 0 ≤ k) (h1 : k < (la.length : Int)) : fromW (orS (ofW [gI la k]) zs) = ofD (la.take (k + 1).toNat) := by
  have hk : k.toNat < la.length := by omega
  have e : gI la k = la[k.toNat] := by simp only [gI, List.getD_eq_getElem?_getD, List.getElem?_eq_getElem hk, Option.getD_some]
  rw [from_orS, from_of, h, show (k + 1).toNat = k.toNat + 1 by omega, List.take_succ_eq_append_getElem hk, ← e]
  refine list_ext (orD_len _ _) (of_len _) fun j a b => ?_
  rw [gB_orD a b, gB_ofD _ a b, gB_ofD _ a b, gB_ofD _ a b, Bool.eq_iff_iff]
  simp [List.mem_append, or_comm]
theorem ways_z0 {la : List Int} : fromW (List.replicate 4 (0 : Int)) = ofD (la.take (0 : Int).toNat) := by
  rw [from_0]
  rfl
theorem ways_xz {la zs : List Int} {k : Int} (hz : OkW zs) (h : fromW zs = ofD (la.take k.toNat)) (h1 : (la.length : Int) ≤ k) : ofW la = zs := by
  refine from_inj (ofW_ok _) hz ?_
  rw [from_of, h, List.take_of_length_le (by omega)]
theorem ways_has (la : List Int) (n : Int) : hasW (ofW la) n = decide (0 ≤ n ∧ n < 256 ∧ n ∈ la) := by
  rw [hasW_from, hasD, from_of]
  by_cases h : 0 ≤ n ∧ n < 256
  · rw [decide_eq_true h, Bool.true_and, gB_ofD la h.1 h.2, decide_eq_decide]
    exact ⟨fun x => ⟨h.1, h.2, x⟩, fun x => x.2.2⟩
  · rw [decide_eq_false h, Bool.false_and]
    exact (decide_eq_false fun x => h ⟨x.1, x.2.1⟩).symm
theorem mem_step {la : List Int} {k n : Int} {b v : Bool} (h : b = decide (n ∈ la.take k.toNat)) (h0 : 0 ≤ k) (h1 : k < (la.length : Int)) (hv : v = true ↔ (b = true ∨ gI la k = n)) : v = decide (n ∈ la.take (k + 1).toNat) := by
  have hk : k.toNat < la.length := by omega
  have e : gI la k = la[k.toNat] := by simp only [gI, List.getD_eq_getElem?_getD, List.getElem?_eq_getElem hk, Option.getD_some]
  rw [Bool.eq_iff_iff, hv, decide_eq_true_iff, show (k + 1).toNat = k.toNat + 1 by omega, List.take_succ_eq_append_getElem hk, ← e, List.mem_append, List.mem_singleton, h, decide_eq_true_iff]
  exact ⟨fun x => x.imp id Eq.symm, fun x => x.imp id Eq.symm⟩
theorem mem_0 {la : List Int} {n : Int} : false = decide (n ∈ la.take (0 : Int).toNat) := by simp
theorem ways_eq {la : List Int} {k n : Int} {b v : Bool} (h : b = decide (n ∈ la.take k.toNat)) (h1 : (la.length : Int) ≤ k) (hv : v = true ↔ (b = true ∧ 0 ≤ n ∧ n ≤ 255)) : (!(hasW (ofW la) n == v)) = false := by
  refine nbF ?_
  rw [ways_has, Bool.eq_iff_iff, hv, decide_eq_true_iff, h, List.take_of_length_le (by omega), decide_eq_true_iff]
  exact ⟨fun x => ⟨x.2.2, x.1, by omega⟩, fun x => ⟨x.2.1, by omega, x.1⟩⟩
end Go.Proofs.YtkpljmalbmcdfaaDoor
