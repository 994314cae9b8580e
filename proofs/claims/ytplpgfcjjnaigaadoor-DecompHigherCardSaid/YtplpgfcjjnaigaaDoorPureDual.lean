/-
  Plain: the dual of a game. No program.
-/
import Derived.Test.YtplpgfcjjnaigaaDoorPureRight
set_option linter.unusedVariables false
set_option linter.unusedSimpArgs false
namespace Go.Proofs.YtplpgfcjjnaigaaDoor
open Go Go.RowKit
def dualBy (g : GameL) : Int := if 7 ∈ g.pr then -1 else 1
def dualG (g : GameL) : GameL := if isR g = true ∧ ¬ (7 ∈ g.pr ∧ 0 ∈ g.pr) then ⟨g.ow.map (fun z => 1 - z), g.pr.map (fun z => z + dualBy g), g.mv⟩ else ⟨[], [], []⟩
theorem dual_no {g : GameL} (h : isR g = false ∨ (7 ∈ g.pr ∧ 0 ∈ g.pr)) : dualG g = ⟨[], [], []⟩ := by
  unfold dualG
  rw [if_neg]
  rintro ⟨h1, h2⟩
  rcases h with h | h
  · rw [h1] at h
    cases h
  · exact h2 h
theorem dual_yes {g : GameL} (h : isR g = true) (h2 : ¬ (7 ∈ g.pr ∧ 0 ∈ g.pr)) : dualG g = ⟨g.ow.map (fun z => 1 - z), g.pr.map (fun z => z + dualBy g), g.mv⟩ := by
  unfold dualG
  rw [if_pos ⟨h, h2⟩]
theorem by_hi {g : GameL} (h : decide (7 ∈ g.pr) = true) : dualBy g = -1 := by
  unfold dualBy
  rw [if_pos (of_decide_eq_true h)]
theorem by_lo {g : GameL} (h : decide (7 ∈ g.pr) = false) : dualBy g = 1 := by
  unfold dualBy
  rw [if_neg (of_decide_eq_false h)]
/-- The first k elements have been turned. -/
def MapT (l xs : List Int) (f : Int → Int) (k : Int) : Prop := xs.length = l.length ∧ ∀ j : Int, 0 ≤ j → j < (l.length : Int) → gI xs j = if j < k then f (gI l j) else gI l j
theorem gI_setD {l : List Int} {i j v : Int} (h0 : 0 ≤ i) (h1 : i < (l.length : Int)) (h2 : 0 ≤ j) : gI (l.set i.toNat v) j = if i = j then v else gI l j := by
  simp only [gI, List.getD_eq_getElem?_getD, List.getElem?_set]
  by_cases h : i = j
  · subst h
    rw [if_pos rfl, if_pos rfl, if_pos (by omega)]
    rfl
  · rw [if_neg h, if_neg (by omega)]
theorem map_0 {l : List Int} {f : Int → Int} : MapT l l f 0 := ⟨rfl, fun j a b => by rw [if_neg (by omega)]⟩
theorem map_at {l xs : List Int} {f : Int → Int} {k : Int} (h : MapT l xs f k) (h0 : 0 ≤ k) (h1 : k < (l.length : Int)) : gI xs k = gI l k := by rw [h.2 k h0 h1, if_neg (by omega)]
theorem map_next {l xs : List Int} {f : Int → Int} {k v : Int} (h : MapT l xs f k) (h0 : 0 ≤ k) (h1 : k < (l.length : Int)) (hv : v = f (gI l k)) : MapT l (xs.set k.toNat v) f (k + 1) := by
  have hl := h.1
  refine ⟨by rw [List.length_set]; exact hl, fun j a b => ?_⟩
  rw [gI_setD h0 (by omega) a]
  by_cases e : k = j
  · subst e
    rw [if_pos rfl, if_pos (by omega), hv]
  · rw [if_neg e, h.2 j a b]
    by_cases e2 : j < k
    · rw [if_pos e2, if_pos (show j < k + 1 by omega)]
    · rw [if_neg e2, if_neg (show ¬ j < k + 1 by omega)]
theorem map_end {l xs : List Int} {f : Int → Int} {k : Int} (h : MapT l xs f k) (hk : (l.length : Int) ≤ k) : xs = l.map f := by
  refine List.ext_getElem (by rw [List.length_map]; exact h.1) fun i h1 h2 => ?_
  rw [List.length_map] at h2
  have := h.2 (i : Int) (by omega) (by omega)
  rw [if_pos (by omega)] at this
  simp only [gI, Int.toNat_natCast, List.getD_eq_getElem?_getD, List.getElem?_eq_getElem h1, List.getElem?_eq_getElem h2, Option.getD_some] at this
  rw [this, List.getElem_map]
theorem xor1 {z : Int} (h : z = 0 ∨ z = 1) : IntKind.i64.wrap (((BitVec.ofInt 64 z ^^^ BitVec.ofInt 64 1).toNat : Nat) : Int) = 1 - z := by
  rcases h with rfl | rfl <;> rfl
theorem gI_map {l : List Int} {f : Int → Int} {i : Int} (h0 : 0 ≤ i) (h1 : i < (l.length : Int)) : gI (l.map f) i = f (gI l i) := by
  simp only [gI, List.getD_eq_getElem?_getD, List.getElem?_map, List.getElem?_eq_getElem (show i.toNat < l.length by omega), Option.map_some, Option.getD_some]
theorem dual_inner {g : GameL} (h : ∀ i, i < g.mv.length → (g.mv.getD i []).length * 8 ≤ 140737488351232) : ∀ i, i < (dualG g).mv.length → ((dualG g).mv.getD i []).length * 8 ≤ 140737488351232 := by
  unfold dualG
  split
  · exact h
  · intro i hi
    simp at hi
theorem dual_some {g : GameL} (h : (dualG g).ow.length ≠ 0) : isR g = true ∧ ¬ (7 ∈ g.pr ∧ 0 ∈ g.pr) := by
  unfold dualG at h
  split at h
  · assumption
  · simp at h
theorem not_mem_gI {l : List Int} {v : Int} (h : v ∉ l) {k : Int} (h0 : 0 ≤ k) (h1 : k < (l.length : Int)) : gI l k ≠ v := fun e => h (by rw [← e]; exact mem_of_gI h0 h1)
theorem dual_right {g : GameL} (hR : isR g = true) (h2 : ¬ (7 ∈ g.pr ∧ 0 ∈ g.pr)) : RightG (dualG g) := by
  have hG := isR_ok hR
  have hpl := hG.pl
  rw [dual_yes hR h2]
  have hol : (g.ow.map (fun z => 1 - z)).length = g.ow.length := List.length_map _
  refine ⟨?_, ?_, ?_, ?_, ?_, ?_, ?_, ?_, ?_⟩
  · show (g.pr.map _).length = (g.ow.map _).length
    rw [List.length_map, List.length_map]
    exact hG.pl
  · show g.mv.length = (g.ow.map _).length
    rw [List.length_map]
    exact hG.ml
  · show 0 < (g.ow.map _).length
    rw [List.length_map]
    exact hG.n0
  · show (g.ow.map _).length ≤ 200
    rw [List.length_map]
    exact hG.n1
  · intro i a b
    have b : i < ((g.ow.map (fun z => 1 - z)).length : Int) := b
    rw [hol] at b
    show gI (g.ow.map _) i = 0 ∨ gI (g.ow.map _) i = 1
    have := hG.ow i a b
    rw [gI_map a b]
    omega
  · intro i a b
    have b : i < ((g.ow.map (fun z => 1 - z)).length : Int) := b
    rw [hol] at b
    show 0 ≤ gI (g.pr.map _) i ∧ gI (g.pr.map _) i ≤ 7
    have := hG.pr i a b
    rw [gI_map a (by omega)]
    unfold dualBy
    by_cases h7 : 7 ∈ g.pr
    · have h0 : 0 ∉ g.pr := fun h => h2 ⟨h7, h⟩
      have := not_mem_gI h0 a (show i < (g.pr.length : Int) by omega)
      rw [if_pos h7]
      omega
    · have := not_mem_gI h7 a (show i < (g.pr.length : Int) by omega)
      rw [if_neg h7]
      omega
  · intro i a b
    exact hG.ne i a (by rw [← hol]; exact b)
  · intro i a b k c d
    show 0 ≤ gI (gL g.mv i) k ∧ gI (gL g.mv i) k < ((g.ow.map (fun z => 1 - z)).length : Int)
    rw [hol]
    exact hG.mv i a (by rw [← hol]; exact b) k c d
  · intro i a b
    exact hG.up i a (by rw [← hol]; exact b)
theorem dual_lens (g : GameL) : (dualG g).ow.length ≤ 200 ∧ (dualG g).pr.length ≤ 200 ∧ (dualG g).mv.length ≤ 200 := by
  unfold dualG
  split
  · rename_i h
    have hG := isR_ok h.1
    have := hG.n1
    have := hG.pl
    have := hG.ml
    simp only [List.length_map]
    omega
  · simp
end Go.Proofs.YtplpgfcjjnaigaaDoor
