/-
  Plain: what the walk of Attract asks beside. No program.
-/
import Derived.Test.YtkpljmalbmcdfaaDoorPureFrA
set_option linter.unusedVariables false
set_option linter.unusedSimpArgs false
namespace Go.Proofs.YtkpljmalbmcdfaaDoor
open Go Go.RowKit
theorem ms_next {ms : List Int} {i : Int} (h : ∀ j : Int, 0 ≤ j → j < i → gI ms j = -1) (h0 : 0 ≤ i) (h1 : i < (ms.length : Int)) : ∀ j : Int, 0 ≤ j → j < i + 1 → gI (ms.set i.toNat (-1)) j = -1 := fun j a b => by
  rw [gI_setE h0 (by omega) a]
  split
  · rfl
  · exact h j a (by omega)
theorem cM_le (l : List Int) (f : Int → Bool) : cM l f ≤ (l.length : Int) := by
  have := List.length_filter_le f l
  unfold cM
  omega
theorem fra_lb {g : GameL} {I : List Bool} {fr : List (List Int)} {lf : List Int} {i q : Int} (h : FrA g I fr lf i q) (h0 : 0 ≤ i) (h1 : i < (g.ow.length : Int)) (hq : 0 ≤ q) : 0 ≤ gI lf i ∧ gI lf i ≤ q := by
  have e := h.lf i h0 h1
  rw [if_neg (by omega), if_pos rfl] at e
  have h2 := cM_le ((gL g.mv i).take q.toNat) (gB I)
  have h3 := cM_ge ((gL g.mv i).take q.toNat) (gB I)
  rw [List.length_take] at h2
  omega
theorem aw_lb {g : GameL} (hG : RightG g) {I T S : List Bool} {p i : Int} {op lf mvs pr cur rest : List Int} (h : AW g I p T S op lf mvs pr cur rest) (h0 : 0 ≤ i) (h1 : i < (g.ow.length : Int)) (hi : gB I i = true) : 0 ≤ gI lf i ∧ gI lf i ≤ 200 := by
  have e := h.left i h0 h1 hi
  rw [e]
  have h2 := cM_le (gL g.mv i) (fun x => gB I x && !decide (x ∈ (if i ∈ rest then pr else pr ++ cur)))
  have h3 := row_len hG h0 h1
  have h4 := hG.n1
  exact ⟨cM_ge _ _, by omega⟩
theorem aw_len {g : GameL} {I T S : List Bool} {p : Int} {op lf mvs pr cur rest : List Int} (h : AW g I p T S op lf mvs pr cur rest) : op.length ≤ g.ow.length := by
  have h1 : op.Nodup := (List.nodup_append.1 h.nd).2.1
  have hr : ∀ j ∈ op, 0 ≤ j ∧ j < (g.ow.length : Int) := fun j hj => by
    have := h.rng j (List.mem_append.2 (.inr hj))
    exact ⟨this.1, this.2.1⟩
  have h2 : (op.map Int.toNat).Nodup := by
    refine List.pairwise_map.2 (List.Pairwise.imp_of_mem (fun {a b} ha hb hab e => hab ?_) h1)
    have := hr a ha
    have := hr b hb
    omega
  have h3 : (op.map Int.toNat) ⊆ List.range g.ow.length := fun x hx => by
    obtain ⟨y, hy, rfl⟩ := List.mem_map.1 hx
    have := hr y hy
    simp
    omega
  have := List.Nodup.length_le_of_subset h2 h3
  simpa using this
theorem op_cons {op : List Int} (h : 0 < op.length) : op = gI op 0 :: op.drop 1 := by
  cases op with
  | nil => simp at h
  | cons x r => rfl
theorem nd_drop {l : List Int} (h : l.Nodup) {k : Int} (h0 : 0 ≤ k) (h1 : k < (l.length : Int)) : gI l k ∉ l.drop (k + 1).toNat := by
  have h2 : (l.drop k.toNat).Nodup := h.sublist (List.drop_sublist _ _)
  rw [drop_at (r := []) h0 h1, List.nodup_cons] at h2
  exact h2.1
theorem has_W {s : List Int} {i : Int} (a : 0 ≤ i) (b : i < 256) : hasW s i = gB (fromW s) i := by rw [hasW_from, hasD, decide_eq_true ⟨a, b⟩, Bool.true_and]
theorem right_of2 {g : GameL} (h : (rightP g).2 = 0) : isR g = true := by unfold isR; simp [h]
theorem right_no3 {g : GameL} {p : Int} (h : (rightP g).2 ≠ 0 ∨ (p ≠ 0 ∧ p ≠ 1)) : ¬ (isR g = true ∧ (p = 0 ∨ p = 1)) := fun h2 => by
  have h3 := h2.1
  unfold isR at h3
  simp at h3
  omega
theorem nb00 {x y : List Int} (h : x = y) : (!(decide (x = y))) = false := by rw [decide_eq_true h]; rfl
theorem of_nb {x y : List Int} (h : (!(decide (x = y))) = true) : ¬ x = y := by simpa using h
end Go.Proofs.YtkpljmalbmcdfaaDoor
