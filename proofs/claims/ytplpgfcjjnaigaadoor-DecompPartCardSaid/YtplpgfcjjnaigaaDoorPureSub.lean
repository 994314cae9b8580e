/-
  Plain: the game on some positions. No program.
-/
import Derived.Test.YtplpgfcjjnaigaaDoorPureAttr
set_option linter.unusedVariables false
set_option linter.unusedSimpArgs false
namespace Go.Proofs.YtplpgfcjjnaigaaDoor
open Go Go.RowKit
/-- The place of a number in the list of a set. -/
def posI (I : List Bool) (m : Int) : Int := ((lsD I m.toNat).length : Int)
def subR (g : GameL) (I : List Bool) (i : Int) : List Int := ((gL g.mv i).filter (fun m => gB I m)).map (posI I)
def subAll (g : GameL) (I : List Bool) : Bool := (lsD I 256).all (fun i => !(subR g I i).isEmpty)
def subOk (g : GameL) (I : List Bool) : Bool := isR g && subAll g I
def subG (g : GameL) (I : List Bool) : GameL := if subOk g I = true then ⟨(lsD I 256).map (gI g.ow), (lsD I 256).map (gI g.pr), (lsD I 256).map (subR g I)⟩ else ⟨[], [], []⟩
def subO (g : GameL) (I : List Bool) : List Int := if subOk g I = true then lsD I 256 else []
def subB (g : GameL) (I : List Bool) : Bool := subOk g I && decide (((lsD I 256).length : Int) > 0)
theorem ls_pre (l : List Bool) (n : Nat) : ∀ d, (lsD l n).length ≤ (lsD l (n + d)).length ∧ ∀ k : Nat, k < (lsD l n).length → (lsD l (n + d))[k]? = (lsD l n)[k]?
  | 0 => ⟨Nat.le_refl _, fun k _ => rfl⟩
  | d + 1 => by
    obtain ⟨h1, h2⟩ := ls_pre l n d
    rw [← Nat.add_assoc, lsD]
    split
    · refine ⟨by rw [List.length_append]; omega, fun k hk => ?_⟩
      rw [List.getElem?_append_left (by omega)]
      exact h2 k hk
    · exact ⟨h1, h2⟩
/-- A number of a set stands at its place. -/
theorem pos_at {l : List Bool} {m : Int} (a : 0 ≤ m) (b : m < 256) (h : gB l m = true) : 0 ≤ posI l m ∧ posI l m < ((lsD l 256).length : Int) ∧ gI (lsD l 256) (posI l m) = m := by
  have e : lsD l (m.toNat + 1) = lsD l m.toNat ++ [m] := by
    rw [lsD, show ((m.toNat : Nat) : Int) = m by omega, if_pos h]
  obtain ⟨h1, h2⟩ := ls_pre l (m.toNat + 1) (255 - m.toNat)
  rw [show m.toNat + 1 + (255 - m.toNat) = 256 by omega, e, List.length_append] at h1
  rw [show m.toNat + 1 + (255 - m.toNat) = 256 by omega, e] at h2
  have h3 := h2 (lsD l m.toNat).length (by rw [List.length_append]; simp)
  simp only [List.length_singleton] at h1
  refine ⟨Int.natCast_nonneg _, by unfold posI; omega, ?_⟩
  simp only [posI, gI, Int.toNat_natCast, List.getD_eq_getElem?_getD, h3]
  simp
theorem ls_rng {l : List Bool} {k : Int} (a : 0 ≤ k) (b : k < ((lsD l 256).length : Int)) : 0 ≤ gI (lsD l 256) k ∧ gI (lsD l 256) k < 256 ∧ gB l (gI (lsD l 256) k) = true := by
  have := mem_ls.1 (ls_get a b)
  exact ⟨this.1, by omega, this.2.2⟩
/-- The places that have been told. -/
structure NowT (I : List Bool) (nw : List Int) (k : Int) : Prop where
  len : nw.length = 256
  at_ : ∀ j : Int, 0 ≤ j → j < k → gI nw (gI (lsD I 256) j) = j
theorem now_0 {I : List Bool} : NowT I (List.replicate 256 (0 : Int)) 0 := ⟨List.length_replicate, fun j a b => by omega⟩
theorem ls_ne {l : List Bool} {i j : Int} (a : 0 ≤ i) (b : i < j) (c : j < ((lsD l 256).length : Int)) : gI (lsD l 256) i < gI (lsD l 256) j := by
  have := List.pairwise_iff_getElem.1 (ls_lt l 256) i.toNat j.toNat (by omega) (by omega) (by omega)
  rw [gI_eq a (by omega), gI_eq (by omega) c]
  exact this
theorem now_next {I : List Bool} {nw : List Int} {k : Int} (h : NowT I nw k) (a : 0 ≤ k) (b : k < ((lsD I 256).length : Int)) : NowT I (nw.set (gI (lsD I 256) k).toNat k) (k + 1) := by
  have hr := ls_rng a b
  have hl := h.len
  refine ⟨by rw [List.length_set]; exact hl, fun j c d => ?_⟩
  have hj := ls_rng (l := I) (k := j) c (by omega)
  rw [gI_set' hr.1 (by omega) hj.1]
  by_cases e : j = k
  · subst e
    rw [if_pos rfl]
  · have := ls_ne (l := I) c (show j < k by omega) b
    rw [if_neg (by omega)]
    exact h.at_ j c (by omega)
theorem now_pos {I : List Bool} {nw : List Int} {k m : Int} (h : NowT I nw k) (hk : ((lsD I 256).length : Int) ≤ k) (a : 0 ≤ m) (b : m < 256) (hm : gB I m = true) : gI nw m = posI I m := by
  obtain ⟨h1, h2, h3⟩ := pos_at a b hm
  have := h.at_ (posI I m) h1 (by omega)
  rwa [h3] at this
/-- One move of a row. -/
theorem row_push {g : GameL} {I : List Bool} {i q v : Int} {xs : List Int} (h : xs = (((gL g.mv i).take q.toNat).filter (fun m => gB I m)).map (posI I)) (a : 0 ≤ q) (b : q < ((gL g.mv i).length : Int)) (hm : gB I (gI (gL g.mv i) q) = true) (hv : v = posI I (gI (gL g.mv i) q)) :
    xs ++ [v] = (((gL g.mv i).take (q + 1).toNat).filter (fun m => gB I m)).map (posI I) := by
  rw [show (q + 1).toNat = q.toNat + 1 by omega, List.take_succ_eq_append_getElem (show q.toNat < (gL g.mv i).length by omega), ← gI_eq a b, List.filter_append, List.map_append, ← h, hv]
  simp [hm]
theorem row_skip {g : GameL} {I : List Bool} {i q : Int} {xs : List Int} (h : xs = (((gL g.mv i).take q.toNat).filter (fun m => gB I m)).map (posI I)) (a : 0 ≤ q) (b : q < ((gL g.mv i).length : Int)) (hm : gB I (gI (gL g.mv i) q) = false) :
    xs = (((gL g.mv i).take (q + 1).toNat).filter (fun m => gB I m)).map (posI I) := by
  rw [show (q + 1).toNat = q.toNat + 1 by omega, List.take_succ_eq_append_getElem (show q.toNat < (gL g.mv i).length by omega), ← gI_eq a b, List.filter_append, List.map_append, ← h]
  simp [hm]
theorem row_0 {g : GameL} {I : List Bool} {i : Int} : ([] : List Int) = (((gL g.mv i).take (0 : Int).toNat).filter (fun m => gB I m)).map (posI I) := by simp
theorem row_end {g : GameL} {I : List Bool} {i q : Int} {xs : List Int} (h : xs = (((gL g.mv i).take q.toNat).filter (fun m => gB I m)).map (posI I)) (hq : ((gL g.mv i).length : Int) ≤ q) : xs = subR g I i := by
  rw [h, List.take_of_length_le (by omega)]
  rfl
theorem row_lenS {g : GameL} {I : List Bool} {i q : Int} {xs : List Int} (h : xs = (((gL g.mv i).take q.toNat).filter (fun m => gB I m)).map (posI I)) (a : 0 ≤ q) : (xs.length : Int) ≤ q := by
  have h1 := List.length_filter_le (fun m => gB I m) ((gL g.mv i).take q.toNat)
  have h2 := congrArg List.length h
  rw [List.length_map] at h2
  rw [List.length_take] at h1
  omega
/-- The positions gone through. -/
def GoneT (g : GameL) (I : List Bool) (k : Int) : Prop := ∀ j : Int, 0 ≤ j → j < k → subR g I (gI (lsD I 256) j) ≠ []
theorem gone_next {g : GameL} {I : List Bool} {k : Int} (h : GoneT g I k) (hk : subR g I (gI (lsD I 256) k) ≠ []) : GoneT g I (k + 1) := fun j a b => by
  by_cases e : j = k
  · subst e
    exact hk
  · exact h j a (by omega)
theorem gone_all {g : GameL} {I : List Bool} {k : Int} (h : GoneT g I k) (hk : ((lsD I 256).length : Int) ≤ k) : subAll g I = true := by
  unfold subAll
  rw [List.all_eq_true]
  intro x hx
  obtain ⟨j, hj, rfl⟩ := List.mem_iff_getElem.1 hx
  have := h (j : Int) (by omega) (by omega)
  rw [gI_eq (by omega) (by omega)] at this
  simp only [Int.toNat_natCast] at this
  simpa [List.isEmpty_iff] using this
theorem gone_bad {g : GameL} {I : List Bool} {k : Int} (a : 0 ≤ k) (b : k < ((lsD I 256).length : Int)) (hk : subR g I (gI (lsD I 256) k) = []) : subAll g I = false := by
  unfold subAll
  rw [List.all_eq_false]
  refine ⟨_, ls_get a b, ?_⟩
  rw [hk]
  simp
theorem map_push {α : Type} {f : Int → α} {la : List Int} {k : Int} {xs : List α} (h : xs = (la.take k.toNat).map f) (a : 0 ≤ k) (b : k < (la.length : Int)) : xs ++ [f (gI la k)] = (la.take (k + 1).toNat).map f := by
  rw [show (k + 1).toNat = k.toNat + 1 by omega, List.take_succ_eq_append_getElem (show k.toNat < la.length by omega), ← gI_eq a b, List.map_append, ← h]
  rfl
theorem map_all {α : Type} {f : Int → α} {la : List Int} {k : Int} {xs : List α} (h : xs = (la.take k.toNat).map f) (b : (la.length : Int) ≤ k) : xs = la.map f := by rw [h, List.take_of_length_le (by omega)]
theorem sub_yes {g : GameL} {I : List Bool} (hR : isR g = true) (h : subAll g I = true) : subG g I = ⟨(lsD I 256).map (gI g.ow), (lsD I 256).map (gI g.pr), (lsD I 256).map (subR g I)⟩ ∧ subO g I = lsD I 256 ∧ subB g I = decide (((lsD I 256).length : Int) > 0) := by
  have e : subOk g I = true := by rw [subOk, hR, h]; rfl
  refine ⟨by rw [subG, if_pos e], by rw [subO, if_pos e], by rw [subB, e, Bool.true_and]⟩
theorem sub_no {g : GameL} {I : List Bool} (h : isR g = false ∨ subAll g I = false) : subG g I = ⟨[], [], []⟩ ∧ subO g I = [] ∧ subB g I = false := by
  have e : subOk g I = false := by
    rcases h with h | h
    · rw [subOk, h]; rfl
    · rw [subOk, h, Bool.and_false]
  refine ⟨by rw [subG, if_neg (by rw [e]; decide)], by rw [subO, if_neg (by rw [e]; decide)], by rw [subB, e, Bool.false_and]⟩
theorem sub_lens (g : GameL) (I : List Bool) : (subG g I).ow.length ≤ 256 ∧ (subG g I).pr.length ≤ 256 ∧ (subG g I).mv.length ≤ 256 ∧ (subO g I).length ≤ 256 := by
  have h := ls_len I 256
  unfold subG subO
  split
  · simp only [List.length_map]
    omega
  · simp
theorem sub_inner (g : GameL) (s : List Int) : ∀ i, i < (subG g (inT g s)).mv.length → ((subG g (inT g s)).mv.getD i []).length * 8 ≤ 140737488351232 := by
  unfold subG
  split
  · rename_i h
    unfold subOk at h
    rw [Bool.and_eq_true] at h
    have hG := isR_ok h.1
    intro i hi
    simp only [List.length_map] at hi
    have hr := ls_rng (l := inT g s) (k := (i : Int)) (by omega) (by omega)
    have hlt := inT_lt _ hr.1 hr.2.1 hr.2.2
    have h2 := row_len hG hr.1 hlt
    have hn := hG.n1
    have h3 := List.length_filter_le (fun m => gB (inT g s) m) (gL g.mv (gI (lsD (inT g s) 256) (i : Int)))
    rw [gI_eq (by omega) (by omega)] at h2 h3
    simp only [Int.toNat_natCast] at h2 h3
    simp only [List.getD_eq_getElem?_getD, List.getElem?_map, List.getElem?_eq_getElem hi, Option.map_some, Option.getD_some, subR, List.length_map]
    omega
  · intro i hi
    simp at hi
/- Where a number stands in a list. -/
structure AmoT (l : List Int) (n : Int) (xs : List Int) (k : Int) : Prop where
  ok : OkW xs
  at_ : ∀ j : Int, 0 ≤ j → j < 256 → gB (fromW xs) j = (decide (j < k) && (decide (j < (l.length : Int)) && decide (gI l j = n)))
/-- The truths of where n stands in l. -/
def amoD (l : List Int) (n : Int) : List Bool := ofZ (fun j => decide (j < (l.length : Int)) && decide (gI l j = n))
end Go.Proofs.YtplpgfcjjnaigaaDoor
