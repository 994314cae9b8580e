/-
  Plain: what a part of a game is. No program.
-/
import Derived.Test.YtplpgfcjjnaigaaDoorPureSub
set_option linter.unusedVariables false
set_option linter.unusedSimpArgs false
namespace Go.Proofs.YtplpgfcjjnaigaaDoor
open Go Go.RowKit
theorem gI_mapP {l : List Int} {f : Int → Int} {i : Int} (h0 : 0 ≤ i) (h1 : i < (l.length : Int)) : gI (l.map f) i = f (gI l i) := by
  simp only [gI, List.getD_eq_getElem?_getD, List.getElem?_map, List.getElem?_eq_getElem (show i.toNat < l.length by omega), Option.map_some, Option.getD_some]
section
variable {g : GameL} {s : List Int}
theorem subR_ne {I : List Bool} {i : Int} : subR g I i ≠ [] ↔ ∃ x ∈ gL g.mv i, gB I x = true := by
  unfold subR
  rw [Ne, List.map_eq_nil_iff, List.filter_eq_nil_iff]
  constructor
  · intro h
    by_cases hx : ∃ x ∈ gL g.mv i, gB I x = true
    · exact hx
    · exact absurd (fun x hm => by have : ¬ gB I x = true := fun e => hx ⟨x, hm, e⟩; exact this) h
  · rintro ⟨x, hx, hb⟩ h
    exact h x hx hb
theorem pos_lt {l : List Bool} {m m' : Int} (a : 0 ≤ m) (b : m < m') (hm : gB l m = true) : posI l m < posI l m' := by
  unfold posI
  have e : lsD l (m.toNat + 1) = lsD l m.toNat ++ [m] := by rw [lsD, show ((m.toNat : Nat) : Int) = m by omega, if_pos hm]
  obtain ⟨h1, _⟩ := ls_pre l (m.toNat + 1) (m'.toNat - (m.toNat + 1))
  rw [show m.toNat + 1 + (m'.toNat - (m.toNat + 1)) = m'.toNat by omega, e, List.length_append] at h1
  simp only [List.length_singleton] at h1
  omega
theorem ls_n (hs : True) : lsD (inT g s) 256 = lsD (inT g s) (min 256 g.ow.length) := by
  by_cases hn : 256 ≤ g.ow.length
  · rw [Nat.min_eq_left hn]
  · have := ls_to (l := inT g s) (a := ((g.ow.length : Nat) : Int)) (b := 256) (by omega) (by omega) (fun r a b => by
      rw [gB_inT (by omega) b, decide_eq_false (by omega), Bool.and_false])
    rw [Nat.min_eq_right (by omega)]
    exact this
theorem ls_le : (lsD (inT g s) 256).length ≤ g.ow.length := by
  rw [ls_n trivial]
  have := ls_len (inT g s) (min 256 g.ow.length)
  omega
theorem pairwise_gI {l : List Int} (h : l.Pairwise (· < ·)) {k : Int} (a : 0 < k) (b : k < (l.length : Int)) : gI l (k - 1) < gI l k := by
  rw [gI_eq (by omega) (by omega), gI_eq (by omega) b]
  exact List.pairwise_iff_getElem.1 h (k - 1).toNat k.toNat (by omega) (by omega) (by omega)
theorem sub_b (h : subB g (inT g s) = true) : isR g = true ∧ subAll g (inT g s) = true ∧ 0 < (lsD (inT g s) 256).length := by
  unfold subB subOk at h
  rw [Bool.and_eq_true, Bool.and_eq_true] at h
  have := of_decide_eq_true h.2
  exact ⟨h.1.1, h.1.2, by omega⟩
theorem subR_sorted (hR : isR g = true) {I : List Bool} {i : Int} (a : 0 ≤ i) (b : i < (g.ow.length : Int)) : (subR g I i).Pairwise (· < ·) := by
  unfold subR
  rw [List.pairwise_map]
  have h1 := (mv_sorted (isR_ok hR) a b).filter (fun m => gB I m)
  refine h1.imp_of_mem fun {x y} hx hy hxy => ?_
  have hx2 := List.mem_filter.1 hx
  exact pos_lt (row_rng hR a b hx2.1).1 hxy hx2.2
theorem sub_right (h : subB g (inT g s) = true) : RightG (subG g (inT g s)) := by
  obtain ⟨hR, hall, hlen⟩ := sub_b h
  have hG := isR_ok hR
  have hn := hG.n1
  obtain ⟨e1, _, _⟩ := sub_yes hR hall
  have hle := ls_le (g := g) (s := s)
  rw [e1]
  have key : ∀ i : Int, 0 ≤ i → i < ((lsD (inT g s) 256).length : Int) → 0 ≤ gI (lsD (inT g s) 256) i ∧ gI (lsD (inT g s) 256) i < (g.ow.length : Int) := fun i a b => by
    have := ls_rng a b
    exact ⟨this.1, inT_lt _ this.1 this.2.1 this.2.2⟩
  have lmap : ∀ {β : Type} (f : Int → β), (((lsD (inT g s) 256).map f).length : Int) = ((lsD (inT g s) 256).length : Int) := fun f => by rw [List.length_map]
  have hgl : ∀ i : Int, 0 ≤ i → i < ((lsD (inT g s) 256).length : Int) → gL ((lsD (inT g s) 256).map (subR g (inT g s))) i = subR g (inT g s) (gI (lsD (inT g s) 256) i) := fun i a b => by
    simp only [gL, gI, List.getD_eq_getElem?_getD, List.getElem?_map, List.getElem?_eq_getElem (show i.toNat < (lsD (inT g s) 256).length by omega), Option.map_some, Option.getD_some]
  have hmem : ∀ i : Int, 0 ≤ i → i < ((lsD (inT g s) 256).length : Int) → ∀ z ∈ subR g (inT g s) (gI (lsD (inT g s) 256) i), 0 ≤ z ∧ z < ((lsD (inT g s) 256).length : Int) := fun i a b z hz => by
    unfold subR at hz
    obtain ⟨m, hm, rfl⟩ := List.mem_map.1 hz
    have hm2 := List.mem_filter.1 hm
    have hk := key i a b
    have hr := row_rng hR hk.1 hk.2 hm2.1
    have := pos_at (l := inT g s) hr.1 (by omega) hm2.2
    exact ⟨this.1, this.2.1⟩
  refine ⟨?_, ?_, ?_, ?_, ?_, ?_, ?_, ?_, ?_⟩ <;> simp only [List.length_map]
  · omega
  · omega
  · intro i a b
    rw [gI_mapP a b]
    exact hG.ow _ (key i a b).1 (key i a b).2
  · intro i a b
    rw [gI_mapP a b]
    exact hG.pr _ (key i a b).1 (key i a b).2
  · intro i a b
    rw [hgl i a b]
    have h1 := List.all_eq_true.1 hall _ (ls_get a b)
    cases he : subR g (inT g s) (gI (lsD (inT g s) 256) i) with
    | nil => rw [he] at h1; cases h1
    | cons _ _ => simp
  · intro i a b k c d
    rw [hgl i a b] at d ⊢
    exact hmem i a b _ (mem_of_gI c d)
  · intro i a b k c d
    rw [hgl i a b] at d ⊢
    exact pairwise_gI (subR_sorted hR (key i a b).1 (key i a b).2) c d
structure PartT (g : GameL) (s : List Int) : Prop where
  r : RightG (subG g (inT g s))
  lo : (subG g (inT g s)).ow.length = (subO g (inT g s)).length
  lp : (subG g (inT g s)).pr.length = (subO g (inT g s)).length
  lm : (subG g (inT g s)).mv.length = (subO g (inT g s)).length
  eo : subO g (inT g s) = lsD (inT g s) 256
  mv : ∀ i : Int, 0 ≤ i → i < ((subO g (inT g s)).length : Int) → gL (subG g (inT g s)).mv i = subR g (inT g s) (gI (subO g (inT g s)) i)
  e : ∀ i : Int, 0 ≤ i → i < ((subO g (inT g s)).length : Int) → 0 ≤ gI (subO g (inT g s)) i ∧ gI (subO g (inT g s)) i < (g.ow.length : Int) ∧ gI (subG g (inT g s)).ow i = gI g.ow (gI (subO g (inT g s)) i) ∧ gI (subG g (inT g s)).pr i = gI g.pr (gI (subO g (inT g s)) i)
theorem part_t (h : subB g (inT g s) = true) : PartT g s := by
  obtain ⟨hR, hall, hlen⟩ := sub_b h
  obtain ⟨e1, e2, e3⟩ := sub_yes hR hall
  refine ⟨sub_right h, ?_, ?_, ?_, e2, fun i a b => ?_, fun i a b => ?_⟩
  · rw [e1, e2]; exact List.length_map _
  · rw [e1, e2]; exact List.length_map _
  · rw [e1, e2]; exact List.length_map _
  · rw [e2] at b ⊢
    rw [e1]
    simp only [gL, gI, List.getD_eq_getElem?_getD, List.getElem?_map, List.getElem?_eq_getElem (show i.toNat < (lsD (inT g s) 256).length by omega), Option.map_some, Option.getD_some]
  · rw [e2] at b ⊢
    have hx := ls_rng (l := inT g s) (k := i) a b
    refine ⟨hx.1, inT_lt _ hx.1 hx.2.1 hx.2.2, ?_, ?_⟩
    · rw [e1]; exact gI_mapP a b
    · rw [e1]; exact gI_mapP a b
end
end Go.Proofs.YtplpgfcjjnaigaaDoor
