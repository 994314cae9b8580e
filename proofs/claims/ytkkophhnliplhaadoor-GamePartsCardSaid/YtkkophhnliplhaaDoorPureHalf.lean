/-
  Plain: the part of a dual is the dual of the part (law GameHalves). No program.
-/
import Derived.Test.YtkkophhnliplhaaDoorPureDuals
set_option linter.unusedVariables false
set_option linter.unusedSimpArgs false
namespace Go.Proofs.YtkkophhnliplhaaDoor
open Go Go.RowKit
theorem sub_nil {I : List Bool} {d : GameL} (h : d = ⟨[], [], []⟩) : subB d I = false := (sub_no (.inl (by rw [h]; rfl))).2.2
theorem dual_nil {g : GameL} (h : (dualG g).ow.length = 0) : dualG g = ⟨[], [], []⟩ := by
  by_cases h2 : isR g = true ∧ ¬ (7 ∈ g.pr ∧ 0 ∈ g.pr)
  · have := (dual_t h2.1 h2.2).lo
    have := (isR_ok h2.1).n0
    omega
  · unfold dualG
    rw [if_neg h2]
/-- What the two parts have in common. -/
structure HalfT (g : GameL) (s : List Int) : Prop where
  b : subB (dualG g) (inT (dualG g) s) = subB g (inT g s)
  o : subO (dualG g) (inT (dualG g) s) = subO g (inT g s)
  la : (subG g (inT g s)).pr.length = (subG g (inT g s)).ow.length ∧ (subG g (inT g s)).mv.length = (subG g (inT g s)).ow.length ∧ (subO g (inT g s)).length = (subG g (inT g s)).ow.length
  lb : (subG (dualG g) (inT (dualG g) s)).ow.length = (subG g (inT g s)).ow.length ∧ (subG (dualG g) (inT (dualG g) s)).pr.length = (subG g (inT g s)).ow.length ∧ (subG (dualG g) (inT (dualG g) s)).mv.length = (subG g (inT g s)).ow.length
  ok : decide (((subG g (inT g s)).ow.length : Int) > 0) = subB g (inT g s)
  mv : (subG (dualG g) (inT (dualG g) s)).mv = (subG g (inT g s)).mv
  e : ∀ i : Int, 0 ≤ i → i < ((subG g (inT g s)).ow.length : Int) → gI (subG (dualG g) (inT (dualG g) s)).pr i = gI (subG g (inT g s)).pr i + dualBy g ∧ 0 ≤ gI (subG g (inT g s)).pr i ∧ gI (subG g (inT g s)).pr i ≤ 7 ∧
    gI (subG (dualG g) (inT (dualG g) s)).ow i = 1 - gI (subG g (inT g s)).ow i ∧ (gI (subG g (inT g s)).ow i = 0 ∨ gI (subG g (inT g s)).ow i = 1)
theorem half_t {g : GameL} {s : List Int} (h : isR g = true) (h2 : ¬ (7 ∈ g.pr ∧ 0 ∈ g.pr)) : HalfT g s := by
  have hd := dual_t h h2
  have hRd := isR_of hd.r
  have hG := isR_ok h
  have hI : inT (dualG g) s = inT g s := by unfold inT inS; rw [hd.lo]
  rw [show HalfT g s ↔ HalfT g s from Iff.rfl]
  have hr : ∀ i, subR (dualG g) (inT g s) i = subR g (inT g s) i := fun i => by unfold subR; rw [hd.mv]
  have hall : subAll (dualG g) (inT g s) = subAll g (inT g s) := by
    unfold subAll
    congr 1
    funext i
    rw [hr]
  cases hA : subAll g (inT g s) with
  | false =>
    obtain ⟨e1, e2, e3⟩ := sub_no (g := g) (I := inT g s) (.inr hA)
    obtain ⟨d1, d2, d3⟩ := sub_no (g := dualG g) (I := inT g s) (.inr (hall.trans hA))
    refine ⟨?_, ?_, ?_, ?_, ?_, ?_, ?_⟩ <;> simp only [hI, e1, e2, e3, d1, d2, d3]
    all_goals first | trivial | exact ⟨trivial, trivial, trivial⟩ | exact ⟨rfl, rfl, rfl⟩ | rfl | skip
    · intro i a b
      simp at b
      omega
  | true =>
    obtain ⟨e1, e2, e3⟩ := sub_yes (g := g) (I := inT g s) h hA
    obtain ⟨d1, d2, d3⟩ := sub_yes (g := dualG g) (I := inT g s) hRd (hall.trans hA)
    refine ⟨?_, ?_, ?_, ?_, ?_, ?_, ?_⟩ <;> simp only [hI, e1, e2, e3, d1, d2, d3, List.length_map]
    all_goals first | trivial | exact ⟨trivial, trivial, trivial⟩ | exact ⟨rfl, rfl, rfl⟩ | rfl | skip
    · congr 1
      funext i
      exact hr i
    · intro i a b
      have hx := ls_rng (l := inT g s) (k := i) a b
      have hlt := inT_lt _ hx.1 hx.2.1 hx.2.2
      rw [gI_map a b, gI_map a b, gI_map a b, gI_map a b, hd.pr _ hx.1 hlt, hd.ow _ hx.1 hlt]
      exact ⟨rfl, (hG.pr _ hx.1 hlt).1, (hG.pr _ hx.1 hlt).2, rfl, hG.ow _ hx.1 hlt⟩
end Go.Proofs.YtkkophhnliplhaaDoor
