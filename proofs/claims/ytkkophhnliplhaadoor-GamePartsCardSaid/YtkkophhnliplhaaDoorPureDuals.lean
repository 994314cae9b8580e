/-
  Plain: what a dual is (laws GameDuals, GameHalves). No program.
-/
import Derived.Test.YtkkophhnliplhaaDoorPureGameB
set_option linter.unusedVariables false
set_option linter.unusedSimpArgs false
namespace Go.Proofs.YtkkophhnliplhaaDoor
open Go Go.RowKit
theorem dual_zero {g : GameL} (h : isR g = false ∨ (isR g = true ∧ (¬ wordsD (amoD g.pr 0) = [0, 0, 0, 0]) ∧ ¬ wordsD (amoD g.pr 7) = [0, 0, 0, 0])) : ((dualG g).ow.length : Int) + ((dualG g).pr.length : Int) + ((dualG g).mv.length : Int) = 0 := by
  have e : dualG g = ⟨[], [], []⟩ := by
    refine dual_no ?_
    rcases h with h | ⟨h, h0, h7⟩
    · exact .inl h
    · have hG := isR_ok h
      have hl : g.pr.length ≤ 256 := by have := hG.pl; have := hG.n1; omega
      rw [amo_none hl] at h0 h7
      exact .inr ⟨Decidable.not_not.1 h7, Decidable.not_not.1 h0⟩
  rw [e]
  rfl
theorem dual_can {g : GameL} (h : isR g = true) (h2 : wordsD (amoD g.pr 0) = [0, 0, 0, 0] ∨ wordsD (amoD g.pr 7) = [0, 0, 0, 0]) : ¬ (7 ∈ g.pr ∧ 0 ∈ g.pr) := by
  have hG := isR_ok h
  have hl : g.pr.length ≤ 256 := by have := hG.pl; have := hG.n1; omega
  rw [amo_none hl, amo_none hl] at h2
  rintro ⟨h7, h0⟩
  exact h2.elim (fun k => k h0) (fun k => k h7)
/-- What is known of a dual that is there. -/
structure DualT (g : GameL) : Prop where
  r : RightG (dualG g)
  lo : (dualG g).ow.length = g.ow.length
  lp : (dualG g).pr.length = g.ow.length
  lm : (dualG g).mv.length = g.ow.length
  mv : (dualG g).mv = g.mv
  ow : ∀ i : Int, 0 ≤ i → i < (g.ow.length : Int) → gI (dualG g).ow i = 1 - gI g.ow i
  pr : ∀ i : Int, 0 ≤ i → i < (g.ow.length : Int) → gI (dualG g).pr i = gI g.pr i + dualBy g
  by_ : dualBy g = 1 ∨ dualBy g = -1
theorem dual_t {g : GameL} (h : isR g = true) (h2 : ¬ (7 ∈ g.pr ∧ 0 ∈ g.pr)) : DualT g := by
  have hG := isR_ok h
  have e := dual_yes h h2
  refine ⟨dual_right h h2, ?_, ?_, ?_, ?_, fun i a b => ?_, fun i a b => ?_, ?_⟩
  · rw [e]; exact List.length_map _
  · rw [e]; exact (List.length_map _).trans hG.pl
  · rw [e]; exact hG.ml
  · rw [e]
  · rw [e]; exact gI_map a b
  · rw [e]; exact gI_map a (by have := hG.pl; omega)
  · unfold dualBy; split
    · exact .inr rfl
    · exact .inl rfl
/-- The dual of the dual: what is asked of it. -/
theorem dual_dual {g : GameL} (h : isR g = true) (h2 : ¬ (7 ∈ g.pr ∧ 0 ∈ g.pr)) : ((dualG (dualG g)).ow.length = 0 ∨ (dualG (dualG g)).ow.length = g.ow.length) ∧ (dualG (dualG g)).pr.length = (dualG (dualG g)).ow.length ∧
    ∀ i : Int, 0 ≤ i → i < ((dualG (dualG g)).ow.length : Int) → gI (dualG (dualG g)).ow i = gI g.ow i ∧ (gI (dualG (dualG g)).pr i + gI g.pr i) % 2 = 0 ∧ 0 ≤ gI (dualG (dualG g)).pr i ∧ gI (dualG (dualG g)).pr i ≤ 7 := by
  have hd := dual_t h h2
  have hRd := isR_of hd.r
  by_cases h3 : 7 ∈ (dualG g).pr ∧ 0 ∈ (dualG g).pr
  · rw [dual_no (.inr h3)]
    exact ⟨.inl rfl, rfl, fun i a b => by simp at b; omega⟩
  · have hdd := dual_t hRd h3
    have l1 := hd.lo
    have l2 := hdd.lo
    refine ⟨.inr (by omega), by rw [hdd.lp, hdd.lo], fun i a b => ?_⟩
    have hb : i < ((dualG g).ow.length : Int) := by omega
    have hc : i < (g.ow.length : Int) := by omega
    have e1 := hdd.ow i a hb
    have e2 := hd.ow i a hc
    have e3 := hdd.pr i a hb
    have e4 := hd.pr i a hc
    have b1 := hdd.by_
    have b2 := hd.by_
    have b3 := hdd.r.pr i a b
    refine ⟨by omega, ?_, b3.1, b3.2⟩
    omega
end Go.Proofs.YtkkophhnliplhaaDoor
