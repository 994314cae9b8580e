/-
  Plain: with the players exchanged the regions change places (law DecompDual). No program.
-/
import Derived.Test.YtplpgfcjjnaigaaDoorPureLaw13
import Derived.Test.YtplpgfcjjnaigaaDoorPureDual
set_option linter.unusedVariables false
set_option linter.unusedSimpArgs false
namespace Go.Proofs.YtplpgfcjjnaigaaDoor
open Go Go.RowKit
/-- In the dual each player has the other one's region. -/
theorem win_dual {g : GameL} (h : isR g = true) (h2 : ¬ (7 ∈ g.pr ∧ 0 ∈ g.pr)) {p : Int} (hp : p = 0 ∨ p = 1) {f : Int → Int} {W : Int → Prop} (hw : WinT (dualG g) (fun i => 0 ≤ i ∧ i < (g.ow.length : Int)) p f W) : WinT g (fun i => 0 ≤ i ∧ i < (g.ow.length : Int)) (1 - p) f W := by
  have hG := isR_ok h
  have hpl := hG.pl
  have e := dual_yes h h2
  have eo : ∀ i, 0 ≤ i → i < (g.ow.length : Int) → gI (dualG g).ow i = 1 - gI g.ow i := fun i a b => by rw [e]; exact gI_map a b
  have ep : ∀ i, 0 ≤ i → i < (g.ow.length : Int) → gI (dualG g).pr i = gI g.pr i + dualBy g := fun i a b => by rw [e]; exact gI_map a (by omega)
  have em : (dualG g).mv = g.mv := by rw [e]
  have eb : dualBy g = 1 ∨ dualBy g = -1 := by unfold dualBy; split <;> omega
  refine win_tr (fun i => i) hw hw.sub (fun i hi => hi) (fun i hi => ?_) (fun i hi m hm hI => ⟨by rw [em]; exact hm, hI⟩) (fun i hi e2 => ?_) (fun i hi m hm hI hWm => hWm) (fun i hi e2 => ?_) (fun i j hi hj hl => ?_)
  · have hr := hw.sub i hi
    rw [eo i hr.1 hr.2]
    have := hG.ow i hr.1 hr.2
    omega
  · have hr := hw.sub i hi
    have h3 := hw.own i hi (by rw [eo i hr.1 hr.2]; have := hG.ow i hr.1 hr.2; omega)
    rw [em] at h3
    exact ⟨h3.1, hw.sub _ h3.2, rfl⟩
  · have hr := hw.sub i hi
    rw [ep i hr.1 hr.2]
    omega
  · have hr := hw.sub i hi
    have hr2 := hw.sub j hj
    rw [ep i hr.1 hr.2, ep j hr2.1 hr2.2]
    omega
theorem dual13 {g : GameL} (h : (dualG g).ow.length ≠ 0) {l0 l1 m0 m1 k0 k1 n0 n1 : List Int} {d d2 : Int} (ha : SolveT g l0 l1 m0 m1 d) (hb : SolveT (dualG g) k0 k1 n0 n1 d2) : l0 = k1 ∧ l1 = k0 := by
  obtain ⟨hR, h2⟩ := dual_some h
  have hRd := isR_of (dual_right hR h2)
  obtain ⟨s0, s1, rfl, rfl, hS⟩ := ha.right hR
  obtain ⟨t0, t1, rfl, rfl, hT⟩ := hb.right hRd
  have hl : (dualG g).ow.length = g.ow.length := by rw [dual_yes hR h2]; exact List.length_map _
  have hsp : Split g g.ow.length (inP t1) (inP t0) (gI n1) (gI n0) := by
    have h3 := hT.sp
    rw [hl] at h3
    exact ⟨fun i a b => (h3.all i a b).symm, win_dual hR h2 (p := 1) (.inr rfl) h3.w1, win_dual hR h2 (p := 0) (.inl rfl) h3.w0⟩
  obtain ⟨r0, r1⟩ := sol_same hR hS hT.ok1 hT.ok0 hsp
  rw [r0, r1]
  exact ⟨rfl, rfl⟩
end Go.Proofs.YtplpgfcjjnaigaaDoor
