/-
  A game among the arguments, opened. Conditions: none; plain lemmas.
-/
import Derived.Test.YtklbpajmoklheaaRow
set_option linter.unusedVariables false
namespace Go.Proofs.Ytklbpajmoklheaa
open Go Go.RowKit Go.ChangeShapes Go.WideShapes Go.ChangeAt
section
variable {H : Type} {enc : TypeId × Value → H} {W : World}
/-- A game, opened. -/
theorem openG {n : Nat} {cs : List Value} {x : DataW H × List MemPlace} (h : DataW.trod enc Try.prog W 0 (fun _ => true) true n 25 cs = some x) (hf : Fits Try.prog 25 x.1) :
    ∃ A0 A1 A2 c0 c1 c2 g, cs = [.slice A0 (GameL.ow g).length c0, .slice A1 (GameL.pr g).length c1, .slice A2 (GameL.mv g).length c2] ∧ RdG W 0 W.heap.size A0 A1 A2 c0 c1 c2 g ∧ (∀ z ∈ g.ow, I64 z) ∧ (∀ z ∈ g.pr, I64 z) ∧ (∀ r ∈ g.mv, ∀ z ∈ r, I64 z) ∧ g.ow.length ≤ Rows.uptoBulk x.1 := by
  have hcI : Try.prog.cellsOf 22 = 1 := by kernel_rfl
  have hcII : Try.prog.cellsOf 23 = 1 := by kernel_rfl
  have hci : Try.prog.cellsOf 3 = 1 := by kernel_rfl
  have hbi : Try.prog.bytesOf 3 = 8 := by kernel_rfl
  have hbI : Try.prog.bytesOf 22 = 24 := by kernel_rfl
  have hcG : Try.prog.cellsOf 25 = 3 := by kernel_rfl
  obtain ⟨y0, y1, y2, n', rfl, hl, h0, h1, h2⟩ := Go.Deep.trod_struct3 Try.underlying25 h
  rw [hcG] at hl
  match cs, hl with
  | [v0, v1, v2], _ =>
    simp only [hcI, hcII] at h0 h1 h2
    obtain ⟨f0, hf⟩ := fits_each (fits_struct Try.underlying25 hf)
    obtain ⟨f1, hf⟩ := fits_each hf
    obtain ⟨f2, _⟩ := fits_each hf
    obtain ⟨A0, l0, c0, e0, k0, r0, b0, m0⟩ := openI Try.underlying22 Try.underlying3 hci hbi h0 f0
    obtain ⟨A1, l1, c1, e1, k1, r1, b1, m1⟩ := openI Try.underlying22 Try.underlying3 hci hbi h1 f1
    obtain ⟨A2, l2, c2, e2, k2, r2, b2, m2⟩ := openII Try.underlying23 Try.underlying22 Try.underlying3 hcI hci hbI hbi h2 f2
    obtain rfl : v0 = _ := by simpa using e0
    obtain rfl : v1 = _ := by simpa using e1
    obtain rfl : v2 = _ := by simpa using e2
    exact ⟨A0, A1, A2, c0, c1, c2, ⟨l0, l1, l2⟩, rfl, ⟨r0, r1, r2, k0, k1, k2⟩, b0, b1, b2, by
      simp only [Rows.uptoBulk, Rows.uptoBulkAll]
      show l0.length ≤ _
      omega⟩
end
end Go.Proofs.Ytklbpajmoklheaa
