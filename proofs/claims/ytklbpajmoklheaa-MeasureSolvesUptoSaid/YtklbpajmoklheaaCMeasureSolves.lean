/-
  Solve tells what the document tells (law MeasureSolves), where what comes in is of bulk at most 1048576.
  Conditions: none beyond the statement's own.
-/
import Derived.Test.YtklbpajmoklheaaLSolves
import Derived.Test.YtklbpajmoklheaaRowTup
import Derived.Test.YtklbpajmoklheaaRow
import Derived.Deep.DeepHandedRow
set_option linter.unusedVariables false
set_option linter.unusedSimpArgs false
namespace Go.Proofs.Ytklbpajmoklheaa.measureSolves
open Go Go.ChangeShapes Go.WideShapes Go.ChangeAt Go.RowKit

theorem own : ownKnob Try.prog.godebug = none := by kernel_rfl
theorem laidOut : laidOutB Try.prog = true := by kernel_rfl
theorem fitsT : ∀ t ∈ Try.f7.params.toList, Try.prog.readableRec t = true ∧ t < Try.prog.types.size := fun t ht => by
  rw [Try.params7] at ht
  simp only [List.mem_cons, List.not_mem_nil, or_false] at ht
  obtain rfl := ht
  exact ⟨by kernel_rfl, of_decide_eq_true (by kernel_rfl)⟩
theorem contract (H : Type) (enc : TypeId × Value → H) (W : World) (base : Nat) (args : Array Value) (ds gs : List (DataW H)) (before : List MemPlace)
    (hval : ∀ (j : Nat) t v, Try.f7.params[j]? = some t → args[j]? = some v → Value.okWide Try.prog W .any base t v)
    (hW : DataW.Whole enc Try.prog Try.f7.params.toList Rows.measureSolvesSpec.vars false W args.toList ds gs before)
    (hsz : (DataW.weightsEach Try.prog (Try.f7.params.toList ++ Rows.measureSolvesSpec.plain.varTypes Try.prog) (ds ++ gs)).all (· ≤ reachBytes) = true) (hk : Rows.uptoSmall H (ds ++ gs) = true) :
    Calls Try.prog 7 args W fun e W' => ∃ v, e = .returned v ∧ Rows.measureSolvesSpec.post enc Try.prog Try.f7 false true false false W args v W' := by
  have hW' := hW
  obtain ⟨p, q, hA0, hV, rfl, hfz, hnd⟩ := hW
  have hA : DataW.TrodAll enc Try.prog W 0 (fun _ => true) true Try.f7.params.toList args.toList ds p := hA0
  rw [Try.params7] at hA hval hsz
  obtain ⟨v0, vs0, d0, ds0, p0, q0, hargs, rfl, rfl, h0, r_0⟩ := trodAll_cons hA
  obtain ⟨rfl, rfl, rfl⟩ := trodAll_nil r_0
  obtain rfl : args = #[v0] := by cases args; simp_all
  obtain ⟨rfl, rfl⟩ := trodVars_none hV
  have hwt : ∀ x ∈ DataW.weightsEach Try.prog [25] [d0], x ≤ reachBytes := fun x hx => by
    have hvt : Rows.measureSolvesSpec.plain.varTypes Try.prog = [] := rfl
    rw [hvt] at hsz
    simp only [List.append_nil] at hsz
    simpa using List.all_eq_true.1 hsz x hx
  obtain ⟨fit0, hwt⟩ := fits_each hwt
  obtain ⟨u0, rfl, _⟩ := okWide_struct Try.underlying25 (hval 0 25 v0 rfl rfl)
  obtain ⟨n0, hn0⟩ := h0
  obtain ⟨A00, A01, A02, c00, c01, c02, x0, e0, r0, b00, b01, b02, mb0⟩ := openG hn0 fit0
  obtain rfl : u0 = #[.slice A00 x0.ow.length c00, .slice A01 x0.pr.length c01, .slice A02 x0.mv.length c02] := Array.ext' e0
  have hbk : Rows.uptoBulkAll (d0 :: ([] : List (DataW H))) ≤ 1048576 := by simpa [Rows.uptoSmall] using hk
  have hb0 : x0.ow.length ≤ Rows.uptoBulk d0 := mb0
  have hsm : x0.ow.length ≤ 1000000000000 := by simp only [Rows.uptoBulkAll] at hbk; omega
  refine (solves_any (w := W) r0 hsm).mono fun e W' ⟨he, hE⟩ => ?_
  subst he
  exact ⟨_, rfl, law_post laidOut fitsT rfl (fun l hl => by match l, hl with | [_], _ => rfl) rfl Try.underlying4 hW' hE⟩
set_option maxRecDepth 100000 in
theorem lifted (os : Os) (started : os.Started) (H : Type) (enc : TypeId × Value → H) (F : Stop.Interp) :
    ReturnsInHanded {} Try.checked os 7 .any ((Rows.OpenSpec.upto Rows.measureSolvesSpec).preRow enc Try.prog Try.f7 Rows.measureSolvesUptoRow.domain false Rows.measureSolvesUptoRow.laid) (((Rows.OpenSpec.upto Rows.measureSolvesSpec).at F).post enc Try.prog Try.f7 false true false false) := by
  have hx : ∃ places, DataW.whole enc Try.prog ((World.holding Try.prog os ⟨#[], #[], []⟩).forCall (fun _ _ => 0) ⟨#[], #[.agg #[.slice none 0 0, .slice none 0 0, .slice none 0 0]], []⟩).memory Try.f7.params.toList Rows.measureSolvesSpec.vars false (#[.agg #[.slice none 0 0, .slice none 0 0, .slice none 0 0]] : Array Value).toList 8 = some ([.agg [.nil, .nil, .nil]], [], places) := ⟨[], by kernel_rfl⟩
  obtain ⟨places, hx⟩ := hx
  refine returnsInHanded_of_row (C := Try.checked) (s := Rows.OpenSpec.upto Rows.measureSolvesSpec) own started (by kernel_rfl) Try.func7
    (witness_row_at (enc := enc) (C := Try.checked) false (World.holding Try.prog os ⟨#[], #[], []⟩) #[.agg #[.slice none 0 0, .slice none 0 0, .slice none 0 0]] rfl (by kernel_rfl) (by kernel_rfl) (by kernel_rfl)
      (OpenSpec.preRow_of_cond 8 hx (by kernel_rfl) (fun k hk => by cases hk; kernel_rfl) (by kernel_rfl) ⟨[], (by first | rfl | trivial), List.nodup_nil, fun _ _ h => by cases h⟩)) ?_
  intro W base args ds gs before hval hW _ hcond hsz _ _ _
  exact contract H enc W base args ds gs before hval hW hsz (hcond _ rfl)
theorem over : Rows.MeasureSolvesUptoSaid :=
  OpenClaim.holds_of_cond 7 Try.f7 rfl rfl rfl rfl rfl rfl rfl ⟨rfl, rfl, rfl, rfl, rfl⟩ rfl rfl rfl rfl rfl (by kernel_rfl) Try.func7 (by kernel_rfl)
    (of_decide_eq_true (by kernel_rfl)) (by unfold Func.isWrapper; first | (rw [if_pos (by decide +kernel)]; kernel_rfl) | (rw [if_neg (by decide +kernel)]; exact ⟨rfl, rfl⟩))
    (fun os started H enc _ F => by rw [OpenClaim.pre_eq_preRow]; exact lifted os started H enc F)
end Go.Proofs.Ytklbpajmoklheaa.measureSolves
namespace Go.Proofs.Ytklbpajmoklheaa
theorem measureSolves_holds : Rows.MeasureSolvesUptoSaid := measureSolves.over
end Go.Proofs.Ytklbpajmoklheaa
