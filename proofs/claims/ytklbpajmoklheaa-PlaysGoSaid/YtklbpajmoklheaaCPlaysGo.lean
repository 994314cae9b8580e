/-
  Every step of a play is a move (law PlaysGo), for every input.
  Conditions: none beyond the statement's own.
-/
import Derived.Test.YtklbpajmoklheaaLPlaysGo
import Derived.Test.YtklbpajmoklheaaRowG
import Derived.Test.YtklbpajmoklheaaRow
set_option linter.unusedVariables false
set_option linter.unusedSimpArgs false
namespace Go.Proofs.Ytklbpajmoklheaa.playsGo
open Go Go.ChangeShapes Go.WideShapes Go.ChangeAt Go.RowKit

theorem own : ownKnob Try.prog.godebug = none := by kernel_rfl
theorem laidOut : laidOutB Try.prog = true := by kernel_rfl
theorem fitsT : ∀ t ∈ Try.f4.params.toList, Try.prog.readableRec t = true ∧ t < Try.prog.types.size := fun t ht => by
  rw [Try.params4] at ht
  simp only [List.mem_cons, List.not_mem_nil, or_false] at ht
  rcases ht with rfl | rfl | rfl | rfl | rfl <;> exact ⟨by kernel_rfl, of_decide_eq_true (by kernel_rfl)⟩
theorem contract (H : Type) (enc : TypeId × Value → H) (W : World) (base : Nat) (args : Array Value) (ds gs : List (DataW H)) (before : List MemPlace)
    (hval : ∀ (j : Nat) t v, Try.f4.params[j]? = some t → args[j]? = some v → Value.okWide Try.prog W .any base t v)
    (hW : DataW.Whole enc Try.prog Try.f4.params.toList Rows.playsGoSpec.vars false W args.toList ds gs before)
    (hsz : (DataW.weightsEach Try.prog (Try.f4.params.toList ++ Rows.playsGoSpec.plain.varTypes Try.prog) (ds ++ gs)).all (· ≤ reachBytes) = true) :
    Calls Try.prog 4 args W fun e W' => ∃ v, e = .returned v ∧ Rows.playsGoSpec.post enc Try.prog Try.f4 false true false false W args v W' := by
  have hW' := hW
  obtain ⟨p, q, hA0, hV, rfl, hfz, hnd⟩ := hW
  have hA : DataW.TrodAll enc Try.prog W 0 (fun _ => true) true Try.f4.params.toList args.toList ds p := hA0
  rw [Try.params4] at hA hval hsz
  obtain ⟨v0, vs0, d0, ds0, p0, q0, hargs, rfl, rfl, h0, r_0⟩ := trodAll_cons hA
  obtain ⟨v1, vs1, d1, ds1, p1, q1, rfl, rfl, rfl, h1, r_1⟩ := trodAll_cons r_0
  obtain ⟨v2, vs2, d2, ds2, p2, q2, rfl, rfl, rfl, h2, r_2⟩ := trodAll_cons r_1
  obtain ⟨v3, vs3, d3, ds3, p3, q3, rfl, rfl, rfl, h3, r_3⟩ := trodAll_cons r_2
  obtain ⟨v4, vs4, d4, ds4, p4, q4, rfl, rfl, rfl, h4, r_4⟩ := trodAll_cons r_3
  obtain ⟨rfl, rfl, rfl⟩ := trodAll_nil r_4
  obtain rfl : args = #[v0, v1, v2, v3, v4] := by cases args; simp_all
  obtain ⟨rfl, rfl⟩ := trodVars_none hV
  have hwt : ∀ x ∈ DataW.weightsEach Try.prog [25, 3, 3, 22, 22] [d0, d1, d2, d3, d4], x ≤ reachBytes := fun x hx => by
    have hvt : Rows.playsGoSpec.plain.varTypes Try.prog = [] := rfl
    rw [hvt] at hsz
    simp only [List.append_nil] at hsz
    simpa using List.all_eq_true.1 hsz x hx
  obtain ⟨fit0, hwt⟩ := fits_each hwt
  obtain ⟨u0, rfl, _⟩ := okWide_struct Try.underlying25 (hval 0 25 v0 rfl rfl)
  obtain ⟨n0, hn0⟩ := h0
  obtain ⟨A00, A01, A02, c00, c01, c02, x0, e0, r0, b00, b01, b02, mb0⟩ := openG hn0 fit0
  obtain rfl : u0 = #[.slice A00 x0.ow.length c00, .slice A01 x0.pr.length c01, .slice A02 x0.mv.length c02] := Array.ext' e0
  replace hwt := (fits_each hwt).2
  obtain ⟨x1, rfl, _, _, wf1⟩ := open_int Try.underlying3 (hval 1 3 v1 rfl rfl) h1
  have ok1 : I64 x1 := bounds_i64 wf1
  replace hwt := (fits_each hwt).2
  obtain ⟨x2, rfl, _, _, wf2⟩ := open_int Try.underlying3 (hval 2 3 v2 rfl rfl) h2
  have ok2 : I64 x2 := bounds_i64 wf2
  obtain ⟨fit3, hwt⟩ := fits_each hwt
  obtain ⟨a3, k3, c3, rfl⟩ := okWide_slice Try.underlying22 (hval 3 22 v3 rfl rfl)
  obtain ⟨n3, hn3⟩ := h3
  obtain ⟨A3, x3, cc3, e3, le3, r3, ok3, mb3⟩ := openI Try.underlying22 Try.underlying3 (by kernel_rfl) (by kernel_rfl) hn3 fit3
  obtain ⟨rfl, rfl, rfl⟩ : a3 = A3 ∧ k3 = x3.length ∧ c3 = cc3 := by simpa [Value.cells] using e3
  obtain ⟨fit4, hwt⟩ := fits_each hwt
  obtain ⟨a4, k4, c4, rfl⟩ := okWide_slice Try.underlying22 (hval 4 22 v4 rfl rfl)
  obtain ⟨n4, hn4⟩ := h4
  obtain ⟨A4, x4, cc4, e4, le4, r4, ok4, mb4⟩ := openI Try.underlying22 Try.underlying3 (by kernel_rfl) (by kernel_rfl) hn4 fit4
  obtain ⟨rfl, rfl, rfl⟩ : a4 = A4 ∧ k4 = x4.length ∧ c4 = cc4 := by simpa [Value.cells] using e4
  refine (go17_any (w := W) r0 r3 r4).mono fun e W' ⟨he, hE⟩ => ?_
  subst he
  exact ⟨_, rfl, law_post laidOut fitsT rfl (fun l hl => by match l, hl with | [_, _, _, _, _], _ => rfl) rfl Try.underlying4 hW' hE⟩
set_option maxRecDepth 100000 in
theorem lifted (os : Os) (started : os.Started) (H : Type) (enc : TypeId × Value → H) :
    ReturnsInHanded {} Try.checked os 4 .any (Rows.playsGoSpec.pre6 enc Try.prog Try.f4 Rows.playsGoRow.domain false) (Rows.playsGoSpec.post enc Try.prog Try.f4 false true false false) := by
  refine returnsInHanded_of_change_sized (C := Try.checked) own started (by kernel_rfl) Try.func4
    (ChangeSpec.witness6 (enc := enc) (C := Try.checked) false ⟨#[], #[.agg #[.slice none 0 0, .slice none 0 0, .slice none 0 0], .int .i64 0, .int .i64 0, .slice none 0 0, .slice none 0 0], []⟩ 8 (by kernel_rfl) (by kernel_rfl) (by kernel_rfl) (by kernel_rfl)) ?_
  intro W base args ds gs before hval hW _ hsz _
  exact contract H enc W base args ds gs before hval hW hsz
theorem over : Rows.PlaysGoSaid :=
  OpenClaim.holds_of_wide 4 Try.f4 rfl rfl rfl rfl rfl rfl rfl ⟨rfl, rfl, rfl, rfl, rfl⟩ rfl rfl rfl rfl rfl (by kernel_rfl) Try.func4 (by kernel_rfl)
    (of_decide_eq_true (by kernel_rfl)) (by unfold Func.isWrapper; first | (rw [if_pos (by decide +kernel)]; kernel_rfl) | (rw [if_neg (by decide +kernel)]; exact ⟨rfl, rfl⟩))
    (fun os started H enc _ => lifted os started H enc)
end Go.Proofs.Ytklbpajmoklheaa.playsGo
namespace Go.Proofs.Ytklbpajmoklheaa
theorem playsGo_holds : Rows.PlaysGoSaid := playsGo.over
end Go.Proofs.Ytklbpajmoklheaa
