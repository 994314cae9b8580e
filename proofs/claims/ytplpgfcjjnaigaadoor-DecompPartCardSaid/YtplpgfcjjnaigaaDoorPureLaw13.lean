/-
  Plain: what follows from what decomp.Solve tells: the laws of layer 13. No program.
-/
import Derived.Test.YtplpgfcjjnaigaaDoorPureTr
set_option linter.unusedVariables false
set_option linter.unusedSimpArgs false
namespace Go.Proofs.YtplpgfcjjnaigaaDoor
open Go Go.RowKit
theorem SolveT.right {g : GameL} {l0 l1 m0 m1 : List Int} {d : Int} (h : SolveT g l0 l1 m0 m1 d) (hR : isR g = true) : ∃ s0 s1, l0 = lsD (fromW s0) 256 ∧ l1 = lsD (fromW s1) 256 ∧ SolT g s0 s1 m0 m1 d := by
  rcases h with ⟨h, _⟩ | ⟨_, h⟩
  · rw [h] at hR
    cases hR
  · exact h
theorem SolveT.wrong {g : GameL} {l0 l1 m0 m1 : List Int} {d : Int} (h : SolveT g l0 l1 m0 m1 d) (hR : isR g = false) : l0 = [] ∧ l1 = [] ∧ m0 = [] ∧ m1 = [] ∧ d = 0 := by
  rcases h with ⟨_, h⟩ | ⟨h, _⟩
  · exact h
  · rw [hR] at h
    cases h
/-- The example. -/
def exG13 : GameL := ⟨[0, 1], [0, 1], [[0, 1], [0, 1]]⟩
theorem exG13_R : isR exG13 = true := by decide
theorem shown13 {l0 l1 m0 m1 : List Int} {d : Int} (h : SolveT exG13 l0 l1 m0 m1 d) : l0 = [0] ∧ l1 = [1] ∧ m0.length = 2 ∧ m1.length = 2 ∧ gI m0 0 = 0 ∧ gI m1 1 = 1 ∧ 1 ≤ d := by
  obtain ⟨s0, s1, rfl, rfl, hS⟩ := h.right exG13_R
  have e0 : ∀ i, inP [1, 0, 0, 0] i ↔ i = 0 := fun i => by
    constructor
    · intro hi
      have := inP_ls.2 hi
      rw [show lsD (fromW ([1, 0, 0, 0] : List Int)) 256 = [0] by decide +kernel] at this
      simpa using this
    · rintro rfl
      exact inP_ls.1 (by rw [show lsD (fromW ([1, 0, 0, 0] : List Int)) 256 = [0] by decide +kernel]; simp)
  have e1 : ∀ i, inP [2, 0, 0, 0] i ↔ i = 1 := fun i => by
    constructor
    · intro hi
      have := inP_ls.2 hi
      rw [show lsD (fromW ([2, 0, 0, 0] : List Int)) 256 = [1] by decide +kernel] at this
      simpa using this
    · rintro rfl
      exact inP_ls.1 (by rw [show lsD (fromW ([2, 0, 0, 0] : List Int)) 256 = [1] by decide +kernel]; simp)
  have hsp : Split exG13 exG13.ow.length (inP [1, 0, 0, 0]) (inP [2, 0, 0, 0]) (fun _ => 0) (fun _ => 1) := by
    refine ⟨fun i a b => ?_, ⟨fun i hi => ?_, fun i hi e => ?_, fun i hi e => ?_, fun i hi e => ?_⟩, ⟨fun i hi => ?_, fun i hi e => ?_, fun i hi e => ?_, fun i hi e => ?_⟩⟩
    · have b : i < 2 := b
      rw [e0, e1]
      omega
    · rw [e0] at hi
      subst hi
      decide
    · rw [e0] at hi
      subst hi
      exact ⟨by decide, (e0 0).2 rfl⟩
    · rw [e0] at hi
      subst hi
      exact absurd rfl e
    · rw [e0] at hi
      subst hi
      exact absurd rfl e
    · rw [e1] at hi
      subst hi
      decide
    · rw [e1] at hi
      subst hi
      exact ⟨by decide, (e1 1).2 rfl⟩
    · rw [e1] at hi
      subst hi
      exact absurd rfl e
    · rw [e1] at hi
      subst hi
      exact absurd rfl e
  obtain ⟨r0, r1⟩ := sol_same exG13_R hS (okW_lit ⟨by omega, by omega⟩ ⟨by omega, by omega⟩ ⟨by omega, by omega⟩ ⟨by omega, by omega⟩) (okW_lit ⟨by omega, by omega⟩ ⟨by omega, by omega⟩ ⟨by omega, by omega⟩ ⟨by omega, by omega⟩) hsp
  subst r0 r1
  refine ⟨by decide +kernel, by decide +kernel, hS.l0, hS.l1, ?_, ?_, hS.d1⟩
  · have := (hS.sp.w0.own 0 ((e0 0).2 rfl) rfl).2
    exact (e0 _).1 this
  · have := (hS.sp.w1.own 1 ((e1 1).2 rfl) rfl).2
    exact (e1 _).1 this
end Go.Proofs.YtplpgfcjjnaigaaDoor
