/-
  Plain: what is attracted in the game that law 12 shows. No program.
-/
import Derived.Test.YtkpljmalbmcdfaaDoorPureAttr
set_option linter.unusedVariables false
set_option linter.unusedSimpArgs false
namespace Go.Proofs.YtkpljmalbmcdfaaDoor
open Go Go.RowKit
def exG : GameL := ⟨[0, 1, 1, 0], [0, 0, 0, 0], [[0, 1], [2], [0, 3], [3]]⟩
theorem exG_R : isR exG = true := by decide
theorem ex_I : ∀ n : Nat, n < 256 → gB (inT exG [15, 0, 0, 0]) (n : Int) = decide (n < 4) := by decide +kernel
theorem ex_T : ∀ n : Nat, n < 256 → gB (fromW [4, 0, 0, 0]) (n : Int) = decide (n = 2) := by decide +kernel
theorem ex_C : ∀ n : Nat, n < 256 → gB (fromW [7, 0, 0, 0]) (n : Int) = decide (n < 3) := by decide +kernel
theorem shown12 {ss mvs : List Int} (h : AttractT exG [15, 0, 0, 0] 0 [4, 0, 0, 0] ss mvs) : ss = [7, 0, 0, 0] ∧ mvs.length = 4 ∧ gI mvs 0 = 1 ∧ gI mvs 1 = -1 := by
  obtain ⟨ha, hm⟩ := att_in h exG_R (.inl rfl)
  have hI : ∀ j : Int, 0 ≤ j → j < 256 → gB (inT exG [15, 0, 0, 0]) j = decide (j < 4) := fun j a b => by
    have := ex_I j.toNat (by omega)
    rw [show ((j.toNat : Nat) : Int) = j by omega] at this
    rw [this, decide_eq_decide]
    omega
  have hT : ∀ j : Int, 0 ≤ j → j < 256 → gB (fromW [4, 0, 0, 0]) j = decide (j = 2) := fun j a b => by
    have := ex_T j.toNat (by omega)
    rw [show ((j.toNat : Nat) : Int) = j by omega] at this
    rw [this, decide_eq_decide]
    omega
  have hC : ∀ j : Int, 0 ≤ j → j < 256 → gB (fromW [7, 0, 0, 0]) j = decide (j < 3) := fun j a b => by
    have := ex_C j.toNat (by omega)
    rw [show ((j.toNat : Nat) : Int) = j by omega] at this
    rw [this, decide_eq_decide]
    omega
  have h2 : gB (fromW ss) 2 = true := ha.cl.base 2 (by omega) (by omega) (by rw [hT 2 (by omega) (by omega)]; rfl) (by rw [hI 2 (by omega) (by omega)]; rfl)
  have h1 : gB (fromW ss) 1 = true := ha.cl.oth 1 (by omega) (by decide) (by rw [hI 1 (by omega) (by omega)]; rfl) (by decide) ⟨2, by decide, by rw [hI 2 (by omega) (by omega)]; rfl⟩ fun x hx _ => by
    have hx : x ∈ ([2] : List Int) := hx
    rw [List.mem_singleton] at hx
    subst hx
    exact h2
  have h0 : gB (fromW ss) 0 = true := ha.cl.own 0 (by omega) (by decide) (by rw [hI 0 (by omega) (by omega)]; rfl) (by decide) 1 (by decide) (by rw [hI 1 (by omega) (by omega)]; rfl) h1
  have hsub := ha.least (fromW [7, 0, 0, 0]) ⟨fun j a b c d => ?_, fun i a b c d x hx e f => ?_, fun i a b c d _ _ => ?_⟩
  · refine ⟨(set_iff h.1 (okW_lit ⟨by omega, by omega⟩ ⟨by omega, by omega⟩ ⟨by omega, by omega⟩ ⟨by omega, by omega⟩)).2 fun j a b => Bool.eq_iff_iff.2 ⟨hsub j a b, fun hj => ?_⟩, hm.ml, ?_, ?_⟩
    · rw [hC j a b] at hj
      have := of_decide_eq_true hj
      obtain rfl | rfl | rfl : j = 0 ∨ j = 1 ∨ j = 2 := by omega
      · exact h0
      · exact h1
      · exact h2
    · obtain ⟨ord, ho1, _, ho3⟩ := hm.rank
      obtain ⟨a, b, e, hn⟩ := List.eq_append_cons_of_mem ((ho1 0 (by omega) (by omega)).1 h0)
      rcases ho3 a 0 b e with h3 | h3 | h3
      · rw [hT 0 (by omega) (by omega)] at h3
        exact absurd h3 (by decide)
      · have h4 : gI mvs 0 ∈ ([0, 1] : List Int) := h3.2.1
        simp only [List.mem_cons, List.not_mem_nil, or_false] at h4
        rcases h4 with h4 | h4
        · rw [h4] at h3
          exact absurd h3.2.2 hn
        · exact h4
      · exact absurd (show gI exG.ow 0 = 0 by decide) h3.1
    · rcases hm.mv 1 (by omega) (by decide) with h3 | h3
      · exact absurd h3.2.2 (by decide)
      · exact h3
  · rw [hT j a b] at c
    have := of_decide_eq_true c
    subst this
    rw [hC 2 a b]
    rfl
  · have b : i < 4 := b
    rw [hC i a (by omega)]
    by_cases hi : i < 3
    · exact decide_eq_true hi
    · obtain rfl : i = 3 := by omega
      have hx : x ∈ ([3] : List Int) := hx
      rw [List.mem_singleton] at hx
      subst hx
      rw [hC 3 (by omega) (by omega)] at f
      exact f
  · have b : i < 4 := b
    rw [hC i a (by omega)]
    by_cases hi : i < 3
    · exact decide_eq_true hi
    · obtain rfl : i = 3 := by omega
      exact absurd (by decide) d
end Go.Proofs.YtkpljmalbmcdfaaDoor
