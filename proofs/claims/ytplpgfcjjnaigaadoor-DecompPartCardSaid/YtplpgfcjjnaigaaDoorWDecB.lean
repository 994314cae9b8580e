/-
  The inner function of decomp.Solve does what it is to, on every set. Conditions: what the theorem names.
-/
import Derived.Test.YtplpgfcjjnaigaaDoorWPart0
import Derived.Test.YtplpgfcjjnaigaaDoorWPart1
set_option linter.unusedVariables false
namespace Go.Proofs.YtplpgfcjjnaigaaDoor
open Go Go.RowKit
theorem top_one {g : GameL} {s t t' : List Int} {h h' : Int} (a : TopT g s t h) (b : TopT g s t' h') : h = h' := by
  obtain ⟨i, hi⟩ := a.ex
  obtain ⟨j, hj⟩ := b.ex
  have h1 := (a.at_ i).1 hi
  have h2 := (b.at_ j).1 hj
  have h3 := b.le i h1.1
  have h4 := a.le j h2.1
  omega
theorem part_any {x : DecS} (K : DecK x) : ∀ (N : Nat) (s : List Int), lenW s < (N : Int) → PartOK x s
  | 0, s, h => by have := (lenW_le s).1; omega
  | N + 1, s, h => fun m0 m1 d depth w hw hb => by
    have IH : ∀ s2, lenW s2 < lenW s → PartOK x s2 := fun s2 h2 => part_any K N s2 (by omega)
    by_cases h1 : ∃ ts hh, TopT x.g s ts hh ∧ hh % 2 = 1
    · exact part1_step K hw hb IH (fun ts hh ht => by
        obtain ⟨ts', hh', ht', e⟩ := h1
        have := top_one ht ht'
        omega)
    · exact part0_step K hw hb IH (fun ts hh ht => by
        have : ¬ hh % 2 = 1 := fun e => h1 ⟨ts, hh, ht, e⟩
        omega)
end Go.Proofs.YtplpgfcjjnaigaaDoor
