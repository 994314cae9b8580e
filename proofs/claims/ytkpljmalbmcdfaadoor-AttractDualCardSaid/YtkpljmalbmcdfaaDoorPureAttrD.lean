/-
  Plain: in the dual of a game the other player attracts the same. No program.
-/
import Derived.Test.YtkpljmalbmcdfaaDoorPureAttr
import Derived.Test.YtkpljmalbmcdfaaDoorPureDual
set_option linter.unusedVariables false
set_option linter.unusedSimpArgs false
namespace Go.Proofs.YtkpljmalbmcdfaaDoor
open Go Go.RowKit
theorem dual_attract {g : GameL} {s t sa sb ma mb : List Int} {p : Int} (hn : (dualG g).ow.length ≠ 0) (hp : p = 0 ∨ p = 1) (hA : AttractT g s p t sa ma) (hB : AttractT (dualG g) s (1 - p) t sb mb) : sa = sb := by
  obtain ⟨hR, h2⟩ := dual_some hn
  have hG := isR_ok hR
  have ha := (att_in hA hR hp).1
  have hb := (att_in hB (isR_of (dual_right hR h2)) (by omega)).1
  have e := dual_yes hR h2
  have hl : (dualG g).ow.length = g.ow.length := by rw [e]; exact List.length_map _
  have hm : (dualG g).mv = g.mv := by rw [e]
  have ho : ∀ i : Int, 0 ≤ i → i < (g.ow.length : Int) → gI (dualG g).ow i = 1 - gI g.ow i := fun i a b => by rw [e]; exact gI_map a b
  rw [inT_len hl s] at hb
  refine (set_iff hA.1 hB.1).2 fun j a b => Bool.eq_iff_iff.2 ⟨ha.least _ ⟨hb.cl.base, fun i c d f k x hx hI hC => ?_, fun i c d f k he hal => ?_⟩ j a b, hb.least _ ⟨ha.cl.base, fun i c d f k x hx hI hC => ?_, fun i c d f k he hal => ?_⟩ j a b⟩
  · exact hb.cl.own i c (by rw [hl]; exact d) f (by rw [ho i c d, k]) x (by rw [hm]; exact hx) hI hC
  · exact hb.cl.oth i c (by rw [hl]; exact d) f (by rw [ho i c d]; omega) (by rw [hm]; exact he) (by rw [hm]; exact hal)
  · rw [hl] at d
    rw [hm] at hx
    rw [ho i c d] at k
    exact ha.cl.own i c d f (by omega) x hx hI hC
  · rw [hl] at d
    rw [hm] at he hal
    rw [ho i c d] at k
    exact ha.cl.oth i c d f (by omega) he hal
end Go.Proofs.YtkpljmalbmcdfaaDoor
