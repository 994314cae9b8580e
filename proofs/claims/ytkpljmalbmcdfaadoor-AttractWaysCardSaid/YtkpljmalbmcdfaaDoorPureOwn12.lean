/-
  Plain: one player alone owns all positions. No program.
-/
import Derived.Test.YtkpljmalbmcdfaaDoorPureAttrW
import Derived.Test.YtkpljmalbmcdfaaDoorPureRow2
import Derived.Test.YtkpljmalbmcdfaaDoorPureFrB
set_option linter.unusedVariables false
set_option linter.unusedSimpArgs false
namespace Go.Proofs.YtkpljmalbmcdfaaDoor
open Go Go.RowKit
theorem inT_len {g g1 : GameL} (h : g1.ow.length = g.ow.length) (s : List Int) : inT g1 s = inT g s := by unfold inT inS; rw [h]
theorem set_next {xs : List Int} {k p : Int} (h : ∀ j : Int, 0 ≤ j → j < k → gI xs j = p) (h0 : 0 ≤ k) (h1 : k < (xs.length : Int)) : ∀ j : Int, 0 ≤ j → j < k + 1 → gI (xs.set k.toNat p) j = p := fun j a b => by
  rw [gI_set' h0 h1 a]
  split
  · rfl
  · exact h j a (by omega)
section
variable {g : GameL} {s t sa sb sc ma mb mc xa xb : List Int} {p : Int}
theorem all_att (hR : isR g = true) (hp : p = 0 ∨ p = 1) (hl : xa.length = g.ow.length) (hx : ∀ j : Int, 0 ≤ j → j < (g.ow.length : Int) → gI xa j = p) (h : AttractT ⟨xa, g.pr, g.mv⟩ s p t sb mb) : AttrT ⟨xa, g.pr, g.mv⟩ (inT g s) p (fromW t) (fromW sb) := by
  have h2 := (att_in h (isR_of (right_ow (isR_ok hR) hl fun j a b => by rw [hx j a b]; exact hp)) hp).1
  rwa [inT_len (g := g) (g1 := ⟨xa, g.pr, g.mv⟩) hl s] at h2
theorem none_att (hR : isR g = true) (hp : p = 0 ∨ p = 1) (hl : xb.length = g.ow.length) (hx : ∀ j : Int, 0 ≤ j → j < (g.ow.length : Int) → gI xb j = 1 - p) (h : AttractT ⟨xb, g.pr, g.mv⟩ s p t sc mc) : AttrT ⟨xb, g.pr, g.mv⟩ (inT g s) p (fromW t) (fromW sc) := by
  have h2 := (att_in h (isR_of (right_ow (isR_ok hR) hl fun j a b => by rw [hx j a b]; omega)) hp).1
  rwa [inT_len (g := g) (g1 := ⟨xb, g.pr, g.mv⟩) hl s] at h2
theorem own12_b (hR : isR g = true) (hp : p = 0 ∨ p = 1) (hA : AttractT g s p t sa ma) (hl : xa.length = g.ow.length) (hx : ∀ j : Int, 0 ≤ j → j < (g.ow.length : Int) → gI xa j = p) (hB : AttractT ⟨xa, g.pr, g.mv⟩ s p t sb mb) : inW sa sb = true := by
  rw [inW_from hA.1 hB.1, inD_iff]
  exact own_all (g := g) (g1 := ⟨xa, g.pr, g.mv⟩) hl rfl hx (att_in hA hR hp).1 (all_att hR hp hl hx hB)
theorem own12_c (hR : isR g = true) (hp : p = 0 ∨ p = 1) (hA : AttractT g s p t sa ma) (hl : xb.length = g.ow.length) (hx : ∀ j : Int, 0 ≤ j → j < (g.ow.length : Int) → gI xb j = 1 - p) (hC : AttractT ⟨xb, g.pr, g.mv⟩ s p t sc mc) : inW sc sa = true := by
  rw [inW_from hC.1 hA.1, inD_iff]
  exact own_none (g := g) (g0 := ⟨xb, g.pr, g.mv⟩) hl rfl (fun i a b => by show gI xb i ≠ p; rw [hx i a b]; omega) (att_in hA hR hp).1 (none_att hR hp hl hx hC)
theorem ways12_a (hR : isR g = true) (hp : p = 0 ∨ p = 1) (hs : OkW s) (hl : xa.length = g.ow.length) (hx : ∀ j : Int, 0 ≤ j → j < (g.ow.length : Int) → gI xa j = p) (hB : AttractT ⟨xa, g.pr, g.mv⟩ (inS g s) p t sb mb) {sm : List Int} {r : Int} (hT : SomeT g (inT g s) (fromW t) sm) (hP : SomeP g (inT g s) sm r) (hr : (g.ow.length : Int) < r) : sb = sm := by
  have h := all_att hR hp hl hx hB
  rw [inT_inT hs] at h
  exact (set_iff hB.1 hT.ok).2 (some_end (g := g) (g1 := ⟨xa, g.pr, g.mv⟩) hR hs hl rfl hx h hT hP hr)
theorem ways12_b (hR : isR g = true) (hp : p = 0 ∨ p = 1) (hs : OkW s) (hl : xb.length = g.ow.length) (hx : ∀ j : Int, 0 ≤ j → j < (g.ow.length : Int) → gI xb j = 1 - p) (hC : AttractT ⟨xb, g.pr, g.mv⟩ (inS g s) p t sc mc) {sy : List Int} {r : Int} (hT : StayT g (inT g s) (fromW t) sy) (hP : StayP g (inT g s) sy r) (hr : (g.ow.length : Int) < r) : sc = minusS (inS g s) sy := by
  have h := none_att hR hp hl hx hC
  rw [inT_inT hs] at h
  refine (set_iff hC.1 (okW_minusS (inS_ok hs) hT.ok)).2 fun j a b => ?_
  rw [stay_end (g := g) (g0 := ⟨xb, g.pr, g.mv⟩) hR hs hl rfl (fun i a b => by show gI xb i ≠ p; rw [hx i a b]; omega) h hT hP hr j a b, from_minusS hT.ok, gB_minusD a b]
  rfl
theorem some_in {i : Int} (a : 0 ≤ i) (b : i < 256) (h : hasW (inS g s) i = true) : gB (inT g s) i = true := by rwa [has_inT a b] at h
theorem some_no {sm : List Int} (hR : isR g = true) (hs : OkW s) (hm : OkW sm) {i : Int} (a : 0 ≤ i) (b : i < (g.ow.length : Int)) (hI : gB (inT g s) i = true) (h : hasW (inS g s) i = false ∨ (!(decide (andS (rowS g s i) sm = [0, 0, 0, 0]))) = false) : ∀ x ∈ gL g.mv i, gB (inT g s) x = true → gB (fromW sm) x = false := by
  have hn := (isR_ok hR).n1
  rcases h with h | h
  · rw [has_inT a (by omega), hI] at h
    cases h
  · exact some_miss hR hs hm a b (by simpa using h)
theorem has_yes2 {sy : List Int} {i : Int} (a : 0 ≤ i) (b : i < 256) (h : hasW sy i = true) : gB (fromW sy) i = true := by rwa [has_W a b] at h
theorem stay_no {sy : List Int} (hR : isR g = true) (hs : OkW s) (hm : OkW sy) {i : Int} (a : 0 ≤ i) (b : i < (g.ow.length : Int)) (h : hasW sy i = false ∨ (!(decide (rowS g s i = [0, 0, 0, 0]))) = false ∨ decide (andS (rowS g s i) sy = [0, 0, 0, 0]) = false) : StayAt g (inT g s) (fromW sy) i := by
  have hn := (isR_ok hR).n1
  rcases h with h | h | h
  · rw [has_W a (by omega)] at h
    exact stayAt_out h
  · exact stayAt_none hR hs a b (by simpa using h)
  · exact stayAt_hit hR hs hm a b (of_decide_eq_false h)
end
end Go.Proofs.YtkpljmalbmcdfaaDoor
