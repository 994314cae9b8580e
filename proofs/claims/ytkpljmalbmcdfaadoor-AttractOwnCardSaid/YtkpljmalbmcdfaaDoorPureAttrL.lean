/-
  Plain: what the laws of attracting ask. No program.
-/
import Derived.Test.YtkpljmalbmcdfaaDoorPureFrA
set_option linter.unusedVariables false
set_option linter.unusedSimpArgs false
namespace Go.Proofs.YtkpljmalbmcdfaaDoor
open Go Go.RowKit
section
variable {g : GameL} {s t ss mvs : List Int} {p : Int}
theorem att_ok (h : AttractT g s p t ss mvs) : OkW ss := h.1
theorem att_len (h : AttractT g s p t ss mvs) : mvs.length ≤ 200 := by
  rcases h.2 with h2 | h2
  · rw [h2.2.2]
    decide
  · have := h2.2.2.2.ml
    have := (isR_ok h2.1).n1
    omega
theorem att_in (h : AttractT g s p t ss mvs) (hR : isR g = true) (hp : p = 0 ∨ p = 1) : AttrT g (inT g s) p (fromW t) (fromW ss) ∧ MovA g (inT g s) p (fromW t) (fromW ss) mvs := by
  rcases h.2 with h2 | h2
  · exact absurd ⟨hR, hp⟩ h2.1
  · exact h2.2.2
theorem att_out (h : AttractT g s p t ss mvs) (hR : ¬ (isR g = true ∧ (p = 0 ∨ p = 1))) : ss = [0, 0, 0, 0] ∧ mvs = [] := by
  rcases h.2 with h2 | h2
  · exact h2.2
  · exact absurd ⟨h2.1, h2.2.1⟩ hR
theorem inS_inS (hs : OkW s) : inS g (inS g s) = inS g s := by
  refine (set_iff (inS_ok (inS_ok hs)) (inS_ok hs)).2 fun j a b => ?_
  show gB (inT g (inS g s)) j = gB (inT g s) j
  rw [gB_inT a b, show fromW (inS g s) = inT g s from rfl, gB_inT a b]
  cases gB (fromW s) j <;> cases decide (j < (g.ow.length : Int)) <;> rfl
theorem inT_inT (hs : OkW s) : inT g (inS g s) = inT g s := congrArg fromW (inS_inS hs)
/- Again. -/
theorem again_eq {s t a b m1 m2 : List Int} (h1 : AttractT g s p t a m1) (h2 : AttractT g s p a b m2) : a = b := by
  by_cases hR : isR g = true ∧ (p = 0 ∨ p = 1)
  · obtain ⟨ha, _⟩ := att_in h1 hR.1 hR.2
    obtain ⟨hb, _⟩ := att_in h2 hR.1 hR.2
    refine (set_iff h1.1 h2.1).2 fun j x y => Bool.eq_iff_iff.2 ⟨fun hj => hb.cl.base j x y hj (ha.sub j x y hj), fun hj => hb.least _ ⟨fun j _ _ hj _ => hj, ha.cl.own, ha.cl.oth⟩ j x y hj⟩
  · rw [(att_out h1 hR).1, (att_out h2 hR).1]
theorem again_mv {s t a b m1 m2 : List Int} (h1 : AttractT g s p t a m1) (h2 : AttractT g s p a b m2) {i : Int} (i0 : 0 ≤ i) (i1 : i < (m2.length : Int)) : gI m2 i = -1 := by
  have e := again_eq h1 h2
  rcases h2.2 with h3 | h3
  · rw [h3.2.2] at i1
    simp at i1
    omega
  · have hm := h3.2.2.2
    rcases hm.mv i i0 (by rw [hm.ml] at i1; exact i1) with h4 | h4
    · rw [e] at h4
      rw [h4.1] at h4
      cases h4.2.1
    · exact h4
theorem again_in {s t u a c m1 m2 : List Int} (h1 : AttractT g s p t a m1) (h2 : AttractT g s p (orS t u) c m2) : inW a c = true := by
  rw [inW_from h1.1 h2.1, inD_iff]
  by_cases hR : isR g = true ∧ (p = 0 ∨ p = 1)
  · obtain ⟨ha, _⟩ := att_in h1 hR.1 hR.2
    obtain ⟨hc, _⟩ := att_in h2 hR.1 hR.2
    exact ha.least _ ⟨fun j x y hj hI => hc.cl.base j x y (by rw [from_orS, gB_orD x y, hj]; rfl) hI, hc.cl.own, hc.cl.oth⟩
  · intro j x y hj
    rw [(att_out h1 hR).1, from_00, gB_emptyD] at hj
    cases hj
theorem again_none {s d m1 : List Int} (h1 : AttractT g s p [0, 0, 0, 0] d m1) : d = [0, 0, 0, 0] := by
  by_cases hR : isR g = true ∧ (p = 0 ∨ p = 1)
  · obtain ⟨hd, _⟩ := att_in h1 hR.1 hR.2
    refine (set_iff h1.1 okW_00).2 fun j x y => Bool.eq_iff_iff.2 ⟨fun hj => ?_, fun hj => ?_⟩
    · rw [from_00]
      refine hd.least emptyD ⟨fun j _ _ hj _ => ?_, fun i a b c d x hx hI hE => ?_, fun i a b c d he hal => ?_⟩ j x y hj
      · rwa [from_00] at hj
      · rw [gB_emptyD] at hE
        cases hE
      · obtain ⟨x, hx, hI⟩ := he
        have := hal x hx hI
        rw [gB_emptyD] at this
        cases this
    · rw [from_00, gB_emptyD] at hj
      cases hj
  · exact (att_out h1 hR).1
theorem again_out {t e m1 : List Int} (h1 : AttractT g [0, 0, 0, 0] p t e m1) : e = [0, 0, 0, 0] := by
  by_cases hR : isR g = true ∧ (p = 0 ∨ p = 1)
  · obtain ⟨hd, _⟩ := att_in h1 hR.1 hR.2
    refine (set_iff h1.1 okW_00).2 fun j x y => Bool.eq_iff_iff.2 ⟨fun hj => ?_, fun hj => ?_⟩
    · have := hd.sub j x y hj
      rw [gB_inT x y, from_00, gB_emptyD] at this
      cases this
    · rw [from_00, gB_emptyD] at hj
      cases hj
  · exact (att_out h1 hR).1
/- Traps. -/
theorem traps_in (hs : OkW s) (h : AttractT g (inS g s) p t ss mvs) (hR : isR g = true) (hp : p = 0 ∨ p = 1) : inW ss (inS g s) = true := by
  obtain ⟨ha, _⟩ := att_in h hR hp
  rw [inT_inT hs] at ha
  rw [inW_from h.1 (inS_ok hs), inD_iff]
  exact ha.sub
theorem traps_to (hs : OkW s) (ht : OkW t) (h : AttractT g (inS g s) p t ss mvs) (hR : isR g = true) (hp : p = 0 ∨ p = 1) : inW (andS t (inS g s)) ss = true := by
  obtain ⟨ha, _⟩ := att_in h hR hp
  rw [inT_inT hs] at ha
  rw [inW_from (okW_andS ht (inS_ok hs)) h.1, inD_iff]
  intro j a b hj
  rw [from_andS, gB_andD a b, Bool.and_eq_true] at hj
  exact ha.cl.base j a b hj.1 hj.2
/-- The words of a position's moves within. -/
theorem mem_row {l : List Int} {j : Int} (a : 0 ≤ j) (b : j < 256) : gB (fromW (ofW l)) j = decide (j ∈ l) := by rw [from_of, gB_ofD l a b]
theorem ne_00 {x : List Int} (hx : OkW x) {j : Int} (a : 0 ≤ j) (b : j < 256) (h : gB (fromW x) j = true) : decide (x = [0, 0, 0, 0]) = false := by
  refine decide_eq_false fun e => ?_
  rw [e, from_00, gB_emptyD] at h
  cases h
theorem eq_00 {x : List Int} (hx : OkW x) (h : ∀ j : Int, 0 ≤ j → j < 256 → gB (fromW x) j = false) : x = [0, 0, 0, 0] :=
  (set_iff hx okW_00).2 fun j a b => by rw [h j a b, from_00, gB_emptyD]
theorem not_00 {x : List Int} (hx : OkW x) (h : ¬ x = [0, 0, 0, 0]) : ∃ j : Int, 0 ≤ j ∧ j < 256 ∧ gB (fromW x) j = true := by
  have hex : ¬ ∀ j : Int, 0 ≤ j → j < 256 → gB (fromW x) j = false := fun hh => h (eq_00 hx hh)
  obtain ⟨j, hj⟩ := Classical.not_forall.1 hex
  by_cases a : 0 ≤ j
  · by_cases b : j < 256
    · exact ⟨j, a, b, by
        by_cases hb : gB (fromW x) j = true
        · exact hb
        · exact absurd (fun _ _ => by simpa using hb) hj⟩
    · exact absurd (fun _ h2 => absurd h2 b) hj
  · exact absurd (fun h2 => absurd h2 a) hj
theorem row_rng (hR : isR g = true) {i x : Int} (a : 0 ≤ i) (b : i < (g.ow.length : Int)) (hx : x ∈ gL g.mv i) : 0 ≤ x ∧ x < (g.ow.length : Int) := by
  have hG := isR_ok hR
  obtain ⟨k, hk, rfl⟩ := List.mem_iff_getElem.1 hx
  have := hG.mv i a b (k : Int) (by omega) (by omega)
  rwa [gI_eq (by omega) (by omega)] at this
theorem traps_own (hs : OkW s) (h : AttractT g (inS g s) p t ss mvs) (hR : isR g = true) (hp : p = 0 ∨ p = 1) {i : Int} (a : 0 ≤ i) (b : i < (g.ow.length : Int)) (hi : hasW (minusS (inS g s) ss) i = true) (ho : gI g.ow i = p) :
    andS (andS (ofW (gL g.mv i)) (inS g s)) ss = [0, 0, 0, 0] := by
  obtain ⟨ha, _⟩ := att_in h hR hp
  have hn := (isR_ok hR).n1
  rw [inT_inT hs] at ha
  rw [hasW_from, hasD, decide_eq_true ⟨a, by omega⟩, Bool.true_and, from_minusS h.1, gB_minusD a (by omega), Bool.and_eq_true] at hi
  refine eq_00 (okW_andS (okW_andS (ofW_ok _) (inS_ok hs)) h.1) fun j c d => ?_
  rw [from_andS, gB_andD c d, from_andS, gB_andD c d, mem_row c d]
  by_cases hj : j ∈ gL g.mv i
  · cases hI : gB (fromW (inS g s)) j
    · simp
    · cases hS : gB (fromW ss) j
      · simp
      · have := ha.cl.own i a b hi.1 ho j hj hI hS
        rw [this] at hi
        simp at hi
  · simp [hj]
theorem traps_oth (hs : OkW s) (h : AttractT g (inS g s) p t ss mvs) (hR : isR g = true) (hp : p = 0 ∨ p = 1) {i : Int} (a : 0 ≤ i) (b : i < (g.ow.length : Int)) (hi : hasW (minusS (inS g s) ss) i = true) (ho : gI g.ow i ≠ p) (hl : ¬ andS (ofW (gL g.mv i)) (inS g s) = [0, 0, 0, 0]) :
    ¬ andS (andS (ofW (gL g.mv i)) (inS g s)) (minusS (inS g s) ss) = [0, 0, 0, 0] := by
  obtain ⟨ha, _⟩ := att_in h hR hp
  have hn := (isR_ok hR).n1
  rw [inT_inT hs] at ha
  rw [hasW_from, hasD, decide_eq_true ⟨a, by omega⟩, Bool.true_and, from_minusS h.1, gB_minusD a (by omega), Bool.and_eq_true] at hi
  intro e
  obtain ⟨y, y0, y1, hy⟩ := not_00 (okW_andS (ofW_ok _) (inS_ok hs)) hl
  rw [from_andS, gB_andD y0 y1, mem_row y0 y1, Bool.and_eq_true] at hy
  have := ha.cl.oth i a b hi.1 ho ⟨y, of_decide_eq_true hy.1, hy.2⟩ fun x hx hI => by
    have hx2 := row_rng hR a b hx
    have e2 : gB (fromW (andS (andS (ofW (gL g.mv i)) (inS g s)) (minusS (inS g s) ss))) x = false := by rw [e, from_00, gB_emptyD]
    have hI2 : gB (fromW (inS g s)) x = true := hI
    rw [from_andS, gB_andD hx2.1 (by omega), from_andS, gB_andD hx2.1 (by omega), mem_row hx2.1 (by omega), from_minusS h.1, gB_minusD hx2.1 (by omega), hI2, decide_eq_true hx] at e2
    simpa using e2
  rw [this] at hi
  simp at hi
/- Own. -/
theorem own_all {g g1 : GameL} {I T A B : List Bool} {p : Int} (hl : g1.ow.length = g.ow.length) (hm : g1.mv = g.mv) (ho : ∀ i : Int, 0 ≤ i → i < (g.ow.length : Int) → gI g1.ow i = p) (ha : AttrT g I p T A) (hb : AttrT g1 I p T B) : ∀ j : Int, 0 ≤ j → j < 256 → gB A j = true → gB B j = true := by
  refine ha.least B ⟨hb.cl.base, fun i a b c d x hx hI hB => ?_, fun i a b c d he hal => ?_⟩
  · exact hb.cl.own i a (by rw [hl]; exact b) c (ho i a b) x (by rw [hm]; exact hx) hI hB
  · obtain ⟨x, hx, hI⟩ := he
    exact hb.cl.own i a (by rw [hl]; exact b) c (ho i a b) x (by rw [hm]; exact hx) hI (hal x hx hI)
theorem own_none {g g0 : GameL} {I T A C : List Bool} {p : Int} (hl : g0.ow.length = g.ow.length) (hm : g0.mv = g.mv) (ho : ∀ i : Int, 0 ≤ i → i < (g.ow.length : Int) → gI g0.ow i ≠ p) (ha : AttrT g I p T A) (hc : AttrT g0 I p T C) : ∀ j : Int, 0 ≤ j → j < 256 → gB C j = true → gB A j = true := by
  refine hc.least A ⟨ha.cl.base, fun i a b c d x hx hI hB => ?_, fun i a b c d he hal => ?_⟩
  · rw [hl] at b
    exact absurd d (ho i a b)
  · rw [hl] at b
    rw [hm] at he hal
    by_cases hp : gI g.ow i = p
    · obtain ⟨x, hx, hI⟩ := he
      exact ha.cl.own i a b c hp x hx hI (hal x hx hI)
    · exact ha.cl.oth i a b c hp he hal
end
end Go.Proofs.YtkpljmalbmcdfaaDoor
