/-
  Plain: what the walks of plays (plays.Run and the document's) lean on. No program.
-/
import Derived.Test.YtklbpajmoklheaaPureRun
import Derived.Test.YtklbpajmoklheaaLem
set_option linter.unusedVariables false
set_option linter.unusedSimpArgs false
namespace Go.Proofs.Ytklbpajmoklheaa
open Go Go.RowKit
section
variable {g : GameL} {l : List Int} {k j t : Int}
theorem drop_mem (h0 : 0 ≤ j) (h1 : j < ((l.drop k.toNat).length : Int)) : gI (l.drop k.toNat) j ∈ l := List.mem_of_mem_drop (in_at (l := l.drop k.toNat) h0 h1 rfl)
theorem top_next (h : t = topP g (l.take j.toNat)) (h0 : 0 ≤ j) (h1 : j < (l.length : Int)) : max t (gI g.pr (gI l j)) = topP g (l.take (j + 1).toNat) := by
  rw [show (j + 1).toNat = j.toNat + 1 by omega, List.take_succ_eq_append_getElem (by omega), h]
  simp only [topP, List.foldl_append, List.foldl_cons, List.foldl_nil]
  simp only [gI, List.getD_eq_getElem?_getD, List.getElem?_eq_getElem (show j.toNat < l.length by omega), Option.getD_some]
theorem top_all (h : (l.length : Int) ≤ k) : topP g (l.take k.toNat) = topP g l := by rw [List.take_of_length_le (by omega)]
end
/-- The stand behind one, and whether it may be. -/
def nxt (g : GameL) (p : Int) (mv sc : List Int) (s : Int × Int) : (Int × Int) × Bool :=
  if gI g.ow s.1 = p then ((if s.1 < (mv.length : Int) then gI mv s.1 else -1, s.2), decide ((if s.1 < (mv.length : Int) then gI mv s.1 else -1) ∈ gL g.mv s.1))
  else ((gI (gL g.mv s.1) (if Int.tmod (gI sc s.2) ((gL g.mv s.1).length : Int) < 0 then Int.tmod (gI sc s.2) ((gL g.mv s.1).length : Int) + ((gL g.mv s.1).length : Int) else Int.tmod (gI sc s.2) ((gL g.mv s.1).length : Int)), (s.2 + 1) % (sc.length : Int)), true)
section
variable {g : GameL} {p i m k x y : Int} {mv sc : List Int} {s : Int × Int} {ls : List (Int × Int)} {la : List Int}
theorem nxt_next : nextS g p mv sc s = if (nxt g p mv sc s).2 = true then some (nxt g p mv sc s).1 else none := by
  unfold nextS nxt
  by_cases e : gI g.ow s.1 = p
  · rw [if_pos e, if_pos e]
    generalize (if s.1 < (mv.length : Int) then gI mv s.1 else -1) = m
    by_cases h : m ∈ gL g.mv s.1
    · simp [h]
    · simp [h]
  · rw [if_neg e, if_neg e]
    rfl
theorem nxt_yes (h : (nxt g p mv sc s).2 = true) : nextS g p mv sc s = some (nxt g p mv sc s).1 := by rw [nxt_next, if_pos h]
theorem nxt_no (h : (nxt g p mv sc s).2 = false) : nextS g p mv sc s = none := by rw [nxt_next, if_neg (by rw [h]; decide)]
theorem nxt_own (h : gI g.ow x = p) (hm : m = if x < (mv.length : Int) then gI mv x else -1) : nxt g p mv sc (x, y) = ((m, y), decide (m ∈ gL g.mv x)) := by
  unfold nxt
  rw [if_pos h, hm]
theorem nxt_oth (h : gI g.ow x ≠ p) (hk : k = if Int.tmod (gI sc y) ((gL g.mv x).length : Int) < 0 then Int.tmod (gI sc y) ((gL g.mv x).length : Int) + ((gL g.mv x).length : Int) else Int.tmod (gI sc y) ((gL g.mv x).length : Int)) :
    nxt g p mv sc (x, y) = ((gI (gL g.mv x) k, (y + 1) % (sc.length : Int)), true) := by
  unfold nxt
  rw [if_neg h, hk]
theorem nok (h : (rightP g).2 ≠ 0 ∨ i < 0 ∨ (g.ow.length : Int) ≤ i ∨ (p ≠ 0 ∧ p ≠ 1)) : ¬ okP g i p := by
  rintro ⟨h1, h2, h3, h4⟩
  have : (rightP g).2 = 0 := by unfold isR at h1; exact eq_of_beq h1
  omega
theorem isok (h : (rightP g).2 = 0) (h0 : 0 ≤ i) (h1 : i < (g.ow.length : Int)) (h2 : p = 0 ∨ p = 1) : okP g i p := ⟨by unfold isR; rw [h]; rfl, h0, h1, h2⟩
theorem scN_0 {l : List Int} (h : l.length = 0) : ([0] : List Int) = scN l := by unfold scN; rw [if_pos h]
theorem scN_1 {l : List Int} (h : l.length ≠ 0) : l = scN l := by unfold scN; rw [if_neg h]
theorem run_play (hok : okP g i p) (h64 : sc.length ≤ 64) (hst : StandT g p mv (scN sc) i ls s) (hla : la = ls.map Prod.fst) {v : Int} {k : Nat} (hv : v = ((0 + k : Nat) : Int)) (hk : ls[k]? = some s) :
    RunT g i p mv sc ⟨la.take v.toNat, la.drop v.toNat, topP g (la.drop v.toNat) % 2, 0⟩ := by
  subst hla
  subst hv
  have := RunT.play hok h64 hst hk
  rw [show (((0 + k : Nat) : Int)).toNat = k by omega, ← List.map_take, ← List.map_drop]
  exact this
theorem stand_in {n : Int} (hst : StandT g p mv sc i ls s) (hG : RightG g) (hp : (g.pr.length : Int) = n) (hg : (g.ow.length : Int) = n) (hsc : 0 < sc.length) (a : 0 ≤ i) (b : i < (g.ow.length : Int)) (hla : la = ls.map Prod.fst) : ∀ x ∈ la, 0 ≤ x ∧ x < (g.pr.length : Int) := by
  subst hla
  intro x hx
  obtain ⟨y, hy, rfl⟩ := List.mem_map.1 hx
  have := (hst.rng hG hsc a b).1 y hy
  omega
end
/-! ### The document's -/
def AhT (l : List (Int × Int)) (i : Int) (xa : List Int) (k : Int) : Prop := xa = (l.take (min k i).toNat).map Prod.fst
def RoT (l : List (Int × Int)) (i : Int) (xr : List Int) (k : Int) : Prop := xr = ((l.take k.toNat).drop i.toNat).map Prod.fst
section
variable {g : GameL} {l : List Pr2} {i k t x p : Int} {xa xr : List Int} {mv sc : List Int} {s : Int × Int}
theorem gA_at (h0 : 0 ≤ k) (h1 : k < (l.length : Int)) : gA l k = l[k.toNat]'(by omega) := by
  rw [gA, List.getD_eq_getElem?_getD, List.getElem?_eq_getElem (by omega), Option.getD_some]
theorem ah_in (h : AhT l i xa k) (h0 : 0 ≤ k) (h1 : k < i) (h2 : k < (l.length : Int)) : AhT l i (xa ++ [(gA l k).1]) (k + 1) := by
  unfold AhT at h ⊢
  rw [show (min (k + 1) i).toNat = k.toNat + 1 by omega, List.take_succ_eq_append_getElem (by omega), List.map_append, h, show (min k i).toNat = k.toNat by omega, gA_at h0 h2]
  rfl
theorem ah_out (h : AhT l i xa k) (h1 : ¬ k < i) : AhT l i xa (k + 1) := by
  unfold AhT at h ⊢
  rw [h, show min k i = min (k + 1) i by omega]
theorem ro_out (h : RoT l i xr k) (h0 : 0 ≤ k) (h1 : k < i) : RoT l i xr (k + 1) := by
  unfold RoT at h ⊢
  rw [h, List.drop_of_length_le (by rw [List.length_take]; omega), List.drop_of_length_le (by rw [List.length_take]; omega)]
theorem ro_in (h : RoT l i xr k) (h0 : 0 ≤ k) (hi : 0 ≤ i) (h1 : ¬ k < i) (h2 : k < (l.length : Int)) : RoT l i (xr ++ [(gA l k).1]) (k + 1) := by
  unfold RoT at h ⊢
  rw [show (k + 1).toNat = k.toNat + 1 by omega, List.take_succ_eq_append_getElem (by omega), List.drop_append_of_le_length (by rw [List.length_take]; omega), List.map_append, h, gA_at h0 h2]
  rfl
theorem ah_end (h : AhT l i xa k) (h1 : (l.length : Int) ≤ k) (h2 : i ≤ (l.length : Int)) : xa = (l.take i.toNat).map Prod.fst := by
  unfold AhT at h
  rw [h, show min k i = i by omega]
theorem ro_end (h : RoT l i xr k) (h1 : (l.length : Int) ≤ k) : xr = (l.drop i.toNat).map Prod.fst := by
  unfold RoT at h
  rw [h, List.take_of_length_le (by omega)]
theorem top_up (h : t = topP g xr) (h1 : gI g.pr x > t) : gI g.pr x = topP g (xr ++ [x]) := by
  simp only [topP, List.foldl_append, List.foldl_cons, List.foldl_nil] at h ⊢
  omega
theorem top_no (h : t = topP g xr) (h1 : ¬ gI g.pr x > t) : t = topP g (xr ++ [x]) := by
  simp only [topP, List.foldl_append, List.foldl_cons, List.foldl_nil] at h ⊢
  omega
theorem run_play2 (hok : okP g i p) (h64 : sc.length ≤ 64) (hst : StandT g p mv (scN sc) i l s) (h0 : 0 ≤ k) (hk : l[k.toNat]? = some s) :
    RunT g i p mv sc ⟨(l.take k.toNat).map Prod.fst, (l.drop k.toNat).map Prod.fst, topP g ((l.drop k.toNat).map Prod.fst) % 2, 0⟩ := RunT.play hok h64 hst hk
theorem nok2 (h : isR g = false) : ¬ okP g i p := fun h2 => by have := h2.1; rw [h] at this; cases this
theorem isok2 (h : isR g = true) (h0 : 0 ≤ i) (h1 : i < (g.ow.length : Int)) (h2 : p = 0 ∨ p = 1) : okP g i p := ⟨h, h0, h1, h2⟩
theorem stand_in2 (hst : StandT g p mv sc i l s) (hG : RightG g) (hsc : 0 < sc.length) (a : 0 ≤ i) (b : i < (g.ow.length : Int)) : ∀ x ∈ l, 0 ≤ x.1 ∧ x.1 < (g.pr.length : Int) := fun x hx => by
  have := (hst.rng hG hsc a b).1 x hx
  have := hG.pl
  omega
theorem not_next {y : Pr2} (h : y ∉ l.take k.toNat) (h0 : 0 ≤ k) (h1 : k < (l.length : Int)) (e : decide (gA l k = y) = false) : y ∉ l.take (k + 1).toNat := by
  have e := of_decide_eq_false e
  rw [gA_at h0 h1] at e
  rw [show (k + 1).toNat = k.toNat + 1 by omega, List.take_succ_eq_append_getElem (by omega)]
  simp only [List.mem_append, List.mem_singleton, not_or]
  exact ⟨h, fun e2 => e e2.symm⟩
theorem not_all {y : Pr2} (h : y ∉ l.take k.toNat) (h1 : (l.length : Int) ≤ k) : y ∉ l := by rwa [List.take_of_length_le (by omega)] at h
theorem got_at {y : Pr2} (h0 : 0 ≤ k) (h1 : k < (l.length : Int)) (e : decide (gA l k = y) = true) : l[k.toNat]? = some y := by
  have e := of_decide_eq_true e
  rw [gA_at h0 h1] at e
  rw [List.getElem?_eq_getElem (by omega), e]
theorem next_own {y m : Int} (h : gI g.ow x = p) (hm : m = if x < (mv.length : Int) then gI mv x else -1) (hc : decide (m ∈ gL g.mv x) = true) : nextS g p mv sc (x, y) = some (m, y) := by
  unfold nextS
  rw [if_pos h]
  dsimp only
  rw [← hm, if_pos (of_decide_eq_true hc)]
theorem next_ownno {y m : Int} (h : gI g.ow x = p) (hm : m = if x < (mv.length : Int) then gI mv x else -1) (hc : decide (m ∈ gL g.mv x) = false) : nextS g p mv sc (x, y) = none := by
  unfold nextS
  rw [if_pos h]
  dsimp only
  rw [← hm, if_neg (of_decide_eq_false hc)]
theorem next_oth {y q : Int} (h : gI g.ow x ≠ p) (hk : q = if Int.tmod (gI sc y) ((gL g.mv x).length : Int) < 0 then Int.tmod (gI sc y) ((gL g.mv x).length : Int) + ((gL g.mv x).length : Int) else Int.tmod (gI sc y) ((gL g.mv x).length : Int)) :
    nextS g p mv sc (x, y) = some (gI (gL g.mv x) q, (y + 1) % (sc.length : Int)) := by
  unfold nextS
  rw [if_neg h, hk]
end
end Go.Proofs.Ytklbpajmoklheaa
