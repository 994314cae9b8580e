/-
  The frame: rows of slices that are read: a block whose elements are slices of ints that lie anywhere else. No program.
-/
import Derived.Test.YtklbpajmoklheaaFs
set_option linter.unusedVariables false
set_option linter.unusedSimpArgs false
namespace Go.Proofs.Ytklbpajmoklheaa
open Go Go.RowKit
structure LR (w : World) (b c : Nat) (e : TypeId) (ls : List (List Int)) : Prop where
  ex : ∃ vs : List SliceV, OwnR w (fun k => k = b) (some ⟨b, 0, none⟩) c e vs ∧ vs.length = ls.length ∧ ∀ j, j < ls.length → (vs.getD j ⟨none, 0, 0⟩).n = (ls.getD j []).length ∧ (ls.getD j []).length ≤ (vs.getD j ⟨none, 0, 0⟩).c ∧ ∃ lo hi, RdI w lo hi (vs.getD j ⟨none, 0, 0⟩).A (ls.getD j []) ∧ hi ≤ w.heap.size ∧ (b < lo ∨ hi ≤ b)
section
variable {w w1 : World} {b c : Nat} {e : TypeId} {ls : List (List Int)}
theorem LR.gn (h : LR w b c e ls) (g : w.grownBy w1 none) : LR w1 b c e ls := by
  obtain ⟨vs, h1, h2, h3⟩ := h.ex
  refine ⟨vs, h1.gn g, h2, fun j hj => ?_⟩
  obtain ⟨a, b, lo, hi, r, h4, h5⟩ := h3 j hj
  have := g.size
  exact ⟨a, b, lo, hi, r.gn g, by omega, h5⟩
theorem LR.lt (h : LR w b c e ls) : b < w.heap.size := by
  obtain ⟨vs, h1, _⟩ := h.ex
  exact h1.lt b rfl
theorem LR.new {n : Nat} (h : ∀ S : Nat → Prop, S b → OwnR w S (some ⟨b, 0, none⟩) c e (List.replicate n (⟨none, 0, 0⟩ : SliceV))) : LR w b c e (List.replicate n []) := by
  refine ⟨_, h _ rfl, by rw [List.length_replicate, List.length_replicate], fun j hj => ?_⟩
  have e1 : (List.replicate n (⟨none, 0, 0⟩ : SliceV)).getD j ⟨none, 0, 0⟩ = ⟨none, 0, 0⟩ := by simp only [List.getD_eq_getElem?_getD, List.getElem?_replicate]; split <;> rfl
  have e2 : (List.replicate n ([] : List Int)).getD j [] = [] := by simp only [List.getD_eq_getElem?_getD, List.getElem?_replicate]; split <;> rfl
  rw [e1, e2]
  exact ⟨rfl, Nat.le_refl _, 0, 0, rdI_nil, Nat.zero_le _, .inr (Nat.zero_le _)⟩
theorem ActOp.mono {P : Program} {l : List (Nat × Value)} {ops : List Oper} {k : Nat} {R R' : Option Nat → Value → World → Prop} (h : ActOp P l ops k w R) (hi : ∀ d v w1, R d v w1 → R' d v w1) : ActOp P l ops k w R' := by
  obtain ⟨o, h1, h2, x, v, w1, h3, h4, h5⟩ := h
  exact ⟨o, h1, h2, x, v, w1, h3, h4, hi _ _ _ h5⟩
theorem getD_setV {α : Type} {l : List α} {i j : Nat} {x d : α} (h : i < l.length) : (l.set i x).getD j d = if i = j then x else l.getD j d := by
  simp only [List.getD_eq_getElem?_getD, List.getElem?_set]
  by_cases e : i = j
  · subst e
    rw [if_pos rfl, if_pos rfl, if_pos h]
    rfl
  · rw [if_neg e, if_neg e]
/-- Another slice takes the place of one. -/
theorem storeLR {P : Program} {l : List (Nat × Value)} {ops : List Oper} {k : Nat} {t : TypeId} {i : Int} {R : Option Addr} {n C : Nat} {xs : List Int} {lo hi : Nat}
    (ha : storeAtL l ops k = some (t, .pointer (some ((⟨b, 0, none⟩ : Addr).add (i.toNat * 1))), .slice R n C)) (hok : storeOkX P t [.slice R n C] = true) (h : LR w b c e ls) (hn : n = xs.length) (hC : xs.length ≤ C) (hr : RdI w lo hi R xs) (hhi : hi ≤ w.heap.size) (hS : b < lo ∨ hi ≤ b) (h0 : 0 ≤ i) (h1 : i < (ls.length : Int)) :
    ActOp P l ops k w fun d' v' w1 => d' = none ∧ w.grownBy w1 (some b) ∧ LR w1 b c e (ls.set i.toNat xs) := by
  obtain ⟨vs, k1, k2, k3⟩ := h.ex
  refine (storeR (α := SliceV) (x := ⟨R, n, C⟩) ha rfl rfl hok rfl k1 h0 (by omega)).mono fun d v w1 hh => ?_
  obtain ⟨hd, hg, hO⟩ := hh
  have hsz := hg.size
  refine ⟨hd, hg, vs.set i.toNat ⟨R, n, C⟩, hO, by rw [List.length_set, List.length_set, k2], fun j hj => ?_⟩
  rw [List.length_set] at hj
  rw [getD_setV (l := vs) (by omega), getD_setV (l := ls) (by omega)]
  by_cases e : i.toNat = j
  · rw [if_pos e, if_pos e]
    exact ⟨hn, hC, lo, hi, hr.gb hg hS, by omega, hS⟩
  · rw [if_neg e, if_neg e]
    obtain ⟨a, b', lo', hi', r, h4, h5⟩ := k3 j hj
    exact ⟨a, b', lo', hi', r.gb hg h5, by omega, h5⟩
theorem LR.rdII (h : LR w b c e ls) (hl : ls.length * 24 ≤ 140737488351232) : RdII w 0 w.heap.size (some ⟨b, 0, none⟩) ls := by
  obtain ⟨vs, k1, k2, k3⟩ := h.ex
  refine ⟨hl, fun j => (vs.getD j ⟨none, 0, 0⟩).A, fun j => (vs.getD j ⟨none, 0, 0⟩).c, fun i q hi hq => ?_, fun j hj => ?_⟩
  · obtain rfl : q = 0 := by omega
    obtain ⟨ad, hA, hs, h0, hc⟩ := k1.get (i : Int) (by omega) (by omega) (sz := 1) rfl
    refine ⟨ad, hA, Nat.zero_le _, hs, ?_⟩
    have := hc 0 _ rfl
    refine this.trans ?_
    show some (Value.slice (gA vs (i : Int)).A (gA vs (i : Int)).n (gA vs (i : Int)).c) = _
    rw [show gA vs (i : Int) = vs.getD i ⟨none, 0, 0⟩ from rfl, (k3 i hi).1]
  · obtain ⟨a, b', lo', hi', r, h4, h5⟩ := k3 j hj
    exact ⟨b', r.wide (Nat.zero_le _) h4⟩
end
end Go.Proofs.Ytklbpajmoklheaa
