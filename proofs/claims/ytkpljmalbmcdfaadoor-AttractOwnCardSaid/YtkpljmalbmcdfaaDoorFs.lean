/-
  The frame of the walks, ninth part: rows that are read out of blocks and out of own rows. Conditions: none; plain lemmas, over any program.
-/
import Derived.Test.YtkpljmalbmcdfaaDoorFr
set_option linter.unusedVariables false
namespace Go.Proofs.YtkpljmalbmcdfaaDoor
open Go Go.RowKit
theorem rdI_nil {w : World} {lo hi : Nat} : RdI w lo hi none [] := ⟨by simp, fun i q hi' hq => by simp at hi'⟩
theorem rdI_isNone {w : World} {lo hi : Nat} {A : Option Addr} {l : List Int} (h : RdI w lo hi A l) (hA : A.isNone = true) : l = [] := by
  cases l with
  | nil => rfl
  | cons x l =>
    obtain ⟨ad, e, _⟩ := h.row 0 0 (by simp) (by omega)
    rw [e] at hA
    cases hA
theorem rdII_nil {w : World} {lo hi : Nat} : RdII w lo hi none [] := ⟨by simp, fun _ => none, fun _ => 0, fun i q hi' hq => by simp at hi', fun i hi' => by simp at hi'⟩
theorem rdR_nil {α : Type} [Enc α] {w : World} {lo hi : Nat} : RdR w lo hi none ([] : List α) := ⟨by simp, fun i q hi' hq => by simp at hi'⟩
theorem Bx.rdI {w : World} {b : Nat} {cs : List Value} {T : TypeId} {l : List Int} (h : Bx w b cs T) (e : cs = ints l) (hl : l.length * 8 ≤ 140737488351232) : RdI w 0 w.heap.size (some ⟨b, 0, none⟩) l := by
  subst e
  refine ⟨hl, fun i q hi hq => ⟨_, rfl, Nat.zero_le _, h.lt, ?_⟩⟩
  obtain rfl : q = 0 := by omega
  rw [add_zero, Nat.mul_one, add_plain]
  refine h.cell ?_
  simp only [ints, List.getElem?_map, List.getElem?_eq_getElem hi, List.getD_eq_getElem?_getD, Option.map_some, Option.getD_some]
theorem Bx.rdR {α : Type} [Enc α] {w : World} {b : Nat} {cs : List Value} {T : TypeId} {l : List α} (h : Bx w b cs T) (e : rows l = cs) (hl : l.length * Enc.bytes α ≤ 140737488351232) : RdR w 0 w.heap.size (some ⟨b, 0, none⟩) l := by
  refine ⟨hl, fun i q hi hq => ⟨_, rfl, Nat.zero_le _, h.lt, ?_⟩⟩
  rw [add_add', add_plain]
  refine h.cell ?_
  rw [← e, rows_get l hi hq]
  exact getD_some (by rw [Enc.len]; exact hq)
def RowsC (w : World) : List Value → List (List Int) → Prop
  | [], [] => True
  | v :: cs, l :: ls => (∃ R C, v = .slice R l.length C ∧ l.length ≤ C ∧ RdI w 0 w.heap.size R l) ∧ RowsC w cs ls
  | _, _ => False
theorem RowsC.at_ {w : World} : ∀ {cs : List Value} {ls : List (List Int)}, RowsC w cs ls → ∀ i, i < ls.length → ∃ R C, cs[i]? = some (.slice R (ls.getD i []).length C) ∧ (ls.getD i []).length ≤ C ∧ RdI w 0 w.heap.size R (ls.getD i [])
  | [], [], _, i, hi => by simp at hi
  | [], _ :: _, h, _, _ => h.elim
  | _ :: _, [], h, _, _ => h.elim
  | v :: cs, l :: ls, h, 0, _ => by
    obtain ⟨⟨R, C, rfl, h1, h2⟩, _⟩ := h
    exact ⟨R, C, rfl, h1, h2⟩
  | v :: cs, l :: ls, h, i + 1, hi => by
    have := RowsC.at_ h.2 i (by simp at hi; omega)
    simpa using this
theorem Bx.rdII {w : World} {b : Nat} {cs : List Value} {T : TypeId} {ls : List (List Int)} (h : Bx w b cs T) (hr : RowsC w cs ls) (hl : ls.length * 24 ≤ 140737488351232) : RdII w 0 w.heap.size (some ⟨b, 0, none⟩) ls := by
  have hx : ∀ i, ∃ R C, i < ls.length → cs[i]? = some (.slice R (ls.getD i []).length C) ∧ (ls.getD i []).length ≤ C ∧ RdI w 0 w.heap.size R (ls.getD i []) := fun i => by
    by_cases hi : i < ls.length
    · obtain ⟨R, C, h1⟩ := hr.at_ i hi
      exact ⟨R, C, fun _ => h1⟩
    · exact ⟨none, 0, fun h => absurd h hi⟩
  refine ⟨hl, fun i => Classical.choose (hx i), fun i => Classical.choose (Classical.choose_spec (hx i)), fun i q hi hq => ⟨_, rfl, Nat.zero_le _, h.lt, ?_⟩, fun i hi => (Classical.choose_spec (Classical.choose_spec (hx i)) hi).2⟩
  obtain rfl : q = 0 := by omega
  rw [add_zero, Nat.mul_one, add_plain]
  exact h.cell (Classical.choose_spec (Classical.choose_spec (hx i)) hi).1
theorem OwnR.rdI0 {w : World} {base : Nat} {os : List (Option Nat)} {A : Option Addr} {c : Nat} {e : TypeId} {l : List Int} (h : OwnR w (Sx base os) A c e l) (hl : l.length * 8 ≤ 140737488351232) : RdI w 0 w.heap.size A l := (h.rdR hl).rdI.wide (Nat.zero_le _) (Nat.le_refl _)
theorem OwnLL.rdII0 {w : World} {base : Nat} {os : List (Option Nat)} {A : Option Addr} {c : Nat} {e e2 : TypeId} {ls : List (List Int)} (h : OwnLL w base os A c e e2 ls) (hl : ls.length * 24 ≤ 140737488351232) (hi : ∀ i, i < ls.length → (ls.getD i []).length * 8 ≤ 140737488351232) : RdII w 0 w.heap.size A ls := (h.rdII hl hi).wide (Nat.zero_le _) (Nat.le_refl _)
theorem OwnLL.cap {w : World} {base : Nat} {os : List (Option Nat)} {A : Option Addr} {c : Nat} {e e2 : TypeId} {ls : List (List Int)} (h : OwnLL w base os A c e e2 ls) : ls.length ≤ c := by
  obtain ⟨rs, hl, ho, _⟩ := h
  rw [← hl]
  exact ho.cap
theorem OwnLL.lt {w : World} {base : Nat} {os : List (Option Nat)} {A : Option Addr} {c : Nat} {e e2 : TypeId} {ls : List (List Int)} (h : OwnLL w base os A c e e2 ls) : ∀ k, obk A = some k → k < w.heap.size := by
  obtain ⟨rs, hl, ho, _⟩ := h
  exact ho.lt
theorem OwnLL.as {w : World} {base : Nat} {os : List (Option Nat)} {A : Option Addr} {c : Nat} {e e2 : TypeId} {ls ls' : List (List Int)} (h : OwnLL w base os A c e e2 ls) (q : ls = ls') : OwnLL w base os A c e e2 ls' := q ▸ h
theorem inner_len {w : World} {lo hi : Nat} {A : Option Addr} {ls : List (List Int)} (h : RdII w lo hi A ls) : ∀ i, i < ls.length → (ls.getD i []).length * 8 ≤ 140737488351232 := by
  obtain ⟨_, R, C, _, h2⟩ := h
  exact fun i hi => (h2 i hi).2.len
theorem takeLL_push {xs l : List (List Int)} {k : Int} (h : xs = l.take k.toNat) (h0 : 0 ≤ k) (h1 : k < (l.length : Int)) : xs ++ [gL l k] = l.take (k + 1).toNat := by
  subst h
  rw [show (k + 1).toNat = k.toNat + 1 by omega, List.take_succ_eq_append_getElem (by omega)]
  simp only [gL, List.getD_eq_getElem?_getD, List.getElem?_eq_getElem (show k.toNat < l.length by omega), Option.getD_some]
theorem takeLL_end {xs l : List (List Int)} {k : Int} (h : xs = l.take k.toNat) (h1 : (l.length : Int) ≤ k) : xs = l := by rw [h, List.take_of_length_le (by omega)]
theorem Bx.own0 {α : Type} [Enc α] {w : World} {b : Nat} {T : TypeId} {S : Nat → Prop} (h : Bx w b [] T) (hS : S b) : OwnR w S (some ⟨b, 0, none⟩) 0 T ([] : List α) := h.ownR (n := 0) (l := ([] : List α)) rfl hS (Nat.zero_le _)
end Go.Proofs.YtkpljmalbmcdfaaDoor
