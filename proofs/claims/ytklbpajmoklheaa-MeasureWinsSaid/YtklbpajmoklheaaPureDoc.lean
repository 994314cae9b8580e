/-
  Plain: what the document's solver (bailiffref13.Solve) tells. No program.
-/
import Derived.Test.YtklbpajmoklheaaPureWonW
set_option linter.unusedVariables false
set_option linter.unusedSimpArgs false
namespace Go.Proofs.Ytklbpajmoklheaa
open Go Go.RowKit
theorem rise_eq : ∀ {l r : List Int}, l.Pairwise (· < ·) → r.Pairwise (· < ·) → (∀ x, x ∈ l ↔ x ∈ r) → l = r
  | [], [], _, _, _ => rfl
  | [], y :: r, _, _, h => absurd ((h y).2 List.mem_cons_self) List.not_mem_nil
  | x :: l, [], _, _, h => absurd ((h x).1 List.mem_cons_self) List.not_mem_nil
  | x :: l, y :: r, hl, hr, h => by
    rw [List.pairwise_cons] at hl hr
    have e : x = y := by
      rcases List.mem_cons.1 ((h x).1 List.mem_cons_self) with e | e
      · exact e
      · rcases List.mem_cons.1 ((h y).2 List.mem_cons_self) with e2 | e2
        · exact e2.symm
        · have := hl.1 y e2
          have := hr.1 x e
          omega
    subst e
    refine congrArg _ (rise_eq hl.2 hr.2 fun z => ⟨fun hz => ?_, fun hz => ?_⟩)
    · rcases List.mem_cons.1 ((h z).1 (List.mem_cons_of_mem _ hz)) with e | e
      · have := hl.1 z hz
        omega
      · exact e
    · rcases List.mem_cons.1 ((h z).2 (List.mem_cons_of_mem _ hz)) with e | e
      · have := hr.1 z hz
        omega
      · exact e
theorem ones_rise (l : List Bool) (k : Nat) : (onesL l k).Pairwise (· < ·) := by
  unfold onesL
  rw [List.pairwise_map]
  exact (List.Pairwise.filter _ List.pairwise_lt_range).imp (fun h => by omega)
theorem rise_count : ∀ {l : List Int} {i : Int}, l.Pairwise (· < ·) → i ∈ l → l.count i = 1
  | y :: l, i, h, hi => by
    rw [List.pairwise_cons] at h
    rcases List.mem_cons.1 hi with rfl | hi
    · rw [List.count_cons_self, List.count_eq_zero.2 fun k => by have := h.1 _ k; omega]
    · have := h.1 _ hi
      rw [List.count_cons_of_ne (by omega), rise_count h.2 hi]
/-- The regions as rising lists; nothing, if the game is not right. -/
def DocT (g : GameL) (l0 l1 : List Int) : Prop := (isR g = false ∧ l0 = [] ∧ l1 = []) ∨ (isR g = true ∧ ∃ x y : List Bool, x.length = g.ow.length ∧ y.length = g.ow.length ∧ l0 = onesL x g.ow.length ∧ l1 = onesL y g.ow.length ∧ ∃ f0 f1, Split g g.ow.length (inB x) (inB y) f0 f1)
section
variable {g : GameL} {l0 l1 xa xb : List Int} {al x y : List Bool} {k : Int}
theorem all_end (hl : al.length = g.ow.length) (h : ∀ j : Int, 0 ≤ j → j < k → gB al j = true) (hk : (g.ow.length : Int) ≤ k) : al = List.replicate g.ow.length true := by
  refine listB_ext (by rw [hl, List.length_replicate]) fun j a b => ?_
  rw [h j a (by omega)]
  simp only [gB, List.getD_eq_getElem?_getD, List.getElem?_replicate]
  rw [if_pos (by omega)]
  rfl
theorem doc_yes (hR : isR g = true) (h : WonP g (List.replicate g.ow.length true) 0 x y) (ha : xa = onesL x k.toNat) (hb : xb = onesL y k.toNat) (hk : k = (g.ow.length : Int)) : DocT g xa xb := by
  subst hk
  rw [Int.toNat_natCast] at ha hb
  exact .inr ⟨hR, x, y, h.la, h.lb, ha, hb, won_split hR h⟩
theorem doc_no (h : isR g = false) : DocT g [] [] := .inl ⟨h, rfl, rfl⟩
theorem doc_len (h : DocT g l0 l1) : l0.length ≤ 200 ∧ l1.length ≤ 200 := by
  rcases h with ⟨_, h1, h2⟩ | ⟨hR, x, y, _, _, h1, h2, _⟩
  · rw [h1, h2]
    simp
  · have := (isR_ok hR).n1
    have := ones_len x g.ow.length
    have := ones_len y g.ow.length
    rw [h1, h2]
    omega
end
end Go.Proofs.Ytklbpajmoklheaa
