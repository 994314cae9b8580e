/-
  Plain: what decomp.Solve tells, and what follows. No program.
-/
import Derived.Test.YtplpgfcjjnaigaaDoorPureDec
set_option linter.unusedVariables false
set_option linter.unusedSimpArgs false
namespace Go.Proofs.YtplpgfcjjnaigaaDoor
open Go Go.RowKit
/-- What Solve tells of a right game. -/
structure SolT (g : GameL) (s0 s1 m0 m1 : List Int) (d : Int) : Prop where
  ok0 : OkW s0
  ok1 : OkW s1
  sp : Split g g.ow.length (inP s0) (inP s1) (gI m0) (gI m1)
  l0 : m0.length = g.ow.length
  l1 : m1.length = g.ow.length
  no0 : ∀ i : Int, 0 ≤ i → i < (g.ow.length : Int) → ¬ (inP s0 i ∧ gI g.ow i = 0) → gI m0 i = -1
  no1 : ∀ i : Int, 0 ≤ i → i < (g.ow.length : Int) → ¬ (inP s1 i ∧ gI g.ow i = 1) → gI m1 i = -1
  d1 : 1 ≤ d
  d2 : d ≤ (g.ow.length : Int) + 1
def SolveT (g : GameL) (l0 l1 m0 m1 : List Int) (d : Int) : Prop :=
  (isR g = false ∧ l0 = [] ∧ l1 = [] ∧ m0 = [] ∧ m1 = [] ∧ d = 0) ∨ (isR g = true ∧ ∃ s0 s1, l0 = lsD (fromW s0) 256 ∧ l1 = lsD (fromW s1) 256 ∧ SolT g s0 s1 m0 m1 d)
theorem solve_lens {g : GameL} {l0 l1 m0 m1 : List Int} {d : Int} (h : SolveT g l0 l1 m0 m1 d) : l0.length ≤ 256 ∧ l1.length ≤ 256 ∧ m0.length ≤ 200 ∧ m1.length ≤ 200 ∧ 0 ≤ d ∧ d ≤ 201 := by
  rcases h with ⟨_, rfl, rfl, rfl, rfl, rfl⟩ | ⟨hR, s0, s1, rfl, rfl, h⟩
  · decide
  · have := ls_len (fromW s0) 256
    have := ls_len (fromW s1) 256
    have := h.l0
    have := h.l1
    have := (isR_ok hR).n1
    have := h.d1
    have := h.d2
    omega
theorem isR_no {g : GameL} (h : (rightP g).2 ≠ 0) : isR g = false := by unfold isR; simpa using h
/-- The moves that are left: those of the region's own positions. -/
def CutK (g : GameL) (s : List Int) (p : Int) (m xs : List Int) (k : Int) : Prop := xs.length = m.length ∧ ∀ i : Int, 0 ≤ i → i < (m.length : Int) → gI xs i = if i < k ∧ ¬ (inP s i ∧ gI g.ow i = p) then -1 else gI m i
section
variable {g : GameL} {s m xs : List Int} {p k : Int}
theorem cutK_0 : CutK g s p m m 0 := ⟨rfl, fun i a b => by rw [if_neg (by omega)]⟩
theorem cutK_no (h : CutK g s p m xs k) (hk : inP s k ∧ gI g.ow k = p) : CutK g s p m xs (k + 1) := ⟨h.1, fun i a b => by
  rw [h.2 i a b]
  by_cases e : i = k
  · subst e
    rw [if_neg (fun h2 => h2.2 hk), if_neg (fun h2 => h2.2 hk)]
  · by_cases h2 : i < k ∧ ¬ (inP s i ∧ gI g.ow i = p)
    · rw [if_pos h2, if_pos ⟨by omega, h2.2⟩]
    · rw [if_neg h2, if_neg (fun h3 => h2 ⟨by omega, h3.2⟩)]⟩
theorem cutK_yes (h : CutK g s p m xs k) (a0 : 0 ≤ k) (b0 : k < (m.length : Int)) (hk : ¬ (inP s k ∧ gI g.ow k = p)) : CutK g s p m (xs.set k.toNat (-1)) (k + 1) := ⟨by rw [List.length_set]; exact h.1, fun i a b => by
  have hl := h.1
  rw [gI_setE a0 (by omega) a]
  by_cases e : k = i
  · subst e
    rw [if_pos rfl, if_pos ⟨by omega, hk⟩]
  · rw [if_neg e, h.2 i a b]
    by_cases h2 : i < k ∧ ¬ (inP s i ∧ gI g.ow i = p)
    · rw [if_pos h2, if_pos ⟨by omega, h2.2⟩]
    · rw [if_neg h2, if_neg (fun h3 => h2 ⟨by omega, h3.2⟩)]⟩
end
theorem inP_full {n : Nat} (h : n ≤ 256) (i : Int) : inP (fullW (n : Int)) i ↔ 0 ≤ i ∧ i < (n : Int) := by
  unfold inP
  constructor
  · rintro ⟨a, b, c⟩
    rw [from_full, gB_fullD a b] at c
    exact ⟨a, of_decide_eq_true c⟩
  · rintro ⟨a, b⟩
    exact ⟨a, by omega, by rw [from_full, gB_fullD a (by omega)]; exact decide_eq_true b⟩
theorem live_full {g : GameL} (hR : isR g = true) : LiveT g (fullW ((g.ow.length : Nat) : Int)) := by
  have hG := isR_ok hR
  have hn := hG.n1
  refine ⟨fun i hi => ((inP_full (by omega) i).1 hi).2, fun i hi => ?_⟩
  have h1 := (inP_full (by omega) i).1 hi
  have h2 := hG.ne i h1.1 h1.2
  refine ⟨gI (gL g.mv i) 0, mem_of_gI (Int.le_refl 0) (by omega), (inP_full (by omega) _).2 ?_⟩
  exact row_rng hR h1.1 h1.2 (mem_of_gI (Int.le_refl 0) (by omega))
theorem lenW_full {n : Nat} (h : n ≤ 256) : lenW (fullW (n : Int)) = (n : Int) := by
  rw [full_len]
  omega
/-- What Solve ends with. -/
theorem sol_end {g : GameL} (hR : isR g = true) {s0 s1 r0 r1 n0 n1 x0 x1 : List Int} {d k0 k1 : Int} (h : PartS g (fullW ((g.ow.length : Nat) : Int)) 0 s0 s1 r0 r1 n0 n1) (l0 : r0.length = g.ow.length) (l1 : r1.length = g.ow.length) (h0 : CutK g s0 0 n0 x0 k0) (h1 : CutK g s1 1 n1 x1 k1) (e0 : (g.ow.length : Int) ≤ k0) (e1 : (g.ow.length : Int) ≤ k1)
    (d1 : 1 ≤ d) (d2 : d ≤ max 0 (1 + lenW (fullW ((g.ow.length : Nat) : Int)))) : SolT g s0 s1 x0 x1 d := by
  have hn := (isR_ok hR).n1
  have lp := h.lp
  have lq := h.lq
  have hin := fun i => inP_full (n := g.ow.length) (by omega) i
  rw [lenW_full (by omega)] at d2
  have w0 := h.wp.iffI (J := fun i => 0 ≤ i ∧ i < (g.ow.length : Int)) (fun i => (hin i).symm)
  have w1 := h.wq.iffI (J := fun i => 0 ≤ i ∧ i < (g.ow.length : Int)) (fun i => (hin i).symm)
  have hx0 := h0.1
  have hx1 := h1.1
  refine ⟨h.okp, h.okq, ⟨fun i a b => (h.all i).1 ((hin i).2 ⟨a, b⟩), w0.congr fun i hi e => ?_, w1.congr fun i hi e => ?_⟩, by omega, by omega, fun i a b hc => ?_, fun i a b hc => ?_, d1, by omega⟩
  · have hr := w0.sub i hi
    rw [h0.2 i hr.1 (by omega), if_neg (fun h2 => h2.2 ⟨hi, e⟩)]
  · have hr := w1.sub i hi
    rw [h1.2 i hr.1 (by omega), if_neg (fun h2 => h2.2 ⟨hi, e⟩)]
  · rw [h0.2 i a (by omega), if_pos ⟨by omega, hc⟩]
  · rw [h1.2 i a (by omega), if_pos ⟨by omega, hc⟩]
end Go.Proofs.YtplpgfcjjnaigaaDoor
