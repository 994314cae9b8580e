/-
  Plain: one lift; what the least tuples are bounded by; tuples that are lifted as far as it goes. No program.
-/
import Derived.Test.YtklbpajmoklheaaPureEven
set_option linter.unusedVariables false
namespace Go.Proofs.Ytklbpajmoklheaa
open Go Go.RowKit
def liftR (g : GameL) (l : List Tup) (i : Int) : Tup :=
  if (isR g && decide (l.length = g.ow.length)) = true ∧ 0 ≤ i ∧ i < l.length then (if cmpT (gT l i) (liftT g l i) 0 < 0 then liftT g l i else gT l i) else tup0
theorem liftR_no {g : GameL} {l : List Tup} {i : Int} (h : (isR g && decide (l.length = g.ow.length)) = false ∨ i < 0 ∨ i ≥ l.length) : tup0 = liftR g l i := by
  rw [liftR, if_neg]
  rintro ⟨h1, h2, h3⟩
  rcases h with h | h | h
  · rw [h1] at h; cases h
  · omega
  · omega
theorem liftR_up {g : GameL} {l : List Tup} {i : Int} (h : (isR g && decide (l.length = g.ow.length)) = true) (h0 : 0 ≤ i) (h1 : i < l.length) (hc : cmpT (gT l i) (bestB (upG g l i) (gI g.ow i) (gL g.mv i)).1 0 < 0) : (bestB (upG g l i) (gI g.ow i) (gL g.mv i)).1 = liftR g l i := by
  have hc : cmpT (gT l i) (liftT g l i) 0 < 0 := hc
  rw [liftR, if_pos ⟨h, h0, h1⟩, if_pos hc]
  rfl
theorem liftR_stay {g : GameL} {l : List Tup} {i : Int} (h : (isR g && decide (l.length = g.ow.length)) = true) (h0 : 0 ≤ i) (h1 : i < l.length) (hc : ¬ cmpT (gT l i) (bestB (upG g l i) (gI g.ow i) (gL g.mv i)).1 0 < 0) : gT l i = liftR g l i := by
  have hc : ¬ cmpT (gT l i) (liftT g l i) 0 < 0 := hc
  rw [liftR, if_pos ⟨h, h0, h1⟩, if_neg hc]
theorem liftR_in {g : GameL} {l : List Tup} {i : Int} (hR : isR g = true) (hl : l.length = g.ow.length) (h0 : 0 ≤ i) (h1 : i < l.length) : liftR g l i = if cmpT (gT l i) (liftT g l i) 0 < 0 then liftT g l i else gT l i := by
  rw [liftR, if_pos ⟨by rw [hR, decide_eq_true hl]; rfl, h0, h1⟩]
theorem solved_stay {g : GameL} {l : List Tup} (hR : isR g = true) (h : SolvedT g l) {i : Int} (h0 : 0 ≤ i) (h1 : i < l.length) : liftR g l i = gT l i := by
  rcases h with ⟨x, _⟩ | ⟨_, h⟩
  · rw [hR] at x; cases x
  · have hl := h.bnd.1
    have hp := h.pre i h0 (by omega)
    have := cmp_swap (gT l i) (liftT g l i) 0
    rw [liftR_in hR hl h0 h1, if_neg]
    unfold leT at hp
    omega
theorem solved_cnt {g : GameL} {l : List Tup} (hR : isR g = true) (h : SolvedT g l) {i k : Int} (h0 : 0 ≤ i) (h1 : i < l.length) (k0 : 0 ≤ k) (k1 : k < 4) :
    0 ≤ gI [(gT l i).c0, (gT l i).c1, (gT l i).c2, (gT l i).c3] k ∧ gI [(gT l i).c0, (gT l i).c1, (gT l i).c2, (gT l i).c3] k ≤ cnt g.pr (2 * k + 1) ∧ ((gT l i).top = true → gI [(gT l i).c0, (gT l i).c1, (gT l i).c2, (gT l i).c3] k = 0) := by
  rcases h with ⟨x, _⟩ | ⟨_, h⟩
  · rw [hR] at x; cases x
  · have hl := h.bnd.1
    obtain ⟨ht, h0, h1, h2, h3⟩ := h.bnd.2 i h0 (by omega)
    obtain rfl | rfl | rfl | rfl : k = 0 ∨ k = 1 ∨ k = 2 ∨ k = 3 := by omega
    · exact ⟨h0.1, h0.2, fun e => by rw [ht e]; rfl⟩
    · exact ⟨h1.1, h1.2, fun e => by rw [ht e]; rfl⟩
    · exact ⟨h2.1, h2.2, fun e => by rw [ht e]; rfl⟩
    · exact ⟨h3.1, h3.2, fun e => by rw [ht e]; rfl⟩
theorem solved_n {g : GameL} {l : List Tup} (hR : isR g = true) (h : SolvedT g l) : l.length = g.ow.length := by
  rcases h with ⟨x, _⟩ | ⟨_, h⟩
  · rw [hR] at x; cases x
  · exact h.bnd.1
theorem solved_ok {g : GameL} {l : List Tup} (h : SolvedT g l) : okL l := by
  rcases h with ⟨_, rfl⟩ | ⟨_, h⟩
  · intro i
    have e : gT ([] : List Tup) i = tup0 := rfl
    rw [e]
    exact ⟨by decide, by decide, by decide, by decide⟩
  · exact bnd_ok h.bnd
theorem liftR_ge {g : GameL} {l : List Tup} (hR : isR g = true) (hl : l.length = g.ow.length) {i : Int} (h0 : 0 ≤ i) (h1 : i < l.length) : 0 ≤ cmpT (liftR g l i) (gT l i) 0 := by
  have := cmp_swap (gT l i) (liftT g l i) 0
  rw [liftR_in hR hl h0 h1]
  split
  · omega
  · have := cmp_swap (gT l i) (gT l i) 0
    omega
theorem right_of {g : GameL} (h : (rightP g).2 = 0) : isR g = true := by simpa [isR] using h
/-- Counters from 0 to the numbers of positions; a Top's may be so too. -/
def RawB (g : GameL) (t : Tup) : Prop := (0 ≤ t.c0 ∧ t.c0 ≤ cnt g.pr 1) ∧ (0 ≤ t.c1 ∧ t.c1 ≤ cnt g.pr 3) ∧ (0 ≤ t.c2 ∧ t.c2 ≤ cnt g.pr 5) ∧ (0 ≤ t.c3 ∧ t.c3 ≤ cnt g.pr 7)
def RawK (g : GameL) (t : Tup) (k : Int) : Prop := ∀ q : Int, 0 ≤ q → q < k → 0 ≤ gI [t.c0, t.c1, t.c2, t.c3] q ∧ gI [t.c0, t.c1, t.c2, t.c3] q ≤ cnt g.pr (2 * q + 1)
theorem rawK_0 {g : GameL} {t : Tup} : RawK g t 0 := fun q a b => by omega
theorem rawK_next {g : GameL} {t : Tup} {k : Int} (h : RawK g t k) (h0 : 0 ≤ gI [t.c0, t.c1, t.c2, t.c3] k) (h1 : gI [t.c0, t.c1, t.c2, t.c3] k ≤ cnt g.pr (2 * k + 1)) : RawK g t (k + 1) := fun q a b => by
  by_cases e : q = k
  · subst e; exact ⟨h0, h1⟩
  · exact h q a (by omega)
theorem rawK_4 {g : GameL} {t : Tup} {k : Int} (h : RawK g t k) (hk : k = 4) : RawB g t := by
  subst hk
  exact ⟨h 0 (by omega) (by omega), h 1 (by omega) (by omega), h 2 (by omega) (by omega), h 3 (by omega) (by omega)⟩
def RawI (g : GameL) (l : List Tup) (i : Int) : Prop := ∀ j : Int, 0 ≤ j → j < i → RawB g (gT l j)
theorem rawI_0 {g : GameL} {l : List Tup} : RawI g l 0 := fun j a b => by omega
theorem rawI_next {g : GameL} {l : List Tup} {i : Int} (h : RawI g l i) (h2 : RawB g (gT l i)) : RawI g l (i + 1) := fun j a b => by
  by_cases e : j = i
  · subst e; exact h2
  · exact h j a (by omega)
def RawL (g : GameL) (l : List Tup) : Prop := l.length = g.ow.length ∧ ∀ j : Int, 0 ≤ j → j < g.ow.length → RawB g (gT l j)
theorem raw_zero (g : GameL) : RawB g tup0 := ⟨⟨Int.le_refl _, cnt_ge _ _⟩, ⟨Int.le_refl _, cnt_ge _ _⟩, ⟨Int.le_refl _, cnt_ge _ _⟩, ⟨Int.le_refl _, cnt_ge _ _⟩⟩
theorem raw_bnd {g : GameL} {t : Tup} (h : BndG g t) : RawB g t := ⟨h.c0, h.c1, h.c2, h.c3⟩
def normT (t : Tup) : Tup := if t.top = true then tupT else t
theorem norm_top (t : Tup) : (normT t).top = t.top := by unfold normT; split <;> simp_all [tupT]
theorem norm_bnd {g : GameL} {t : Tup} (h : RawB g t) : BndG g (normT t) := by
  unfold normT
  split
  · exact ⟨fun _ => rfl, ⟨Int.le_refl _, cnt_ge _ _⟩, ⟨Int.le_refl _, cnt_ge _ _⟩, ⟨Int.le_refl _, cnt_ge _ _⟩, ⟨Int.le_refl _, cnt_ge _ _⟩⟩
  · rename_i ht
    exact ⟨fun e => absurd e ht, h.1, h.2.1, h.2.2.1, h.2.2.2⟩
theorem up_norm {n0 n1 n2 n3 p : Int} {t : Tup} : upT n0 n1 n2 n3 p (normT t) = upT n0 n1 n2 n3 p t := by
  unfold normT
  split
  · rename_i ht
    have h1 : tupT.top = true := rfl
    rw [upT, upT, if_pos h1, if_pos ht]
  · rfl
theorem cmp_norm {a b : Tup} {p : Int} : cmpT a (normT b) p = cmpT a b p := by
  unfold normT
  split
  · rename_i hb
    cases ha : a.top
    · rw [← cmp_ft ha hb, ← cmp_ft ha (b := tupT) rfl]
    · rw [← cmp_tt ha hb, ← cmp_tt ha (b := tupT) rfl]
  · rfl
theorem gT_norm (l : List Tup) (i : Int) : gT (l.map normT) i = normT (gT l i) := by
  show (l.map normT).getD i.toNat tup0 = normT (l.getD i.toNat tup0)
  rw [List.getD_eq_getElem?_getD, List.getD_eq_getElem?_getD, List.getElem?_map]
  cases l[i.toNat]? <;> rfl
theorem lift_norm (g : GameL) (l : List Tup) (i : Int) : liftT g (l.map normT) i = liftT g l i := by
  unfold liftT
  rw [bestB_congr (f' := upG g l i) (fun m _ => by unfold upG; rw [gT_norm, up_norm])]
theorem norm_bndL {g : GameL} {l : List Tup} (h : RawL g l) : BndL g (l.map normT) := ⟨by rw [List.length_map]; exact h.1, fun i a b => by rw [gT_norm]; exact norm_bnd (h.2 i a b)⟩
theorem raw_ok {g : GameL} {l : List Tup} (h : RawL g l) : okL l := fun i => by
  have hl := h.1
  by_cases hi : 0 ≤ i ∧ i < g.ow.length
  · obtain ⟨a, b, c, d⟩ := h.2 i hi.1 hi.2
    exact ⟨by omega, by omega, by omega, by omega⟩
  · by_cases h0 : 0 ≤ i
    · have e : gT l i = tup0 := by
        show l.getD i.toNat tup0 = tup0
        rw [List.getD_eq_getElem?_getD, List.getElem?_eq_none (by omega)]
        rfl
      rw [e]
      exact ⟨by decide, by decide, by decide, by decide⟩
    · by_cases hn : 0 < g.ow.length
      · obtain ⟨a, b, c, d⟩ := h.2 0 (by omega) (by omega)
        have e : gT l i = gT l 0 := by
          show l.getD i.toNat tup0 = l.getD (0 : Int).toNat tup0
          rw [show i.toNat = (0 : Int).toNat by omega]
        rw [e]
        exact ⟨by omega, by omega, by omega, by omega⟩
      · have e : gT l i = tup0 := by
          show l.getD i.toNat tup0 = tup0
          rw [List.getD_eq_getElem?_getD, List.getElem?_eq_none (by omega)]
          rfl
        rw [e]
        exact ⟨by decide, by decide, by decide, by decide⟩
theorem raw_set {g : GameL} (hR : isR g = true) {l : List Tup} (h : RawL g l) {i : Int} (h0 : 0 ≤ i) (h1 : i < l.length) : RawL g (l.set i.toNat (liftR g l i)) := by
  have hl := h.1
  refine ⟨by rw [List.length_set]; exact hl, fun j a b => ?_⟩
  rw [gT_set h0 h1 a]
  split
  · rw [liftR_in hR hl h0 h1]
    split
    · have := lift_bnd (isR_ok hR) (norm_bndL h).1 (norm_bndL h).2 h0 (by omega)
      rw [lift_norm] at this
      exact raw_bnd this
    · exact h.2 i h0 (by omega)
  · exact h.2 j a b
/-- All tuples below k stay as they are. -/
def StillT (g : GameL) (l : List Tup) (k : Int) : Prop := ∀ j : Int, 0 ≤ j → j < k → liftR g l j = gT l j
theorem still_0 {g : GameL} {l : List Tup} : StillT g l 0 := fun j a b => by omega
theorem still_next {g : GameL} {l : List Tup} {k : Int} {s : Bool} (h : s = true → StillT g l k) (hs : s = true) (e : decide (liftR g l k = gT l k) = true) : StillT g l (k + 1) := fun j a b => by
  by_cases h2 : j = k
  · subst h2; exact of_decide_eq_true e
  · exact h hs j a (by omega)
theorem still_least {g : GameL} (hR : isR g = true) {p s : List Tup} (h : RawL g p) {k : Int} (hk : (p.length : Int) ≤ k) (hs : StillT g p k) (hS : SolvedT g s) {i : Int} (h0 : 0 ≤ i) (h1 : i < p.length) : 0 ≤ cmpT (gT p i) (gT s i) 0 := by
  have hl := h.1
  rcases hS with ⟨x, _⟩ | ⟨_, hS⟩
  · rw [hR] at x; cases x
  · have hpre : PreT g (p.map normT) := fun j a b => by
      have e := hs j a (by omega)
      rw [liftR_in hR hl a (by omega)] at e
      rw [lift_norm, gT_norm]
      show cmpT _ (normT _) 0 ≤ 0
      rw [cmp_norm]
      have hsw := cmp_swap (gT p j) (liftT g p j) 0
      have hrf := cmp_swap (gT p j) (gT p j) 0
      split at e
      · rw [e] at hsw ⊢
        omega
      · omega
    have := hS.low _ (norm_bndL h) hpre i h0 (by omega)
    rw [gT_norm] at this
    unfold leT at this
    rw [cmp_norm] at this
    have := cmp_swap (gT p i) (gT s i) 0
    omega
theorem arrT {w : World} {AD : Addr} {t : Tup} (hc : ∀ q v, (Enc.enc t)[q]? = some v → w.cell? (AD.add q) = some v) (k : Int) (h0 : 0 ≤ k) (h1 : k < 4) : w.cell? ((AD.add 1).add (k.toNat * 1)) = some (.int .i64 (gI [t.c0, t.c1, t.c2, t.c3] k)) := by
  rw [add_add']
  refine hc _ _ ?_
  obtain rfl | rfl | rfl | rfl : k = 0 ∨ k = 1 ∨ k = 2 ∨ k = 3 := by omega
  all_goals rfl
end Go.Proofs.Ytklbpajmoklheaa
