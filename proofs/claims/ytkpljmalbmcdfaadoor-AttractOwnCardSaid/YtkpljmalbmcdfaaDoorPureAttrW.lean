/-
  Plain: rounds by which what leads into a set is found, where one player alone moves. No program.
-/
import Derived.Test.YtkpljmalbmcdfaaDoorPureAttrL
set_option linter.unusedVariables false
set_option linter.unusedSimpArgs false
namespace Go.Proofs.YtkpljmalbmcdfaaDoor
open Go Go.RowKit
def OwnAt (g : GameL) (I C : List Bool) (i : Int) : Prop := gB I i = true → ∀ x ∈ gL g.mv i, gB I x = true → gB C x = true → gB C i = true
def StayAt (g : GameL) (I C : List Bool) (i : Int) : Prop := gB C i = true → (∃ x ∈ gL g.mv i, gB I x = true) → ∃ x ∈ gL g.mv i, gB I x = true ∧ gB C x = true
theorem cB_mono {l r : List Bool} : ∀ n : Nat, (∀ j : Int, 0 ≤ j → j < n → gB l j = true → gB r j = true) → cB l n ≤ cB r n
  | 0, _ => by rw [cB_0, cB_0]; omega
  | n + 1, h => by
    have ih := cB_mono n fun j a b => h j a (by omega)
    have h2 := h (n : Int) (by omega) (by omega)
    rw [cB_s, cB_s]
    cases hl : gB l (n : Int)
    · simp only [Bool.false_eq_true, if_false]
      split <;> omega
    · rw [h2 hl]
      omega
theorem cB_le (l : List Bool) (m : Nat) : ∀ n : Nat, (∀ j : Int, 0 ≤ j → j < n → gB l j = true → j < (m : Int)) → cB l n ≤ m
  | 0, _ => by rw [cB_0]; omega
  | n + 1, h => by
    have ih := cB_le l m n fun j a b => h j a (by omega)
    by_cases hn : n < m
    · have h2 : ∀ k : Nat, cB l k ≤ (k : Int) := fun k => by
        have := ls_len l k
        unfold cB
        omega
      have := h2 (n + 1)
      omega
    · have : gB l (n : Int) = false := by
        by_cases hb : gB l (n : Int) = true
        · have := h (n : Int) (by omega) (by omega) hb
          omega
        · simpa using hb
      rw [cB_s, this]
      simp
      omega
structure SomeT (g : GameL) (I T : List Bool) (sm : List Int) : Prop where
  ok : OkW sm
  base : ∀ j : Int, 0 ≤ j → j < 256 → gB T j = true → gB I j = true → gB (fromW sm) j = true
  sub : ∀ j : Int, 0 ≤ j → j < 256 → gB (fromW sm) j = true → gB I j = true
  snd : ∀ C, (∀ j : Int, 0 ≤ j → j < 256 → gB T j = true → gB I j = true → gB C j = true) → (∀ i : Int, 0 ≤ i → i < (g.ow.length : Int) → OwnAt g I C i) → ∀ j : Int, 0 ≤ j → j < 256 → gB (fromW sm) j = true → gB C j = true
def SomeP (g : GameL) (I : List Bool) (sm : List Int) (r : Int) : Prop := r ≤ cB (fromW sm) 256 ∨ ∀ i : Int, 0 ≤ i → i < (g.ow.length : Int) → OwnAt g I (fromW sm) i
def SomeK (g : GameL) (I : List Bool) (sm : List Int) (r k : Int) : Prop := r + 1 ≤ cB (fromW sm) 256 ∨ (SomeP g I sm r ∧ ∀ i : Int, 0 ≤ i → i < k → OwnAt g I (fromW sm) i)
theorem someK_0 {g : GameL} {I : List Bool} {sm : List Int} {r : Int} (h : SomeP g I sm r) : SomeK g I sm r 0 := .inr ⟨h, fun i a b => by omega⟩
theorem someP_0 {g : GameL} {I : List Bool} {sm : List Int} : SomeP g I sm 0 := .inl (cB_ge _ _)
theorem someP_s {g : GameL} {I : List Bool} {sm : List Int} {r k : Int} (h : SomeK g I sm r k) (hk : (g.ow.length : Int) ≤ k) : SomeP g I sm (r + 1) := by
  rcases h with h | h
  · exact .inl h
  · exact .inr fun i a b => h.2 i a (by omega)
section
variable {g : GameL} {s t sm sy : List Int}
theorem some_start (hs : OkW s) (ht : OkW t) : SomeT g (inT g s) (fromW t) (andS t (inS g s)) := by
  have e : ∀ j : Int, 0 ≤ j → j < 256 → gB (fromW (andS t (inS g s))) j = (gB (fromW t) j && gB (inT g s) j) := fun j a b => by
    rw [from_andS, gB_andD a b]
    rfl
  refine ⟨okW_andS ht (inS_ok hs), fun j a b c d => by rw [e j a b, c, d]; rfl, fun j a b h => ?_, fun C hb _ j a b h => ?_⟩
  · rw [e j a b, Bool.and_eq_true] at h
    exact h.2
  · rw [e j a b, Bool.and_eq_true] at h
    exact hb j a b h.1 h.2
/-- The words of the moves of i within. -/
def rowS (g : GameL) (s : List Int) (i : Int) : List Int := andS (ofW (gL g.mv i)) (inS g s)
theorem rowS_ok (hs : OkW s) (i : Int) : OkW (rowS g s i) := okW_andS (ofW_ok _) (inS_ok hs)
theorem gB_rowS {i j : Int} (a : 0 ≤ j) (b : j < 256) : gB (fromW (rowS g s i)) j = (decide (j ∈ gL g.mv i) && gB (inT g s) j) := by
  rw [rowS, from_andS, gB_andD a b, mem_row a b]
  rfl
theorem some_hit (hR : isR g = true) (hs : OkW s) (hm : OkW sm) {i : Int} (a : 0 ≤ i) (b : i < (g.ow.length : Int)) (h : ¬ andS (rowS g s i) sm = [0, 0, 0, 0]) : ∃ x ∈ gL g.mv i, gB (inT g s) x = true ∧ gB (fromW sm) x = true := by
  obtain ⟨x, x0, x1, hx⟩ := not_00 (okW_andS (rowS_ok hs i) hm) h
  rw [from_andS, gB_andD x0 x1, gB_rowS x0 x1, Bool.and_eq_true, Bool.and_eq_true] at hx
  exact ⟨x, of_decide_eq_true hx.1.1, hx.1.2, hx.2⟩
theorem some_miss (hR : isR g = true) (hs : OkW s) (hm : OkW sm) {i : Int} (a : 0 ≤ i) (b : i < (g.ow.length : Int)) (h : andS (rowS g s i) sm = [0, 0, 0, 0]) : ∀ x ∈ gL g.mv i, gB (inT g s) x = true → gB (fromW sm) x = false := by
  intro x hx hI
  have hn := (isR_ok hR).n1
  have h2 := row_rng hR a b hx
  have e : gB (fromW (andS (rowS g s i) sm)) x = false := by rw [h, from_00, gB_emptyD]
  rw [from_andS, gB_andD h2.1 (by omega), gB_rowS h2.1 (by omega), decide_eq_true hx, hI] at e
  simpa using e
theorem row_hit (hR : isR g = true) (hs : OkW s) {i : Int} (h : ¬ rowS g s i = [0, 0, 0, 0]) : ∃ x ∈ gL g.mv i, gB (inT g s) x = true := by
  obtain ⟨x, x0, x1, hx⟩ := not_00 (rowS_ok hs i) h
  rw [gB_rowS x0 x1, Bool.and_eq_true] at hx
  exact ⟨x, of_decide_eq_true hx.1, hx.2⟩
theorem row_miss (hR : isR g = true) (hs : OkW s) {i : Int} (a : 0 ≤ i) (b : i < (g.ow.length : Int)) (h : rowS g s i = [0, 0, 0, 0]) : ∀ x ∈ gL g.mv i, gB (inT g s) x = false := by
  intro x hx
  have hn := (isR_ok hR).n1
  have h2 := row_rng hR a b hx
  have e : gB (fromW (rowS g s i)) x = false := by rw [h, from_00, gB_emptyD]
  rw [gB_rowS h2.1 (by omega), decide_eq_true hx] at e
  simpa using e
theorem gB_withW (hm : OkW sm) {i j : Int} (a : 0 ≤ j) (b : j < 256) : gB (fromW (withW sm i)) j = if i = j then true else gB (fromW sm) j := by rw [from_with hm, gB_put (from_len _) a b]
theorem gB_lessW (hm : OkW sm) {i j : Int} (a : 0 ≤ j) (b : j < 256) : gB (fromW (lessW sm i)) j = if i = j then false else gB (fromW sm) j := by rw [from_less hm, gB_put (from_len _) a b]
theorem some_addT {T : List Bool} (hR : isR g = true) (hs : OkW s) (h : SomeT g (inT g s) T sm) {i : Int} (a : 0 ≤ i) (b : i < (g.ow.length : Int)) (hi : gB (inT g s) i = true) (hx : ∃ x ∈ gL g.mv i, gB (inT g s) x = true ∧ gB (fromW sm) x = true) : SomeT g (inT g s) T (withW sm i) := by
  have hn := (isR_ok hR).n1
  refine ⟨okW_with h.ok, fun j c d e f => ?_, fun j c d e => ?_, fun C hb hc j c d e => ?_⟩
  · rw [gB_withW h.ok c d]
    split
    · rfl
    · exact h.base j c d e f
  · rw [gB_withW h.ok c d] at e
    by_cases hj : i = j
    · subst hj
      exact hi
    · rw [if_neg hj] at e
      exact h.sub j c d e
  · rw [gB_withW h.ok c d] at e
    by_cases hj : i = j
    · subst hj
      obtain ⟨x, hx, hI, hS⟩ := hx
      have h2 := row_rng hR a b hx
      exact hc i a b hi x hx hI (h.snd C hb hc x h2.1 (by omega) hS)
    · rw [if_neg hj] at e
      exact h.snd C hb hc j c d e
theorem some_addK {r : Int} (hR : isR g = true) (hm : OkW sm) {i : Int} (h : SomeK g (inT g s) sm r i) (a : 0 ≤ i) (b : i < (g.ow.length : Int)) (hi : gB (inT g s) i = true) (hx : ∃ x ∈ gL g.mv i, gB (inT g s) x = true ∧ gB (fromW sm) x = true) : SomeK g (inT g s) (withW sm i) r (i + 1) := by
  have hn := (isR_ok hR).n1
  by_cases hin : gB (fromW sm) i = true
  · have e : fromW (withW sm i) = fromW sm := list_ext (from_len _) (from_len _) fun j c d => by
      rw [gB_withW hm c d]
      split
      · rename_i e
        rw [← e, hin]
      · rfl
    unfold SomeK SomeP at h ⊢
    rw [e]
    rcases h with h | h
    · exact .inl h
    · refine .inr ⟨h.1, fun j c d => ?_⟩
      by_cases hj : j = i
      · subst hj
        exact fun _ _ _ _ _ => hin
      · exact h.2 j c (by omega)
  · have hc : cB (fromW (withW sm i)) 256 = cB (fromW sm) 256 + 1 := by
      rw [from_with hm, cB_put (from_len _) i true 256 (by omega), if_pos (by omega), if_pos rfl, if_neg hin]
      omega
    refine .inl ?_
    rcases h with h | h
    · omega
    · rcases h.1 with h1 | h1
      · omega
      · obtain ⟨x, hx, hI, hS⟩ := hx
        exact absurd (h1 i a b hi x hx hI hS) hin
theorem some_skipK {r : Int} {i : Int} (h : SomeK g (inT g s) sm r i) (hx : gB (inT g s) i = true → ∀ x ∈ gL g.mv i, gB (inT g s) x = true → gB (fromW sm) x = false) : SomeK g (inT g s) sm r (i + 1) := by
  rcases h with h | h
  · exact .inl h
  · refine .inr ⟨h.1, fun j c d => ?_⟩
    by_cases hj : j = i
    · subst hj
      intro hI x hm hIx hS
      rw [hx hI x hm hIx] at hS
      cases hS
    · exact h.2 j c (by omega)
theorem some_end {g1 : GameL} {T A : List Bool} {p r : Int} (hR : isR g = true) (hs : OkW s) (hl : g1.ow.length = g.ow.length) (hm : g1.mv = g.mv) (ho : ∀ i : Int, 0 ≤ i → i < (g.ow.length : Int) → gI g1.ow i = p) (hA : AttrT g1 (inT g s) p T A)
    (h : SomeT g (inT g s) T sm) (hp : SomeP g (inT g s) sm r) (hr : (g.ow.length : Int) < r) : ∀ j : Int, 0 ≤ j → j < 256 → gB A j = gB (fromW sm) j := by
  have hcl : ∀ i : Int, 0 ≤ i → i < (g.ow.length : Int) → OwnAt g (inT g s) (fromW sm) i := by
    rcases hp with hp | hp
    · have := cB_le (fromW sm) g.ow.length 256 fun j a b hj => inT_lt j a (by omega) (h.sub j a (by omega) hj)
      omega
    · exact hp
  intro j a b
  refine Bool.eq_iff_iff.2 ⟨hA.least _ ⟨h.base, fun i c d e f x hx hI hS => ?_, fun i c d e f he hal => ?_⟩ j a b, h.snd A hA.cl.base (fun i c d hI x hx hIx hS => ?_) j a b⟩
  · exact hcl i c (by rw [hl] at d; exact d) e x (by rw [hm] at hx; exact hx) hI hS
  · rw [hl] at d
    exact absurd (ho i c d) f
  · exact hA.cl.own i c (by rw [hl]; exact d) hI (ho i c d) x (by rw [hm]; exact hx) hIx hS
/- What stays outside. -/
structure StayT (g : GameL) (I T : List Bool) (sy : List Int) : Prop where
  ok : OkW sy
  base : ∀ j : Int, 0 ≤ j → j < 256 → gB T j = true → gB (fromW sy) j = false
  sub : ∀ j : Int, 0 ≤ j → j < 256 → gB (fromW sy) j = true → gB I j = true
  snd : ∀ C, (∀ j : Int, 0 ≤ j → j < 256 → gB T j = true → gB I j = true → gB C j = true) → (∀ i : Int, 0 ≤ i → i < (g.ow.length : Int) → gB I i = true → (∃ x ∈ gL g.mv i, gB I x = true) → (∀ x ∈ gL g.mv i, gB I x = true → gB C x = true) → gB C i = true) →
    ∀ j : Int, 0 ≤ j → j < 256 → gB I j = true → gB (fromW sy) j = false → gB C j = true
def StayP (g : GameL) (I : List Bool) (sy : List Int) (r : Int) : Prop := cB (fromW sy) 256 ≤ (g.ow.length : Int) - r ∨ ∀ i : Int, 0 ≤ i → i < (g.ow.length : Int) → StayAt g I (fromW sy) i
def StayK (g : GameL) (I : List Bool) (sy : List Int) (r k : Int) : Prop := cB (fromW sy) 256 ≤ (g.ow.length : Int) - (r + 1) ∨ (StayP g I sy r ∧ ∀ i : Int, 0 ≤ i → i < k → StayAt g I (fromW sy) i)
theorem stayK_0 {I : List Bool} {r : Int} (h : StayP g I sy r) : StayK g I sy r 0 := .inr ⟨h, fun i a b => by omega⟩
theorem stayP_s {I : List Bool} {r k : Int} (h : StayK g I sy r k) (hk : (g.ow.length : Int) ≤ k) : StayP g I sy (r + 1) := by
  rcases h with h | h
  · exact .inl h
  · exact .inr fun i a b => h.2 i a (by omega)
theorem stay_start (hs : OkW s) (ht : OkW t) : StayT g (inT g s) (fromW t) (minusS (inS g s) t) := by
  have e : ∀ j : Int, 0 ≤ j → j < 256 → gB (fromW (minusS (inS g s) t)) j = (gB (inT g s) j && !gB (fromW t) j) := fun j a b => by
    rw [from_minusS ht, gB_minusD a b]
    rfl
  refine ⟨okW_minusS (inS_ok hs) ht, fun j a b c => by rw [e j a b, c]; simp, fun j a b h => ?_, fun C hb _ j a b h h2 => ?_⟩
  · rw [e j a b, Bool.and_eq_true] at h
    exact h.1
  · rw [e j a b, h] at h2
    exact hb j a b (by simpa using h2) h
theorem stayP_0 {T : List Bool} (h : StayT g (inT g s) T sy) : StayP g (inT g s) sy 0 :=
  .inl (by have := cB_le (fromW sy) g.ow.length 256 fun j a b hj => inT_lt j a (by omega) (h.sub j a (by omega) hj); omega)
theorem stay_lessT {T : List Bool} (hR : isR g = true) (h : StayT g (inT g s) T sy) {i : Int} (a : 0 ≤ i) (b : i < (g.ow.length : Int)) (hi : gB (inT g s) i = true) (he : ∃ x ∈ gL g.mv i, gB (inT g s) x = true) (hx : ∀ x ∈ gL g.mv i, gB (inT g s) x = true → gB (fromW sy) x = false) : StayT g (inT g s) T (lessW sy i) := by
  have hn := (isR_ok hR).n1
  refine ⟨okW_less h.ok, fun j c d e => ?_, fun j c d e => ?_, fun C hb hc j c d e f => ?_⟩
  · rw [gB_lessW h.ok c d]
    split
    · rfl
    · exact h.base j c d e
  · rw [gB_lessW h.ok c d] at e
    split at e
    · cases e
    · exact h.sub j c d e
  · rw [gB_lessW h.ok c d] at f
    by_cases hj : i = j
    · subst hj
      exact hc i a b hi he fun x hm hI => by
        have h2 := row_rng hR a b hm
        exact h.snd C hb hc x h2.1 (by omega) hI (hx x hm hI)
    · rw [if_neg hj] at f
      exact h.snd C hb hc j c d e f
theorem stay_lessK {r : Int} (hR : isR g = true) (hm : OkW sy) {i : Int} (h : StayK g (inT g s) sy r i) (a : 0 ≤ i) (b : i < (g.ow.length : Int)) (hi : gB (fromW sy) i = true) (he : ∃ x ∈ gL g.mv i, gB (inT g s) x = true) (hx : ∀ x ∈ gL g.mv i, gB (inT g s) x = true → gB (fromW sy) x = false) : StayK g (inT g s) (lessW sy i) r (i + 1) := by
  have hn := (isR_ok hR).n1
  have hc : cB (fromW (lessW sy i)) 256 = cB (fromW sy) 256 - 1 := by
    rw [from_less hm, cB_put (from_len _) i false 256 (by omega), if_pos (by omega), if_neg (by decide), if_pos hi]
    omega
  refine .inl ?_
  rcases h with h | h
  · omega
  · rcases h.1 with h1 | h1
    · omega
    · obtain ⟨x, hm, hI, hS⟩ := h1 i a b hi he
      rw [hx x hm hI] at hS
      cases hS
theorem stay_skipK {r : Int} {i : Int} (h : StayK g (inT g s) sy r i) (hx : StayAt g (inT g s) (fromW sy) i) : StayK g (inT g s) sy r (i + 1) := by
  rcases h with h | h
  · exact .inl h
  · refine .inr ⟨h.1, fun j c d => ?_⟩
    by_cases hj : j = i
    · subst hj
      exact hx
    · exact h.2 j c (by omega)
theorem stayAt_out {i : Int} {I : List Bool} (h : gB (fromW sy) i = false) : StayAt g I (fromW sy) i := fun h2 => by rw [h] at h2; cases h2
theorem stayAt_none (hR : isR g = true) (hs : OkW s) {i : Int} (a : 0 ≤ i) (b : i < (g.ow.length : Int)) (h : rowS g s i = [0, 0, 0, 0]) : StayAt g (inT g s) (fromW sy) i := fun _ ⟨x, hx, hI⟩ => by
  rw [row_miss hR hs a b h x hx] at hI
  cases hI
theorem stayAt_hit (hR : isR g = true) (hs : OkW s) (hm : OkW sy) {i : Int} (a : 0 ≤ i) (b : i < (g.ow.length : Int)) (h : ¬ andS (rowS g s i) sy = [0, 0, 0, 0]) : StayAt g (inT g s) (fromW sy) i := fun _ _ => some_hit hR hs hm a b h
theorem stay_end {g0 : GameL} {T A : List Bool} {p r : Int} (hR : isR g = true) (hs : OkW s) (hl : g0.ow.length = g.ow.length) (hm : g0.mv = g.mv) (ho : ∀ i : Int, 0 ≤ i → i < (g.ow.length : Int) → gI g0.ow i ≠ p) (hA : AttrT g0 (inT g s) p T A)
    (h : StayT g (inT g s) T sy) (hp : StayP g (inT g s) sy r) (hr : (g.ow.length : Int) < r) : ∀ j : Int, 0 ≤ j → j < 256 → gB A j = (gB (inT g s) j && !gB (fromW sy) j) := by
  have hcl : ∀ i : Int, 0 ≤ i → i < (g.ow.length : Int) → StayAt g (inT g s) (fromW sy) i := by
    rcases hp with hp | hp
    · have := cB_ge (fromW sy) 256
      omega
    · exact hp
  have hn := (isR_ok hR).n1
  have e : ∀ j : Int, 0 ≤ j → j < 256 → gB (fromW (minusS (inS g s) sy)) j = (gB (inT g s) j && !gB (fromW sy) j) := fun j a b => by
    rw [from_minusS h.ok, gB_minusD a b]
    rfl
  intro j a b
  rw [← e j a b]
  refine Bool.eq_iff_iff.2 ⟨hA.least _ ⟨fun j a b c d => by rw [e j a b, h.base j a b c, d]; rfl, fun i c d e2 f x hx hI hS => ?_, fun i c d hI f he hal => ?_⟩ j a b, fun hj => ?_⟩
  · rw [hl] at d
    exact absurd f (ho i c d)
  · rw [hl] at d
    rw [hm] at he hal
    rw [e i c (by omega), hI]
    by_cases hs2 : gB (fromW sy) i = true
    · obtain ⟨x, hx, hIx, hSx⟩ := hcl i c d hs2 he
      have h2 := row_rng hR c d hx
      have := hal x hx hIx
      rw [e x h2.1 (by omega), hSx] at this
      simp at this
    · simpa using hs2
  · rw [e j a b, Bool.and_eq_true] at hj
    refine h.snd A hA.cl.base (fun i c d hI he hal => ?_) j a b hj.1 (by simpa using hj.2)
    exact hA.cl.oth i c (by rw [hl]; exact d) hI (ho i c d) (by rw [hm]; exact he) (by rw [hm]; exact hal)
end
end Go.Proofs.YtkpljmalbmcdfaaDoor
