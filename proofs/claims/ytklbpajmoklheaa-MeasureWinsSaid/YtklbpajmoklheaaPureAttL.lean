/-
  Plain: what is attracted: the least such set; the document's way to it, round by round. No program.
-/
import Derived.Test.YtklbpajmoklheaaPureRight
import Derived.Test.YtklbpajmoklheaaPureSet
set_option linter.unusedVariables false
set_option linter.unusedSimpArgs false
namespace Go.Proofs.Ytklbpajmoklheaa
open Go Go.RowKit
/-- C has what of T lies within, and all from which the player p comes into C by moves within I. -/
structure AttC (g : GameL) (I : List Bool) (p : Int) (T C : List Bool) : Prop where
  base : ∀ j : Int, 0 ≤ j → j < 256 → gB T j = true → gB I j = true → gB C j = true
  own : ∀ i : Int, 0 ≤ i → i < (g.ow.length : Int) → gB I i = true → gI g.ow i = p → ∀ x ∈ gL g.mv i, gB I x = true → gB C x = true → gB C i = true
  oth : ∀ i : Int, 0 ≤ i → i < (g.ow.length : Int) → gB I i = true → gI g.ow i ≠ p → (∃ x ∈ gL g.mv i, gB I x = true) → (∀ x ∈ gL g.mv i, gB I x = true → gB C x = true) → gB C i = true
/-- S is the least such set. -/
structure AttrT (g : GameL) (I : List Bool) (p : Int) (T S : List Bool) : Prop where
  cl : AttC g I p T S
  sub : ∀ j : Int, 0 ≤ j → j < 256 → gB S j = true → gB I j = true
  least : ∀ C, AttC g I p T C → ∀ j : Int, 0 ≤ j → j < 256 → gB S j = true → gB C j = true
def cM (l : List Int) (f : Int → Bool) : Int := ((l.filter f).length : Int)
theorem cM_ge (l : List Int) (f : Int → Bool) : 0 ≤ cM l f := Int.natCast_nonneg _
theorem cM_congr {l : List Int} {f f' : Int → Bool} (h : ∀ x ∈ l, f x = f' x) : cM l f = cM l f' := by
  unfold cM
  rw [List.filter_congr h]
theorem cM_pos {l : List Int} {f : Int → Bool} (h : 0 < cM l f) : ∃ x ∈ l, f x = true := by
  unfold cM at h
  obtain ⟨x, hx⟩ := List.exists_mem_of_length_pos (l := l.filter f) (by omega)
  exact ⟨x, (List.mem_filter.1 hx).1, (List.mem_filter.1 hx).2⟩
theorem cM_zero {l : List Int} {f : Int → Bool} (h : cM l f ≤ 0) : ∀ x ∈ l, f x = false := by
  intro x hx
  by_cases hf : f x = true
  · have hm : x ∈ l.filter f := List.mem_filter.2 ⟨hx, hf⟩
    have := List.length_pos_of_mem hm
    unfold cM at h
    omega
  · simpa using hf
theorem cM_of {l : List Int} {f : Int → Bool} {x : Int} (hx : x ∈ l) (hf : f x = true) : 0 < cM l f := by
  have hm : x ∈ l.filter f := List.mem_filter.2 ⟨hx, hf⟩
  have := List.length_pos_of_mem hm
  unfold cM
  omega
theorem gI_eq {l : List Int} {k : Int} (h0 : 0 ≤ k) (h1 : k < (l.length : Int)) : gI l k = l[k.toNat]'(by omega) := by
  simp only [gI, List.getD_eq_getElem?_getD, List.getElem?_eq_getElem (show k.toNat < l.length by omega), Option.getD_some]
theorem take_cM {l : List Int} {f : Int → Bool} {q : Int} (h0 : 0 ≤ q) (h1 : q < (l.length : Int)) : cM (l.take (q + 1).toNat) f = cM (l.take q.toNat) f + if f (gI l q) = true then 1 else 0 := by
  rw [show (q + 1).toNat = q.toNat + 1 by omega, List.take_succ_eq_append_getElem (show q.toNat < l.length by omega), ← gI_eq h0 h1]
  unfold cM
  rw [List.filter_append]
  cases hf : f (gI l q) <;> simp [hf]
theorem row_rng {g : GameL} (hR : isR g = true) {i x : Int} (a : 0 ≤ i) (b : i < (g.ow.length : Int)) (hx : x ∈ gL g.mv i) : 0 ≤ x ∧ x < (g.ow.length : Int) := by
  have hG := isR_ok hR
  obtain ⟨k, hk, rfl⟩ := List.mem_iff_getElem.1 hx
  have := hG.mv i a b (k : Int) (by omega) (by omega)
  rwa [gI_eq (by omega) (by omega)] at this
theorem gB_out {l : List Bool} {j : Int} (a : (l.length : Int) ≤ j) : gB l j = false := by
  simp only [gB, List.getD_eq_getElem?_getD]
  rw [List.getElem?_eq_none (by omega)]
  rfl
theorem gB_repF (n : Nat) (j : Int) : gB (List.replicate n false) j = false := gB_rep n j
theorem gB_setL {l : List Bool} {i j : Int} {v : Bool} (h0 : 0 ≤ i) (h1 : i < (l.length : Int)) (h2 : 0 ≤ j) : gB (l.set i.toNat v) j = if i = j then v else gB l j := gB_set' h0 h1 h2
theorem listB_ext {l r : List Bool} (hl : l.length = r.length) (h : ∀ j : Int, 0 ≤ j → j < (l.length : Int) → gB l j = gB r j) : l = r := by
  refine List.ext_getElem hl fun i h1 h2 => ?_
  have := h i (by omega) (by omega)
  simp only [gB, Int.toNat_natCast, List.getD_eq_getElem?_getD, List.getElem?_eq_getElem h1, List.getElem?_eq_getElem h2, Option.getD_some] at this
  exact this
/-- How many of the first n are true. -/
def cT (l : List Bool) : Nat → Int
  | 0 => 0
  | n + 1 => cT l n + (if gB l (n : Int) = true then 1 else 0)
theorem cT_0 (l : List Bool) : cT l 0 = 0 := rfl
theorem cT_s (l : List Bool) (n : Nat) : cT l (n + 1) = cT l n + (if gB l (n : Int) = true then 1 else 0) := rfl
theorem cT_mono {l r : List Bool} : ∀ n : Nat, (∀ j : Int, 0 ≤ j → j < n → gB l j = true → gB r j = true) → cT l n ≤ cT r n
  | 0, _ => by rw [cT_0, cT_0]; omega
  | n + 1, h => by
    have ih := cT_mono n fun j a b => h j a (by omega)
    have h2 := h (n : Int) (by omega) (by omega)
    rw [cT_s, cT_s]
    cases hl : gB l (n : Int)
    · simp only [Bool.false_eq_true, if_false]
      split <;> omega
    · rw [h2 hl]
      omega
theorem cT_up (l : List Bool) : ∀ n : Nat, 0 ≤ cT l n ∧ cT l n ≤ (n : Int)
  | 0 => by rw [cT_0]; omega
  | n + 1 => by
    have := cT_up l n
    rw [cT_s]
    split <;> omega
theorem cT_le (l : List Bool) (m : Nat) : ∀ n : Nat, (∀ j : Int, 0 ≤ j → j < n → gB l j = true → j < (m : Int)) → cT l n ≤ m
  | 0, _ => by rw [cT_0]; omega
  | n + 1, h => by
    have ih := cT_le l m n fun j a b => h j a (by omega)
    by_cases hn : n < m
    · have := (cT_up l (n + 1)).2
      omega
    · have : gB l (n : Int) = false := by
        by_cases hb : gB l (n : Int) = true
        · have := h (n : Int) (by omega) (by omega) hb
          omega
        · simpa using hb
      rw [cT_s, this]
      simp
      omega
/- One step of the document's. -/
def stpB (g : GameL) (I : List Bool) (p : Int) (A : List Bool) (i : Int) : Bool :=
  if gI g.ow i = p then decide (0 < cM (gL g.mv i) (fun x => gB I x && gB A x)) else decide (0 < cM (gL g.mv i) (gB I)) && decide (cM (gL g.mv i) (fun x => gB I x && gB A x) = cM (gL g.mv i) (gB I))
theorem cM_sub {l : List Int} {f f' : Int → Bool} (h : ∀ x ∈ l, f x = true → f' x = true) : cM l f ≤ cM l f' := by
  induction l with
  | nil => simp [cM]
  | cons y l ih =>
    have ih := ih fun x hx => h x (List.mem_cons_of_mem _ hx)
    have hy := h y List.mem_cons_self
    unfold cM at ih ⊢
    simp only [List.filter_cons]
    cases hf : f y
    · cases f' y <;> simp <;> omega
    · rw [hy hf]
      simp
      omega
theorem cM_eq {l : List Int} {f f' : Int → Bool} (h : ∀ x ∈ l, f x = true → f' x = true) (e : cM l f = cM l f') : ∀ x ∈ l, f' x = true → f x = true := by
  induction l with
  | nil => intro x hx; cases hx
  | cons y l ih =>
    have hl := cM_sub (l := l) fun x hx => h x (List.mem_cons_of_mem _ hx)
    have hy := h y List.mem_cons_self
    have e2 : cM l f = cM l f' ∧ f y = f' y := by
      unfold cM at e hl ⊢
      simp only [List.filter_cons] at e
      cases hf : f y <;> cases hf' : f' y
      · rw [hf, hf'] at e
        simp at e
        exact ⟨by omega, rfl⟩
      · rw [hf, hf'] at e
        simp at e
        omega
      · rw [hy hf] at hf'
        cases hf'
      · rw [hf, hf'] at e
        simp at e
        exact ⟨by omega, rfl⟩
    intro x hx hf
    rcases List.mem_cons.1 hx with rfl | hx
    · rw [e2.2]
      exact hf
    · exact ih (fun x hx => h x (List.mem_cons_of_mem _ hx)) e2.1 x hx hf
theorem step_own {g : GameL} {I A : List Bool} {p i : Int} (ho : gI g.ow i = p) : stpB g I p A i = true ↔ ∃ x ∈ gL g.mv i, gB I x = true ∧ gB A x = true := by
  rw [stpB, if_pos ho, decide_eq_true_iff]
  constructor
  · intro h
    obtain ⟨x, hx, hf⟩ := cM_pos h
    rw [Bool.and_eq_true] at hf
    exact ⟨x, hx, hf⟩
  · rintro ⟨x, hx, h1, h2⟩
    exact cM_of hx (by rw [h1, h2]; rfl)
theorem step_oth {g : GameL} {I A : List Bool} {p i : Int} (ho : gI g.ow i ≠ p) : stpB g I p A i = true ↔ (∃ x ∈ gL g.mv i, gB I x = true) ∧ ∀ x ∈ gL g.mv i, gB I x = true → gB A x = true := by
  rw [stpB, if_neg ho, Bool.and_eq_true, decide_eq_true_iff, decide_eq_true_iff]
  constructor
  · rintro ⟨h1, h2⟩
    refine ⟨cM_pos h1, fun x hx hI => ?_⟩
    have := cM_eq (f := fun x => gB I x && gB A x) (f' := gB I) (fun x _ h => by rw [Bool.and_eq_true] at h; exact h.1) h2 x hx hI
    rw [Bool.and_eq_true] at this
    exact this.2
  · rintro ⟨⟨x, hx, hI⟩, h2⟩
    refine ⟨cM_of hx hI, cM_congr fun y hy => ?_⟩
    cases hIy : gB I y
    · rfl
    · rw [h2 y hy hIy]
      rfl
theorem step_val {g : GameL} {I A : List Bool} {p i c1 c2 q : Int} {v : Bool} (h0 : ((gL g.mv i).length : Int) ≤ q) (h1 : q ≤ ((gL g.mv i).length : Int)) (e1 : c1 = cM ((gL g.mv i).take q.toNat) (gB I)) (e2 : c2 = cM ((gL g.mv i).take q.toNat) (fun x => gB I x && gB A x))
    (h : (gI g.ow i = p ∧ v = decide (c2 > 0)) ∨ (gI g.ow i ≠ p ∧ c1 > 0 ∧ v = (c2 == c1)) ∨ (gI g.ow i ≠ p ∧ ¬ c1 > 0 ∧ v = false)) : v = stpB g I p A i := by
  rw [List.take_of_length_le (by omega)] at e1 e2
  unfold stpB
  rw [← e1, ← e2]
  rcases h with ⟨h, rfl⟩ | ⟨h, h2, rfl⟩ | ⟨h, h2, rfl⟩
  · rw [if_pos h, decide_eq_decide]
  · rw [if_neg h, decide_eq_true (by omega), Bool.true_and]
    exact (Bool.beq_eq_decide_eq _ _)
  · rw [if_neg h, decide_eq_false (by omega), Bool.false_and]
structure AndT (g : GameL) (I T xs : List Bool) (k : Int) : Prop where
  len : xs.length = g.ow.length
  at_ : ∀ j : Int, 0 ≤ j → j < (g.ow.length : Int) → gB xs j = if j < k then (gB I j && gB T j) else false
theorem and_0 {g : GameL} {I T : List Bool} : AndT g I T (List.replicate g.ow.length false) 0 := ⟨List.length_replicate, fun j a b => by rw [gB_rep, if_neg (by omega)]⟩
theorem and_next {g : GameL} {I T xs : List Bool} {k : Int} {v : Bool} (h : AndT g I T xs k) (h0 : 0 ≤ k) (h1 : k < (g.ow.length : Int)) (hv : v = (gB I k && gB T k)) : AndT g I T (xs.set k.toNat v) (k + 1) := by
  have hl := h.len
  refine ⟨by rw [List.length_set]; exact hl, fun j a b => ?_⟩
  rw [gB_setL h0 (by omega) a]
  by_cases e : k = j
  · subst e
    rw [if_pos rfl, if_pos (by omega), hv]
  · rw [if_neg e, h.at_ j a b]
    by_cases e2 : j < k
    · rw [if_pos e2, if_pos (show j < k + 1 by omega)]
    · rw [if_neg e2, if_neg (show ¬ j < k + 1 by omega)]
/-- What holds ahead of a round. -/
structure RefT (g : GameL) (I : List Bool) (p : Int) (T A : List Bool) : Prop where
  len : A.length = g.ow.length
  base : ∀ j : Int, 0 ≤ j → j < 256 → gB T j = true → gB I j = true → gB A j = true
  sub : ∀ j : Int, 0 ≤ j → j < 256 → gB A j = true → gB I j = true
  snd : ∀ C, AttC g I p T C → ∀ j : Int, 0 ≤ j → j < 256 → gB A j = true → gB C j = true
theorem and_ref {g : GameL} {I T xs : List Bool} {p k : Int} (hI : I.length = g.ow.length) (hT : T.length = g.ow.length) (h : AndT g I T xs k) (hk : (g.ow.length : Int) ≤ k) : RefT g I p T xs := by
  have hat : ∀ j : Int, 0 ≤ j → gB xs j = (gB I j && gB T j) := fun j a => by
    by_cases hj : j < (g.ow.length : Int)
    · rw [h.at_ j a hj, if_pos (by omega)]
    · rw [gB_out (by have := h.len; omega), gB_out (l := I) (by omega), Bool.false_and]
  refine ⟨h.len, fun j a b c d => by rw [hat j a, c, d]; rfl, fun j a b c => ?_, fun C hC j a b c => ?_⟩
  · rw [hat j a, Bool.and_eq_true] at c
    exact c.1
  · rw [hat j a, Bool.and_eq_true] at c
    exact hC.base j a b c.2 c.1
structure RefK (g : GameL) (I : List Bool) (p : Int) (A nx : List Bool) (m : Bool) (k : Int) : Prop where
  len : nx.length = g.ow.length
  at_ : ∀ j : Int, 0 ≤ j → j < (g.ow.length : Int) → gB nx j = (gB A j || (decide (j < k) && (gB I j && stpB g I p A j)))
  no : m = false → ∀ j : Int, 0 ≤ j → j < k → gB I j = true → gB A j = false → stpB g I p A j = false
  yes : m = true → ∃ j : Int, 0 ≤ j ∧ j < k ∧ gB I j = true ∧ gB A j = false ∧ stpB g I p A j = true
section
variable {g : GameL} {I T A nx : List Bool} {p k : Int} {m v : Bool}
theorem refK_0 (h : RefT g I p T A) : RefK g I p A A false 0 :=
  ⟨h.len, fun j a b => by rw [decide_eq_false (by omega), Bool.false_and, Bool.or_false], fun _ j a b => by omega, fun h => by cases h⟩
theorem refK_skip (h : RefK g I p A nx m k) (hs : gB I k = false ∨ gB A k = true) : RefK g I p A nx m (k + 1) := by
  refine ⟨h.len, fun j a b => ?_, fun hm j a b c d => ?_, fun hm => ?_⟩
  · rw [h.at_ j a b]
    by_cases e : j = k
    · subst e
      rcases hs with hs | hs
      · rw [hs]
        simp
      · rw [hs]
        simp
    · congr 2
      rw [decide_eq_decide]
      omega
  · by_cases e : j = k
    · subst e
      rcases hs with hs | hs
      · rw [hs] at c; cases c
      · rw [hs] at d; cases d
    · exact h.no hm j a (by omega) c d
  · obtain ⟨j, a, b, c⟩ := h.yes hm
    exact ⟨j, a, by omega, c⟩
theorem refK_put (h : RefK g I p A nx m k) (h0 : 0 ≤ k) (h1 : k < (g.ow.length : Int)) (hI : gB I k = true) (hA : gB A k = false) (hv : v = (m || stpB g I p A k)) : RefK g I p A (nx.set k.toNat (stpB g I p A k)) v (k + 1) := by
  have hl := h.len
  refine ⟨by rw [List.length_set]; exact hl, fun j a b => ?_, fun hm j a b c d => ?_, fun hm => ?_⟩
  · rw [gB_setL h0 (by omega) a]
    by_cases e : k = j
    · subst e
      rw [if_pos rfl, hA, hI, decide_eq_true (by omega)]
      simp
    · rw [if_neg e, h.at_ j a b]
      congr 2
      rw [decide_eq_decide]
      omega
  · rw [hv, Bool.or_eq_false_iff] at hm
    by_cases e : j = k
    · subst e
      exact hm.2
    · exact h.no hm.1 j a (by omega) c d
  · rw [hv, Bool.or_eq_true] at hm
    rcases hm with hm | hm
    · obtain ⟨j, a, b, c⟩ := h.yes hm
      exact ⟨j, a, by omega, c⟩
    · exact ⟨k, h0, by omega, hI, hA, hm⟩
theorem ref_next (hn : g.ow.length ≤ 200) (hR : ∀ i x : Int, 0 ≤ i → i < (g.ow.length : Int) → x ∈ gL g.mv i → 0 ≤ x ∧ x < (g.ow.length : Int)) (h : RefT g I p T A) (hk : RefK g I p A nx m k) (hkn : (g.ow.length : Int) ≤ k) : RefT g I p T nx := by
  have hl := hk.len
  have hat : ∀ j : Int, 0 ≤ j → j < (g.ow.length : Int) → gB nx j = (gB A j || (gB I j && stpB g I p A j)) := fun j a b => by rw [hk.at_ j a b, decide_eq_true (by omega), Bool.true_and]
  refine ⟨hl, fun j a b c d => ?_, fun j a b c => ?_, fun C hC j a b c => ?_⟩
  · have h2 := h.base j a b c d
    by_cases hj : j < (g.ow.length : Int)
    · rw [hat j a hj, h2]
      rfl
    · rw [gB_out (by have := h.len; omega)] at h2
      cases h2
  · by_cases hj : j < (g.ow.length : Int)
    · rw [hat j a hj, Bool.or_eq_true, Bool.and_eq_true] at c
      rcases c with c | c
      · exact h.sub j a b c
      · exact c.1
    · rw [gB_out (by omega)] at c
      cases c
  · by_cases hj : j < (g.ow.length : Int)
    · rw [hat j a hj, Bool.or_eq_true, Bool.and_eq_true] at c
      rcases c with c | ⟨c, d⟩
      · exact h.snd C hC j a b c
      · by_cases ho : gI g.ow j = p
        · obtain ⟨x, hx, hI, hA⟩ := (step_own ho).1 d
          have h2 := hR j x a hj hx
          exact hC.own j a hj c ho x hx hI (h.snd C hC x h2.1 (by omega) hA)
        · obtain ⟨he, hal⟩ := (step_oth ho).1 d
          exact hC.oth j a hj c ho he fun x hx hI => by
            have h2 := hR j x a hj hx
            exact h.snd C hC x h2.1 (by omega) (hal x hx hI)
    · rw [gB_out (by omega)] at c
      cases c
theorem ref_grow (hn : g.ow.length ≤ 200) (h : RefT g I p T A) (hk : RefK g I p A nx m k) (hkn : (g.ow.length : Int) ≤ k) (hkn2 : k ≤ (g.ow.length : Int)) : cT nx 256 ≤ (g.ow.length : Int) ∧ (if m = true then cT A 256 + 1 else cT A 256) ≤ cT nx 256 := by
  have hl := hk.len
  refine ⟨cT_le nx g.ow.length 256 fun j a b c => ?_, ?_⟩
  · by_cases hj : j < (g.ow.length : Int)
    · exact hj
    · rw [gB_out (by omega)] at c
      cases c
  · have hmono : ∀ j : Int, 0 ≤ j → gB A j = true → gB nx j = true := fun j a c => by
      by_cases hj : j < (g.ow.length : Int)
      · rw [hk.at_ j a hj, c]
        rfl
      · rw [gB_out (by have := h.len; omega)] at c
        cases c
    cases hm : m
    · rw [if_neg (by decide)]
      exact cT_mono 256 fun j a _ c => hmono j a c
    · rw [if_pos rfl]
      obtain ⟨i, a, b, c, d, e⟩ := hk.yes hm
      have hi : gB nx i = true := by rw [hk.at_ i a (by omega), c, e, decide_eq_true b]; simp
      have h2 : ∀ n : Nat, n ≤ 256 → cT A n + (if i < (n : Int) then 1 else 0) ≤ cT nx n := by
        intro n
        induction n with
        | zero => intro _; rw [cT_0, cT_0, if_neg (by omega)]; omega
        | succ n ih =>
          intro hn2
          have ih := ih (by omega)
          rw [cT_s, cT_s]
          by_cases hin : i = (n : Int)
          · rw [← hin, d, hi]
            rw [if_neg (by omega)] at ih
            rw [if_pos (show i < ((n + 1 : Nat) : Int) by omega)]
            simp
            omega
          · have h3 := hmono (n : Int) (by omega)
            have e3 : (if i < ((n + 1 : Nat) : Int) then (1 : Int) else 0) = if i < (n : Int) then 1 else 0 := by
              by_cases h5 : i < (n : Int)
              · rw [if_pos h5, if_pos (show i < ((n + 1 : Nat) : Int) by omega)]
              · rw [if_neg h5, if_neg (show ¬ i < ((n + 1 : Nat) : Int) by omega)]
            rw [e3]
            cases h4 : gB A (n : Int)
            · cases gB nx (n : Int) <;> simp <;> omega
            · rw [h3 h4]
              simp
              omega
      have := h2 256 (Nat.le_refl _)
      rw [if_pos (show i < ((256 : Nat) : Int) by omega)] at this
      exact this
theorem meas_dec {n a b : Int} {m m2 : Bool} (hm : m = true) (h1 : b ≤ n) (h2 : (if m2 = true then a + 1 else a) ≤ b) : (2 * (n - b) + (if m2 = true then 1 else 0)).toNat < (2 * (n - a) + (if m = true then 1 else 0)).toNat := by
  subst hm
  rw [if_pos (rfl : true = true)]
  cases m2
  · rw [if_neg (by decide)] at h2 ⊢
    omega
  · rw [if_pos rfl] at h2 ⊢
    omega
def RefF (g : GameL) (I : List Bool) (p : Int) (A : List Bool) (m : Bool) : Prop := m = false → ∀ j : Int, 0 ≤ j → j < (g.ow.length : Int) → gB I j = true → gB A j = false → stpB g I p A j = false
theorem ref_fin (h : RefT g I p T A) (hk : RefK g I p A nx m k) (hkn : (g.ow.length : Int) ≤ k) : RefF g I p nx m := by
  intro hm
  have e : nx = A := listB_ext (by rw [hk.len, h.len]) fun j a b => by
    have hl := hk.len
    rw [hk.at_ j a (by omega)]
    cases hA : gB A j
    · cases hI : gB I j
      · simp
      · rw [hk.no hm j a (by omega) hI hA]
        simp
    · rfl
  rw [e]
  exact fun j a b => hk.no hm j a (by omega)
theorem ref_end (h : RefT g I p T A) (hf : RefF g I p A false) : AttrT g I p T A := by
  have hf := hf rfl
  refine ⟨⟨h.base, fun i a b c d x hx hI hA => ?_, fun i a b c d he hal => ?_⟩, h.sub, h.snd⟩
  · by_cases hi : gB A i = true
    · exact hi
    · have := hf i a b c (by simpa using hi)
      rw [(step_own d).2 ⟨x, hx, hI, hA⟩] at this
      cases this
  · by_cases hi : gB A i = true
    · exact hi
    · have := hf i a b c (by simpa using hi)
      rw [(step_oth d).2 ⟨he, hal⟩] at this
      cases this
end
end Go.Proofs.Ytklbpajmoklheaa
