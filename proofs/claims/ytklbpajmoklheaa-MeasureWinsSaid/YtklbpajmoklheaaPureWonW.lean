/-
  Plain: what the walks of the document's solver (bailiffref13) lean on. No program.
-/
import Derived.Test.YtklbpajmoklheaaPureWon
import Derived.Test.YtklbpajmoklheaaLem
set_option linter.unusedVariables false
set_option linter.unusedSimpArgs false
namespace Go.Proofs.Ytklbpajmoklheaa
open Go Go.RowKit
/-! ### some, less -/
def someB (l : List Bool) : Bool := l.any id
theorem gB_at {l : List Bool} {k : Int} (h0 : 0 ≤ k) (h1 : k < (l.length : Int)) : gB l k = l[k.toNat]'(by omega) := by
  rw [gB, List.getD_eq_getElem?_getD, List.getElem?_eq_getElem (by omega), Option.getD_some]
theorem some_iff {l : List Bool} : someB l = true ↔ ∃ i, inB l i := by
  unfold someB
  rw [List.any_eq_true]
  constructor
  · rintro ⟨x, hx, h⟩
    obtain ⟨k, hk, rfl⟩ := List.mem_iff_getElem.1 hx
    refine ⟨(k : Int), by omega, ?_⟩
    rw [gB_at (by omega) (by omega)]
    exact h
  · rintro ⟨i, h⟩
    have h1 := inB_lt h
    refine ⟨gB l i, ?_, h.2⟩
    rw [gB_at h.1 h1]
    exact List.getElem_mem _
theorem some_yes {l : List Bool} {k : Int} (h0 : 0 ≤ k) (h : gB l k = true) : true = someB l := (some_iff.2 ⟨k, h0, h⟩).symm
theorem someB_no {l : List Bool} {k : Int} (h : ∀ j : Int, 0 ≤ j → j < k → gB l j = false) (h1 : (l.length : Int) ≤ k) : false = someB l := by
  cases hs : someB l with
  | false => rfl
  | true =>
    obtain ⟨i, hi⟩ := some_iff.1 hs
    have := h i hi.1 (by have := inB_lt hi; omega)
    rw [hi.2] at this
    cases this
theorem none_next {l : List Bool} {k : Int} (h : ∀ j : Int, 0 ≤ j → j < k → gB l j = false) (h1 : gB l k = false) : ∀ j : Int, 0 ≤ j → j < k + 1 → gB l j = false := fun j a b => by
  by_cases e : j = k
  · rw [e]
    exact h1
  · exact h j a (by omega)
structure LessK (a b c : List Bool) (k : Int) : Prop where
  len : c.length = a.length
  at_ : ∀ j : Int, 0 ≤ j → j < k → gB c j = (gB a j && !gB b j)
theorem lessK_0 {a b : List Bool} : LessK a b (List.replicate a.length false) 0 := ⟨List.length_replicate, fun j x y => by omega⟩
theorem setB_next {P : Int → Bool → Prop} {c : List Bool} {k : Int} {v : Bool} (h : ∀ j : Int, 0 ≤ j → j < k → P j (gB c j)) (h0 : 0 ≤ k) (h1 : k < (c.length : Int)) (hv : P k v) : ∀ j : Int, 0 ≤ j → j < k + 1 → P j (gB (c.set k.toNat v) j) := fun j a b => by
  rw [gB_setL h0 h1 a]
  by_cases e : k = j
  · subst e
    rw [if_pos rfl]
    exact hv
  · rw [if_neg e]
    exact h j a (by omega)
theorem lessK_next {a b c : List Bool} {k : Int} {v : Bool} (h : LessK a b c k) (h0 : 0 ≤ k) (h1 : k < (a.length : Int)) (hv : v = (gB a k && !gB b k)) : LessK a b (c.set k.toNat v) (k + 1) :=
  ⟨by rw [List.length_set]; exact h.len, setB_next (P := fun j x => x = (gB a j && !gB b j)) h.at_ h0 (by rw [h.len]; exact h1) hv⟩
theorem lessK_end {a b c : List Bool} {k : Int} (h : LessK a b c k) (h1 : (a.length : Int) ≤ k) : LessT a b c := ⟨h.len, fun j x y => h.at_ j x (by omega)⟩
/-! ### won -/
def MaxT (g : GameL) (l : List Bool) (t k : Int) : Prop := (t = -1 ∨ ∃ i, 0 ≤ i ∧ i < k ∧ gB l i = true ∧ gI g.pr i = t) ∧ ∀ i, 0 ≤ i → i < k → gB l i = true → gI g.pr i ≤ t
theorem max_0 {g : GameL} {l : List Bool} : MaxT g l (-1) 0 := ⟨.inl rfl, fun i a b => by omega⟩
section
variable {g : GameL} {l m : List Bool} {t k : Int} {v : Bool}
theorem max_keep (h : MaxT g l t k) (hn : gB l k = true → ¬ gI g.pr k > t) : MaxT g l t (k + 1) := by
  refine ⟨h.1.imp id (fun ⟨i, a, b, c⟩ => ⟨i, a, by omega, c⟩), fun i a b c => ?_⟩
  by_cases e : i = k
  · subst e
    have := hn c
    omega
  · exact h.2 i a (by omega) c
theorem max_up (h : MaxT g l t k) (h0 : 0 ≤ k) (hb : gB l k = true) (hn : gI g.pr k > t) : MaxT g l (gI g.pr k) (k + 1) := by
  refine ⟨.inr ⟨k, h0, by omega, hb, rfl⟩, fun i a b c => ?_⟩
  by_cases e : i = k
  · subst e
    exact Int.le_refl _
  · have := h.2 i a (by omega) c
    omega
structure MosK (g : GameL) (l m : List Bool) (t k : Int) : Prop where
  len : m.length = l.length
  at_ : ∀ j : Int, 0 ≤ j → j < k → gB m j = (gB l j && (gI g.pr j == t))
theorem mosK_0 : MosK g l (List.replicate l.length false) t 0 := ⟨List.length_replicate, fun j a b => by omega⟩
theorem mosK_next (h : MosK g l m t k) (h0 : 0 ≤ k) (h1 : k < (l.length : Int)) (hv : v = (gB l k && (gI g.pr k == t))) : MosK g l (m.set k.toNat v) t (k + 1) :=
  ⟨by rw [List.length_set]; exact h.len, setB_next (P := fun j x => x = (gB l j && (gI g.pr j == t))) h.at_ h0 (by rw [h.len]; exact h1) hv⟩
theorem most_in (h : MosK g l m t k) (h1 : (l.length : Int) ≤ k) (i : Int) : inB m i ↔ inB l i ∧ gI g.pr i = t := by
  constructor
  · intro hi
    have hlt := inB_lt hi
    rw [h.len] at hlt
    have := hi.2
    rw [h.at_ i hi.1 (by omega), Bool.and_eq_true, beq_iff_eq] at this
    exact ⟨⟨hi.1, this.1⟩, this.2⟩
  · rintro ⟨h2, h3⟩
    refine ⟨h2.1, ?_⟩
    rw [h.at_ i h2.1 (by have := inB_lt h2; omega), h2.2, h3]
    simp
/-- The highest priority of a part that is not empty. -/
structure HghT (g : GameL) (l : List Bool) (t : Int) : Prop where
  le : ∀ i, inB l i → gI g.pr i ≤ t
  ex : ∃ i, inB l i ∧ gI g.pr i = t
  ge : 0 ≤ t
theorem max_end (hG : RightG g) (hL : LiveB g l) (h : MaxT g l t k) (h1 : (l.length : Int) ≤ k) (hs : someB l = true) : HghT g l t := by
  obtain ⟨i, hi⟩ := some_iff.1 hs
  have hle : ∀ i, inB l i → gI g.pr i ≤ t := fun i hi => h.2 i hi.1 (by have := inB_lt hi; omega) hi.2
  have h2 := hle i hi
  have h3 := (hG.pr i hi.1 (live_lt hL hi)).1
  refine ⟨hle, ?_, by omega⟩
  rcases h.1 with h4 | ⟨j, a, b, c, d⟩
  · omega
  · exact ⟨j, ⟨a, c⟩, d⟩
/-- What is won more of the rest's other part. -/
structure GotK (b x x3 : List Bool) (v : Bool) (k : Int) : Prop where
  len : x3.length = x.length
  at_ : ∀ j : Int, 0 ≤ j → j < (x.length : Int) → gB x3 j = if j < k ∧ gB b j = true then v else gB x j
theorem got_0 {b x : List Bool} : GotK b x x v 0 := ⟨rfl, fun j a c => by rw [if_neg (by omega)]⟩
theorem got_yes {b x x3 : List Bool} {u : Bool} (h : GotK b x x3 v k) (h0 : 0 ≤ k) (h1 : k < (x.length : Int)) (hb : gB b k = true) (hu : u = v) : GotK b x (x3.set k.toNat u) v (k + 1) := by
  have hl := h.len
  refine ⟨by rw [List.length_set]; exact hl, fun j a c => ?_⟩
  rw [gB_setL h0 (by omega) a]
  by_cases e : k = j
  · subst e
    rw [if_pos rfl, if_pos ⟨by omega, hb⟩, hu]
  · rw [if_neg e, h.at_ j a c]
    by_cases e2 : j < k ∧ gB b j = true
    · rw [if_pos e2, if_pos ⟨by omega, e2.2⟩]
    · rw [if_neg e2, if_neg (fun e3 => e2 ⟨by omega, e3.2⟩)]
theorem got_no {b x x3 : List Bool} (h : GotK b x x3 v k) (hb : gB b k = false) : GotK b x x3 v (k + 1) := by
  refine ⟨h.len, fun j a c => ?_⟩
  rw [h.at_ j a c]
  by_cases e : j = k
  · subst e
    rw [if_neg (by omega), if_neg (by rw [hb]; simp)]
  · by_cases e2 : j < k ∧ gB b j = true
    · rw [if_pos e2, if_pos ⟨by omega, e2.2⟩]
    · rw [if_neg e2, if_neg (fun e3 => e2 ⟨by omega, e3.2⟩)]
theorem got_in {b x x3 : List Bool} (h : GotK b x x3 v k) (hk : (x.length : Int) ≤ k) (hbx : ∀ i, inB x i → ¬ inB b i) (hbl : b.length = x.length) (i : Int) : inB x3 i ↔ inB x i ∨ (v = true ∧ inB b i) := by
  have hl := h.len
  constructor
  · intro hi
    have hlt := inB_lt hi
    have h2 := hi.2
    rw [h.at_ i hi.1 (by omega)] at h2
    by_cases e : i < k ∧ gB b i = true
    · rw [if_pos e] at h2
      exact .inr ⟨h2, hi.1, e.2⟩
    · rw [if_neg e] at h2
      exact .inl ⟨hi.1, h2⟩
  · rintro (h2 | ⟨h2, h3⟩)
    · have hlt := inB_lt h2
      refine ⟨h2.1, ?_⟩
      rw [h.at_ i h2.1 hlt, if_neg (fun e => hbx i h2 ⟨h2.1, e.2⟩)]
      exact h2.2
    · have hlt := inB_lt h3
      refine ⟨h3.1, ?_⟩
      rw [h.at_ i h3.1 (by omega), if_pos ⟨by omega, h3.2⟩, h2]
end
/-! ### Solve: the regions as lists -/
def onesL (l : List Bool) (k : Nat) : List Int := ((List.range k).filter (fun j : Nat => gB l (j : Int))).map (fun j : Nat => (j : Int))
theorem ones_next {l : List Bool} {xs : List Int} {k : Int} (h : xs = onesL l k.toNat) (h0 : 0 ≤ k) (hb : gB l k = true) : xs ++ [k] = onesL l (k + 1).toNat := by
  unfold onesL at h ⊢
  rw [show (k + 1).toNat = k.toNat + 1 by omega, List.range_succ, List.filter_append, List.map_append, ← h]
  simp only [List.filter_cons, List.filter_nil]
  rw [show ((k.toNat : Nat) : Int) = k by omega, hb]
  simp
  omega
theorem ones_skip {l : List Bool} {xs : List Int} {k : Int} (h : xs = onesL l k.toNat) (h0 : 0 ≤ k) (hb : gB l k = false) : xs = onesL l (k + 1).toNat := by
  unfold onesL at h ⊢
  rw [show (k + 1).toNat = k.toNat + 1 by omega, List.range_succ, List.filter_append, List.map_append, ← h]
  simp only [List.filter_cons, List.filter_nil]
  rw [show ((k.toNat : Nat) : Int) = k by omega, hb]
  simp
theorem ones_mem {l : List Bool} {k : Nat} (hk : l.length ≤ k) (i : Int) : i ∈ onesL l k ↔ inB l i := by
  unfold onesL
  rw [List.mem_map]
  constructor
  · rintro ⟨j, hj, rfl⟩
    rw [List.mem_filter] at hj
    exact ⟨by omega, hj.2⟩
  · intro h
    have := inB_lt h
    have h0 := h.1
    exact ⟨i.toNat, List.mem_filter.2 ⟨List.mem_range.2 (by omega), by rw [show ((i.toNat : Nat) : Int) = i by omega]; exact h.2⟩, by omega⟩
theorem ones_len (l : List Bool) (k : Nat) : (onesL l k).length ≤ k := by
  unfold onesL
  rw [List.length_map]
  have := List.length_filter_le (fun j : Nat => gB l (j : Int)) (List.range k)
  rw [List.length_range] at this
  exact this
section
variable {g : GameL} {I M A B b c c2 x2 y2 x3 y3 oth lo : List Bool} {p t k : Int}
theorem WonP.swap0 (h : WonP g I 1 x2 y2) : WonP g I 0 y2 x2 := h.swap
theorem most_ex (h : HghT g I t) (hm : ∀ i, inB M i ↔ inB I i ∧ gI g.pr i = t) (hL : LiveB g I) (hn : g.ow.length ≤ 200) (hA : AttrT g I p M A) : ∃ i, inB I i ∧ inB A i := by
  obtain ⟨i, h1, h2⟩ := h.ex
  exact ⟨i, h1, attB_base hL hn hA i ((hm i).2 ⟨h1, h2⟩) h1⟩
theorem won_top (hR : isR g = true) (hL : LiveB g I) (h : HghT g I t) (hm : ∀ i, inB M i ↔ inB I i ∧ gI g.pr i = t) (hp : t % 2 = p) (hl : A.length = g.ow.length) (hA : AttrT g I p M A) (hc : LessT I A c) (hw : WonP g c p oth lo) (hs : someB lo = false) : ∃ f, WinT g (inB I) p f (inB I) :=
  won_all hR hL hm h.le hp hl hA hc hw (fun i hi => by have := some_iff.2 ⟨i, hi⟩; rw [hs] at this; cases this)
theorem lost_ex (hL : LiveB g I) (hn : g.ow.length ≤ 200) (hc : LessT I A c) (hw : WonP g c p oth lo) (hs : someB lo = true) {q : Int} (hB : AttrT g I q lo B) : ∃ i, inB I i ∧ inB B i := by
  obtain ⟨i, hi⟩ := some_iff.1 hs
  have h1 := ((less_in hc i).1 ((hw.all i).2 (.inr hi))).1
  exact ⟨i, h1, attB_base hL hn hB i hi h1⟩
theorem won_fin (hR : isR g = true) (hL : LiveB g I) (h : HghT g I t) (hp : t % 2 = p) (hl : A.length = g.ow.length) (hA : AttrT g I p M A) (hc : LessT I A c) (hw : WonP g c p oth lo) (hlB : B.length = g.ow.length) (hB : AttrT g I (1 - p) lo B) (hc2 : LessT I B c2) (h2 : WonP g c2 0 x2 y2)
    (hx : GotK B x2 x3 (p == 1) k) (hy : GotK B y2 y3 (p == 0) k) (hk : (I.length : Int) ≤ k) : WonP g I 0 x3 y3 := by
  have hlx := h2.la
  have hly := h2.lb
  have hI := hL.len
  have hnB : ∀ i, (inB x2 i ∨ inB y2 i) → ¬ inB B i := fun i hi => ((less_in hc2 i).1 ((h2.all i).2 hi)).2
  have ix := got_in hx (by omega) (fun i hi => hnB i (.inl hi)) (by omega)
  have iy := got_in hy (by omega) (fun i hi => hnB i (.inr hi)) (by omega)
  by_cases e : p = 0
  · rw [e] at hA hw hB ix iy
    refine won_two hR (.inl rfl) hL hl hA hc hw hlB hB hc2 h2 (by rw [hx.len]; exact hlx) (by rw [hy.len]; exact hly) (fun i => ?_) (fun i => ?_)
    · rw [ix]
      simp
    · rw [iy]
      simp
  · have e : p = 1 := by omega
    rw [e] at hA hw hB ix iy
    refine (won_two hR (.inr rfl) hL hl hA hc hw hlB hB hc2 h2.swap (by rw [hy.len]; exact hly) (by rw [hx.len]; exact hlx) (fun i => ?_) (fun i => ?_)).swap0
    · rw [iy]
      simp
    · rw [ix]
      simp
end
end Go.Proofs.Ytklbpajmoklheaa
