/-
  Plain: the document's recursion that tells who wins where, on truths. No program.
-/
import Derived.Test.YtklbpajmoklheaaPureAttL
import Derived.Test.YtklbpajmoklheaaPureWin
set_option linter.unusedVariables false
set_option linter.unusedSimpArgs false
namespace Go.Proofs.Ytklbpajmoklheaa
open Go Go.RowKit
def inB (l : List Bool) (i : Int) : Prop := 0 ≤ i ∧ gB l i = true
instance (l : List Bool) (i : Int) : Decidable (inB l i) := by unfold inB; exact inferInstance
theorem inB_lt {l : List Bool} {i : Int} (h : inB l i) : i < (l.length : Int) := by
  apply Classical.byContradiction
  intro hn
  have := h.2
  rw [gB_out (by omega)] at this
  cases this
/-- Every position of a part has a move within it. -/
structure LiveB (g : GameL) (l : List Bool) : Prop where
  len : l.length = g.ow.length
  mv : ∀ i, inB l i → ∃ x ∈ gL g.mv i, inB l x
structure LessT (a b c : List Bool) : Prop where
  len : c.length = a.length
  at_ : ∀ j : Int, 0 ≤ j → j < (a.length : Int) → gB c j = (gB a j && !gB b j)
/-- The regions of a part: the player's, the other one's. -/
structure WonP (g : GameL) (l : List Bool) (p : Int) (a b : List Bool) : Prop where
  la : a.length = g.ow.length
  lb : b.length = g.ow.length
  all : ∀ i, inB l i ↔ inB a i ∨ inB b i
  wp : ∃ f, WinT g (inB l) p f (inB a)
  wq : ∃ f, WinT g (inB l) (1 - p) f (inB b)
section
variable {g : GameL} {I A B M T S a b c c2 a2 b2 a3 b3 : List Bool} {p t : Int}
theorem WonP.swap (h : WonP g I p a b) : WonP g I (1 - p) b a := ⟨h.lb, h.la, fun i => (h.all i).trans or_comm, h.wq, by rw [show 1 - (1 - p) = p by omega]; exact h.wp⟩
theorem less_in (h : LessT a b c) (i : Int) : inB c i ↔ inB a i ∧ ¬ inB b i := by
  constructor
  · intro hi
    have h1 := inB_lt hi
    have h2 := hi.2
    rw [h.at_ i hi.1 (by rw [← h.len]; exact h1), Bool.and_eq_true] at h2
    exact ⟨⟨hi.1, h2.1⟩, fun hb => by rw [hb.2] at h2; cases h2.2⟩
  · rintro ⟨h1, h2⟩
    refine ⟨h1.1, ?_⟩
    rw [h.at_ i h1.1 (inB_lt h1), h1.2]
    cases hb : gB b i with
    | false => rfl
    | true => exact absurd ⟨h1.1, hb⟩ h2
theorem live_lt (hL : LiveB g I) {i : Int} (h : inB I i) : i < (g.ow.length : Int) := by rw [← hL.len]; exact inB_lt h
theorem attB_sub (hL : LiveB g I) (hn : g.ow.length ≤ 200) (hl : S.length = g.ow.length) (h : AttrT g I p T S) : ∀ i, inB S i → inB I i := fun i hi => ⟨hi.1, h.sub i hi.1 (by have := inB_lt hi; omega) hi.2⟩
theorem attB_base (hL : LiveB g I) (hn : g.ow.length ≤ 200) (h : AttrT g I p T S) : ∀ i, inB T i → inB I i → inB S i := fun i hi hI => ⟨hi.1, h.cl.base i hi.1 (by have := live_lt hL hI; omega) hi.2 hI.2⟩
theorem attB_own (hL : LiveB g I) (h : AttrT g I p T S) : ∀ i, inB I i → ¬ inB S i → gI g.ow i = p → ∀ m ∈ gL g.mv i, inB I m → ¬ inB S m := fun i hi hs e m hm hI hS =>
  hs ⟨hi.1, h.cl.own i hi.1 (live_lt hL hi) hi.2 e m hm hI.2 hS.2⟩
theorem attB_live (hR : isR g = true) (hL : LiveB g I) (hl : S.length = g.ow.length) (h : AttrT g I p T S) (hc : LessT I S c) : LiveB g c := by
  refine ⟨by rw [hc.len, hL.len], fun i hi => ?_⟩
  obtain ⟨h1, h2⟩ := (less_in hc i).1 hi
  by_cases e : gI g.ow i = p
  · obtain ⟨x, hx, hI⟩ := hL.mv i h1
    exact ⟨x, hx, (less_in hc x).2 ⟨hI, attB_own hL h i h1 h2 e x hx hI⟩⟩
  · apply Classical.byContradiction
    intro hno
    obtain ⟨x, hx, hI⟩ := hL.mv i h1
    refine h2 ⟨h1.1, h.cl.oth i h1.1 (live_lt hL h1) h1.2 e ⟨x, hx, hI.2⟩ fun y hy hyI => ?_⟩
    have hy0 := row_rng hR h1.1 (live_lt hL h1) hy
    cases hs : gB S y with
    | true => rfl
    | false => exact absurd ⟨y, hy, (less_in hc y).2 ⟨⟨hy0.1, hyI⟩, fun k => by rw [k.2] at hs; cases hs⟩⟩ hno
/-- How an attractor is come by: in so many steps at most. -/
inductive DrN (g : GameL) (I : Int → Prop) (p : Int) (T : Int → Prop) : Nat → Int → Prop
  | base {n : Nat} {i : Int} : T i → I i → DrN g I p T n i
  | own {n : Nat} {i x : Int} : I i → gI g.ow i = p → x ∈ gL g.mv i → I x → DrN g I p T n x → DrN g I p T (n + 1) i
  | oth {n : Nat} {i : Int} : I i → gI g.ow i ≠ p → (∃ x ∈ gL g.mv i, I x) → (∀ x ∈ gL g.mv i, I x → DrN g I p T n x) → DrN g I p T (n + 1) i
theorem DrN.mono {J U : Int → Prop} {n : Nat} {i : Int} (h : DrN g J p U n i) : ∀ m, n ≤ m → DrN g J p U m i := by
  induction h with
  | base h1 h2 => exact fun m _ => .base h1 h2
  | own h1 h2 h3 h4 _ ih =>
    intro m hm
    obtain ⟨k, rfl⟩ : ∃ k, m = k + 1 := ⟨m - 1, by omega⟩
    exact .own h1 h2 h3 h4 (ih k (by omega))
  | oth h1 h2 h3 _ ih =>
    intro m hm
    obtain ⟨k, rfl⟩ : ∃ k, m = k + 1 := ⟨m - 1, by omega⟩
    exact .oth h1 h2 h3 (fun x hx hJ => ih x hx hJ k (by omega))
theorem all_bound {P : Int → Prop} {Q : Nat → Int → Prop} (hm : ∀ n m i, n ≤ m → Q n i → Q m i) : ∀ (l : List Int), (∀ x ∈ l, P x → ∃ n, Q n x) → ∃ n, ∀ x ∈ l, P x → Q n x
  | [], _ => ⟨0, fun x hx => by cases hx⟩
  | y :: l, h => by
    obtain ⟨n, hn⟩ := all_bound hm l fun x hx => h x (List.mem_cons_of_mem _ hx)
    by_cases hp : P y
    · obtain ⟨k, hk⟩ := h y List.mem_cons_self hp
      refine ⟨n + k, fun x hx hP => ?_⟩
      rcases List.mem_cons.1 hx with rfl | hx
      · exact hm k _ _ (by omega) hk
      · exact hm n _ _ (by omega) (hn x hx hP)
    · refine ⟨n, fun x hx hP => ?_⟩
      rcases List.mem_cons.1 hx with rfl | hx
      · exact absurd hP hp
      · exact hn x hx hP
theorem least_n {Q : Nat → Prop} : ∀ n, Q n → ∃ r, Q r ∧ ∀ m, Q m → r ≤ m
  | n, h => by
    induction n using Nat.strongRecOn with
    | ind n ih =>
      by_cases he : ∃ m, m < n ∧ Q m
      · obtain ⟨m, h1, h2⟩ := he
        exact ih m h1 h2
      · exact ⟨n, h, fun m hm => Nat.le_of_not_lt fun k => he ⟨m, k, hm⟩⟩
theorem dr_in (hR : isR g = true) (hL : LiveB g I) (h : AttrT g I p T S) {n : Nat} {i : Int} (hd : DrN g (inB I) p (inB T) n i) : inB S i := by
  have hn := (isR_ok hR).n1
  induction hd with
  | base h1 h2 => exact attB_base hL hn h _ h1 h2
  | own h1 h2 h3 h4 _ ih => exact ⟨h1.1, h.cl.own _ h1.1 (live_lt hL h1) h1.2 h2 _ h3 h4.2 ih.2⟩
  | oth h1 h2 h3 _ ih =>
    obtain ⟨x, hx, hI⟩ := h3
    refine ⟨h1.1, h.cl.oth _ h1.1 (live_lt hL h1) h1.2 h2 ⟨x, hx, hI.2⟩ fun y hy hyI => (ih y hy ⟨(row_rng hR h1.1 (live_lt hL h1) hy).1, hyI⟩).2⟩
theorem in_dr (hR : isR g = true) (hL : LiveB g I) (hl : S.length = g.ow.length) (h : AttrT g I p T S) {i : Int} (hi : inB S i) : ∃ n, DrN g (inB I) p (inB T) n i := by
  classical
  have hn := (isR_ok hR).n1
  have key : ∀ j : Int, 0 ≤ j → j < 256 → (gB ((List.range 256).map (fun k : Nat => decide (∃ n, DrN g (inB I) p (inB T) n (k : Int)))) j = true ↔ ∃ n, DrN g (inB I) p (inB T) n j) := fun j a b => by
    simp only [gB, List.getD_eq_getElem?_getD, List.getElem?_map, List.getElem?_range (show j.toNat < 256 by omega), Option.map_some, Option.getD_some]
    rw [decide_eq_true_iff, show ((j.toNat : Nat) : Int) = j by omega]
  have hlt := inB_lt hi
  refine (key i hi.1 (by omega)).1 (h.least _ ⟨fun j a b c d => (key j a b).2 ⟨0, .base ⟨a, c⟩ ⟨a, d⟩⟩, fun j a b c e x hx d f => ?_, fun j a b c e d f => ?_⟩ i hi.1 (by omega) hi.2)
  · have hr := row_rng hR a b hx
    obtain ⟨n, hd⟩ := (key x hr.1 (by omega)).1 f
    exact (key j a (by omega)).2 ⟨n + 1, .own ⟨a, c⟩ e hx ⟨hr.1, d⟩ hd⟩
  · obtain ⟨n, hd⟩ := all_bound (P := inB I) (Q := fun n x => DrN g (inB I) p (inB T) n x) (fun n m i h k => k.mono m h) (gL g.mv j) (fun x hx hI => (key x hI.1 (by have := row_rng hR a b hx; omega)).1 (f x hx hI.2))
    obtain ⟨x, hx, hI⟩ := d
    exact (key j a (by omega)).2 ⟨n + 1, .oth ⟨a, c⟩ e ⟨x, hx, (row_rng hR a b hx).1, hI⟩ hd⟩
theorem draw_A (hR : isR g = true) (hL : LiveB g I) (hl : S.length = g.ow.length) (h : AttrT g I p T S) : ∃ (f : Int → Int) (rk : Int → Nat), Draw g (inB I) p f (inB T) (inB S) rk := by
  classical
  have hn := (isR_ok hR).n1
  have h1 : ∀ i, ∃ r, (∃ n, DrN g (inB I) p (inB T) n i) → DrN g (inB I) p (inB T) r i ∧ ∀ m, DrN g (inB I) p (inB T) m i → r ≤ m := fun i => by
    by_cases he : ∃ n, DrN g (inB I) p (inB T) n i
    · obtain ⟨n, hd⟩ := he
      obtain ⟨r, hr⟩ := least_n (Q := fun n => DrN g (inB I) p (inB T) n i) n hd
      exact ⟨r, fun _ => hr⟩
    · exact ⟨0, fun k => absurd k he⟩
  have h2 : ∃ rk : Int → Nat, ∀ i, (∃ n, DrN g (inB I) p (inB T) n i) → DrN g (inB I) p (inB T) (rk i) i ∧ ∀ m, DrN g (inB I) p (inB T) m i → rk i ≤ m := ⟨fun i => (h1 i).choose, fun i => (h1 i).choose_spec⟩
  obtain ⟨rk, hrk⟩ := h2
  have h3 : ∀ i, ∃ y, inB S i → ¬ inB T i → gI g.ow i = p → y ∈ gL g.mv i ∧ inB S y ∧ rk y < rk i := fun i => by
    by_cases hc : inB S i ∧ ¬ inB T i ∧ gI g.ow i = p
    · obtain ⟨ha, hb, hp⟩ := hc
      have hd := (hrk i (in_dr hR hL hl h ha)).1
      generalize hq : rk i = q at hd
      cases hd with
      | base k1 k2 => exact absurd k1 hb
      | own k1 k2 k3 k4 k5 =>
        rename_i m x
        have := (hrk x ⟨m, k5⟩).2 m k5
        exact ⟨x, fun _ _ _ => ⟨k3, dr_in hR hL h k5, by omega⟩⟩
      | oth k1 k2 k3 k4 => exact absurd hp k2
    · exact ⟨0, fun k1 k2 k3 => absurd ⟨k1, k2, k3⟩ hc⟩
  refine ⟨fun i => (h3 i).choose, rk, attB_sub hL hn hl h, fun i ha hb hp => (h3 i).choose_spec ha hb hp, fun i ha hb hp m hm hI => ?_⟩
  have hd := (hrk i (in_dr hR hL hl h ha)).1
  generalize hq : rk i = q at hd
  cases hd with
  | base k1 k2 => exact absurd k1 hb
  | own k1 k2 k3 k4 k5 => exact absurd k2 hp
  | oth k1 k2 k3 k4 =>
    rename_i m'
    have k5 := k4 m hm hI
    have := (hrk m ⟨m', k5⟩).2 m' k5
    exact ⟨dr_in hR hL h k5, by omega⟩
theorem Draw.congr {J T A : Int → Prop} {f f' : Int → Int} {rk : Int → Nat} (h : Draw g J p f T A rk) (he : ∀ i, A i → ¬ T i → gI g.ow i = p → f' i = f i) : Draw g J p f' T A rk :=
  ⟨h.sub, fun i a b e => by rw [he i a b e]; exact h.own i a b e, h.oth⟩
/-- The other one wins nothing of what is not drawn to the highest priority: the player wins all. -/
theorem won_all (hR : isR g = true) (hL : LiveB g I) (hM : ∀ i, inB M i ↔ inB I i ∧ gI g.pr i = t) (ht : ∀ i, inB I i → gI g.pr i ≤ t) (hp : t % 2 = p) (hl : A.length = g.ow.length) (hA : AttrT g I p M A) (hc : LessT I A c) (h : WonP g c p a b) (hb : ∀ i, ¬ inB b i) :
    ∃ f, WinT g (inB I) p f (inB I) := by
  classical
  have hn := (isR_ok hR).n1
  obtain ⟨fA, rk, hd⟩ := draw_A hR hL hl hA
  obtain ⟨fr, hw⟩ := h.wp
  have h1 : ∀ i, ∃ y, inB I i → y ∈ gL g.mv i ∧ inB I y := fun i => by
    by_cases hi : inB I i
    · obtain ⟨x, hx, hI⟩ := hL.mv i hi
      exact ⟨x, fun _ => ⟨hx, hI⟩⟩
    · exact ⟨0, fun k => absurd k hi⟩
  have hMA : ∀ i, inB M i → inB A i := fun i hi => attB_base hL hn hA i hi ((hM i).1 hi).1
  refine ⟨fun i => if inB M i then (h1 i).choose else if inB A i then fA i else fr i, ?_⟩
  refine win_top (A := inB A) (M := inB M) (t := t) (rk := rk) hM ht hp (hd.congr fun i ha hm e => by rw [if_neg hm, if_pos ha]) hMA (fun i hm e => ?_) ?_
  · rw [if_pos hm]
    exact (h1 i).choose_spec ((hM i).1 hm).1
  · have h2 : WinT g (fun i => inB I i ∧ ¬ inB A i) p fr (fun i => inB I i ∧ ¬ inB A i) :=
      (hw.iffI (fun i => (less_in hc i).symm)).iff (fun i => by
        rw [← less_in hc i, h.all i]
        exact ⟨fun k => k.elim id (fun k => absurd k (hb i)), .inl⟩)
    exact h2.congr fun i hi e => by rw [if_neg (fun k => hi.2 (hMA i k)), if_neg hi.2]
/-- What the other one wins of the rest draws more to it; the rest of that is parted anew. -/
theorem won_two (hR : isR g = true) (hp : p = 0 ∨ p = 1) (hL : LiveB g I) (hl : A.length = g.ow.length) (hA : AttrT g I p M A) (hc : LessT I A c) (h : WonP g c p a b) (hlB : B.length = g.ow.length) (hB : AttrT g I (1 - p) b B) (hc2 : LessT I B c2) (h2 : WonP g c2 p a2 b2)
    (hla : a3.length = g.ow.length) (hlb : b3.length = g.ow.length) (ha3 : ∀ i, inB a3 i ↔ inB a2 i) (hb3 : ∀ i, inB b3 i ↔ inB b2 i ∨ inB B i) : WonP g I p a3 b3 := by
  classical
  have hG := isR_ok hR
  have hn := hG.n1
  have hsB := attB_sub hL hn hlB hB
  have hbc : ∀ i, inB b i → inB I i ∧ ¬ inB A i := fun i hi => (less_in hc i).1 ((h.all i).2 (.inr hi))
  have hbB : ∀ i, inB b i → inB B i := fun i hi => attB_base hL hn hB i hi (hbc i hi).1
  have how : ∀ i, inB I i → gI g.ow i = 0 ∨ gI g.ow i = 1 := fun i hi => hG.ow i hi.1 (live_lt hL hi)
  obtain ⟨fb, hwb⟩ := h.wq
  obtain ⟨fB, rk, hd⟩ := draw_A hR hL hlB hB
  obtain ⟨f2, hw2⟩ := h2.wq
  have k1 : WinT g (fun i => inB I i ∧ ¬ inB A i) (1 - p) fb (inB b) := hwb.iffI (fun i => (less_in hc i).symm)
  have k2 : WinT g (inB I) (1 - p) fb (inB b) := win_part k1 (fun i hi => hi.1) (fun i hi e m hm hI => ⟨hI, attB_own hL hA i (hbc i hi).1 (hbc i hi).2 (by
    have := how i (hbc i hi).1
    omega) m hm hI⟩)
  have k3 : WinT g (inB I) (1 - p) (fun i => if inB b i then fb i else fB i) (inB B) :=
    win_draw (r := fun n => n) (k2.congr fun i hi e => if_pos hi) (hd.congr fun i _ hi e => if_neg hi) hbB
  refine ⟨hla, hlb, fun i => ?_, ?_, ?_⟩
  · rw [ha3, hb3]
    have h3 := h2.all i
    rw [less_in hc2 i] at h3
    constructor
    · intro hi
      by_cases hg : inB B i
      · exact .inr (.inr hg)
      · exact (h3.1 ⟨hi, hg⟩).elim .inl (fun k => .inr (.inl k))
    · rintro (k | k | k)
      · exact (h3.2 (.inl k)).1
      · exact (h3.2 (.inr k)).1
      · exact hsB i k
  · obtain ⟨f1, hw1⟩ := h2.wp
    have h3 : WinT g (fun i => inB I i ∧ ¬ inB B i) p f1 (inB a2) := hw1.iffI (fun i => (less_in hc2 i).symm)
    refine ⟨f1, (win_part h3 (fun i hi => hi.1) (fun i hi e m hm hI => ⟨hI, ?_⟩)).iff ha3⟩
    have h4 := h3.sub i hi
    have := how i h4.1
    exact attB_own hL hB i h4.1 h4.2 (by omega) m hm hI
  · have h3 : WinT g (fun i => inB I i ∧ ¬ inB B i) (1 - p) f2 (inB b2) := hw2.iffI (fun i => (less_in hc2 i).symm)
    refine ⟨fun i => if inB B i then (if inB b i then fb i else fB i) else f2 i, (win_both (A := inB B) (V := inB b2) (k3.congr fun i hi e => if_pos hi) (h3.congr fun i hi e => if_neg (h3.sub i hi).2)).iff (fun i => by rw [hb3]; exact or_comm)⟩
theorem won_empty (h : ∀ i, ¬ inB I i) (hla : a.length = g.ow.length) (hlb : b.length = g.ow.length) (ha : ∀ i, ¬ inB a i) (hb : ∀ i, ¬ inB b i) : WonP g I p a b :=
  ⟨hla, hlb, fun i => ⟨fun k => absurd k (h i), fun k => absurd k (fun k => k.elim (ha i) (hb i))⟩, ⟨fun i => i, win_none.iff (fun i => ⟨fun k => ha i k, fun k => k.elim⟩)⟩, ⟨fun i => i, win_none.iff (fun i => ⟨fun k => hb i k, fun k => k.elim⟩)⟩⟩
theorem won_one (h : ∃ f, WinT g (inB I) p f (inB I)) (hl : I.length = g.ow.length) (hlb : b.length = g.ow.length) (hb : ∀ i, ¬ inB b i) : WonP g I p I b :=
  ⟨hl, hlb, fun i => ⟨.inl, fun k => k.elim id (fun k => absurd k (hb i))⟩, h, ⟨fun i => i, win_none.iff (fun i => ⟨fun k => hb i k, fun k => k.elim⟩)⟩⟩
theorem rep_in (n : Nat) (i : Int) : ¬ inB (List.replicate n false) i := fun h => by
  have := h.2
  rw [gB_rep] at this
  cases this
/-- The rest is less. -/
theorem less_dec (hc : LessT I A c) (hn : I.length ≤ 200) (h : ∃ i, inB I i ∧ inB A i) : cT c 256 < cT I 256 := by
  obtain ⟨i, h1, h2⟩ := h
  have hlt := inB_lt h1
  have hno : ¬ gB c i = true := fun k => ((less_in hc i).1 ⟨h1.1, k⟩).2 h2
  have key : ∀ n : Nat, cT c n + (if i < (n : Int) then 1 else 0) ≤ cT I n := by
    intro n
    induction n with
    | zero => rw [cT_0, cT_0, if_neg (by have := h1.1; omega)]; omega
    | succ n ih =>
      rw [cT_s, cT_s]
      by_cases e : i = (n : Int)
      · rw [← e, if_neg hno, if_pos h1.2, if_pos (by omega)]
        rw [if_neg (by omega)] at ih
        omega
      · have h3 : gB c (n : Int) = true → gB I (n : Int) = true := fun k => ((less_in hc _).1 ⟨by omega, k⟩).1.2
        have e3 : (if i < ((n + 1 : Nat) : Int) then (1 : Int) else 0) = if i < (n : Int) then 1 else 0 := by
          by_cases h5 : i < (n : Int)
          · rw [if_pos h5, if_pos (by omega)]
          · rw [if_neg h5, if_neg (by omega)]
        rw [e3]
        cases h4 : gB c (n : Int)
        · cases gB I (n : Int) <;> simp <;> omega
        · rw [h3 h4]
          simp
          omega
  have := key 256
  rw [if_pos (by omega)] at this
  omega
theorem rep_live (hR : isR g = true) : LiveB g (List.replicate g.ow.length true) ∧ ∀ i, inB (List.replicate g.ow.length true) i ↔ 0 ≤ i ∧ i < (g.ow.length : Int) := by
  have hG := isR_ok hR
  have key : ∀ i, inB (List.replicate g.ow.length true) i ↔ 0 ≤ i ∧ i < (g.ow.length : Int) := fun i => by
    constructor
    · intro h
      have := inB_lt h
      rw [List.length_replicate] at this
      exact ⟨h.1, this⟩
    · rintro ⟨h1, h2⟩
      refine ⟨h1, ?_⟩
      simp only [gB, List.getD_eq_getElem?_getD, List.getElem?_replicate]
      rw [if_pos (by omega)]
      rfl
  refine ⟨⟨List.length_replicate, fun i hi => ?_⟩, key⟩
  obtain ⟨a, b⟩ := (key i).1 hi
  have hne := hG.ne i a b
  have hm := hG.mv i a b 0 (Int.le_refl _) (by omega)
  refine ⟨gI (gL g.mv i) 0, ?_, (key _).2 hm⟩
  rw [gI_eq (Int.le_refl _) (by omega)]
  exact List.getElem_mem _
theorem won_split (hR : isR g = true) (h : WonP g (List.replicate g.ow.length true) 0 a b) : ∃ f0 f1, Split g g.ow.length (inB a) (inB b) f0 f1 := by
  have hk := (rep_live hR).2
  obtain ⟨f0, w0⟩ := h.wp
  obtain ⟨f1, w1⟩ := h.wq
  exact ⟨f0, f1, fun i x y => (h.all i).1 ((hk i).2 ⟨x, y⟩), w0.iffI (fun i => (hk i).symm), w1.iffI (fun i => (hk i).symm)⟩
end
end Go.Proofs.Ytklbpajmoklheaa
