/-
  Plain: who wins where: a strategy's region, and how regions are put together. No program.
-/
import Derived.Test.YtklbpajmoklheaaPureRight
set_option linter.unusedVariables false
namespace Go.Proofs.Ytklbpajmoklheaa
open Go Go.RowKit
/-- A way of steps of E, one at least. -/
inductive Way (E : Int → Int → Prop) : Int → Int → Prop
  | one {a b : Int} : E a b → Way E a b
  | more {a b c : Int} : E a b → Way E b c → Way E a c
theorem Way.mono {E F : Int → Int → Prop} (hi : ∀ a b, E a b → F a b) : ∀ {a b : Int}, Way E a b → Way F a b
  | _, _, .one h => .one (hi _ _ h)
  | _, _, .more h k => .more (hi _ _ h) (Way.mono hi k)
theorem Way.trans {E : Int → Int → Prop} : ∀ {a b c : Int}, Way E a b → Way E b c → Way E a c
  | _, _, _, .one h, k => .more h k
  | _, _, _, .more h h2, k => .more h (Way.trans h2 k)
/-- What is closed under the steps is not left. -/
theorem Way.stay {E : Int → Int → Prop} {U : Int → Prop} (hU : ∀ a b, E a b → U a → U b) : ∀ {a b : Int}, Way E a b → U a → Way (fun x y => E x y ∧ U x ∧ U y) a b ∧ U b
  | _, _, .one h, hu => ⟨.one ⟨h, hu, hU _ _ h hu⟩, hU _ _ h hu⟩
  | _, _, .more h k, hu => by
    have h2 := hU _ _ h hu
    obtain ⟨k1, k2⟩ := Way.stay hU k h2
    exact ⟨.more ⟨h, hu, h2⟩ k1, k2⟩
/-- A way that ends outside was always outside. -/
theorem Way.out {E : Int → Int → Prop} {U : Int → Prop} (hU : ∀ a b, E a b → U a → U b) : ∀ {a b : Int}, Way E a b → ¬ U b → Way (fun x y => E x y ∧ ¬ U x ∧ ¬ U y) a b ∧ ¬ U a
  | _, _, .one h, hu => ⟨.one ⟨h, fun hx => hu (hU _ _ h hx), hu⟩, fun hx => hu (hU _ _ h hx)⟩
  | _, _, .more h k, hu => by
    obtain ⟨k1, k2⟩ := Way.out hU k hu
    exact ⟨.more ⟨h, fun hx => k2 (hU _ _ h hx), k2⟩ k1, fun hx => k2 (hU _ _ h hx)⟩
theorem Way.down {E : Int → Int → Prop} {r : Int → Nat} (hr : ∀ a b, E a b → r b < r a) : ∀ {a b : Int}, Way E a b → r b < r a
  | _, _, .one h => hr _ _ h
  | _, _, .more h k => Nat.lt_trans (Way.down hr k) (hr _ _ h)
theorem Way.src {E : Int → Int → Prop} {a b : Int} (h : Way E a b) : ∃ c, E a c := by
  cases h with
  | one h => exact ⟨_, h⟩
  | more h _ => exact ⟨_, h⟩
theorem Way.snk {E : Int → Int → Prop} : ∀ {a b : Int}, Way E a b → ∃ c, E c b
  | _, _, .one h => ⟨_, h⟩
  | _, _, .more _ k => Way.snk k

/-- A step within I from W on: the player p's own as f says. -/
def stepW (g : GameL) (I : Int → Prop) (p : Int) (f : Int → Int) (W : Int → Prop) (x y : Int) : Prop := W x ∧ y ∈ gL g.mv x ∧ I y ∧ (gI g.ow x = p → y = f x)
/-- A step on which nothing is higher than b. -/
def lowE (g : GameL) (I : Int → Prop) (p : Int) (f : Int → Int) (W : Int → Prop) (b x y : Int) : Prop := stepW g I p f W x y ∧ gI g.pr x ≤ b ∧ gI g.pr y ≤ b
/-- Within I the player p wins from W by f. -/
structure WinT (g : GameL) (I : Int → Prop) (p : Int) (f : Int → Int) (W : Int → Prop) : Prop where
  sub : ∀ i, W i → I i
  own : ∀ i, W i → gI g.ow i = p → f i ∈ gL g.mv i ∧ W (f i)
  oth : ∀ i, W i → gI g.ow i ≠ p → ∀ m ∈ gL g.mv i, I m → W m
  cyc : ∀ i, W i → gI g.pr i % 2 ≠ p → ¬ Way (lowE g I p f W (gI g.pr i)) i i
section
variable {g : GameL} {I W V A M : Int → Prop} {p q : Int} {f f' : Int → Int}
theorem WinT.step (h : WinT g I p f W) {x y : Int} (hs : stepW g I p f W x y) : W y := by
  obtain ⟨h1, h2, h3, h4⟩ := hs
  by_cases e : gI g.ow x = p
  · rw [h4 e]
    exact (h.own x h1 e).2
  · exact h.oth x h1 e y h2 h3
theorem win_none : WinT g I p f (fun _ => False) := ⟨fun _ h => h.elim, fun _ h => h.elim, fun _ h => h.elim, fun _ h => h.elim⟩
/-- Only what f says in W counts. -/
theorem WinT.congr (h : WinT g I p f W) (he : ∀ i, W i → gI g.ow i = p → f' i = f i) : WinT g I p f' W := by
  refine ⟨h.sub, fun i hi e => by rw [he i hi e]; exact h.own i hi e, h.oth, fun i hi e hw => h.cyc i hi e (hw.mono ?_)⟩
  rintro a b ⟨⟨h1, h2, h3, h4⟩, h5⟩
  exact ⟨⟨h1, h2, h3, fun e => by rw [← he a h1 e]; exact h4 e⟩, h5⟩
theorem WinT.iff (h : WinT g I p f W) (he : ∀ i, V i ↔ W i) : WinT g I p f V := by
  have : V = W := funext fun i => propext (he i)
  rw [this]
  exact h
theorem WinT.iffI {J : Int → Prop} (h : WinT g I p f W) (he : ∀ i, J i ↔ I i) : WinT g J p f W := by
  have : J = I := funext fun i => propext (he i)
  rw [this]
  exact h
/-- Won within a part from which the other one can't go: won. -/
theorem win_part (h : WinT g W p f V) (hWI : ∀ i, W i → I i) (ht : ∀ i, V i → gI g.ow i ≠ p → ∀ m ∈ gL g.mv i, I m → W m) : WinT g I p f V := by
  refine ⟨fun i hi => hWI i (h.sub i hi), h.own, fun i hi e m hm hI => h.oth i hi e m hm (ht i hi e m hm hI), fun i hi e hw => h.cyc i hi e (hw.mono ?_)⟩
  rintro a b ⟨⟨h1, h2, h3, h4⟩, h5⟩
  refine ⟨⟨h1, h2, ?_, h4⟩, h5⟩
  by_cases e : gI g.ow a = p
  · rw [h4 e]
    exact h.sub _ (h.own a h1 e).2
  · exact ht a h1 e b h2 h3
/-- An attractor's steps. -/
structure Draw (g : GameL) (I : Int → Prop) (p : Int) (f : Int → Int) (T A : Int → Prop) (r : Int → Nat) : Prop where
  sub : ∀ i, A i → I i
  own : ∀ i, A i → ¬ T i → gI g.ow i = p → f i ∈ gL g.mv i ∧ A (f i) ∧ r (f i) < r i
  oth : ∀ i, A i → ¬ T i → gI g.ow i ≠ p → ∀ m ∈ gL g.mv i, I m → A m ∧ r m < r i
/-- The attractor of what is won is won. -/
theorem win_draw {r : Nat → Nat} {rk : Int → Nat} (h : WinT g I p f V) (hd : Draw g I p f V A rk) (hV : ∀ i, V i → A i) : WinT g I p f A := by
  refine ⟨hd.sub, fun i hi e => ?_, fun i hi e m hm hI => ?_, fun i hi e hw => ?_⟩
  · by_cases hv : V i
    · exact ⟨(h.own i hv e).1, hV _ (h.own i hv e).2⟩
    · exact ⟨(hd.own i hi hv e).1, (hd.own i hi hv e).2.1⟩
  · by_cases hv : V i
    · exact hV _ (h.oth i hv e m hm hI)
    · exact (hd.oth i hi hv e m hm hI).1
  · have hU : ∀ a b, lowE g I p f A (gI g.pr i) a b → V a → V b := by
      rintro a b ⟨⟨h1, h2, h3, h4⟩, h5⟩ hv
      exact h.step ⟨hv, h2, h3, h4⟩
    by_cases hv : V i
    · refine h.cyc i hv e ((Way.stay hU hw hv).1.mono ?_)
      rintro a b ⟨⟨⟨h1, h2, h3, h4⟩, h5⟩, h6, h7⟩
      exact ⟨⟨h6, h2, h3, h4⟩, h5⟩
    · have h2 := (Way.out hU hw hv).1
      have h3 := Way.down (r := rk) (E := fun x y => lowE g I p f A (gI g.pr i) x y ∧ ¬ V x ∧ ¬ V y) (by
        rintro a b ⟨⟨⟨h1, h2, h3, h4⟩, h5⟩, h6, h7⟩
        by_cases eo : gI g.ow a = p
        · rw [h4 eo]
          exact (hd.own a h1 h6 eo).2.2
        · exact (hd.oth a h1 h6 eo b h2 h3).2) h2
      omega
/-- Two regions, the second within what the first leaves. -/
theorem win_both (h : WinT g I p f A) (h2 : WinT g (fun i => I i ∧ ¬ A i) p f V) : WinT g I p f (fun i => A i ∨ V i) := by
  refine ⟨fun i hi => hi.elim (h.sub i) (fun k => (h2.sub i k).1), fun i hi e => ?_, fun i hi e m hm hI => ?_, fun i hi e hw => ?_⟩
  · rcases hi with hi | hi
    · exact ⟨(h.own i hi e).1, .inl (h.own i hi e).2⟩
    · exact ⟨(h2.own i hi e).1, .inr (h2.own i hi e).2⟩
  · rcases hi with hi | hi
    · exact .inl (h.oth i hi e m hm hI)
    · by_cases ha : A m
      · exact .inl ha
      · exact .inr (h2.oth i hi e m hm ⟨hI, ha⟩)
  · have hU : ∀ a b, lowE g I p f (fun i => A i ∨ V i) (gI g.pr i) a b → A a → A b := by
      rintro a b ⟨⟨h1, h2, h3, h4⟩, h5⟩ hv
      exact h.step ⟨hv, h2, h3, h4⟩
    by_cases ha : A i
    · refine h.cyc i ha e ((Way.stay hU hw ha).1.mono ?_)
      rintro a b ⟨⟨⟨h1, h2, h3, h4⟩, h5⟩, h6, h7⟩
      exact ⟨⟨h6, h2, h3, h4⟩, h5⟩
    · refine h2.cyc i (hi.resolve_left ha) e ((Way.out hU hw ha).1.mono ?_)
      rintro a b ⟨⟨⟨h1, h2, h3, h4⟩, h5⟩, h6, h7⟩
      exact ⟨⟨h1.resolve_left h6, h2, ⟨h3, h7⟩, h4⟩, h5⟩
/-- The highest priority's player wins all, if the other one wins nothing of what is not drawn to it. -/
theorem win_top {rk : Int → Nat} {t : Int} (hM : ∀ i, M i ↔ I i ∧ gI g.pr i = t) (ht : ∀ i, I i → gI g.pr i ≤ t) (hp : t % 2 = p) (hd : Draw g I p f M A rk) (hA : ∀ i, M i → A i)
    (hm : ∀ i, M i → gI g.ow i = p → f i ∈ gL g.mv i ∧ I (f i)) (h : WinT g (fun i => I i ∧ ¬ A i) p f (fun i => I i ∧ ¬ A i)) : WinT g I p f I := by
  refine ⟨fun i hi => hi, fun i hi e => ?_, fun i hi e m hm hI => hI, fun i hi e hw => ?_⟩
  · by_cases ha : A i
    · by_cases hmi : M i
      · exact hm i hmi e
      · exact ⟨(hd.own i ha hmi e).1, hd.sub _ (hd.own i ha hmi e).2.1⟩
    · exact ⟨(h.own i ⟨hi, ha⟩ e).1, (h.own i ⟨hi, ha⟩ e).2.1⟩
  · have hlt : gI g.pr i < t := by
      have := ht i hi
      have : gI g.pr i ≠ t := fun h2 => e (by rw [h2]; exact hp)
      omega
    have hnM : ∀ x, gI g.pr x ≤ gI g.pr i → ¬ M x := fun x hx hmx => by
      have := ((hM x).1 hmx).2
      omega
    have hU : ∀ a b, lowE g I p f I (gI g.pr i) a b → A a → A b := by
      rintro a b ⟨⟨h1, h2, h3, h4⟩, h5, h6⟩ hv
      have hna := hnM a h5
      by_cases eo : gI g.ow a = p
      · rw [h4 eo]
        exact (hd.own a hv hna eo).2.1
      · exact (hd.oth a hv hna eo b h2 h3).1
    by_cases ha : A i
    · have h2 := (Way.stay hU hw ha).1
      have h3 := Way.down (r := rk) (E := fun x y => lowE g I p f I (gI g.pr i) x y ∧ A x ∧ A y) (by
        rintro a b ⟨⟨⟨h1, h2, h3, h4⟩, h5, h8⟩, h6, h7⟩
        have hna := hnM a h5
        by_cases eo : gI g.ow a = p
        · rw [h4 eo]
          exact (hd.own a h6 hna eo).2.2
        · exact (hd.oth a h6 hna eo b h2 h3).2) h2
      omega
    · refine h.cyc i ⟨hi, ha⟩ e ((Way.out hU hw ha).1.mono ?_)
      rintro a b ⟨⟨⟨h1, h2, h3, h4⟩, h5⟩, h6, h7⟩
      exact ⟨⟨⟨h1, h6⟩, h2, ⟨h3, h7⟩, h4⟩, h5⟩
end
/-! ### No position is won by both -/
/-- The steps of a function. -/
def itF (f : Int → Int) : Nat → Int → Int
  | 0, x => x
  | k + 1, x => itF f k (f x)
theorem itF_succ (f : Int → Int) : ∀ (k : Nat) (x : Int), itF f (k + 1) x = f (itF f k x)
  | 0, _ => rfl
  | k + 1, x => by rw [itF, itF_succ f k (f x)]; rfl
theorem itF_add (f : Int → Int) (j : Nat) (x : Int) : ∀ k : Nat, itF f (k + j) x = itF f k (itF f j x)
  | 0 => by rw [Nat.zero_add]; rfl
  | k + 1 => by rw [show k + 1 + j = (k + j) + 1 by omega, itF_succ, itF_add f j x k, itF_succ]
/-- Two of the first n + 1 are the same. -/
theorem pigeon : ∀ (n : Nat) (v : Nat → Int), (∀ k, k ≤ n → 0 ≤ v k ∧ v k < (n : Int)) → ∃ a b, a < b ∧ b ≤ n ∧ v a = v b
  | 0, v, h => by have := h 0 (Nat.le_refl _); omega
  | n + 1, v, h => by
    by_cases hl : ∃ a, a ≤ n ∧ v a = v (n + 1)
    · obtain ⟨a, ha, e⟩ := hl
      exact ⟨a, n + 1, by omega, Nat.le_refl _, e⟩
    · -- the value of the last one is taken out: the greatest takes its place
      have h1 := h (n + 1) (Nat.le_refl _)
      obtain ⟨a, b, hab, hb, e⟩ := pigeon n (fun k => if v k = (n : Int) then v (n + 1) else v k) (fun k hk => by
        have h2 := h k (by omega)
        have h3 : v k ≠ v (n + 1) := fun e => hl ⟨k, hk, e⟩
        show 0 ≤ (if v k = (n : Int) then v (n + 1) else v k) ∧ (if v k = (n : Int) then v (n + 1) else v k) < (n : Int)
        split <;> omega)
      refine ⟨a, b, hab, by omega, ?_⟩
      have ha3 : v a ≠ v (n + 1) := fun e => hl ⟨a, by omega, e⟩
      have hb3 : v b ≠ v (n + 1) := fun e => hl ⟨b, by omega, e⟩
      split at e <;> split at e <;> omega
/-- The greatest of some. -/
theorem greatest (f : Nat → Int) (a : Nat) : ∀ (n : Nat), ∃ c, a ≤ c ∧ c ≤ a + n ∧ ∀ k, a ≤ k → k ≤ a + n → f k ≤ f c
  | 0 => ⟨a, Nat.le_refl _, by omega, fun k h1 h2 => by rw [show k = a by omega]; exact Int.le_refl _⟩
  | n + 1 => by
    obtain ⟨c, h1, h2, h3⟩ := greatest f a n
    by_cases hc : f c ≤ f (a + (n + 1))
    · refine ⟨a + (n + 1), by omega, Nat.le_refl _, fun k k1 k2 => ?_⟩
      by_cases e : k = a + (n + 1)
      · rw [e]
        exact Int.le_refl _
      · have := h3 k k1 (by omega)
        omega
    · refine ⟨c, h1, by omega, fun k k1 k2 => ?_⟩
      by_cases e : k = a + (n + 1)
      · rw [e]
        omega
      · exact h3 k k1 (by omega)
theorem way_it {E : Int → Int → Prop} {f : Int → Int} {x : Int} : ∀ {n a : Nat}, (∀ k, a ≤ k → k < a + (n + 1) → E (itF f k x) (itF f (k + 1) x)) → Way E (itF f a x) (itF f (a + (n + 1)) x)
  | 0, a, h => .one (h a (Nat.le_refl _) (by omega))
  | n + 1, a, h => by
    have h1 := h a (Nat.le_refl _) (by omega)
    have h2 := way_it (E := E) (f := f) (x := x) (n := n) (a := a + 1) (fun k k1 k2 => h k (by omega) (by omega))
    rw [show a + 1 + (n + 1) = a + (n + 1 + 1) by omega] at h2
    exact .more h1 h2
/-- A function on a finite set goes round somewhere, and some position on the round is as high as any. -/
theorem round_top {n : Nat} {S : Int → Prop} {f pr : Int → Int} (hS : ∀ x, S x → 0 ≤ x ∧ x < (n : Int)) (hf : ∀ x, S x → S (f x)) {x : Int} (hx : S x) :
    ∃ c, S c ∧ Way (fun a b => S a ∧ b = f a ∧ pr a ≤ pr c ∧ pr b ≤ pr c) c c := by
  have hk : ∀ k, S (itF f k x) := by
    intro k
    induction k with
    | zero => exact hx
    | succ k ih => rw [itF_succ]; exact hf _ ih
  obtain ⟨a, b, hab, hb, e⟩ := pigeon n (fun k => itF f k x) (fun k _ => hS _ (hk k))
  have e : itF f a x = itF f b x := e
  obtain ⟨c, c1, c2, c3⟩ := greatest (fun k => pr (itF f k x)) a (b - a)
  have hper : ∀ k, itF f (k + (b - a)) (itF f a x) = itF f k (itF f a x) := fun k => by
    rw [itF_add, ← itF_add f a x (b - a), show b - a + a = b by omega, ← e]
  have hc : itF f (c + (b - a)) x = itF f c x := by
    rw [show c + (b - a) = (c - a + (b - a)) + a by omega, itF_add f a x, hper, ← itF_add, show c - a + a = c by omega]
  have hall : ∀ k, a ≤ k → k < c + (b - a) + 1 → pr (itF f k x) ≤ pr (itF f c x) := by
    intro k k1 k2
    by_cases h3 : k ≤ b
    · exact c3 k k1 (by omega)
    · have : itF f k x = itF f (k - (b - a)) x := by
        rw [show k = (k - b + (b - a)) + a by omega, itF_add f a x, hper, ← itF_add, show k - b + a = k - b + (b - a) + a - (b - a) by omega]
      rw [this]
      exact c3 _ (by omega) (by omega)
  refine ⟨itF f c x, hk c, ?_⟩
  have := way_it (E := fun u v => S u ∧ v = f u ∧ pr u ≤ pr (itF f c x) ∧ pr v ≤ pr (itF f c x)) (f := f) (x := x) (n := b - a - 1) (a := c) (fun k k1 k2 => ⟨hk k, by rw [itF_succ], hall k (by omega) (by omega), hall (k + 1) (by omega) (by omega)⟩)
  rw [show c + (b - a - 1 + 1) = c + (b - a) by omega, hc] at this
  exact this
/-- No position of a game is won by both. -/
theorem win_one {g : GameL} {n : Nat} {W V : Int → Prop} {f h : Int → Int} (hW : WinT g (fun i => 0 ≤ i ∧ i < (n : Int)) 0 f W) (hV : WinT g (fun i => 0 ≤ i ∧ i < (n : Int)) 1 h V) (hmv : ∀ i, 0 ≤ i → i < (n : Int) → ∀ m ∈ gL g.mv i, 0 ≤ m ∧ m < (n : Int))
    (how : ∀ i, 0 ≤ i → i < (n : Int) → gI g.ow i = 0 ∨ gI g.ow i = 1) : ∀ i, W i → V i → False := by
  intro i hi hv
  have hS : ∀ x, W x ∧ V x → 0 ≤ x ∧ x < (n : Int) := fun x hx => hW.sub x hx.1
  have hf : ∀ x, W x ∧ V x → (fun y => W y ∧ V y) ((fun z => if gI g.ow z = 0 then f z else h z) x) := by
    intro x ⟨h1, h2⟩
    have hr := hW.sub x h1
    show W (if gI g.ow x = 0 then f x else h x) ∧ V (if gI g.ow x = 0 then f x else h x)
    by_cases e : gI g.ow x = 0
    · rw [if_pos e]
      have h3 := hW.own x h1 e
      exact ⟨h3.2, hV.oth x h2 (by omega) _ h3.1 (hmv x hr.1 hr.2 _ h3.1)⟩
    · rw [if_neg e]
      have e1 : gI g.ow x = 1 := (how x hr.1 hr.2).resolve_left e
      have h3 := hV.own x h2 e1
      exact ⟨hW.oth x h1 e _ h3.1 (hmv x hr.1 hr.2 _ h3.1), h3.2⟩
  obtain ⟨c, ⟨hc1, hc2⟩, hw⟩ := round_top (n := n) (S := fun y => W y ∧ V y) (f := fun z => if gI g.ow z = 0 then f z else h z) (pr := fun z => gI g.pr z) hS hf ⟨hi, hv⟩
  by_cases e : gI g.pr c % 2 = 0
  · refine hV.cyc c hc2 (by omega) (hw.mono ?_)
    rintro a b ⟨⟨ha1, ha2⟩, rfl, h3, h4⟩
    have hr := hW.sub a ha1
    have hb := (hf a ⟨ha1, ha2⟩)
    refine ⟨⟨ha2, ?_, hS _ hb, fun e1 => ?_⟩, h3, h4⟩
    · by_cases e0 : gI g.ow a = 0
      · rw [if_pos e0]
        exact (hW.own a ha1 e0).1
      · rw [if_neg e0]
        exact (hV.own a ha2 ((how a hr.1 hr.2).resolve_left e0)).1
    · rw [if_neg (by omega)]
  · refine hW.cyc c hc1 e (hw.mono ?_)
    rintro a b ⟨⟨ha1, ha2⟩, rfl, h3, h4⟩
    have hr := hW.sub a ha1
    have hb := (hf a ⟨ha1, ha2⟩)
    refine ⟨⟨ha1, ?_, hS _ hb, fun e1 => ?_⟩, h3, h4⟩
    · by_cases e0 : gI g.ow a = 0
      · rw [if_pos e0]
        exact (hW.own a ha1 e0).1
      · rw [if_neg e0]
        exact (hV.own a ha2 ((how a hr.1 hr.2).resolve_left e0)).1
    · rw [if_pos e1]
/-- Who wins where: the positions are parted, and each player wins its own. -/
structure Split (g : GameL) (n : Nat) (W0 W1 : Int → Prop) (f0 f1 : Int → Int) : Prop where
  all : ∀ i, 0 ≤ i → i < (n : Int) → W0 i ∨ W1 i
  w0 : WinT g (fun i => 0 ≤ i ∧ i < (n : Int)) 0 f0 W0
  w1 : WinT g (fun i => 0 ≤ i ∧ i < (n : Int)) 1 f1 W1
theorem split_one {g : GameL} (hG : RightG g) {W0 W1 V0 V1 : Int → Prop} {f0 f1 h0 h1 : Int → Int} (h : Split g g.ow.length W0 W1 f0 f1) (k : Split g g.ow.length V0 V1 h0 h1) : (∀ i, W0 i ↔ V0 i) ∧ (∀ i, W1 i ↔ V1 i) := by
  have hmv : ∀ i, 0 ≤ i → i < (g.ow.length : Int) → ∀ m ∈ gL g.mv i, 0 ≤ m ∧ m < (g.ow.length : Int) := fun i a b m hm => by
    obtain ⟨k, hk, rfl⟩ := List.mem_iff_getElem.1 hm
    have := hG.mv i a b (k : Int) (by omega) (by omega)
    simp only [gI, Int.toNat_natCast, List.getD_eq_getElem?_getD, List.getElem?_eq_getElem hk, Option.getD_some] at this
    exact this
  have e1 := win_one h.w0 k.w1 hmv hG.ow
  have e2 := win_one k.w0 h.w1 hmv hG.ow
  refine ⟨fun i => ⟨fun hi => ?_, fun hi => ?_⟩, fun i => ⟨fun hi => ?_, fun hi => ?_⟩⟩
  · have hr := h.w0.sub i hi
    exact (k.all i hr.1 hr.2).resolve_right (e1 i hi)
  · have hr := k.w0.sub i hi
    exact (h.all i hr.1 hr.2).resolve_right (e2 i hi)
  · have hr := h.w1.sub i hi
    exact (k.all i hr.1 hr.2).resolve_left (fun h0 => e2 i h0 hi)
  · have hr := k.w1.sub i hi
    exact (h.all i hr.1 hr.2).resolve_left (fun h0 => e1 i h0 hi)
end Go.Proofs.Ytklbpajmoklheaa
