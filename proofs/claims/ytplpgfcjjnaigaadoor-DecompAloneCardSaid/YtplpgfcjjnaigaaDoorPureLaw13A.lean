/-
  Plain: where one player moves alone (law DecompAlone). No program.
-/
import Derived.Test.YtplpgfcjjnaigaaDoorPureLaw13
import Derived.Test.YtplpgfcjjnaigaaDoorPureDecW
set_option linter.unusedVariables false
set_option linter.unusedSimpArgs false
namespace Go.Proofs.YtplpgfcjjnaigaaDoor
open Go Go.RowKit
/-- A move to what is not above i. -/
def upE (g : GameL) (i x y : Int) : Prop := 0 ≤ x ∧ x < (g.ow.length : Int) ∧ y ∈ gL g.mv x ∧ gI g.pr y ≤ gI g.pr i
def anyE (g : GameL) (x y : Int) : Prop := 0 ≤ x ∧ x < (g.ow.length : Int) ∧ y ∈ gL g.mv x
/-- What is reached so far: rs; what is still to be looked at: op. -/
structure ReachT (g : GameL) (i : Int) (rs op : List Int) : Prop where
  ok : OkW rs
  way : ∀ m, inP rs m → Way (upE g i) i m
  opn : ∀ x ∈ op, x = i ∨ inP rs x
  don : ∀ x, (x = i ∨ inP rs x) → x ∉ op → ∀ m ∈ gL g.mv x, gI g.pr m ≤ gI g.pr i → inP rs m
structure ReachK (g : GameL) (i : Int) (rs op : List Int) (x k : Int) : Prop where
  ok : OkW rs
  way : ∀ m, inP rs m → Way (upE g i) i m
  opn : ∀ x ∈ op, x = i ∨ inP rs x
  at_ : x = i ∨ inP rs x
  don : ∀ y, (y = i ∨ inP rs y) → y ∉ op → y ≠ x → ∀ m ∈ gL g.mv y, gI g.pr m ≤ gI g.pr i → inP rs m
  cur : ∀ j : Int, 0 ≤ j → j < k → gI g.pr (gI (gL g.mv x) j) ≤ gI g.pr i → inP rs (gI (gL g.mv x) j)
section
variable {g : GameL} {i x k p : Int} {rs op : List Int}
theorem reach_0 : ReachT g i [0, 0, 0, 0] [i] := by
  refine ⟨okW_00, fun m h => absurd h (inP_00 m), fun x hx => .inl (List.mem_singleton.1 hx), fun x hx hn => ?_⟩
  rcases hx with rfl | hx
  · exact absurd (List.mem_singleton.2 rfl) hn
  · exact absurd hx (inP_00 x)
theorem way_rng (hR : isR g = true) {m : Int} (h : Way (upE g i) i m) : 0 ≤ m ∧ m < (g.ow.length : Int) := by
  obtain ⟨c, h1, h2, h3, h4⟩ := h.snk
  exact row_rng hR h1 h2 h3
theorem ReachT.rng (hR : isR g = true) (h : ReachT g i rs op) (a : 0 ≤ i) (b : i < (g.ow.length : Int)) {x : Int} (hx : x ∈ op) : 0 ≤ x ∧ x < (g.ow.length : Int) := by
  rcases h.opn x hx with rfl | h2
  · exact ⟨a, b⟩
  · exact way_rng hR (h.way x h2)
theorem reach_pop (h : ReachT g i rs op) (hl : 0 < op.length) (hx : x = gI op ((op.length : Int) - 1)) {o2 : List Int} (ho : o2 = op.take (op.length - 1)) : ReachK g i rs o2 x 0 := by
  have e : op = op.take (op.length - 1) ++ [x] := by
    have h2 : op.take (op.length - 1 + 1) = op.take (op.length - 1) ++ [op[op.length - 1]] := List.take_succ_eq_append_getElem (by omega)
    rw [List.take_of_length_le (by omega)] at h2
    rw [hx, gI_eq (by omega) (by omega)]
    have e3 : ((op.length : Int) - 1).toNat = op.length - 1 := by omega
    simp only [e3]
    exact h2.trans (by rfl)
  have hm : x ∈ op := by rw [hx]; exact mem_of_gI (by omega) (by omega)
  subst ho
  refine ⟨h.ok, h.way, fun y hy => h.opn y (List.mem_of_mem_take hy), h.opn x hm, fun y hy hn hne => h.don y hy (fun h2 => ?_), fun j a b => by omega⟩
  rw [e, List.mem_append] at h2
  exact h2.elim hn (fun h3 => hne (List.mem_singleton.1 h3))
theorem reach_no (h : ReachK g i rs op x k) (hc : gI g.pr (gI (gL g.mv x) k) ≤ gI g.pr i → hasW rs (gI (gL g.mv x) k) = true) : ReachK g i rs op x (k + 1) := by
  refine ⟨h.ok, h.way, h.opn, h.at_, h.don, fun j a b hj => ?_⟩
  by_cases e : j = k
  · subst e
    exact inP_has.1 (hc hj)
  · exact h.cur j a (by omega) hj
theorem reach_yes (hR : isR g = true) (h : ReachK g i rs op x k) {m : Int} (hm : m = gI (gL g.mv x) k) (a0 : 0 ≤ i) (b0 : i < (g.ow.length : Int)) (k0 : 0 ≤ k) (k1 : k < ((gL g.mv x).length : Int)) (hc : gI g.pr m ≤ gI g.pr i) : ReachK g i (withW rs m) (op ++ [m]) x (k + 1) := by
  have hxr : 0 ≤ x ∧ x < (g.ow.length : Int) := h.at_.elim (fun e => by subst e; exact ⟨a0, b0⟩) (fun h2 => way_rng hR (h.way x h2))
  have hmm : m ∈ gL g.mv x := by rw [hm]; exact mem_of_gI k0 k1
  have hr := row_rng hR hxr.1 hxr.2 hmm
  have hn := (isR_ok hR).n1
  have iw := fun z => inP_with h.ok (n := m) hr.1 (by omega) z
  have up : ∀ z, (z = i ∨ inP rs z) → z = i ∨ inP (withW rs m) z := fun z hz => hz.elim .inl (fun h2 => .inr ((iw z).2 (.inl h2)))
  refine ⟨okW_with h.ok, fun z hz => ?_, fun y hy => ?_, up x h.at_, fun y hy hn2 hne z hz hle => ?_, fun j a b hj => ?_⟩
  · rcases (iw z).1 hz with h2 | rfl
    · exact h.way z h2
    · rcases h.at_ with rfl | h2
      · exact .one ⟨hxr.1, hxr.2, hmm, hc⟩
      · exact (h.way x h2).trans (.one ⟨hxr.1, hxr.2, hmm, hc⟩)
  · rcases List.mem_append.1 hy with h2 | h2
    · exact up y (h.opn y h2)
    · exact .inr ((iw y).2 (.inr (List.mem_singleton.1 h2)))
  · have h3 : y ∉ op ∧ y ≠ m := ⟨fun h2 => hn2 (List.mem_append.2 (.inl h2)), fun h2 => hn2 (List.mem_append.2 (.inr (List.mem_singleton.2 h2)))⟩
    have h4 : y = i ∨ inP rs y := hy.elim .inl (fun h5 => ((iw y).1 h5).elim .inr (fun h6 => absurd h6 h3.2))
    exact (iw z).2 (.inl (h.don y h4 h3.1 hne z hz hle))
  · by_cases e : j = k
    · subst e
      exact (iw _).2 (.inr hm.symm)
    · exact (iw _).2 (.inl (h.cur j a (by omega) hj))
theorem reach_end (h : ReachK g i rs op x k) (hk : ((gL g.mv x).length : Int) ≤ k) : ReachT g i rs op := by
  refine ⟨h.ok, h.way, h.opn, fun y hy hn m hm hle => ?_⟩
  by_cases e : y = x
  · subst e
    obtain ⟨j, hj, rfl⟩ := List.mem_iff_getElem.1 hm
    have e2 := gI_eq (l := gL g.mv y) (k := (j : Int)) (by omega) (by omega)
    simp only [Int.toNat_natCast] at e2
    rw [← e2] at hle ⊢
    exact h.cur (j : Int) (by omega) (by omega) hle
  · exact h.don y hy hn e m hm hle
theorem reach_fin (h : ReachT g i rs op) (ho : op.length = 0) : ∀ m, inP rs m ↔ Way (upE g i) i m := by
  have ho := List.eq_nil_of_length_eq_zero ho
  subst ho
  intro m
  refine ⟨h.way m, fun hw => ?_⟩
  obtain ⟨c, ⟨⟨_, _, h1, h2⟩, h3, _⟩⟩ := (Way.stay (U := fun y => y = i ∨ inP rs y) (fun a b hab hu => .inr (h.don a hu (by simp) b hab.2.2.1 hab.2.2.2)) hw (.inl rfl)).1.snk
  exact h.don c h3 (by simp) m h1 h2
/-- On a round of its own on which nothing is higher. -/
def cycP (g : GameL) (p i : Int) : Prop := 0 ≤ i ∧ i < (g.ow.length : Int) ∧ gI g.pr i % 2 = p ∧ Way (upE g i) i i
structure WonK (g : GameL) (p : Int) (ws : List Int) (k : Int) : Prop where
  ok : OkW ws
  iff_ : ∀ i, inP ws i ↔ cycP g p i ∧ i < k
variable {ws : List Int} {r : Int}
theorem wonK_0 : WonK g p [0, 0, 0, 0] 0 := ⟨okW_00, fun i => ⟨fun h => absurd h (inP_00 i), fun h => by have := h.1.1; omega⟩⟩
theorem wonK_no (h : WonK g p ws i) (hc : ¬ cycP g p i) : WonK g p ws (i + 1) := ⟨h.ok, fun j => by
  rw [h.iff_ j]
  refine ⟨fun h2 => ⟨h2.1, by omega⟩, fun h2 => ⟨h2.1, ?_⟩⟩
  have : j ≠ i := fun e => hc (e ▸ h2.1)
  omega⟩
theorem wonK_yes (hn : g.ow.length ≤ 200) (h : WonK g p ws i) (hc : cycP g p i) : WonK g p (withW ws i) (i + 1) := ⟨okW_with h.ok, fun j => by
  rw [inP_with h.ok hc.1 (by have := hc.2.1; omega), h.iff_ j]
  constructor
  · rintro (h2 | rfl)
    · exact ⟨h2.1, by omega⟩
    · exact ⟨hc, by omega⟩
  · rintro ⟨h2, h3⟩
    by_cases e : j = i
    · exact .inr e
    · exact .inl ⟨h2, by omega⟩⟩
def ClosedW (g : GameL) (ws : List Int) (k : Int) : Prop := ∀ i : Int, 0 ≤ i → i < k → ∀ m ∈ gL g.mv i, inP ws m → inP ws i
structure WonB (g : GameL) (p : Int) (ws : List Int) : Prop where
  ok : OkW ws
  rng : ∀ i, inP ws i → i < (g.ow.length : Int)
  sub : ∀ i, cycP g p i → inP ws i
  way : ∀ i, inP ws i → ∃ c, cycP g p c ∧ (i = c ∨ Way (anyE g) i c)
structure WonR (g : GameL) (p : Int) (ws : List Int) (r : Int) : Prop where
  b : WonB g p ws
  cnt : r ≤ lenW ws ∨ ClosedW g ws (g.ow.length : Int)
structure WonI (g : GameL) (p : Int) (ws : List Int) (r k : Int) : Prop where
  b : WonB g p ws
  cnt : r + 1 ≤ lenW ws ∨ ClosedW g ws (g.ow.length : Int) ∨ (r ≤ lenW ws ∧ ClosedW g ws k)
theorem wonR_0 (h : WonK g p ws k) (hk : (g.ow.length : Int) ≤ k) : WonR g p ws 0 :=
  ⟨⟨h.ok, fun i hi => ((h.iff_ i).1 hi).1.2.1, fun i hi => (h.iff_ i).2 ⟨hi, by have := hi.2.1; omega⟩, fun i hi => ⟨i, ((h.iff_ i).1 hi).1, .inl rfl⟩⟩, .inl (lenW_le ws).1⟩
theorem wonI_0 (h : WonR g p ws r) : WonI g p ws r 0 := ⟨h.b, h.cnt.elim (fun h2 => .inr (.inr ⟨h2, fun i a b => by omega⟩)) (fun h2 => .inr (.inl h2))⟩
theorem and_row (hR : isR g = true) (hw : OkW ws) (a : 0 ≤ i) (b : i < (g.ow.length : Int)) : ¬ andS (ofW (gL g.mv i)) ws = [0, 0, 0, 0] ↔ ∃ m ∈ gL g.mv i, inP ws m := by
  have hn := (isR_ok hR).n1
  have ok := okW_and (ofW_ok (gL g.mv i)) hw
  have key : ∀ m, inP (andS (ofW (gL g.mv i)) ws) m ↔ m ∈ gL g.mv i ∧ inP ws m := fun m => by
    unfold inP
    constructor
    · rintro ⟨h1, h2, h3⟩
      rw [from_andS, gB_andD h1 h2, Bool.and_eq_true, from_of] at h3
      have h4 : m ∈ lsD (ofD (gL g.mv i)) 256 := mem_ls.2 ⟨h1, h2, h3.1⟩
      exact ⟨(mem_ls_of.1 h4).2.2, h1, h2, h3.2⟩
    · rintro ⟨h1, h2, h3, h4⟩
      refine ⟨h2, h3, ?_⟩
      rw [from_andS, gB_andD h2 h3, Bool.and_eq_true, from_of]
      exact ⟨(mem_ls.1 (mem_ls_of.2 ⟨h2, h3, h1⟩)).2.2, h4⟩
  constructor
  · intro h
    obtain ⟨m, hm⟩ := inP_none ok h
    exact ⟨m, (key m).1 hm⟩
  · rintro ⟨m, h1, h2⟩ e
    have := (key m).2 ⟨h1, h2⟩
    rw [e] at this
    exact inP_00 m this
theorem wonI_no (hR : isR g = true) (h : WonI g p ws r i) (a : 0 ≤ i) (b : i < (g.ow.length : Int)) (hc : andS (ofW (gL g.mv i)) ws = [0, 0, 0, 0]) : WonI g p ws r (i + 1) := by
  refine ⟨h.b, h.cnt.imp_right (fun h2 => h2.imp_right (fun h3 => ⟨h3.1, fun j c d m hm hi => ?_⟩))⟩
  by_cases e : j = i
  · subst e
    exact absurd hc ((and_row hR h.b.ok a b).2 ⟨m, hm, hi⟩)
  · exact h3.2 j c (by omega) m hm hi
theorem wonI_yes (hR : isR g = true) (h : WonI g p ws r i) (a : 0 ≤ i) (b : i < (g.ow.length : Int)) (hc : ¬ andS (ofW (gL g.mv i)) ws = [0, 0, 0, 0]) : WonI g p (withW ws i) r (i + 1) := by
  have hn := (isR_ok hR).n1
  obtain ⟨m, hm, hi⟩ := (and_row hR h.b.ok a b).1 hc
  have iw := fun z => inP_with h.b.ok (n := i) a (by omega) z
  refine ⟨⟨okW_with h.b.ok, fun z hz => ((iw z).1 hz).elim (h.b.rng z) (fun e => by omega), fun z hz => (iw z).2 (.inl (h.b.sub z hz)), fun z hz => ?_⟩, ?_⟩
  · rcases (iw z).1 hz with h2 | rfl
    · exact h.b.way z h2
    · obtain ⟨c, h3, h4⟩ := h.b.way m hi
      refine ⟨c, h3, .inr ?_⟩
      rcases h4 with rfl | h4
      · exact .one ⟨a, b, hm⟩
      · exact .more ⟨a, b, hm⟩ h4
  · by_cases hs : inP ws i
    · have e : ∀ z, inP (withW ws i) z ↔ inP ws z := fun z => by
        rw [iw z]
        exact ⟨fun h2 => h2.elim id (fun e => e ▸ hs), .inl⟩
      have hl : lenW (withW ws i) = lenW ws := by
        rw [len_with h.b.ok (m := 0) (by rw [if_neg (fun h2 => by rw [inP_has.2 hs] at h2; cases h2.2.2)])]
        omega
      rw [hl]
      refine h.cnt.imp_right (fun h2 => h2.imp (fun h3 j c d z hz hj => (e j).2 (h3 j c d z hz ((e z).1 hj))) (fun h3 => ⟨h3.1, fun j c d z hz hj => ?_⟩))
      by_cases e2 : j = i
      · exact (e j).2 (e2 ▸ hs)
      · exact (e j).2 (h3.2 j c (by omega) z hz ((e z).1 hj))
    · have hf : hasW ws i = false := by
        cases e : hasW ws i with
        | false => rfl
        | true => exact absurd (inP_has.1 e) hs
      have hl : lenW (withW ws i) = lenW ws + 1 := len_with h.b.ok (m := 1) (by rw [if_pos ⟨a, by omega, hf⟩])
      rw [hl]
      rcases h.cnt with h2 | h2 | h2
      · exact .inl (by omega)
      · exact absurd (h2 i a b m hm hi) hs
      · exact .inl (by omega)
theorem wonI_end (h : WonI g p ws r k) (hk : (g.ow.length : Int) ≤ k) : WonR g p ws (r + 1) :=
  ⟨h.b, h.cnt.imp_right (fun h2 => h2.elim id (fun h3 i a b => h3.2 i a (by omega)))⟩
theorem wonR_end (hR : isR g = true) (h : WonR g p ws r) (hr : (g.ow.length : Int) < r) : ClosedW g ws (g.ow.length : Int) := by
  have hn := (isR_ok hR).n1
  refine h.cnt.elim (fun h2 => ?_) id
  have e := ls_run (l := fromW ws) (a := g.ow.length) (256 - g.ow.length) (fun k a b => by
    cases e : gB (fromW ws) (k : Int) with
    | false => rfl
    | true => have := h.b.rng k ⟨by omega, by omega, e⟩; omega)
  rw [show g.ow.length + (256 - g.ow.length) = 256 by omega] at e
  have := ls_len (fromW ws) g.ow.length
  rw [lenW_ls, e] at h2
  omega
end
/-- The same game, all of it one player's. -/
structure OneP (g : GameL) (xo : List Int) (p k : Int) : Prop where
  len : xo.length = g.ow.length
  at_ : ∀ j : Int, 0 ≤ j → j < k → gI xo j = p
theorem oneP_0 {g : GameL} {p : Int} : OneP g g.ow p 0 := ⟨rfl, fun j a b => by omega⟩
theorem oneP_next {g : GameL} {xo : List Int} {p k : Int} (h : OneP g xo p k) (a : 0 ≤ k) (b : k < (g.ow.length : Int)) : OneP g (xo.set k.toNat p) p (k + 1) := by
  have hl := h.len
  refine ⟨by rw [List.length_set]; exact hl, fun j c d => ?_⟩
  rw [gI_setE a (by omega) c]
  by_cases e : k = j
  · rw [if_pos e]
  · rw [if_neg e]
    exact h.at_ j c (by omega)
theorem oneP_right {g : GameL} {xo : List Int} {p k : Int} (hR : isR g = true) (hp : p = 0 ∨ p = 1) (h : OneP g xo p k) (hk : (g.ow.length : Int) ≤ k) : isR ⟨xo, g.pr, g.mv⟩ = true := by
  have hG := isR_ok hR
  have hl := h.len
  have e : ((xo.length : Nat) : Int) = (g.ow.length : Int) := by omega
  refine isR_of ⟨by have := hG.pl; dsimp only; omega, by have := hG.ml; dsimp only; omega, by have := hG.n0; dsimp only; omega, by have := hG.n1; dsimp only; omega, fun i a b => ?_, fun i a b => hG.pr i a (by dsimp only at b; omega), fun i a b => hG.ne i a (by dsimp only at b; omega), fun i a b q c d => ?_, fun i a b => hG.up i a (by dsimp only at b; omega)⟩
  · dsimp only at b ⊢
    rw [h.at_ i a (by omega)]
    exact hp
  · dsimp only at b d ⊢
    have := hG.mv i a (by omega) q c d
    omega
theorem alone_win {g : GameL} {xo ws : List Int} {p k r : Int} {n : Nat} (hR : isR g = true) (h : OneP g xo p k) (hk : (g.ow.length : Int) ≤ k) (hn : n = g.ow.length) (hw : WonR g p ws r) (hr : (g.ow.length : Int) < r) (hp : p = 0 ∨ p = 1)
    {W V : Int → Prop} {f f' : Int → Int} (h0 : WinT ⟨xo, g.pr, g.mv⟩ (fun i => 0 ≤ i ∧ i < (n : Int)) p f W) (h1 : WinT ⟨xo, g.pr, g.mv⟩ (fun i => 0 ≤ i ∧ i < (n : Int)) (1 - p) f' V) (hall : ∀ i, 0 ≤ i → i < (n : Int) → W i ∨ V i) (i : Int) : W i ↔ inP ws i := by
  subst hn
  have hcl := wonR_end hR hw hr
  have how : ∀ x, 0 ≤ x → x < (g.ow.length : Int) → gI xo x = p := fun x a b => h.at_ x a (by omega)
  constructor
  · intro hi
    have hf : ∀ x, W x → f x ∈ gL g.mv x ∧ W (f x) := fun x hx => h0.own x hx (how x (h0.sub x hx).1 (h0.sub x hx).2)
    have hwayW : ∀ {x y : Int}, W x → Way (fun a b => W a ∧ b = f a) x y → inP ws y → inP ws x := by
      intro x y _ hwy
      induction hwy with
      | one hab =>
        obtain ⟨ha, rfl⟩ := hab
        exact fun hy => hcl _ (h0.sub _ ha).1 (h0.sub _ ha).2 _ (hf _ ha).1 hy
      | more hab _ ih =>
        obtain ⟨ha, rfl⟩ := hab
        exact fun hy => hcl _ (h0.sub _ ha).1 (h0.sub _ ha).2 _ (hf _ ha).1 (ih (hf _ ha).2 hy)
    obtain ⟨c, hc, hway⟩ := round_top (n := g.ow.length) (S := fun x => W x ∧ (x = i ∨ Way (fun a b => W a ∧ b = f a) i x)) (f := f) (pr := fun z => gI g.pr z) (fun x hx => h0.sub x hx.1)
      (fun x hx => ⟨(hf x hx.1).2, .inr (hx.2.elim (fun e => by subst e; exact .one ⟨hx.1, rfl⟩) (fun h2 => h2.trans (.one ⟨hx.1, rfl⟩)))⟩) (x := i) ⟨hi, .inl rfl⟩
    have hcr := h0.sub c hc.1
    have hcp : gI g.pr c % 2 = p := by
      apply Classical.byContradiction
      intro hne
      refine h0.cyc c hc.1 hne (hway.mono ?_)
      rintro a b ⟨⟨ha, _⟩, rfl, h3, h4⟩
      exact ⟨⟨ha, (hf a ha).1, h0.sub _ (hf a ha).2, fun _ => rfl⟩, h3, h4⟩
    have hcy : cycP g p c := ⟨hcr.1, hcr.2, hcp, hway.mono (fun a b hab => ⟨(h0.sub a hab.1.1).1, (h0.sub a hab.1.1).2, by rw [hab.2.1]; exact (hf a hab.1.1).1, hab.2.2.2⟩)⟩
    rcases hc.2 with rfl | h2
    · exact hw.b.sub _ hcy
    · exact hwayW hi h2 (hw.b.sub _ hcy)
  · intro hi
    obtain ⟨c, hc, hto⟩ := hw.b.way i hi
    refine (hall i hi.1 (hw.b.rng i hi)).elim id (fun hv => ?_)
    have hst : ∀ a b, anyE g a b → V a → V b := fun a b hab ha => h1.oth a ha (by show gI xo a ≠ _; rw [how a hab.1 hab.2.1]; omega) b hab.2.2 (by
      have := row_rng hR hab.1 hab.2.1 hab.2.2
      exact this)
    have hvc : V c := hto.elim (fun e => e ▸ hv) (fun h2 => (Way.stay hst h2 hv).2)
    have hcw := Way.stay (E := upE g c) (U := V) (fun a b hab ha => hst a b ⟨hab.1, hab.2.1, hab.2.2.1⟩ ha) hc.2.2.2 hvc
    refine absurd ?_ (h1.cyc c hvc (by have := hc.2.2.1; show gI g.pr c % 2 ≠ _; omega))
    have hlow : ∀ {a b : Int}, Way (fun x y => upE g c x y ∧ V x ∧ V y) a b → gI g.pr a ≤ gI g.pr c → Way (lowE ⟨xo, g.pr, g.mv⟩ (fun i => 0 ≤ i ∧ i < (g.ow.length : Int)) (1 - p) f' V (gI g.pr c)) a b := by
      have one : ∀ {a b : Int}, upE g c a b ∧ V a ∧ V b → gI g.pr a ≤ gI g.pr c → lowE ⟨xo, g.pr, g.mv⟩ (fun i => 0 ≤ i ∧ i < (g.ow.length : Int)) (1 - p) f' V (gI g.pr c) a b := by
        rintro a b ⟨⟨h2, h3, h4, h5⟩, h6, h7⟩ h8
        exact ⟨⟨h6, h4, h1.sub b h7, fun e => by have e : gI xo a = 1 - p := e; rw [how a h2 h3] at e; omega⟩, h8, h5⟩
      intro a b hab
      induction hab with
      | one h2 => exact fun h8 => .one (one h2 h8)
      | more h2 _ ih => exact fun h8 => .more (one h2 h8) (ih h2.1.2.2.2)
    exact hlow hcw.1 (Int.le_refl _)
theorem alone_sol {g : GameL} {xo ws : List Int} {p k r : Int} (hR : isR g = true) (hp : p = 0 ∨ p = 1) (h : OneP g xo p k) (hk : (g.ow.length : Int) ≤ k) (hw : WonR g p ws r) (hr : (g.ow.length : Int) < r) {la lb ma mb : List Int} {d : Int} (hs : SolveT ⟨xo, g.pr, g.mv⟩ la lb ma mb d) :
    (p = 0 → ofW la = ws) ∧ (p = 1 → ofW lb = ws) := by
  obtain ⟨s0, s1, rfl, rfl, hS⟩ := hs.right (oneP_right hR hp h hk)
  rw [of_list hS.ok0, of_list hS.ok1]
  refine ⟨fun e => ?_, fun e => ?_⟩
  · subst e
    exact ls_same hS.ok0 hw.b.ok (alone_win hR h hk h.len hw hr hp hS.sp.w0 hS.sp.w1 hS.sp.all)
  · subst e
    exact ls_same hS.ok1 hw.b.ok (alone_win hR h hk h.len hw hr hp hS.sp.w1 hS.sp.w0 (fun i a b => (hS.sp.all i a b).symm))
end Go.Proofs.YtplpgfcjjnaigaaDoor
