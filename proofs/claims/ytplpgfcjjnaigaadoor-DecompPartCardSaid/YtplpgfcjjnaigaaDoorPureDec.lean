/-
  Plain: the recursion that tells who wins where. No program.
-/
import Derived.Test.YtplpgfcjjnaigaaDoorPureWin
import Derived.Test.YtplpgfcjjnaigaaDoorPureAttr
import Derived.Test.YtplpgfcjjnaigaaDoorPureWays
set_option linter.unusedVariables false
set_option linter.unusedSimpArgs false
namespace Go.Proofs.YtplpgfcjjnaigaaDoor
open Go Go.RowKit
/-- A set of words as a set. -/
def inP (s : List Int) (i : Int) : Prop := 0 ≤ i ∧ i < 256 ∧ gB (fromW s) i = true
instance (s : List Int) (i : Int) : Decidable (inP s i) := by unfold inP; exact inferInstance
/-- Every position of a part has a move within it. -/
structure LiveT (g : GameL) (s : List Int) : Prop where
  lt : ∀ i, inP s i → i < (g.ow.length : Int)
  mv : ∀ i, inP s i → ∃ x ∈ gL g.mv i, inP s x
theorem inP_00 (i : Int) : ¬ inP [0, 0, 0, 0] i := fun h => by
  have := h.2.2
  rw [from_00, gB_emptyD] at this
  cases this
theorem inP_minus {s t : List Int} (ht : OkW t) (i : Int) : inP (minusS s t) i ↔ inP s i ∧ ¬ inP t i := by
  unfold inP
  constructor
  · rintro ⟨a, b, c⟩
    rw [from_minusS ht, gB_minusD a b, Bool.and_eq_true] at c
    exact ⟨⟨a, b, c.1⟩, fun h => by rw [h.2.2] at c; cases c.2⟩
  · rintro ⟨⟨a, b, c⟩, d⟩
    refine ⟨a, b, ?_⟩
    rw [from_minusS ht, gB_minusD a b, c, Bool.true_and]
    cases h : gB (fromW t) i with
    | false => rfl
    | true => exact absurd ⟨a, b, h⟩ d
theorem inP_or {s t : List Int} (i : Int) : inP (orS s t) i ↔ inP s i ∨ inP t i := by
  unfold inP
  constructor
  · rintro ⟨a, b, c⟩
    rw [from_orS, gB_orD a b, Bool.or_eq_true] at c
    exact c.elim (fun h => .inl ⟨a, b, h⟩) (fun h => .inr ⟨a, b, h⟩)
  · rintro (⟨a, b, c⟩ | ⟨a, b, c⟩)
    · exact ⟨a, b, by rw [from_orS, gB_orD a b, c]; rfl⟩
    · exact ⟨a, b, by rw [from_orS, gB_orD a b, c, Bool.or_true]⟩
theorem inP_has {s : List Int} {i : Int} : hasW s i = true ↔ inP s i := by
  unfold inP
  rw [hasW_from, hasD, Bool.and_eq_true, decide_eq_true_iff]
  constructor
  · rintro ⟨⟨a, b⟩, c⟩
    exact ⟨a, b, c⟩
  · rintro ⟨a, b, c⟩
    exact ⟨⟨a, b⟩, c⟩
theorem inP_none {s : List Int} (hs : OkW s) (h : ¬ s = [0, 0, 0, 0]) : ∃ i, inP s i := by
  by_cases h2 : ∃ i, inP s i
  · exact h2
  · exact absurd (eq_00 hs fun j a b => by
      cases hc : gB (fromW s) j with
      | false => rfl
      | true => exact absurd ⟨j, a, b, hc⟩ h2) h
theorem inP_ls {s : List Int} {i : Int} : i ∈ lsD (fromW s) 256 ↔ inP s i := mem_ls
theorem least_inP {s : List Int} (h : ∃ i, inP s i) : inP s (leastD (fromW s)) := by
  obtain ⟨i, hi⟩ := h
  have hm := inP_ls.2 hi
  rw [least_ls]
  cases hl : lsD (fromW s) 256 with
  | nil => rw [hl] at hm; cases hm
  | cons a r => exact inP_ls.1 (by rw [hl]; exact List.mem_cons_self)
theorem inT_inP {g : GameL} {s : List Int} (hl : ∀ i, inP s i → i < (g.ow.length : Int)) {i : Int} (a : 0 ≤ i) (b : i < 256) : gB (inT g s) i = true ↔ inP s i := by
  rw [gB_inT a b, Bool.and_eq_true, decide_eq_true_iff]
  exact ⟨fun h => ⟨a, b, h.1⟩, fun h => ⟨h.2.2, hl i h⟩⟩
/-- The attractor's moves draw to the set. -/
theorem draw_of {g : GameL} {s t ss ms : List Int} {p : Int} (hR : isR g = true) (hl : ∀ i, inP s i → i < (g.ow.length : Int)) (h : AttractT g s p t ss ms) {f : Int → Int} (hf : ∀ i, inP ss i → ¬ inP t i → gI g.ow i = p → f i = gI ms i) : ∃ rk, Draw g (inP s) p f (inP t) (inP ss) rk := by
  have hn := (isR_ok hR).n1
  rcases h.2 with h2 | ⟨_, hp, hA, hM⟩
  · exact ⟨fun _ => 0, by rw [h2.2.1]; exact ⟨fun i hi => absurd hi (inP_00 i), fun i hi => absurd hi (inP_00 i), fun i hi => absurd hi (inP_00 i)⟩⟩
  · obtain ⟨ord, h1, h3, h4⟩ := hM.rank
    have hA1 : ∀ x, inP ss x ↔ x ∈ ord := fun x => ⟨fun hx => (h1 x hx.1 hx.2.1).1 hx.2.2, fun hx => by
      have := h3 x hx
      exact ⟨this.1, by omega, (h1 x this.1 (by omega)).2 hx⟩⟩
    have hsub : ∀ x, inP ss x → inP s x := fun x hx => (inT_inP hl hx.1 hx.2.1).1 (hA.sub x hx.1 hx.2.1 hx.2.2)
    have hsp : ∀ j ∈ ord, ord = ord.take (ord.idxOf j) ++ j :: ord.drop (ord.idxOf j + 1) := fun j hj => by
      have hlt := List.idxOf_lt_length_of_mem hj
      have e1 := List.getElem_idxOf hlt
      conv => lhs; rw [← List.take_append_drop (ord.idxOf j) ord, List.drop_eq_getElem_cons hlt, e1]
    have hbef : ∀ (x : Int) (k : Nat), x ∈ ord.take k → ord.idxOf x < k := fun x k hx => by
      rw [← List.take_append_drop k ord, List.idxOf_append, if_pos hx]
      have := List.idxOf_lt_length_of_mem hx
      rw [List.length_take] at this
      omega
    refine ⟨fun x => ord.idxOf x, hsub, fun i hi ht e => ?_, fun i hi ht e m hm hI => ?_⟩
    · have hj := (hA1 i).1 hi
      rw [hf i hi ht e]
      rcases h4 _ _ _ (hsp i hj) with h5 | ⟨_, h6, h7⟩ | ⟨h6, _⟩
      · exact absurd ⟨hi.1, hi.2.1, h5⟩ ht
      · exact ⟨h6, (hA1 _).2 (List.mem_of_mem_take h7), hbef _ _ h7⟩
      · exact absurd e h6
    · have hj := (hA1 i).1 hi
      rcases h4 _ _ _ (hsp i hj) with h5 | ⟨h6, _⟩ | ⟨_, h6⟩
      · exact absurd ⟨hi.1, hi.2.1, h5⟩ ht
      · exact absurd h6 e
      · have := h6 m hm ((inT_inP hl hI.1 hI.2.1).2 hI)
        exact ⟨(hA1 _).2 (List.mem_of_mem_take this), hbef _ _ this⟩
section
variable {g : GameL} {s t ss ms : List Int} {p : Int}
theorem att_inT (hR : isR g = true) (hp : p = 0 ∨ p = 1) (h : AttractT g s p t ss ms) : AttrT g (inT g s) p (fromW t) (fromW ss) ∧ MovA g (inT g s) p (fromW t) (fromW ss) ms := by
  rcases h.2 with h2 | h2
  · exact absurd ⟨hR, hp⟩ h2.1
  · exact h2.2.2
theorem att_sub (hR : isR g = true) (hp : p = 0 ∨ p = 1) (hl : ∀ i, inP s i → i < (g.ow.length : Int)) (h : AttractT g s p t ss ms) : ∀ i, inP ss i → inP s i := fun i hi =>
  (inT_inP hl hi.1 hi.2.1).1 ((att_inT hR hp h).1.sub i hi.1 hi.2.1 hi.2.2)
theorem att_base (hR : isR g = true) (hp : p = 0 ∨ p = 1) (hl : ∀ i, inP s i → i < (g.ow.length : Int)) (h : AttractT g s p t ss ms) : ∀ i, inP t i → inP s i → inP ss i := fun i hi hs =>
  ⟨hi.1, hi.2.1, (att_inT hR hp h).1.cl.base i hi.1 hi.2.1 hi.2.2 ((inT_inP hl hi.1 hi.2.1).2 hs)⟩
/-- Who stays outside of the attractor: the player can't come into it. -/
theorem att_own (hR : isR g = true) (hp : p = 0 ∨ p = 1) (hl : ∀ i, inP s i → i < (g.ow.length : Int)) (h : AttractT g s p t ss ms) : ∀ i, inP s i → ¬ inP ss i → gI g.ow i = p → ∀ m ∈ gL g.mv i, inP s m → ¬ inP ss m := fun i hi ha e m hm hI hc =>
  ha ⟨hi.1, hi.2.1, (att_inT hR hp h).1.cl.own i hi.1 (hl i hi) ((inT_inP hl hi.1 hi.2.1).2 hi) e m hm ((inT_inP hl hI.1 hI.2.1).2 hI) hc.2.2⟩
theorem att_live (hR : isR g = true) (hp : p = 0 ∨ p = 1) (hL : LiveT g s) (h : AttractT g s p t ss ms) : LiveT g (minusS s ss) := by
  have hok := h.1
  refine ⟨fun i hi => hL.lt i ((inP_minus hok i).1 hi).1, fun i hi => ?_⟩
  obtain ⟨h1, h2⟩ := (inP_minus hok i).1 hi
  by_cases e : gI g.ow i = p
  · obtain ⟨x, hx, hxs⟩ := hL.mv i h1
    exact ⟨x, hx, (inP_minus hok x).2 ⟨hxs, att_own hR hp hL.lt h i h1 h2 e x hx hxs⟩⟩
  · by_cases hall : ∀ x ∈ gL g.mv i, inP s x → inP ss x
    · refine absurd ⟨h1.1, h1.2.1, (att_inT hR hp h).1.cl.oth i h1.1 (hL.lt i h1) ((inT_inP hL.lt h1.1 h1.2.1).2 h1) e ?_ ?_⟩ h2
      · obtain ⟨x, hx, hxs⟩ := hL.mv i h1
        exact ⟨x, hx, (inT_inP hL.lt hxs.1 hxs.2.1).2 hxs⟩
      · intro x hx hxs
        have hr := row_rng hR h1.1 (hL.lt i h1) hx
        have hn := (isR_ok hR).n1
        exact (hall x hx ((inT_inP hL.lt hr.1 (by omega)).1 hxs)).2.2
    · have : ∃ x ∈ gL g.mv i, inP s x ∧ ¬ inP ss x := by
        refine Classical.byContradiction fun hc => hall fun x hx hxs => Classical.byContradiction fun hn => hc ⟨x, hx, hxs, hn⟩
      obtain ⟨x, hx, hxs, hn⟩ := this
      exact ⟨x, hx, (inP_minus hok x).2 ⟨hxs, hn⟩⟩
/-- The moves that the attractor tells stand only at positions that it draws. -/
theorem att_mv (hR : isR g = true) (hp : p = 0 ∨ p = 1) (h : AttractT g s p t ss ms) {i : Int} (a : 0 ≤ i) (b : i < (g.ow.length : Int)) : (inP ss i ∧ ¬ inP t i ∧ gI g.ow i = p) ∨ gI ms i = -1 := by
  have hn := (isR_ok hR).n1
  rcases (att_inT hR hp h).2.mv i a b with ⟨h1, h2, h3⟩ | h1
  · exact .inl ⟨⟨a, by omega, h1⟩, (fun h => by rw [h.2.2] at h2; cases h2), h3⟩
  · exact .inr h1
end
theorem len_sub {s t : List Int} (ht : OkW t) (h : ∃ i, inP s i ∧ inP t i) : lenW (minusS s t) < lenW s := by
  rw [len_minus ht]
  obtain ⟨i, h1, h2⟩ := h
  have : 0 < lenW (andS s t) := by
    rw [lenW_ls]
    have hm : i ∈ lsD (fromW (andS s t)) 256 := mem_ls.2 ⟨h1.1, h1.2.1, by rw [from_andS, gB_andD h1.1 h1.2.1, h1.2.2, h2.2.2]; rfl⟩
    have := List.length_pos_of_mem hm
    omega
  omega
/-- What keeps a player's moves notes. -/
def KeepT (l m m' : List Int) : Prop := m'.length = m.length ∧ ∀ i : Int, 0 ≤ i → i < (m.length : Int) → gI m' i = if i < (l.length : Int) ∧ 0 ≤ gI l i then gI l i else gI m i
/-- What the recursion tells of a part: the regions, the moves. -/
structure PartS (g : GameL) (s : List Int) (p : Int) (sp sq mp mq mp' mq' : List Int) : Prop where
  okp : OkW sp
  okq : OkW sq
  lp : mp'.length = mp.length
  lq : mq'.length = mq.length
  all : ∀ i, inP s i ↔ inP sp i ∨ inP sq i
  wp : WinT g (inP s) p (gI mp') (inP sp)
  wq : WinT g (inP s) (1 - p) (gI mq') (inP sq)
  outp : ∀ i, 0 ≤ i → ¬ inP s i → gI mp' i = gI mp i
  outq : ∀ i, 0 ≤ i → ¬ inP s i → gI mq' i = gI mq i
theorem PartS.swap {g : GameL} {s : List Int} {p : Int} {sp sq mp mq mp' mq' : List Int} (h : PartS g s p sp sq mp mq mp' mq') : PartS g s (1 - p) sq sp mq mp mq' mp' :=
  ⟨h.okq, h.okp, h.lq, h.lp, fun i => (h.all i).trans or_comm, h.wq, by rw [show 1 - (1 - p) = p by omega]; exact h.wp, h.outq, h.outp⟩
theorem part_empty {g : GameL} {p : Int} {mp mq : List Int} : PartS g [0, 0, 0, 0] p [0, 0, 0, 0] [0, 0, 0, 0] mp mq mp mq := by
  refine ⟨okW_00, okW_00, rfl, rfl, fun i => ⟨fun h => .inl h, fun h => h.elim id id⟩, ?_, ?_, fun _ _ _ => rfl, fun _ _ _ => rfl⟩
  · exact win_none.iff (fun i => ⟨fun h => inP_00 i h, fun h => h.elim⟩)
  · exact win_none.iff (fun i => ⟨fun h => inP_00 i h, fun h => h.elim⟩)
/-- The positions of the highest priority. -/
structure TopT (g : GameL) (s t : List Int) (h : Int) : Prop where
  ok : OkW t
  at_ : ∀ i, inP t i ↔ inP s i ∧ gI g.pr i = h
  le : ∀ i, inP s i → gI g.pr i ≤ h
  ex : ∃ i, inP t i
/-- The moves at the positions of the highest priority. -/
def MostT (g : GameL) (s t : List Int) (p : Int) (m m' : List Int) : Prop := m'.length = m.length ∧ ∀ i : Int, 0 ≤ i → i < (m.length : Int) → gI m' i = if inP t i ∧ gI g.ow i = p then leastD (fromW (andS (ofW (gL g.mv i)) s)) else gI m i
section
variable {g : GameL} {s t ss ms rp rq mp mq mp1 mq1 mp2 mp3 gs ls tp tq mq2 mq3 : List Int} {p h : Int}
theorem most_mv (hR : isR g = true) (hL : LiveT g s) {i : Int} (hi : inP s i) : leastD (fromW (andS (ofW (gL g.mv i)) s)) ∈ gL g.mv i ∧ inP s (leastD (fromW (andS (ofW (gL g.mv i)) s))) := by
  have hn := (isR_ok hR).n1
  have key : ∀ x, inP (andS (ofW (gL g.mv i)) s) x ↔ x ∈ gL g.mv i ∧ inP s x := fun x => by
    unfold inP
    constructor
    · rintro ⟨a, b, c⟩
      rw [from_andS, gB_andD a b, from_of, gB_ofD _ a b, Bool.and_eq_true, decide_eq_true_iff] at c
      exact ⟨c.1, a, b, c.2⟩
    · rintro ⟨h1, a, b, c⟩
      exact ⟨a, b, by rw [from_andS, gB_andD a b, from_of, gB_ofD _ a b, Bool.and_eq_true, decide_eq_true_iff]; exact ⟨h1, c⟩⟩
  obtain ⟨x, hx, hxs⟩ := hL.mv i hi
  exact (key _).1 (least_inP ⟨x, (key x).2 ⟨hx, hxs⟩⟩)
theorem part_win (hR : isR g = true) (hp : p = 0 ∨ p = 1) (hL : LiveT g s) (hs : OkW s) (hl : mp.length = g.ow.length) (hT : TopT g s t h) (hpt : h % 2 = p) (hA : AttractT g s p t ss ms) (hr : PartS g (minusS s ss) p rp rq mp mq mp1 mq1) (he : rq = [0, 0, 0, 0]) (hK : KeepT ms mp1 mp2) (hM : MostT g s t p mp2 mp3) :
    PartS g s p s [0, 0, 0, 0] mp mq mp3 mq1 := by
  have hok := hA.1
  have hsub := att_sub hR hp hL.lt hA
  have hts : ∀ i, inP t i → inP s i := fun i hi => ((hT.at_ i).1 hi).1
  have htA : ∀ i, inP t i → inP ss i := fun i hi => att_base hR hp hL.lt hA i hi (hts i hi)
  have lp1 := hr.lp
  have lp2 := hK.1
  have lp3 := hM.1
  have e3 : ∀ i, 0 ≤ i → i < (g.ow.length : Int) → ¬ inP t i → gI mp3 i = gI mp2 i := fun i a b ht => by
    rw [hM.2 i a (by omega), if_neg (fun k => ht k.1)]
  have e2 : ∀ i, 0 ≤ i → i < (g.ow.length : Int) → ¬ inP ss i → gI mp2 i = gI mp1 i := fun i a b ha => by
    rw [hK.2 i a (by omega), if_neg]
    rintro ⟨_, h2⟩
    rcases att_mv hR hp hA a b with h3 | h3
    · exact ha h3.1
    · omega
  have hml : ms.length = g.ow.length := (att_inT hR hp hA).2.ml
  obtain ⟨rk, hd⟩ := draw_of hR hL.lt hA (f := gI mp3) (fun i hi ht e => by
    have hlt := hL.lt i (hsub i hi)
    rw [e3 i hi.1 hlt ht, hK.2 i hi.1 (by omega), if_pos]
    obtain ⟨rk0, hd0⟩ := draw_of hR hL.lt hA (f := gI ms) (fun _ _ _ _ => rfl)
    have h1 := (hd0.own i hi ht e).1
    exact ⟨by omega, (row_rng hR hi.1 hlt h1).1⟩)
  refine ⟨hs, okW_00, by omega, hr.lq, fun i => ⟨.inl, fun h => h.elim id (fun h => absurd h (inP_00 i))⟩, ?_, win_none.iff (fun i => ⟨fun h => inP_00 i h, fun h => h.elim⟩), fun i a hi => ?_, fun i a hi => ?_⟩
  · refine win_top (A := inP ss) (M := inP t) (t := h) (rk := rk) hT.at_ hT.le hpt hd htA (fun i hi e => ?_) ?_
    · rw [hM.2 i hi.1 (by have := hL.lt i (hts i hi); omega), if_pos ⟨hi, e⟩]
      exact most_mv hR hL (hts i hi)
    · have h1 := hr.wp
      have h2 : WinT g (fun i => inP s i ∧ ¬ inP ss i) p (gI mp1) (fun i => inP s i ∧ ¬ inP ss i) :=
        (h1.iffI (fun i => (inP_minus hok i).symm)).iff (fun i => by
          rw [← inP_minus hok i, hr.all i, he]
          exact ⟨fun k => k.elim id (fun k => absurd k (inP_00 i)), .inl⟩)
      refine h2.congr fun i hi e => ?_
      have hlt := hL.lt i hi.1
      rw [e3 i hi.1.1 hlt (fun k => hi.2 (htA i k)), e2 i hi.1.1 hlt hi.2]
  · by_cases b : i < (g.ow.length : Int)
    · rw [e3 i a b (fun k => hi (hts i k)), e2 i a b (fun k => hi (hsub i k))]
      exact hr.outp i a (fun k => hi ((inP_minus hok i).1 k).1)
    · have h1 : ∀ l : List Int, l.length = g.ow.length → gI l i = 0 := fun l hl' => by
        simp only [gI, List.getD_eq_getElem?_getD]
        rw [List.getElem?_eq_none (by omega)]
        rfl
      rw [h1 mp3 (by omega), h1 mp hl]
  · exact hr.outq i a (fun k => hi ((inP_minus hok i).1 k).1)
/-- What the first try said counts no more. -/
def ResT (s gs rq m m' : List Int) : Prop := m'.length = m.length ∧ ∀ i : Int, 0 ≤ i → i < (m.length : Int) → gI m' i = if inP gs i ∨ (inP s i ∧ ¬ inP rq i) then -1 else gI m i
theorem part_two (hR : isR g = true) (hp : p = 0 ∨ p = 1) (hL : LiveT g s) (hl : mp.length = g.ow.length) (hlq : mq.length = g.ow.length) (hA : AttractT g s p t ss ms) (hr : PartS g (minusS s ss) p rp rq mp mq mp1 mq1) (hB : AttractT g s (1 - p) rq gs ls) (hK : KeepT ls mq1 mq2) (hX : ResT s gs rq mp1 mp2)
    (h2 : PartS g (minusS s gs) p tp tq mp2 mq2 mp3 mq3) : PartS g s p tp (orS tq gs) mp mq mp3 mq3 := by
  have hq : 1 - p = 0 ∨ 1 - p = 1 := by omega
  have hok := hA.1
  have hog := hB.1
  have hsubA := att_sub hR hp hL.lt hA
  have hsubB := att_sub hR hq hL.lt hB
  have hrs : ∀ i, inP rq i → inP s i ∧ ¬ inP ss i := fun i hi => (inP_minus hok i).1 ((hr.all i).2 (.inr hi))
  have hrB : ∀ i, inP rq i → inP gs i := fun i hi => att_base hR hq hL.lt hB i hi (hrs i hi).1
  have lp1 := hr.lp
  have lq1 := hr.lq
  have lq2 := hK.1
  have lp2 := hX.1
  have lp3 := h2.lp
  have lq3 := h2.lq
  have hml : ls.length = g.ow.length := (att_inT hR hq hB).2.ml
  -- the other one's moves in gs: as they were kept
  have e3 : ∀ i, inP gs i → gI mq3 i = gI mq2 i := fun i hi => h2.outq i hi.1 (fun k => ((inP_minus hog i).1 k).2 hi)
  have e2 : ∀ i, 0 ≤ i → i < (g.ow.length : Int) → (inP rq i ∨ ¬ inP gs i) → gI mq2 i = gI mq1 i := fun i a b ht => by
    rw [hK.2 i a (by omega), if_neg]
    rintro ⟨_, h3⟩
    rcases att_mv hR hq hB a b with h4 | h4
    · rcases ht with ht | ht
      · exact h4.2.1 ht
      · exact ht h4.1
    · omega
  obtain ⟨rk, hd⟩ := draw_of hR hL.lt hB (f := gI mq3) (fun i hi ht e => by
    have hlt := hL.lt i (hsubB i hi)
    rw [e3 i hi, hK.2 i hi.1 (by omega), if_pos]
    obtain ⟨rk0, hd0⟩ := draw_of hR hL.lt hB (f := gI ls) (fun _ _ _ _ => rfl)
    have h1 := (hd0.own i hi ht e).1
    exact ⟨by omega, (row_rng hR hi.1 hlt h1).1⟩)
  have hw1 : WinT g (inP s) (1 - p) (gI mq3) (inP rq) := by
    have h1 : WinT g (fun i => inP s i ∧ ¬ inP ss i) (1 - p) (gI mq1) (inP rq) := hr.wq.iffI (fun i => (inP_minus hok i).symm)
    have h3 : WinT g (inP s) (1 - p) (gI mq1) (inP rq) := win_part h1 (fun i hi => hi.1) (fun i hi e m hm hI => ⟨hI, att_own hR hp hL.lt hA i (hrs i hi).1 (hrs i hi).2 (by
      have := (isR_ok hR).ow i hi.1 (hL.lt i (hrs i hi).1)
      omega) m hm hI⟩)
    refine h3.congr fun i hi e => ?_
    rw [e3 i (hrB i hi), e2 i hi.1 (hL.lt i (hrs i hi).1) (.inl hi)]
  have hw2 : WinT g (inP s) (1 - p) (gI mq3) (inP gs) := win_draw (r := fun n => n) hw1 hd hrB
  refine ⟨h2.okp, okW_orS h2.okq hog, by omega, by omega, fun i => ?_, ?_, ?_, fun i a hi => ?_, fun i a hi => ?_⟩
  · rw [inP_or]
    have h3 := h2.all i
    rw [inP_minus hog i] at h3
    constructor
    · intro hi
      by_cases hg : inP gs i
      · exact .inr (.inr hg)
      · exact (h3.1 ⟨hi, hg⟩).elim .inl (fun k => .inr (.inl k))
    · rintro (k | k | k)
      · exact (h3.2 (.inl k)).1
      · exact (h3.2 (.inr k)).1
      · exact hsubB i k
  · have h3 : WinT g (fun i => inP s i ∧ ¬ inP gs i) p (gI mp3) (inP tp) := h2.wp.iffI (fun i => (inP_minus hog i).symm)
    refine win_part h3 (fun i hi => hi.1) (fun i hi e m hm hI => ⟨hI, ?_⟩)
    have h4 := h3.sub i hi
    have := (isR_ok hR).ow i hi.1 (hL.lt i h4.1)
    exact att_own hR hq hL.lt hB i h4.1 h4.2 (by omega) m hm hI
  · have h3 : WinT g (fun i => inP s i ∧ ¬ inP gs i) (1 - p) (gI mq3) (inP tq) := h2.wq.iffI (fun i => (inP_minus hog i).symm)
    exact (win_both hw2 h3).iff (fun i => by rw [inP_or]; exact or_comm)
  · have h3 : ¬ inP (minusS s gs) i := fun k => hi ((inP_minus hog i).1 k).1
    have h4 : ¬ inP (minusS s ss) i := fun k => hi ((inP_minus hok i).1 k).1
    rw [h2.outp i a h3, ← hr.outp i a h4]
    by_cases b : i < (g.ow.length : Int)
    · rw [hX.2 i a (by omega), if_neg]
      rintro (k | k)
      · exact hi (hsubB i k)
      · exact hi k.1
    · have h1 : ∀ l : List Int, l.length = g.ow.length → gI l i = 0 := fun l hl' => by
        simp only [gI, List.getD_eq_getElem?_getD]
        rw [List.getElem?_eq_none (by omega)]
        rfl
      rw [h1 mp2 (by omega), h1 mp1 (by omega)]
  · have h3 : ¬ inP (minusS s gs) i := fun k => hi ((inP_minus hog i).1 k).1
    have h4 : ¬ inP (minusS s ss) i := fun k => hi ((inP_minus hok i).1 k).1
    rw [h2.outq i a h3, ← hr.outq i a h4]
    by_cases b : i < (g.ow.length : Int)
    · exact e2 i a b (.inr (fun k => hi (hsubB i k)))
    · have h1 : ∀ l : List Int, l.length = g.ow.length → gI l i = 0 := fun l hl' => by
        simp only [gI, List.getD_eq_getElem?_getD]
        rw [List.getElem?_eq_none (by omega)]
        rfl
      rw [h1 mq2 (by omega), h1 mq1 (by omega)]
end
end Go.Proofs.YtplpgfcjjnaigaaDoor
