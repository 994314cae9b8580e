/-
  Where the variables of decomp.Solve lie, and what its inner function is asked and tells. Plain definitions.
-/
import Derived.Test.YtplpgfcjjnaigaaDoorPureDec
import Derived.Test.YtplpgfcjjnaigaaDoorPureTz
import Derived.Test.YtplpgfcjjnaigaaDoorFt
set_option linter.unusedVariables false
set_option linter.unusedSimpArgs false
namespace Go.Proofs.YtplpgfcjjnaigaaDoor
open Go Go.RowKit
/-- The blocks of the variables that the inner functions share, and the rows of the moves. -/
structure DecS where
  bd : Nat
  bg : Nat
  bp : Nat
  bk : Nat
  bm : Nat
  bn : Nat
  M0 : Option Addr
  M1 : Option Addr
  c0 : Nat
  c1 : Nat
  A0 : Option Addr
  A1 : Option Addr
  A2 : Option Addr
  k0 : Nat
  k1 : Nat
  k2 : Nat
  hi : Nat
  g : GameL
/-- What the inner function may turn: the depth and the rows of the moves. -/
def DecS.T (x : DecS) (k : Nat) : Prop := obk x.M0 = some k ∨ obk x.M1 = some k ∨ k = x.bd
/-- What stands from the first on. -/
structure DecK (x : DecS) : Prop where
  hR : isR x.g = true
  dg : x.bd ≠ x.bg ∧ x.bd ≠ x.bp ∧ x.bd ≠ x.bk ∧ x.bd ≠ x.bm ∧ x.bd ≠ x.bn
  hd : x.hi ≤ x.bd
  hT : ∀ k, x.T k → x.hi ≤ k
def partV (x : DecS) : Value := .func (.func 38) #[] #[.pointer (some ⟨x.bd, 0, none⟩), .pointer (some ⟨x.bg, 0, none⟩), .pointer (some ⟨x.bp, 0, none⟩), .pointer (some ⟨x.bk, 0, none⟩), .pointer (some ⟨x.bm, 0, none⟩), .pointer (some ⟨x.bn, 0, none⟩)]
def keepV (x : DecS) : Value := .func (.func 37) #[] #[.pointer (some ⟨x.bm, 0, none⟩)]
structure DecW (w : World) (x : DecS) (d : Int) (m0 m1 : List Int) : Prop where
  wd : Bx w x.bd [.int .i64 d] 3
  wg : Bx w x.bg [.slice x.A0 x.g.ow.length x.k0, .slice x.A1 x.g.pr.length x.k1, .slice x.A2 x.g.mv.length x.k2] 25
  wp : Bx w x.bp [partV x] 65
  wk : Bx w x.bk [keepV x] 64
  wm : Bx w x.bm [.slice x.M0 x.g.ow.length x.c0, .slice x.M1 x.g.ow.length x.c1] 29
  wn : Bx w x.bn [.int .i64 ((x.g.ow.length : Nat) : Int)] 3
  r0 : OwnR w (SxP x.T [obk x.M1, some x.bd, some x.bg, some x.bp, some x.bk, some x.bm, some x.bn]) x.M0 x.c0 3 m0
  r1 : OwnR w (SxP x.T [obk x.M0, some x.bd, some x.bg, some x.bp, some x.bk, some x.bm, some x.bn]) x.M1 x.c1 3 m1
  rg : RdG w 0 x.hi x.A0 x.A1 x.A2 x.k0 x.k1 x.k2 x.g
  rt : RdT w 0 x.hi
/-- What it tells. -/
def DecR (x : DecS) (s m0 m1 : List Int) (d depth : Int) (w : World) (e : Ending) (w' : World) : Prop :=
  ∃ s0 s1 n0 n1 d', e = .returned (.agg ((s0 ++ s1 : List Int).map wV).toArray) ∧ Tch x.T w w' ∧ Bx w' x.bd [.int .i64 d'] 3 ∧ OwnR w' (fun _ => True) x.M0 x.c0 3 (n0 : List Int) ∧ OwnR w' (fun _ => True) x.M1 x.c1 3 (n1 : List Int) ∧
    PartS x.g s 0 s0 s1 m0 m1 n0 n1 ∧ d ≤ d' ∧ depth ≤ d' ∧ d' ≤ max d (depth + lenW s)
/-- What is asked of the sizes. -/
structure DecB (x : DecS) (s m0 m1 : List Int) (d depth : Int) : Prop where
  ok : OkW s
  live : LiveT x.g s
  l0 : m0.length = x.g.ow.length
  l1 : m1.length = x.g.ow.length
  d0 : 0 ≤ d
  d1 : d ≤ 1000
  e0 : 0 ≤ depth
  e1 : depth + lenW s ≤ 1000
def partArgs (x : DecS) (s : List Int) (depth : Int) : Array Value := #[.agg ((s : List Int).map wV).toArray, .int .i64 depth, .pointer (some ⟨x.bd, 0, none⟩), .pointer (some ⟨x.bg, 0, none⟩), .pointer (some ⟨x.bp, 0, none⟩), .pointer (some ⟨x.bk, 0, none⟩), .pointer (some ⟨x.bm, 0, none⟩), .pointer (some ⟨x.bn, 0, none⟩)]
/-- The inner function does what it is to, on a set. -/
def PartOK (x : DecS) (s : List Int) : Prop := ∀ (m0 m1 : List Int) (d depth : Int) (w : World), DecW w x d m0 m1 → DecB x s m0 m1 d depth → Calls Tryd.prog 38 (partArgs x s depth) w (DecR x s m0 m1 d depth w)
theorem DecS.not {x : DecS} {b : Nat} (h0 : obk x.M0 ≠ some b) (h1 : obk x.M1 ≠ some b) (h2 : x.bd ≠ b) : ¬ x.T b := fun h => h.elim h0 (fun h => h.elim h1 (fun h => h2 h.symm))
theorem orN_hi {T : Nat → Prop} {n hi k : Nat} (hT : ∀ k, T k → hi ≤ k) (hn : hi ≤ n) (h : orN T n k) : hi ≤ k := h.elim (hT k) (fun h => by omega)
theorem ls_rg {l : List Bool} {k : Int} (a : 0 ≤ k) (b : k < ((lsD l 256).length : Int)) : 0 ≤ gI (lsD l 256) k ∧ gI (lsD l 256) k < 256 ∧ gB l (gI (lsD l 256) k) = true := by
  have := mem_ls.1 (ls_get a b)
  exact ⟨this.1, by omega, this.2.2⟩
/-! ### top -/
/-- The highest of the first k. -/
structure TopK (g : GameL) (s ts : List Int) (hh k : Int) : Prop where
  ok : OkW ts
  ge : -1 ≤ hh
  le : ∀ i ∈ (lsD (fromW s) 256).take k.toNat, gI g.pr i ≤ hh
  at_ : ∀ i, inP ts i ↔ i ∈ (lsD (fromW s) 256).take k.toNat ∧ gI g.pr i = hh
  ex : 0 < k → ∃ i, inP ts i
  z : k = 0 → hh = -1
theorem topK_0 {g : GameL} {s : List Int} : TopK g s [0, 0, 0, 0] (-1) 0 := ⟨okW_00, Int.le_refl _, fun i hi => by simp at hi, fun i => ⟨fun h => absurd h (inP_00 i), fun h => by simp at h⟩, fun h => by omega, fun _ => rfl⟩
theorem take_mem {l : List Int} {k i : Int} (a : 0 ≤ k) (b : k < (l.length : Int)) : i ∈ l.take (k + 1).toNat ↔ i ∈ l.take k.toNat ∨ i = gI l k := by
  rw [show (k + 1).toNat = k.toNat + 1 by omega, List.take_succ_eq_append_getElem (show k.toNat < l.length by omega), List.mem_append, List.mem_singleton, gI_eq a b]
theorem inP_with {ts : List Int} (h : OkW ts) {n : Int} (a : 0 ≤ n) (b : n < 256) (i : Int) : inP (withW ts n) i ↔ inP ts i ∨ i = n := by
  unfold inP
  constructor
  · rintro ⟨c, d, e⟩
    rw [gB_withW h c d] at e
    split at e
    · rename_i h2
      exact .inr h2.symm
    · exact .inl ⟨c, d, e⟩
  · rintro (⟨c, d, e⟩ | rfl)
    · refine ⟨c, d, ?_⟩
      rw [gB_withW h c d]
      split
      · rfl
      · exact e
    · refine ⟨a, b, ?_⟩
      rw [gB_withW h a b, if_pos rfl]
theorem inP_of {n : Int} (a : 0 ≤ n) (b : n < 256) (i : Int) : inP (ofW [n]) i ↔ i = n := by
  unfold inP
  constructor
  · rintro ⟨c, d, e⟩
    rw [from_of, gB_ofD _ c d, decide_eq_true_iff, List.mem_singleton] at e
    exact e
  · rintro rfl
    exact ⟨a, b, by rw [from_of, gB_ofD _ a b, decide_eq_true_iff, List.mem_singleton]⟩
section
variable {g : GameL} {s ts : List Int} {hh k : Int}
theorem topK_new (h : TopK g s ts hh k) (a : 0 ≤ k) (b : k < ((lsD (fromW s) 256).length : Int)) (hp : gI g.pr (gI (lsD (fromW s) 256) k) > hh) : TopK g s (ofW [gI (lsD (fromW s) 256) k]) (gI g.pr (gI (lsD (fromW s) 256) k)) (k + 1) := by
  have hr := ls_rg a b
  refine ⟨ofW_ok _, by have := h.ge; omega, fun i hi => ?_, fun i => ?_, fun _ => ⟨_, (inP_of hr.1 hr.2.1 _).2 rfl⟩, fun e => by omega⟩
  · rcases (take_mem a b).1 hi with h1 | rfl
    · have := h.le i h1
      omega
    · exact Int.le_refl _
  · rw [inP_of hr.1 hr.2.1, take_mem a b]
    constructor
    · rintro rfl
      exact ⟨.inr rfl, rfl⟩
    · rintro ⟨h1 | h1, h2⟩
      · have := h.le i h1
        omega
      · exact h1
theorem topK_more (h : TopK g s ts hh k) (a : 0 ≤ k) (b : k < ((lsD (fromW s) 256).length : Int)) (hp : gI g.pr (gI (lsD (fromW s) 256) k) = hh) : TopK g s (withW ts (gI (lsD (fromW s) 256) k)) hh (k + 1) := by
  have hr := ls_rg a b
  refine ⟨okW_with h.ok, h.ge, fun i hi => ?_, fun i => ?_, fun _ => ⟨_, (inP_with h.ok hr.1 hr.2.1 _).2 (.inr rfl)⟩, fun e => by omega⟩
  · rcases (take_mem a b).1 hi with h1 | rfl
    · exact h.le i h1
    · omega
  · rw [inP_with h.ok hr.1 hr.2.1, take_mem a b, h.at_ i]
    constructor
    · rintro (⟨h1, h2⟩ | rfl)
      · exact ⟨.inl h1, h2⟩
      · exact ⟨.inr rfl, hp⟩
    · rintro ⟨h1 | h1, h2⟩
      · exact .inl ⟨h1, h2⟩
      · exact .inr h1
theorem topK_skip (hG : RightG g) (hlt : ∀ i, inP s i → i < (g.ow.length : Int)) (h : TopK g s ts hh k) (a : 0 ≤ k) (b : k < ((lsD (fromW s) 256).length : Int)) (hp : ¬ gI g.pr (gI (lsD (fromW s) 256) k) > hh) (hp2 : gI g.pr (gI (lsD (fromW s) 256) k) ≠ hh) : TopK g s ts hh (k + 1) := by
  have hr := ls_rg a b
  have hpos := hG.pr _ hr.1 (hlt _ hr)
  refine ⟨h.ok, h.ge, fun i hi => ?_, fun i => ?_, fun _ => ?_, fun e => by omega⟩
  · rcases (take_mem a b).1 hi with h1 | rfl
    · exact h.le i h1
    · omega
  · rw [take_mem a b, h.at_ i]
    constructor
    · rintro ⟨h1, h2⟩
      exact ⟨.inl h1, h2⟩
    · rintro ⟨h1 | rfl, h2⟩
      · exact ⟨h1, h2⟩
      · omega
  · by_cases hk : 0 < k
    · exact h.ex hk
    · have := h.z (by omega)
      omega
end
theorem top_end {g : GameL} {s ts : List Int} {hh k : Int} (h : TopK g s ts hh k) (hk : ((lsD (fromW s) 256).length : Int) ≤ k) (he : ∃ i, inP s i) : TopT g s ts hh := by
  have e : (lsD (fromW s) 256).take k.toNat = lsD (fromW s) 256 := List.take_of_length_le (by omega)
  obtain ⟨i, hi⟩ := he
  have := List.length_pos_of_mem (inP_ls.2 hi)
  refine ⟨h.ok, fun i => ?_, fun i hi => ?_, h.ex (by omega)⟩
  · rw [h.at_ i, e, inP_ls]
  · exact h.le i (by rw [e]; exact inP_ls.2 hi)
/-! ### keep, and the moves at the top -/
def KeepK (l m xs : List Int) (k : Int) : Prop := xs.length = m.length ∧ ∀ i : Int, 0 ≤ i → i < (m.length : Int) → gI xs i = if i < k ∧ 0 ≤ gI l i then gI l i else gI m i
theorem keepK_0 {l m : List Int} : KeepK l m m 0 := ⟨rfl, fun i a b => by rw [if_neg (by omega)]⟩
theorem keepK_no {l m xs : List Int} {k : Int} (h : KeepK l m xs k) (hk : gI l k < 0) : KeepK l m xs (k + 1) := ⟨h.1, fun i a b => by
  rw [h.2 i a b]
  by_cases e : i = k
  · subst e
    rw [if_neg (by omega), if_neg (by omega)]
  · by_cases h2 : i < k ∧ 0 ≤ gI l i
    · rw [if_pos h2, if_pos (by omega)]
    · rw [if_neg h2, if_neg (by omega)]⟩
theorem keepK_yes {l m xs : List Int} {k : Int} (h : KeepK l m xs k) (a0 : 0 ≤ k) (b0 : k < (m.length : Int)) (hk : 0 ≤ gI l k) : KeepK l m (xs.set k.toNat (gI l k)) (k + 1) := ⟨by rw [List.length_set]; exact h.1, fun i a b => by
  have hl := h.1
  rw [gI_setE a0 (by omega) a]
  by_cases e : k = i
  · subst e
    rw [if_pos rfl, if_pos (by omega)]
  · rw [if_neg e, h.2 i a b]
    by_cases h2 : i < k ∧ 0 ≤ gI l i
    · rw [if_pos h2, if_pos (by omega)]
    · rw [if_neg h2, if_neg (by omega)]⟩
theorem keepK_end {l m xs : List Int} {k : Int} (h : KeepK l m xs k) (hk : k = (l.length : Int)) : KeepT l m xs := by subst hk; exact h
def MostK (g : GameL) (s t : List Int) (p : Int) (m xs : List Int) (k : Int) : Prop := xs.length = m.length ∧ ∀ i : Int, 0 ≤ i → i < (m.length : Int) → gI xs i = if i ∈ (lsD (fromW t) 256).take k.toNat ∧ gI g.ow i = p then leastD (fromW (andS (ofW (gL g.mv i)) s)) else gI m i
section
variable {g : GameL} {s t m xs gs rq : List Int} {p k : Int}
theorem mostK_0 : MostK g s t p m m 0 := ⟨rfl, fun i a b => by rw [if_neg (by simp)]⟩
theorem mostK_no (h : MostK g s t p m xs k) (a0 : 0 ≤ k) (b0 : k < ((lsD (fromW t) 256).length : Int)) (hk : gI g.ow (gI (lsD (fromW t) 256) k) ≠ p) : MostK g s t p m xs (k + 1) := ⟨h.1, fun i a b => by
  rw [h.2 i a b]
  by_cases h2 : i ∈ (lsD (fromW t) 256).take k.toNat ∧ gI g.ow i = p
  · rw [if_pos h2, if_pos ⟨(take_mem a0 b0).2 (.inl h2.1), h2.2⟩]
  · rw [if_neg h2, if_neg]
    rintro ⟨h3, h4⟩
    rcases (take_mem a0 b0).1 h3 with h5 | rfl
    · exact h2 ⟨h5, h4⟩
    · exact hk h4⟩
theorem mostK_yes (h : MostK g s t p m xs k) (a0 : 0 ≤ k) (b0 : k < ((lsD (fromW t) 256).length : Int)) (hm : gI (lsD (fromW t) 256) k < (m.length : Int)) (hk : gI g.ow (gI (lsD (fromW t) 256) k) = p) : MostK g s t p m (xs.set (gI (lsD (fromW t) 256) k).toNat (leastD (fromW (andS (ofW (gL g.mv (gI (lsD (fromW t) 256) k))) s)))) (k + 1) := ⟨by rw [List.length_set]; exact h.1, fun i a b => by
  have hl := h.1
  have hr := ls_rg a0 b0
  rw [gI_setE hr.1 (by omega) a]
  by_cases e : gI (lsD (fromW t) 256) k = i
  · rw [if_pos e, if_pos ⟨(take_mem a0 b0).2 (.inr e.symm), by rw [← e]; exact hk⟩, e]
  · rw [if_neg e, h.2 i a b]
    by_cases h2 : i ∈ (lsD (fromW t) 256).take k.toNat ∧ gI g.ow i = p
    · rw [if_pos h2, if_pos ⟨(take_mem a0 b0).2 (.inl h2.1), h2.2⟩]
    · rw [if_neg h2, if_neg]
      rintro ⟨h3, h4⟩
      rcases (take_mem a0 b0).1 h3 with h5 | h5
      · exact h2 ⟨h5, h4⟩
      · exact e h5.symm⟩
theorem mostK_end (h : MostK g s t p m xs k) (hk : ((lsD (fromW t) 256).length : Int) ≤ k) : MostT g s t p m xs := ⟨h.1, fun i a b => by
  rw [h.2 i a b, List.take_of_length_le (by omega)]
  by_cases h2 : inP t i ∧ gI g.ow i = p
  · rw [if_pos h2, if_pos ⟨inP_ls.2 h2.1, h2.2⟩]
  · rw [if_neg h2, if_neg (fun h3 => h2 ⟨inP_ls.1 h3.1, h3.2⟩)]⟩
def ResK (s gs rq m xs : List Int) (k : Int) : Prop := xs.length = m.length ∧ ∀ i : Int, 0 ≤ i → i < (m.length : Int) → gI xs i = if i < k ∧ (inP gs i ∨ (inP s i ∧ ¬ inP rq i)) then -1 else gI m i
theorem resK_0 : ResK s gs rq m m 0 := ⟨rfl, fun i a b => by rw [if_neg (by omega)]⟩
theorem resK_no (h : ResK s gs rq m xs k) (hk : ¬ (inP gs k ∨ (inP s k ∧ ¬ inP rq k))) : ResK s gs rq m xs (k + 1) := ⟨h.1, fun i a b => by
  rw [h.2 i a b]
  by_cases e : i = k
  · subst e
    rw [if_neg (fun h2 => hk h2.2), if_neg (fun h2 => hk h2.2)]
  · by_cases h2 : i < k ∧ (inP gs i ∨ (inP s i ∧ ¬ inP rq i))
    · rw [if_pos h2, if_pos ⟨by omega, h2.2⟩]
    · rw [if_neg h2, if_neg (fun h3 => h2 ⟨by omega, h3.2⟩)]⟩
theorem resK_yes (h : ResK s gs rq m xs k) (a0 : 0 ≤ k) (b0 : k < (m.length : Int)) (hk : inP gs k ∨ (inP s k ∧ ¬ inP rq k)) : ResK s gs rq m (xs.set k.toNat (-1)) (k + 1) := ⟨by rw [List.length_set]; exact h.1, fun i a b => by
  have hl := h.1
  rw [gI_setE a0 (by omega) a]
  by_cases e : k = i
  · subst e
    rw [if_pos rfl, if_pos ⟨by omega, hk⟩]
  · rw [if_neg e, h.2 i a b]
    by_cases h2 : i < k ∧ (inP gs i ∨ (inP s i ∧ ¬ inP rq i))
    · rw [if_pos h2, if_pos ⟨by omega, h2.2⟩]
    · rw [if_neg h2, if_neg (fun h3 => h2 ⟨by omega, h3.2⟩)]⟩
theorem resK_end (h : ResK s gs rq m xs k) (hk : (m.length : Int) ≤ k) : ResT s gs rq m xs := ⟨h.1, fun i a b => by
  rw [h.2 i a b]
  by_cases h2 : inP gs i ∨ (inP s i ∧ ¬ inP rq i)
  · rw [if_pos ⟨by omega, h2⟩, if_pos h2]
  · rw [if_neg (fun h3 => h2 h3.2), if_neg h2]⟩
theorem has_nP {s : List Int} {i : Int} (h : hasW s i = false) : ¬ inP s i := fun h2 => by rw [inP_has.2 h2] at h; cases h
end
end Go.Proofs.YtplpgfcjjnaigaaDoor
