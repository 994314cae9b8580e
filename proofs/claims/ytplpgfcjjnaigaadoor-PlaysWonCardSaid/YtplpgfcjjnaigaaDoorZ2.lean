/-
  Texts of this repo, laid together: the frame of the walks, plain lemmas, walks of Go functions. Conditions: what the theorems name.
-/
import Derived.Test.YtplpgfcjjnaigaaDoorZ1
set_option linter.unusedVariables false
set_option linter.unusedSimpArgs false
namespace Go.Proofs.YtplpgfcjjnaigaaDoor
open Go Go.RowKit
structure DecS where
  bd : Nat
  bg : Nat
  bp : Nat
  bk : Nat
  bm : Nat
  bn : Nat
  M0 : Option Addr
  M1 : Option Addr
  c0 : Nat
  c1 : Nat
  A0 : Option Addr
  A1 : Option Addr
  A2 : Option Addr
  k0 : Nat
  k1 : Nat
  k2 : Nat
  hi : Nat
  g : GameL
def DecS.T (x : DecS) (k : Nat) : Prop := obk x.M0 = some k ∨ obk x.M1 = some k ∨ k = x.bd
structure DecK (x : DecS) : Prop where
  hR : isR x.g = true
  dg : x.bd ≠ x.bg ∧ x.bd ≠ x.bp ∧ x.bd ≠ x.bk ∧ x.bd ≠ x.bm ∧ x.bd ≠ x.bn
  hd : x.hi ≤ x.bd
  hT : ∀ k, x.T k → x.hi ≤ k
def partV (x : DecS) : Value := .func (.func 38) #[] #[.pointer (some ⟨x.bd, 0, none⟩), .pointer (some ⟨x.bg, 0, none⟩), .pointer (some ⟨x.bp, 0, none⟩), .pointer (some ⟨x.bk, 0, none⟩), .pointer (some ⟨x.bm, 0, none⟩), .pointer (some ⟨x.bn, 0, none⟩)]
def keepV (x : DecS) : Value := .func (.func 37) #[] #[.pointer (some ⟨x.bm, 0, none⟩)]
structure DecW (w : World) (x : DecS) (d : Int) (m0 m1 : List Int) : Prop where
  wd : Bx w x.bd [.int .i64 d] 3
  wg : Bx w x.bg [.slice x.A0 x.g.ow.length x.k0, .slice x.A1 x.g.pr.length x.k1, .slice x.A2 x.g.mv.length x.k2] 25
  wp : Bx w x.bp [partV x] 65
  wk : Bx w x.bk [keepV x] 64
  wm : Bx w x.bm [.slice x.M0 x.g.ow.length x.c0, .slice x.M1 x.g.ow.length x.c1] 29
  wn : Bx w x.bn [.int .i64 ((x.g.ow.length : Nat) : Int)] 3
  r0 : OwnR w (SxP x.T [obk x.M1, some x.bd, some x.bg, some x.bp, some x.bk, some x.bm, some x.bn]) x.M0 x.c0 3 m0
  r1 : OwnR w (SxP x.T [obk x.M0, some x.bd, some x.bg, some x.bp, some x.bk, some x.bm, some x.bn]) x.M1 x.c1 3 m1
  rg : RdG w 0 x.hi x.A0 x.A1 x.A2 x.k0 x.k1 x.k2 x.g
  rt : RdT w 0 x.hi
def DecR (x : DecS) (s m0 m1 : List Int) (d depth : Int) (w : World) (e : Ending) (w' : World) : Prop :=
  ∃ s0 s1 n0 n1 d', e = .returned (.agg ((s0 ++ s1 : List Int).map wV).toArray) ∧ Tch x.T w w' ∧ Bx w' x.bd [.int .i64 d'] 3 ∧ OwnR w' (fun _ => True) x.M0 x.c0 3 (n0 : List Int) ∧ OwnR w' (fun _ => True) x.M1 x.c1 3 (n1 : List Int) ∧
    PartS x.g s 0 s0 s1 m0 m1 n0 n1 ∧ d ≤ d' ∧ depth ≤ d' ∧ d' ≤ max d (depth + lenW s)
structure DecB (x : DecS) (s m0 m1 : List Int) (d depth : Int) : Prop where
  ok : OkW s
  live : LiveT x.g s
  l0 : m0.length = x.g.ow.length
  l1 : m1.length = x.g.ow.length
  d0 : 0 ≤ d
  d1 : d ≤ 1000
  e0 : 0 ≤ depth
  e1 : depth + lenW s ≤ 1000
def partArgs (x : DecS) (s : List Int) (depth : Int) : Array Value := #[.agg ((s : List Int).map wV).toArray, .int .i64 depth, .pointer (some ⟨x.bd, 0, none⟩), .pointer (some ⟨x.bg, 0, none⟩), .pointer (some ⟨x.bp, 0, none⟩), .pointer (some ⟨x.bk, 0, none⟩), .pointer (some ⟨x.bm, 0, none⟩), .pointer (some ⟨x.bn, 0, none⟩)]
def PartOK (x : DecS) (s : List Int) : Prop := ∀ (m0 m1 : List Int) (d depth : Int) (w : World), DecW w x d m0 m1 → DecB x s m0 m1 d depth → Calls Tryd.prog 38 (partArgs x s depth) w (DecR x s m0 m1 d depth w)
theorem DecS.not {x : DecS} {b : Nat} (h0 : obk x.M0 ≠ some b) (h1 : obk x.M1 ≠ some b) (h2 : x.bd ≠ b) : ¬ x.T b := fun h => h.elim h0 (fun h => h.elim h1 (fun h => h2 h.symm))
theorem orN_hi {T : Nat → Prop} {n hi k : Nat} (hT : ∀ k, T k → hi ≤ k) (hn : hi ≤ n) (h : orN T n k) : hi ≤ k := h.elim (hT k) (fun h => by omega)
theorem ls_rg {l : List Bool} {k : Int} (a : 0 ≤ k) (b : k < ((lsD l 256).length : Int)) : 0 ≤ gI (lsD l 256) k ∧ gI (lsD l 256) k < 256 ∧ gB l (gI (lsD l 256) k) = true := by
  have := mem_ls.1 (ls_get a b)
  exact ⟨this.1, by omega, this.2.2⟩
structure TopK (g : GameL) (s ts : List Int) (hh k : Int) : Prop where
  ok : OkW ts
  ge : -1 ≤ hh
  le : ∀ i ∈ (lsD (fromW s) 256).take k.toNat, gI g.pr i ≤ hh
  at_ : ∀ i, inP ts i ↔ i ∈ (lsD (fromW s) 256).take k.toNat ∧ gI g.pr i = hh
  ex : 0 < k → ∃ i, inP ts i
  z : k = 0 → hh = -1
theorem topK_0 {g : GameL} {s : List Int} : TopK g s [0, 0, 0, 0] (-1) 0 := ⟨okW_00, Int.le_refl _, fun i hi => by simp at hi, fun i => ⟨fun h => absurd h (inP_00 i), fun h => by simp at h⟩, fun h => by omega, fun _ => rfl⟩
theorem take_mem {l : List Int} {k i : Int} (a : 0 ≤ k) (b : k < (l.length : Int)) : i ∈ l.take (k + 1).toNat ↔ i ∈ l.take k.toNat ∨ i = gI l k := by
  rw [show (k + 1).toNat = k.toNat + 1 by omega, List.take_succ_eq_append_getElem (show k.toNat < l.length by omega), List.mem_append, List.mem_singleton, gI_eq a b]
theorem inP_with {ts : List Int} (h : OkW ts) {n : Int} (a : 0 ≤ n) (b : n < 256) (i : Int) : inP (withW ts n) i ↔ inP ts i ∨ i = n := by
  unfold inP
  constructor
  · rintro ⟨c, d, e⟩
    rw [gB_withW h c d] at e
    split at e
    · rename_i h2
      exact .inr h2.symm
    · exact .inl ⟨c, d, e⟩
  · rintro (⟨c, d, e⟩ | rfl)
    · refine ⟨c, d, ?_⟩
      rw [gB_withW h c d]
      split
      · rfl
      · exact e
    · refine ⟨a, b, ?_⟩
      rw [gB_withW h a b, if_pos rfl]
theorem inP_of {n : Int} (a : 0 ≤ n) (b : n < 256) (i : Int) : inP (ofW [n]) i ↔ i = n := by
  unfold inP
  constructor
  · rintro ⟨c, d, e⟩
    rw [from_of, gB_ofD _ c d, decide_eq_true_iff, List.mem_singleton] at e
    exact e
  · rintro rfl
    exact ⟨a, b, by rw [from_of, gB_ofD _ a b, decide_eq_true_iff, List.mem_singleton]⟩
section
variable {g : GameL} {s ts : List Int} {hh k : Int}
theorem topK_new (h : TopK g s ts hh k) (a : 0 ≤ k) (b : k < ((lsD (fromW s) 256).length : Int)) (hp : gI g.pr (gI (lsD (fromW s) 256) k) > hh) : TopK g s (ofW [gI (lsD (fromW s) 256) k]) (gI g.pr (gI (lsD (fromW s) 256) k)) (k + 1) := by
  have hr := ls_rg a b
  refine ⟨ofW_ok _, by have := h.ge; omega, fun i hi => ?_, fun i => ?_, fun _ => ⟨_, (inP_of hr.1 hr.2.1 _).2 rfl⟩, fun e => by omega⟩
  · rcases (take_mem a b).1 hi with h1 | rfl
    · have := h.le i h1
      omega
    · exact Int.le_refl _
  · rw [inP_of hr.1 hr.2.1, take_mem a b]
    constructor
    · rintro rfl
      exact ⟨.inr rfl, rfl⟩
    · rintro ⟨h1 | h1, h2⟩
      · have := h.le i h1
        omega
      · exact h1
theorem topK_more (h : TopK g s ts hh k) (a : 0 ≤ k) (b : k < ((lsD (fromW s) 256).length : Int)) (hp : gI g.pr (gI (lsD (fromW s) 256) k) = hh) : TopK g s (withW ts (gI (lsD (fromW s) 256) k)) hh (k + 1) := by
  have hr := ls_rg a b
  refine ⟨okW_with h.ok, h.ge, fun i hi => ?_, fun i => ?_, fun _ => ⟨_, (inP_with h.ok hr.1 hr.2.1 _).2 (.inr rfl)⟩, fun e => by omega⟩
  · rcases (take_mem a b).1 hi with h1 | rfl
    · exact h.le i h1
    · omega
  · rw [inP_with h.ok hr.1 hr.2.1, take_mem a b, h.at_ i]
    constructor
    · rintro (⟨h1, h2⟩ | rfl)
      · exact ⟨.inl h1, h2⟩
      · exact ⟨.inr rfl, hp⟩
    · rintro ⟨h1 | h1, h2⟩
      · exact .inl ⟨h1, h2⟩
      · exact .inr h1
theorem topK_skip (hG : RightG g) (hlt : ∀ i, inP s i → i < (g.ow.length : Int)) (h : TopK g s ts hh k) (a : 0 ≤ k) (b : k < ((lsD (fromW s) 256).length : Int)) (hp : ¬ gI g.pr (gI (lsD (fromW s) 256) k) > hh) (hp2 : gI g.pr (gI (lsD (fromW s) 256) k) ≠ hh) : TopK g s ts hh (k + 1) := by
  have hr := ls_rg a b
  have hpos := hG.pr _ hr.1 (hlt _ hr)
  refine ⟨h.ok, h.ge, fun i hi => ?_, fun i => ?_, fun _ => ?_, fun e => by omega⟩
  · rcases (take_mem a b).1 hi with h1 | rfl
    · exact h.le i h1
    · omega
  · rw [take_mem a b, h.at_ i]
    constructor
    · rintro ⟨h1, h2⟩
      exact ⟨.inl h1, h2⟩
    · rintro ⟨h1 | rfl, h2⟩
      · exact ⟨h1, h2⟩
      · omega
  · by_cases hk : 0 < k
    · exact h.ex hk
    · have := h.z (by omega)
      omega
end
theorem top_end {g : GameL} {s ts : List Int} {hh k : Int} (h : TopK g s ts hh k) (hk : ((lsD (fromW s) 256).length : Int) ≤ k) (he : ∃ i, inP s i) : TopT g s ts hh := by
  have e : (lsD (fromW s) 256).take k.toNat = lsD (fromW s) 256 := List.take_of_length_le (by omega)
  obtain ⟨i, hi⟩ := he
  have := List.length_pos_of_mem (inP_ls.2 hi)
  refine ⟨h.ok, fun i => ?_, fun i hi => ?_, h.ex (by omega)⟩
  · rw [h.at_ i, e, inP_ls]
  · exact h.le i (by rw [e]; exact inP_ls.2 hi)
def KeepK (l m xs : List Int) (k : Int) : Prop := xs.length = m.length ∧ ∀ i : Int, 0 ≤ i → i < (m.length : Int) → gI xs i = if i < k ∧ 0 ≤ gI l i then gI l i else gI m i
theorem keepK_0 {l m : List Int} : KeepK l m m 0 := ⟨rfl, fun i a b => by rw [if_neg (by omega)]⟩
theorem keepK_no {l m xs : List Int} {k : Int} (h : KeepK l m xs k) (hk : gI l k < 0) : KeepK l m xs (k + 1) := ⟨h.1, fun i a b => by
  rw [h.2 i a b]
  by_cases e : i = k
  · subst e
    rw [if_neg (by omega), if_neg (by omega)]
  · by_cases h2 : i < k ∧ 0 ≤ gI l i
    · rw [if_pos h2, if_pos (by omega)]
    · rw [if_neg h2, if_neg (by omega)]⟩
theorem keepK_yes {l m xs : List Int} {k : Int} (h : KeepK l m xs k) (a0 : 0 ≤ k) (b0 : k < (m.length : Int)) (hk : 0 ≤ gI l k) : KeepK l m (xs.set k.toNat (gI l k)) (k + 1) := ⟨by rw [List.length_set]; exact h.1, fun i a b => by
  have hl := h.1
  rw [gI_setE a0 (by omega) a]
  by_cases e : k = i
  · subst e
    rw [if_pos rfl, if_pos (by omega)]
  · rw [if_neg e, h.2 i a b]
    by_cases h2 : i < k ∧ 0 ≤ gI l i
    · rw [if_pos h2, if_pos (by omega)]
    · rw [if_neg h2, if_neg (by omega)]⟩
theorem keepK_end {l m xs : List Int} {k : Int} (h : KeepK l m xs k) (hk : k = (l.length : Int)) : KeepT l m xs := by subst hk; exact h
def MostK (g : GameL) (s t : List Int) (p : Int) (m xs : List Int) (k : Int) : Prop := xs.length = m.length ∧ ∀ i : Int, 0 ≤ i → i < (m.length : Int) → gI xs i = if i ∈ (lsD (fromW t) 256).take k.toNat ∧ gI g.ow i = p then leastD (fromW (andS (ofW (gL g.mv i)) s)) else gI m i
section
variable {g : GameL} {s t m xs gs rq : List Int} {p k : Int}
theorem mostK_0 : MostK g s t p m m 0 := ⟨rfl, fun i a b => by rw [if_neg (by simp)]⟩
theorem mostK_no (h : MostK g s t p m xs k) (a0 : 0 ≤ k) (b0 : k < ((lsD (fromW t) 256).length : Int)) (hk : gI g.ow (gI (lsD (fromW t) 256) k) ≠ p) : MostK g s t p m xs (k + 1) := ⟨h.1, fun i a b => by
  rw [h.2 i a b]
  by_cases h2 : i ∈ (lsD (fromW t) 256).take k.toNat ∧ gI g.ow i = p
  · rw [if_pos h2, if_pos ⟨(take_mem a0 b0).2 (.inl h2.1), h2.2⟩]
  · rw [if_neg h2, if_neg]
    rintro ⟨h3, h4⟩
    rcases (take_mem a0 b0).1 h3 with h5 | rfl
    · exact h2 ⟨h5, h4⟩
    · exact hk h4⟩
theorem mostK_yes (h : MostK g s t p m xs k) (a0 : 0 ≤ k) (b0 : k < ((lsD (fromW t) 256).length : Int)) (hm : gI (lsD (fromW t) 256) k < (m.length : Int)) (hk : gI g.ow (gI (lsD (fromW t) 256) k) = p) : MostK g s t p m (xs.set (gI (lsD (fromW t) 256) k).toNat (leastD (fromW (andS (ofW (gL g.mv (gI (lsD (fromW t) 256) k))) s)))) (k + 1) := ⟨by rw [List.length_set]; exact h.1, fun i a b => by
  have hl := h.1
  have hr := ls_rg a0 b0
  rw [gI_setE hr.1 (by omega) a]
  by_cases e : gI (lsD (fromW t) 256) k = i
  · rw [if_pos e, if_pos ⟨(take_mem a0 b0).2 (.inr e.symm), by rw [← e]; exact hk⟩, e]
  · rw [if_neg e, h.2 i a b]
    by_cases h2 : i ∈ (lsD (fromW t) 256).take k.toNat ∧ gI g.ow i = p
    · rw [if_pos h2, if_pos ⟨(take_mem a0 b0).2 (.inl h2.1), h2.2⟩]
    · rw [if_neg h2, if_neg]
      rintro ⟨h3, h4⟩
      rcases (take_mem a0 b0).1 h3 with h5 | h5
      · exact h2 ⟨h5, h4⟩
      · exact e h5.symm⟩
theorem mostK_end (h : MostK g s t p m xs k) (hk : ((lsD (fromW t) 256).length : Int) ≤ k) : MostT g s t p m xs := ⟨h.1, fun i a b => by
  rw [h.2 i a b, List.take_of_length_le (by omega)]
  by_cases h2 : inP t i ∧ gI g.ow i = p
  · rw [if_pos h2, if_pos ⟨inP_ls.2 h2.1, h2.2⟩]
  · rw [if_neg h2, if_neg (fun h3 => h2 ⟨inP_ls.1 h3.1, h3.2⟩)]⟩
def ResK (s gs rq m xs : List Int) (k : Int) : Prop := xs.length = m.length ∧ ∀ i : Int, 0 ≤ i → i < (m.length : Int) → gI xs i = if i < k ∧ (inP gs i ∨ (inP s i ∧ ¬ inP rq i)) then -1 else gI m i
theorem resK_0 : ResK s gs rq m m 0 := ⟨rfl, fun i a b => by rw [if_neg (by omega)]⟩
theorem resK_no (h : ResK s gs rq m xs k) (hk : ¬ (inP gs k ∨ (inP s k ∧ ¬ inP rq k))) : ResK s gs rq m xs (k + 1) := ⟨h.1, fun i a b => by
  rw [h.2 i a b]
  by_cases e : i = k
  · subst e
    rw [if_neg (fun h2 => hk h2.2), if_neg (fun h2 => hk h2.2)]
  · by_cases h2 : i < k ∧ (inP gs i ∨ (inP s i ∧ ¬ inP rq i))
    · rw [if_pos h2, if_pos ⟨by omega, h2.2⟩]
    · rw [if_neg h2, if_neg (fun h3 => h2 ⟨by omega, h3.2⟩)]⟩
theorem resK_yes (h : ResK s gs rq m xs k) (a0 : 0 ≤ k) (b0 : k < (m.length : Int)) (hk : inP gs k ∨ (inP s k ∧ ¬ inP rq k)) : ResK s gs rq m (xs.set k.toNat (-1)) (k + 1) := ⟨by rw [List.length_set]; exact h.1, fun i a b => by
  have hl := h.1
  rw [gI_setE a0 (by omega) a]
  by_cases e : k = i
  · subst e
    rw [if_pos rfl, if_pos ⟨by omega, hk⟩]
  · rw [if_neg e, h.2 i a b]
    by_cases h2 : i < k ∧ (inP gs i ∨ (inP s i ∧ ¬ inP rq i))
    · rw [if_pos h2, if_pos ⟨by omega, h2.2⟩]
    · rw [if_neg h2, if_neg (fun h3 => h2 ⟨by omega, h3.2⟩)]⟩
theorem resK_end (h : ResK s gs rq m xs k) (hk : (m.length : Int) ≤ k) : ResT s gs rq m xs := ⟨h.1, fun i a b => by
  rw [h.2 i a b]
  by_cases h2 : inP gs i ∨ (inP s i ∧ ¬ inP rq i)
  · rw [if_pos ⟨by omega, h2⟩, if_pos h2]
  · rw [if_neg (fun h3 => h2 h3.2), if_neg h2]⟩
theorem has_nP {s : List Int} {i : Int} (h : hasW s i = false) : ¬ inP s i := fun h2 => by rw [inP_has.2 h2] at h; cases h
end
end Go.Proofs.YtplpgfcjjnaigaaDoor
namespace Go.Proofs.YtplpgfcjjnaigaaDoor
open Go Go.RowKit
set_option maxHeartbeats 4000000 in
theorem with_any {s : List Int} {n : Int} {w : World} (hs : OkW s) :
    Calls Tryd.prog 25 #[.agg ((s : List Int).map wV).toArray, .int .i64 (n)] w fun e w' => e = .returned (.agg (((withW s n : List Int)).map wV).toArray) ∧ Ext w w' := by
 have hls := hs.1
 refine enter_ (args := [.agg ((s : List Int).map wV).toArray, .int .i64 (n)]) Tryd.func25 rfl Tryd.ntmps25 (Nat.le_of_ble_eq_true rfl) (fun act0 f0 => ?_)
 have e0 : Ext w w := Ext.refl w
 refine sqs ?_
 refine At.bx f0 2 ((s : List Int).map wV) 44 (fun w1 g5 bx6 act4 f3 => ?_)
 clear f0; have := g5.size; replace e0 := e0.gn g5; have := bx6.lt; clear g5
 refine At.bx f3 4 ((List.replicate 4 (0 : Int) : List Int).map wV) 44 (fun w9 aD aA aX aE => ?_)
 clear f3; have := aD.size; replace e0 := e0.gn aD; replace bx6 := bx6.gn aD; have := aA.lt; clear aD
 refine At.dn ?_
 refine wp_seq ?_
 refine sqs ?_
 rcases Bool.eq_false_or_eq_true (decide ((n : Int) ≥ 0)) with aB | aB
 ·have aY := of_decide_eq_true aB
  refine At.rk aE 6 [(10, .bool (decide ((n : Int) < 256)))] (.e 7 aB <| .n) (fun aZ aC => ?_)
  clear aE
  refine At.dn ?_
  refine cond_S aC (t := decide ((n : Int) < 256)) rfl (fun aJ => ?_) (fun aJ => ?_)
  ·have bA := of_decide_eq_true aJ
   refine At.start ?_
   refine At.rk aC 10 [(20, .pointer (some ((⟨w.heap.size, 0, none⟩ : Addr).add (((n : Int) / 64 : Int).toNat * 1)))), (19, .int .u64 (orW (gI s ((n : Int) / 64)) (oneW ((n : Int) % 64))))] (.p (show 0 ≤ (6 : Int) from ω) <| .v 12 (show (.int .i64 ((n : Int).fdiv (2 ^ (min (6 : Int).toNat IntKind.i64.bits))) : Value) = .int .i64 ((n : Int) / 64) from (congrArg (Value.int .i64) (shr6 _))) <| .b ((n : Int) / 64) 4 <| .l (Bx.arrM (f := wV) (0 : Int) bx6 ((n : Int) / 64) ω ω) <| .v 16 (show (.int .i64 (IntKind.i64.wrap ((BitVec.ofInt 64 n &&& BitVec.ofInt 64 63).toNat : Int)) : Value) = .int .i64 ((n : Int) % 64) from (congrArg (Value.int .i64) (and63 ω ω))) <| .v 17 (show (.int .u64 (IntKind.u64.wrap ((n : Int) % 64)) : Value) = .int .u64 ((n : Int) % 64) from (wu64 ω ω)) <| .p (show 0 ≤ ((n : Int) % 64 : Int) from ω) <| .v 18 (show (.int .u64 (IntKind.u64.wrap (1 * (2 ^ (min ((n : Int) % 64 : Int).toNat IntKind.u64.bits)))) : Value) = .int .u64 (oneW ((n : Int) % 64)) from (congrArg (Value.int .u64) (shl_one ω ω))) <| .v 19 (show (.int .u64 (IntKind.u64.wrap ((BitVec.ofInt 64 (gI s ((n : Int) / 64)) ||| BitVec.ofInt 64 (oneW ((n : Int) % 64))).toNat : Int)) : Value) = .int .u64 (orW (gI s ((n : Int) / 64)) (oneW ((n : Int) % 64))) from (congrArg (Value.int .u64) (or64 (by first | exact hs.2 _ | exact ht.2 _ | exact oneW_W ω ω | exact mixW_W hmx ω ω hs) (by first | exact hs.2 _ | exact ht.2 _ | exact oneW_W ω ω | exact mixW_W hmx ω ω hs)))) <| .b ((n : Int) / 64) 4 <| .n) (fun bB aM => ?_)
   clear aC
   refine At.act aM (storeArrM (f := wV) (t := 42) (b := w.heap.size) (i := (n : Int) / 64) (x := orW (gI s ((n : Int) / 64)) (oneW ((n : Int) % 64))) (v := .int .u64 (orW (gI s ((n : Int) / 64)) (oneW ((n : Int) % 64)))) κ rfl rfl κ bx6 ω ω) ?_
   rintro d_ v_ bC ⟨rfl, aF, aK⟩
   refine ⟨_, rfl, fun bD aN => ?_⟩
   clear aM; have bE : ((s).set ((n : Int) / 64 : Int).toNat (orW (gI s ((n : Int) / 64)) (oneW ((n : Int) % 64)))).length = (s : List Int).length := List.length_set; have := aF.size; replace e0 := e0.gr aF (fun k h => by injection h; omega); replace aA := aA.gb aF ω; clear bx6 aF
   refine At.dn ?_
   refine sqs ?_
   refine At.rk aN 1 [(21, .agg (((s).set ((n : Int) / 64 : Int).toNat (orW (gI s ((n : Int) / 64)) (oneW ((n : Int) % 64))) : List Int).map wV).toArray)] (.p (show (((s).set ((n : Int) / 64 : Int).toNat (orW (gI s ((n : Int) / 64)) (oneW ((n : Int) % 64))) : List Int).map wV).length = 4 from len_P) <| .p aK.whole <| .o (.cs (((s).set ((n : Int) / 64 : Int).toNat (orW (gI s ((n : Int) / 64)) (oneW ((n : Int) % 64))) : List Int).map wV)) <| .n) (fun bF aO => ?_)
   clear aN
   refine At.act aO (storeBlk (t := 44) (b := w1.heap.size) (n := 4) (cs' := (((s).set ((n : Int) / 64 : Int).toNat (orW (gI s ((n : Int) / 64)) (oneW ((n : Int) % 64))) : List Int).map wV)) κ κ len_P oneW_ ((show (((s).set ((n : Int) / 64 : Int).toNat (orW (gI s ((n : Int) / 64)) (oneW ((n : Int) % 64))) : List Int).map wV).length = 4 from len_P).trans (show ((List.replicate 4 (0 : Int) : List Int).map wV).length = 4 from len_P).symm) aA) ?_
   rintro d_ v_ bG ⟨rfl, aG, aR⟩
   refine ⟨_, rfl, fun bH aS => ?_⟩
   clear aO; have := aG.size; replace e0 := e0.gr aG (fun k h => by injection h; omega); replace aK := aK.gb aG ω; clear aA aG
   refine At.dn ?_
   refine wp_ret ?_
   refine retB_ aS (sl := 4) (cs := (((s).set ((n : Int) / 64 : Int).toNat (orW (gI s ((n : Int) / 64)) (oneW ((n : Int) % 64))) : List Int).map wV)) (m := 4) rfl κ κ len_P aR ?_
   exact ⟨ret_map (by first | rw [withW, if_pos ⟨by omega, by omega⟩] | rw [withW, if_neg ω]), e0⟩
  have bI := of_decide_eq_false aJ
  refine wp_skip ?_
  refine t_n ?_
  refine sqs ?_
  refine At.rk aC 1 [(21, .agg ((s : List Int).map wV).toArray)] (.p (show ((s : List Int).map wV).length = 4 from ((List.length_map _).trans σ)) <| .p bx6.whole <| .o (.cs ((s : List Int).map wV)) <| .n) (fun bJ aP => ?_)
  clear aC
  refine At.act aP (storeBlk (t := 44) (b := w1.heap.size) (n := 4) (cs' := ((s : List Int).map wV)) κ κ ((List.length_map _).trans σ) oneW_ ((show ((s : List Int).map wV).length = 4 from ((List.length_map _).trans σ)).trans (show ((List.replicate 4 (0 : Int) : List Int).map wV).length = 4 from len_P).symm) aA) ?_
  rintro d_ v_ bK ⟨rfl, aH, aT⟩
  refine ⟨_, rfl, fun bL aU => ?_⟩
  clear aP; have := aH.size; replace e0 := e0.gr aH (fun k h => by injection h; omega); replace bx6 := bx6.gb aH ω; clear aA aH
  refine At.dn ?_
  refine wp_ret ?_
  refine retB_ aU (sl := 4) (cs := ((s : List Int).map wV)) (m := 4) rfl κ κ ((List.length_map _).trans σ) aT ?_
  exact ⟨ret_map (by first | rw [withW, if_pos ⟨by omega, by omega⟩] | rw [withW, if_neg ω]), e0⟩
 have bM := of_decide_eq_false aB
 refine At.rk aE 6 [(10, .bool false)] (.e 7 aB <| .n) (fun bN aL => ?_)
 clear aE
 refine At.dn ?_
 refine cond_F aL rfl ?_
 refine wp_skip ?_
 refine t_n ?_
 refine sqs ?_
 refine At.rk aL 1 [(21, .agg ((s : List Int).map wV).toArray)] (.p (show ((s : List Int).map wV).length = 4 from ((List.length_map _).trans σ)) <| .p bx6.whole <| .o (.cs ((s : List Int).map wV)) <| .n) (fun bO aQ => ?_)
 clear aL
 refine At.act aQ (storeBlk (t := 44) (b := w1.heap.size) (n := 4) (cs' := ((s : List Int).map wV)) κ κ ((List.length_map _).trans σ) oneW_ ((show ((s : List Int).map wV).length = 4 from ((List.length_map _).trans σ)).trans (show ((List.replicate 4 (0 : Int) : List Int).map wV).length = 4 from len_P).symm) aA) ?_
 rintro d_ v_ bP ⟨rfl, aI, aV⟩
 refine ⟨_, rfl, fun bQ aW => ?_⟩
 clear aQ; have := aI.size; replace e0 := e0.gr aI (fun k h => by injection h; omega); replace bx6 := bx6.gb aI ω; clear aA aI
 refine At.dn ?_
 refine wp_ret ?_
 refine retB_ aW (sl := 4) (cs := ((s : List Int).map wV)) (m := 4) rfl κ κ ((List.length_map _).trans σ) aV ?_
 exact ⟨ret_map (by first | rw [withW, if_pos ⟨by omega, by omega⟩] | rw [withW, if_neg ω]), e0⟩
set_option maxHeartbeats 4000000 in
theorem or_any {s : List Int} {t : List Int} {w : World} (hs : OkW s) (ht : OkW t) :
    Calls Tryd.prog 32 #[.agg ((s : List Int).map wV).toArray, .agg ((t : List Int).map wV).toArray] w fun e w' => e = .returned (.agg (((ofZW (fun j => orW (gI s j) (gI t j)) : List Int)).map wV).toArray) ∧ Ext w w' := by
 have hls := hs.1; have hlt := ht.1
 refine enter_ (args := [.agg ((s : List Int).map wV).toArray, .agg ((t : List Int).map wV).toArray]) Tryd.func32 rfl Tryd.ntmps32 (Nat.le_of_ble_eq_true rfl) (fun act0 f0 => ?_)
 have e0 : Ext w w := Ext.refl w
 refine sqs ?_
 refine At.bx f0 2 ((s : List Int).map wV) 44 (fun w1 g5 bx6 act4 f3 => ?_)
 clear f0; have := g5.size; replace e0 := e0.gn g5; have := bx6.lt; clear g5
 refine At.bx f3 3 ((t : List Int).map wV) 44 (fun w9 aL aG bM aQ => ?_)
 clear f3; have := aL.size; replace e0 := e0.gn aL; replace bx6 := bx6.gn aL; have := aG.lt; clear aL
 refine At.bx aQ 4 ((List.replicate 4 (0 : Int) : List Int).map wV) 44 (fun bN aH aM bO aR => ?_)
 clear aQ; have := aH.size; replace e0 := e0.gn aH; replace bx6 := bx6.gn aH; replace aG := aG.gn aH; have := aM.lt; clear aH
 refine At.dn ?_
 refine wp_seq ?_
 refine sqs ?_
 refine At.rk aR 1 [(6, .int .i64 (0))] .n (fun bP aS => ?_)
 clear aR
 refine At.dn ?_
 refine wp_block ?_
 refine loop_g (fun (m_ : Nat) a_ w_ => ∃ (k : Int) (xs : List Int), m_ = (4 - k).toNat ∧ (Frm 19 a_ [(6, .int .i64 (k)), (4, pt w9.heap.size 0), (3, pt w1.heap.size 0), (2, pt w.heap.size 0)]) ∧ (Ext w w_) ∧ (Bx w_ (w.heap.size) ((xs : List Int).map wV) 44) ∧ (Bx w_ (w1.heap.size) ((t : List Int).map wV) 44) ∧ (Bx w_ (w9.heap.size) ((List.replicate 4 (0 : Int) : List Int).map wV) 44) ∧ (0 ≤ k) ∧ (k ≤ 4) ∧ (xs.length = 4) ∧ (MixW s xs (fun j => orW (gI s j) (gI t j)) k)) _ ⟨0, s, rfl, aS.sb, e0, bx6, aG, aM, ω, ω, ω, (mixW_0 hls)⟩ ?_
 clear aS; clear bx6; clear aG; clear aM; clear e0
 intro m_ bQ bF ⟨k, xs, hm34, aT, aA, aB, aC, aD, i39, i40, i41, hmx⟩
 have := aA.size; have := aB.lt; have := aC.lt; have := aD.lt
 refine sqs ?_
 refine At.rk aT 1 [(7, .bool (decide ((k : Int) < 4)))] .n (fun bR aI => ?_)
 clear aT
 refine At.dn ?_
 refine wp_seq ?_
 refine cond_S aI (t := decide ((k : Int) < 4)) rfl (fun aN => ?_) (fun aN => ?_)
 ·have bS := of_decide_eq_true aN
  refine wp_skip ?_
  refine t_n ?_
  refine wp_seq ?_
  refine wp_block ?_
  refine sqs ?_
  refine At.rk aI 2 [(5, .int .i64 (k))] .n (fun bT aU => ?_)
  clear aI
  refine At.dn ?_
  obtain ⟨aV, aO⟩ : ∃ c : List (Addr × Value), c = [(((⟨w1.heap.size, 0, none⟩ : Addr).add ((k : Int).toNat * 1)), (.int .u64 (gI t k)))] := ⟨_, rfl⟩
  have aW : HoldsC aV bF := by rw [aO]; exact ⟨(Bx.arrM (f := wV) (0 : Int) aC k ω ω), trivial⟩
  refine AtH.start aV 9 _ κ rfl rfl (fun aP aX => ?_)
  have aE := gr_drew aX; have aJ := aW.gr aE; have := aE.size; replace aA := aA.gn aE; replace aB := aB.gn aE; replace aC := aC.gn aE; replace aD := aD.gn aE; clear aE aX aW
  refine AtH.rk aJ aU [0, 1, 3, 4, 5] 4 [(14, .int .u64 (gI t k)), (10, .pointer (some ((⟨w.heap.size, 0, none⟩ : Addr).add ((k : Int).toNat * 1)))), (9, .int .i64 (k))] (.b k 4 <| .b k 4 <| .l (CsC_at aO 0 rfl) <| .n) (fun bU aY => ?_)
  clear aU
  refine AtH.all [2] 3 κ (by simp) ⟨?_, trivial⟩
  refine OneH.seq aY [[.ld (.int .u64 (gI xs k))]] [(11, .int .u64 (gI xs k))] aP [(aP.cell? ((⟨w.heap.size, 0, none⟩ : Addr).add ((k : Int).toNat * 1)) = some (.int .u64 (gI xs k)))] _ rfl κ κ ⟨(Bx.arrM (f := wV) (0 : Int) aB k ω ω), trivial⟩ (fun bV bG bH aZ => ?_)
  obtain rfl : aP = bG := bH.symm
  clear aY
  refine ⟨aJ, ?_⟩
  refine AtH.rk aJ aZ [6] 2 [(15, .int .u64 (orW (gI xs k) (gI t k)))] (.v 15 (show (.int .u64 (IntKind.u64.wrap ((BitVec.ofInt 64 (gI xs k) ||| BitVec.ofInt 64 (gI t k)).toNat : Int)) : Value) = .int .u64 (orW (gI xs k) (gI t k)) from (congrArg (Value.int .u64) (or64 (by first | exact hs.2 _ | exact ht.2 _ | exact oneW_W ω ω | exact mixW_W hmx ω ω hs) (by first | exact hs.2 _ | exact ht.2 _ | exact oneW_W ω ω | exact mixW_W hmx ω ω hs)))) <| .n) (fun bW bA => ?_)
  clear aZ
  refine AtH.rk aJ bA [7] 1 [(16, .pointer (some ((⟨w.heap.size, 0, none⟩ : Addr).add ((k : Int).toNat * 1))))] (.b k 4 <| .n) (fun bX bB => ?_)
  clear bA
  refine AtH.all [8] 0 κ (by simp) ⟨?_, trivial⟩
  refine OneH.act bB _ rfl (storeArrM (f := wV) (t := 42) (b := w.heap.size) (i := k) (x := orW (gI xs k) (gI t k)) (v := .int .u64 (orW (gI xs k) (gI t k))) κ rfl rfl κ aB ω ω) ?_
  rintro d_ v_ bY ⟨rfl, aF, bI⟩
  have bC := aJ.gr' aF (by rw [aO]; exact ⟨(by simp only [add_block]; omega), trivial⟩)
  refine ⟨_, rfl, fun bZ bD => ⟨bC, ?_⟩⟩
  clear bB; have cA : ((xs).set (k : Int).toNat (orW (gI xs k) (gI t k))).length = (xs : List Int).length := List.length_set; have := aF.size; replace aA := aA.gr aF (fun k h => by injection h; omega); replace aC := aC.gb aF ω; replace aD := aD.gb aF ω; clear aB aF
  refine AtH.done κ ?_
  clear bC
  refine b_n ?_
  refine t_n ?_
  refine At.start ?_
  refine At.rk bD 2 [(6, .int .i64 (k + 1))] (.w 17 (k + 1) <| .n) (fun cB bJ => ?_)
  clear bD
  refine At.dn ?_
  exact ⟨_, ω, (k + 1), (xs).set (k : Int).toNat (orW (gI xs k) (gI t k)), rfl, bJ.sb, aA, bI, aC, aD, ω, ω, ω, (mixW_next hmx ω ω (by rw [mixW_at hmx ω ω]))⟩
 have cC := of_decide_eq_false aN
 refine wp_exit ?_
 refine t_e ?_
 clear hm34
 refine t_e ?_
 refine b_e ?_
 refine t_n ?_
 refine sqs ?_
 refine At.rk aI 1 [(18, .agg ((xs : List Int).map wV).toArray)] (.p (show ((xs : List Int).map wV).length = 4 from ((List.length_map _).trans σ)) <| .p aB.whole <| .o (.cs ((xs : List Int).map wV)) <| .n) (fun cD bE => ?_)
 clear aI
 refine At.act bE (storeBlk (t := 44) (b := w9.heap.size) (n := 4) (cs' := ((xs : List Int).map wV)) κ κ ((List.length_map _).trans σ) oneW_ ((show ((xs : List Int).map wV).length = 4 from ((List.length_map _).trans σ)).trans (show ((List.replicate 4 (0 : Int) : List Int).map wV).length = 4 from len_P).symm) aD) ?_
 rintro d_ v_ cE ⟨rfl, aK, bK⟩
 refine ⟨_, rfl, fun cF bL => ?_⟩
 clear bE; have := aK.size; replace aA := aA.gr aK (fun k h => by injection h; omega); replace aB := aB.gb aK ω; replace aC := aC.gb aK ω; clear aD aK
 refine At.dn ?_
 refine wp_ret ?_
 refine retB_ bL (sl := 4) (cs := ((xs : List Int).map wV)) (m := 4) rfl κ κ ((List.length_map _).trans σ) bK ?_
 exact ⟨ret_map (mixW_end hmx ω), aA⟩
set_option maxHeartbeats 4000000 in
theorem and_any {s : List Int} {t : List Int} {w : World} (hs : OkW s) (ht : OkW t) :
    Calls Tryd.prog 26 #[.agg ((s : List Int).map wV).toArray, .agg ((t : List Int).map wV).toArray] w fun e w' => e = .returned (.agg (((ofZW (fun j => andW (gI s j) (gI t j)) : List Int)).map wV).toArray) ∧ Ext w w' := by
 have hls := hs.1; have hlt := ht.1
 refine enter_ (args := [.agg ((s : List Int).map wV).toArray, .agg ((t : List Int).map wV).toArray]) Tryd.func26 rfl Tryd.ntmps26 (Nat.le_of_ble_eq_true rfl) (fun act0 f0 => ?_)
 have e0 : Ext w w := Ext.refl w
 refine sqs ?_
 refine At.bx f0 2 ((s : List Int).map wV) 44 (fun w1 g5 bx6 act4 f3 => ?_)
 clear f0; have := g5.size; replace e0 := e0.gn g5; have := bx6.lt; clear g5
 refine At.bx f3 3 ((t : List Int).map wV) 44 (fun w9 aL aG bM aQ => ?_)
 clear f3; have := aL.size; replace e0 := e0.gn aL; replace bx6 := bx6.gn aL; have := aG.lt; clear aL
 refine At.bx aQ 4 ((List.replicate 4 (0 : Int) : List Int).map wV) 44 (fun bN aH aM bO aR => ?_)
 clear aQ; have := aH.size; replace e0 := e0.gn aH; replace bx6 := bx6.gn aH; replace aG := aG.gn aH; have := aM.lt; clear aH
 refine At.dn ?_
 refine wp_seq ?_
 refine sqs ?_
 refine At.rk aR 1 [(6, .int .i64 (0))] .n (fun bP aS => ?_)
 clear aR
 refine At.dn ?_
 refine wp_block ?_
 refine loop_g (fun (m_ : Nat) a_ w_ => ∃ (k : Int) (xs : List Int), m_ = (4 - k).toNat ∧ (Frm 19 a_ [(6, .int .i64 (k)), (4, pt w9.heap.size 0), (3, pt w1.heap.size 0), (2, pt w.heap.size 0)]) ∧ (Ext w w_) ∧ (Bx w_ (w.heap.size) ((xs : List Int).map wV) 44) ∧ (Bx w_ (w1.heap.size) ((t : List Int).map wV) 44) ∧ (Bx w_ (w9.heap.size) ((List.replicate 4 (0 : Int) : List Int).map wV) 44) ∧ (0 ≤ k) ∧ (k ≤ 4) ∧ (xs.length = 4) ∧ (MixW s xs (fun j => andW (gI s j) (gI t j)) k)) _ ⟨0, s, rfl, aS.sb, e0, bx6, aG, aM, ω, ω, ω, (mixW_0 hls)⟩ ?_
 clear aS; clear bx6; clear aG; clear aM; clear e0
 intro m_ bQ bF ⟨k, xs, hm34, aT, aA, aB, aC, aD, i39, i40, i41, hmx⟩
 have := aA.size; have := aB.lt; have := aC.lt; have := aD.lt
 refine sqs ?_
 refine At.rk aT 1 [(7, .bool (decide ((k : Int) < 4)))] .n (fun bR aI => ?_)
 clear aT
 refine At.dn ?_
 refine wp_seq ?_
 refine cond_S aI (t := decide ((k : Int) < 4)) rfl (fun aN => ?_) (fun aN => ?_)
 ·have bS := of_decide_eq_true aN
  refine wp_skip ?_
  refine t_n ?_
  refine wp_seq ?_
  refine wp_block ?_
  refine sqs ?_
  refine At.rk aI 2 [(5, .int .i64 (k))] .n (fun bT aU => ?_)
  clear aI
  refine At.dn ?_
  obtain ⟨aV, aO⟩ : ∃ c : List (Addr × Value), c = [(((⟨w1.heap.size, 0, none⟩ : Addr).add ((k : Int).toNat * 1)), (.int .u64 (gI t k)))] := ⟨_, rfl⟩
  have aW : HoldsC aV bF := by rw [aO]; exact ⟨(Bx.arrM (f := wV) (0 : Int) aC k ω ω), trivial⟩
  refine AtH.start aV 9 _ κ rfl rfl (fun aP aX => ?_)
  have aE := gr_drew aX; have aJ := aW.gr aE; have := aE.size; replace aA := aA.gn aE; replace aB := aB.gn aE; replace aC := aC.gn aE; replace aD := aD.gn aE; clear aE aX aW
  refine AtH.rk aJ aU [0, 1, 3, 4, 5] 4 [(14, .int .u64 (gI t k)), (10, .pointer (some ((⟨w.heap.size, 0, none⟩ : Addr).add ((k : Int).toNat * 1)))), (9, .int .i64 (k))] (.b k 4 <| .b k 4 <| .l (CsC_at aO 0 rfl) <| .n) (fun bU aY => ?_)
  clear aU
  refine AtH.all [2] 3 κ (by simp) ⟨?_, trivial⟩
  refine OneH.seq aY [[.ld (.int .u64 (gI xs k))]] [(11, .int .u64 (gI xs k))] aP [(aP.cell? ((⟨w.heap.size, 0, none⟩ : Addr).add ((k : Int).toNat * 1)) = some (.int .u64 (gI xs k)))] _ rfl κ κ ⟨(Bx.arrM (f := wV) (0 : Int) aB k ω ω), trivial⟩ (fun bV bG bH aZ => ?_)
  obtain rfl : aP = bG := bH.symm
  clear aY
  refine ⟨aJ, ?_⟩
  refine AtH.rk aJ aZ [6] 2 [(15, .int .u64 (andW (gI xs k) (gI t k)))] (.v 15 (show (.int .u64 (IntKind.u64.wrap ((BitVec.ofInt 64 (gI xs k) &&& BitVec.ofInt 64 (gI t k)).toNat : Int)) : Value) = .int .u64 (andW (gI xs k) (gI t k)) from (congrArg (Value.int .u64) (and64 (by first | exact hs.2 _ | exact ht.2 _ | exact oneW_W ω ω | exact mixW_W hmx ω ω hs) (by first | exact hs.2 _ | exact ht.2 _ | exact oneW_W ω ω | exact mixW_W hmx ω ω hs)))) <| .n) (fun bW bA => ?_)
  clear aZ
  refine AtH.rk aJ bA [7] 1 [(16, .pointer (some ((⟨w.heap.size, 0, none⟩ : Addr).add ((k : Int).toNat * 1))))] (.b k 4 <| .n) (fun bX bB => ?_)
  clear bA
  refine AtH.all [8] 0 κ (by simp) ⟨?_, trivial⟩
  refine OneH.act bB _ rfl (storeArrM (f := wV) (t := 42) (b := w.heap.size) (i := k) (x := andW (gI xs k) (gI t k)) (v := .int .u64 (andW (gI xs k) (gI t k))) κ rfl rfl κ aB ω ω) ?_
  rintro d_ v_ bY ⟨rfl, aF, bI⟩
  have bC := aJ.gr' aF (by rw [aO]; exact ⟨(by simp only [add_block]; omega), trivial⟩)
  refine ⟨_, rfl, fun bZ bD => ⟨bC, ?_⟩⟩
  clear bB; have cA : ((xs).set (k : Int).toNat (andW (gI xs k) (gI t k))).length = (xs : List Int).length := List.length_set; have := aF.size; replace aA := aA.gr aF (fun k h => by injection h; omega); replace aC := aC.gb aF ω; replace aD := aD.gb aF ω; clear aB aF
  refine AtH.done κ ?_
  clear bC
  refine b_n ?_
  refine t_n ?_
  refine At.start ?_
  refine At.rk bD 2 [(6, .int .i64 (k + 1))] (.w 17 (k + 1) <| .n) (fun cB bJ => ?_)
  clear bD
  refine At.dn ?_
  exact ⟨_, ω, (k + 1), (xs).set (k : Int).toNat (andW (gI xs k) (gI t k)), rfl, bJ.sb, aA, bI, aC, aD, ω, ω, ω, (mixW_next hmx ω ω (by rw [mixW_at hmx ω ω]))⟩
 have cC := of_decide_eq_false aN
 refine wp_exit ?_
 refine t_e ?_
 clear hm34
 refine t_e ?_
 refine b_e ?_
 refine t_n ?_
 refine sqs ?_
 refine At.rk aI 1 [(18, .agg ((xs : List Int).map wV).toArray)] (.p (show ((xs : List Int).map wV).length = 4 from ((List.length_map _).trans σ)) <| .p aB.whole <| .o (.cs ((xs : List Int).map wV)) <| .n) (fun cD bE => ?_)
 clear aI
 refine At.act bE (storeBlk (t := 44) (b := w9.heap.size) (n := 4) (cs' := ((xs : List Int).map wV)) κ κ ((List.length_map _).trans σ) oneW_ ((show ((xs : List Int).map wV).length = 4 from ((List.length_map _).trans σ)).trans (show ((List.replicate 4 (0 : Int) : List Int).map wV).length = 4 from len_P).symm) aD) ?_
 rintro d_ v_ cE ⟨rfl, aK, bK⟩
 refine ⟨_, rfl, fun cF bL => ?_⟩
 clear bE; have := aK.size; replace aA := aA.gr aK (fun k h => by injection h; omega); replace aB := aB.gb aK ω; replace aC := aC.gb aK ω; clear aD aK
 refine At.dn ?_
 refine wp_ret ?_
 refine retB_ bL (sl := 4) (cs := ((xs : List Int).map wV)) (m := 4) rfl κ κ ((List.length_map _).trans σ) bK ?_
 exact ⟨ret_map (mixW_end hmx ω), aA⟩
set_option maxHeartbeats 4000000 in
theorem minus_any {s : List Int} {t : List Int} {w : World} (hs : OkW s) (ht : OkW t) :
    Calls Tryd.prog 42 #[.agg ((s : List Int).map wV).toArray, .agg ((t : List Int).map wV).toArray] w fun e w' => e = .returned (.agg (((ofZW (fun j => notW (gI s j) (gI t j)) : List Int)).map wV).toArray) ∧ Ext w w' := by
 have hls := hs.1; have hlt := ht.1
 refine enter_ (args := [.agg ((s : List Int).map wV).toArray, .agg ((t : List Int).map wV).toArray]) Tryd.func42 rfl Tryd.ntmps42 (Nat.le_of_ble_eq_true rfl) (fun act0 f0 => ?_)
 have e0 : Ext w w := Ext.refl w
 refine sqs ?_
 refine At.bx f0 2 ((s : List Int).map wV) 44 (fun w1 g5 bx6 act4 f3 => ?_)
 clear f0; have := g5.size; replace e0 := e0.gn g5; have := bx6.lt; clear g5
 refine At.bx f3 3 ((t : List Int).map wV) 44 (fun w9 aL aG bM aQ => ?_)
 clear f3; have := aL.size; replace e0 := e0.gn aL; replace bx6 := bx6.gn aL; have := aG.lt; clear aL
 refine At.bx aQ 4 ((List.replicate 4 (0 : Int) : List Int).map wV) 44 (fun bN aH aM bO aR => ?_)
 clear aQ; have := aH.size; replace e0 := e0.gn aH; replace bx6 := bx6.gn aH; replace aG := aG.gn aH; have := aM.lt; clear aH
 refine At.dn ?_
 refine wp_seq ?_
 refine sqs ?_
 refine At.rk aR 1 [(6, .int .i64 (0))] .n (fun bP aS => ?_)
 clear aR
 refine At.dn ?_
 refine wp_block ?_
 refine loop_g (fun (m_ : Nat) a_ w_ => ∃ (k : Int) (xs : List Int), m_ = (4 - k).toNat ∧ (Frm 19 a_ [(6, .int .i64 (k)), (4, pt w9.heap.size 0), (3, pt w1.heap.size 0), (2, pt w.heap.size 0)]) ∧ (Ext w w_) ∧ (Bx w_ (w.heap.size) ((xs : List Int).map wV) 44) ∧ (Bx w_ (w1.heap.size) ((t : List Int).map wV) 44) ∧ (Bx w_ (w9.heap.size) ((List.replicate 4 (0 : Int) : List Int).map wV) 44) ∧ (0 ≤ k) ∧ (k ≤ 4) ∧ (xs.length = 4) ∧ (MixW s xs (fun j => notW (gI s j) (gI t j)) k)) _ ⟨0, s, rfl, aS.sb, e0, bx6, aG, aM, ω, ω, ω, (mixW_0 hls)⟩ ?_
 clear aS; clear bx6; clear aG; clear aM; clear e0
 intro m_ bQ bF ⟨k, xs, hm34, aT, aA, aB, aC, aD, i39, i40, i41, hmx⟩
 have := aA.size; have := aB.lt; have := aC.lt; have := aD.lt
 refine sqs ?_
 refine At.rk aT 1 [(7, .bool (decide ((k : Int) < 4)))] .n (fun bR aI => ?_)
 clear aT
 refine At.dn ?_
 refine wp_seq ?_
 refine cond_S aI (t := decide ((k : Int) < 4)) rfl (fun aN => ?_) (fun aN => ?_)
 ·have bS := of_decide_eq_true aN
  refine wp_skip ?_
  refine t_n ?_
  refine wp_seq ?_
  refine wp_block ?_
  refine sqs ?_
  refine At.rk aI 2 [(5, .int .i64 (k))] .n (fun bT aU => ?_)
  clear aI
  refine At.dn ?_
  obtain ⟨aV, aO⟩ : ∃ c : List (Addr × Value), c = [(((⟨w1.heap.size, 0, none⟩ : Addr).add ((k : Int).toNat * 1)), (.int .u64 (gI t k)))] := ⟨_, rfl⟩
  have aW : HoldsC aV bF := by rw [aO]; exact ⟨(Bx.arrM (f := wV) (0 : Int) aC k ω ω), trivial⟩
  refine AtH.start aV 9 _ κ rfl rfl (fun aP aX => ?_)
  have aE := gr_drew aX; have aJ := aW.gr aE; have := aE.size; replace aA := aA.gn aE; replace aB := aB.gn aE; replace aC := aC.gn aE; replace aD := aD.gn aE; clear aE aX aW
  refine AtH.rk aJ aU [0, 1, 3, 4, 5] 4 [(14, .int .u64 (gI t k)), (10, .pointer (some ((⟨w.heap.size, 0, none⟩ : Addr).add ((k : Int).toNat * 1)))), (9, .int .i64 (k))] (.b k 4 <| .b k 4 <| .l (CsC_at aO 0 rfl) <| .n) (fun bU aY => ?_)
  clear aU
  refine AtH.all [2] 3 κ (by simp) ⟨?_, trivial⟩
  refine OneH.seq aY [[.ld (.int .u64 (gI xs k))]] [(11, .int .u64 (gI xs k))] aP [(aP.cell? ((⟨w.heap.size, 0, none⟩ : Addr).add ((k : Int).toNat * 1)) = some (.int .u64 (gI xs k)))] _ rfl κ κ ⟨(Bx.arrM (f := wV) (0 : Int) aB k ω ω), trivial⟩ (fun bV bG bH aZ => ?_)
  obtain rfl : aP = bG := bH.symm
  clear aY
  refine ⟨aJ, ?_⟩
  refine AtH.rk aJ aZ [6] 2 [(15, .int .u64 (notW (gI xs k) (gI t k)))] (.v 15 (show (.int .u64 (IntKind.u64.wrap ((BitVec.ofInt 64 (gI xs k) &&& ~~~ (BitVec.ofInt 64 (gI t k))).toNat : Int)) : Value) = .int .u64 (notW (gI xs k) (gI t k)) from (congrArg (Value.int .u64) (andNot64 (by first | exact hs.2 _ | exact ht.2 _ | exact oneW_W ω ω | exact mixW_W hmx ω ω hs) (by first | exact hs.2 _ | exact ht.2 _ | exact oneW_W ω ω | exact mixW_W hmx ω ω hs)))) <| .n) (fun bW bA => ?_)
  clear aZ
  refine AtH.rk aJ bA [7] 1 [(16, .pointer (some ((⟨w.heap.size, 0, none⟩ : Addr).add ((k : Int).toNat * 1))))] (.b k 4 <| .n) (fun bX bB => ?_)
  clear bA
  refine AtH.all [8] 0 κ (by simp) ⟨?_, trivial⟩
  refine OneH.act bB _ rfl (storeArrM (f := wV) (t := 42) (b := w.heap.size) (i := k) (x := notW (gI xs k) (gI t k)) (v := .int .u64 (notW (gI xs k) (gI t k))) κ rfl rfl κ aB ω ω) ?_
  rintro d_ v_ bY ⟨rfl, aF, bI⟩
  have bC := aJ.gr' aF (by rw [aO]; exact ⟨(by simp only [add_block]; omega), trivial⟩)
  refine ⟨_, rfl, fun bZ bD => ⟨bC, ?_⟩⟩
  clear bB; have cA : ((xs).set (k : Int).toNat (notW (gI xs k) (gI t k))).length = (xs : List Int).length := List.length_set; have := aF.size; replace aA := aA.gr aF (fun k h => by injection h; omega); replace aC := aC.gb aF ω; replace aD := aD.gb aF ω; clear aB aF
  refine AtH.done κ ?_
  clear bC
  refine b_n ?_
  refine t_n ?_
  refine At.start ?_
  refine At.rk bD 2 [(6, .int .i64 (k + 1))] (.w 17 (k + 1) <| .n) (fun cB bJ => ?_)
  clear bD
  refine At.dn ?_
  exact ⟨_, ω, (k + 1), (xs).set (k : Int).toNat (notW (gI xs k) (gI t k)), rfl, bJ.sb, aA, bI, aC, aD, ω, ω, ω, (mixW_next hmx ω ω (by rw [mixW_at hmx ω ω]))⟩
 have cC := of_decide_eq_false aN
 refine wp_exit ?_
 refine t_e ?_
 clear hm34
 refine t_e ?_
 refine b_e ?_
 refine t_n ?_
 refine sqs ?_
 refine At.rk aI 1 [(18, .agg ((xs : List Int).map wV).toArray)] (.p (show ((xs : List Int).map wV).length = 4 from ((List.length_map _).trans σ)) <| .p aB.whole <| .o (.cs ((xs : List Int).map wV)) <| .n) (fun cD bE => ?_)
 clear aI
 refine At.act bE (storeBlk (t := 44) (b := w9.heap.size) (n := 4) (cs' := ((xs : List Int).map wV)) κ κ ((List.length_map _).trans σ) oneW_ ((show ((xs : List Int).map wV).length = 4 from ((List.length_map _).trans σ)).trans (show ((List.replicate 4 (0 : Int) : List Int).map wV).length = 4 from len_P).symm) aD) ?_
 rintro d_ v_ cE ⟨rfl, aK, bK⟩
 refine ⟨_, rfl, fun cF bL => ?_⟩
 clear bE; have := aK.size; replace aA := aA.gr aK (fun k h => by injection h; omega); replace aB := aB.gb aK ω; replace aC := aC.gb aK ω; clear aD aK
 refine At.dn ?_
 refine wp_ret ?_
 refine retB_ bL (sl := 4) (cs := ((xs : List Int).map wV)) (m := 4) rfl κ κ ((List.length_map _).trans σ) bK ?_
 exact ⟨ret_map (mixW_end hmx ω), aA⟩
set_option maxHeartbeats 4000000 in
theorem has_any {s : List Int} {n : Int} {w : World} (hs : OkW s) :
    Calls Tryd.prog 23 #[.agg ((s : List Int).map wV).toArray, .int .i64 (n)] w fun e w' => e = .returned (.bool (hasW s n)) ∧ Ext w w' := by
 have hls := hs.1
 refine enter_ (args := [.agg ((s : List Int).map wV).toArray, .int .i64 (n)]) Tryd.func23 rfl Tryd.ntmps23 (Nat.le_of_ble_eq_true rfl) (fun act0 f0 => ?_)
 have e0 : Ext w w := Ext.refl w
 refine sqs ?_
 refine At.bx f0 2 ((s : List Int).map wV) 44 (fun w1 g5 bx6 act4 f3 => ?_)
 clear f0; have := g5.size; replace e0 := e0.gn g5; have := bx6.lt; clear g5
 refine At.rk f3 1 [] .n (fun aF f9 => ?_)
 clear f3
 refine At.dn ?_
 refine sqs ?_
 rcases Bool.eq_false_or_eq_true (decide ((n : Int) ≥ 0)) with aA | aA
 ·have aG := of_decide_eq_true aA
  rcases Bool.eq_false_or_eq_true (decide ((n : Int) < 256)) with aB | aB
  ·have aH := of_decide_eq_true aB
   refine At.rk f9 19 [(4, .bool ((IntKind.u64.wrap ((BitVec.ofInt 64 ((gI s ((n : Int) / 64) : Int).fdiv (2 ^ (min ((n : Int) % 64 : Int).toNat IntKind.u64.bits))) &&& BitVec.ofInt 64 1).toNat : Int) : Int) == 1))] (.e 7 aA <| .e 11 aB <| .p (show 0 ≤ (6 : Int) from ω) <| .v 13 (show (.int .i64 ((n : Int).fdiv (2 ^ (min (6 : Int).toNat IntKind.i64.bits))) : Value) = .int .i64 ((n : Int) / 64) from (congrArg (Value.int .i64) (shr6 _))) <| .b ((n : Int) / 64) 4 <| .l (Bx.arrM (f := wV) (0 : Int) bx6 ((n : Int) / 64) ω ω) <| .v 17 (show (.int .i64 (IntKind.i64.wrap ((BitVec.ofInt 64 n &&& BitVec.ofInt 64 63).toNat : Int)) : Value) = .int .i64 ((n : Int) % 64) from (congrArg (Value.int .i64) (and63 ω ω))) <| .v 18 (show (.int .u64 (IntKind.u64.wrap ((n : Int) % 64)) : Value) = .int .u64 ((n : Int) % 64) from (wu64 ω ω)) <| .p (show 0 ≤ ((n : Int) % 64 : Int) from ω) <| .n) (fun aI aC => ?_)
   clear f9
   refine At.dn ?_
   refine wp_ret ?_
   refine ret_ aC [] [.bool ((IntKind.u64.wrap ((BitVec.ofInt 64 ((gI s ((n : Int) / 64) : Int).fdiv (2 ^ (min ((n : Int) % 64 : Int).toNat IntKind.u64.bits))) &&& BitVec.ofInt 64 1).toNat : Int) : Int) == 1)] [] κ trivial ?_
   exact ⟨ret_eq (congrArg Value.bool (by first | exact hasW_yes hs ω ω | exact hasW_no ω)), e0⟩
  have aJ := of_decide_eq_false aB
  refine At.rk f9 19 [(4, .bool false)] (.e 7 aA <| .e 11 aB <| .n) (fun aK aD => ?_)
  clear f9
  refine At.dn ?_
  refine wp_ret ?_
  refine ret_ aD [] [.bool false] [] κ trivial ?_
  exact ⟨ret_eq (congrArg Value.bool (by first | exact hasW_yes hs ω ω | exact hasW_no ω)), e0⟩
 have aL := of_decide_eq_false aA
 refine At.rk f9 19 [(4, .bool false)] (.e 7 aA <| .n) (fun aM aE => ?_)
 clear f9
 refine At.dn ?_
 refine wp_ret ?_
 refine ret_ aE [] [.bool false] [] κ trivial ?_
 exact ⟨ret_eq (congrArg Value.bool (by first | exact hasW_yes hs ω ω | exact hasW_no ω)), e0⟩
end Go.Proofs.YtplpgfcjjnaigaaDoor
namespace Go.Proofs.YtplpgfcjjnaigaaDoor
open Go Go.RowKit
set_option maxHeartbeats 4000000 in
theorem of_any {Aa : Option Addr} {ca : Nat} {la : List Int} {w : World} (ra : RdI w 0 w.heap.size Aa la) :
    Calls Tryd.prog 22 #[.slice Aa la.length ca] w fun e w' => e = .returned (.agg (((ofW la : List Int)).map wV).toArray) ∧ Ext w w' := by
 have hla := ra.len
 refine enter_ (args := [.slice Aa la.length ca]) Tryd.func22 rfl Tryd.ntmps22 (Nat.le_of_ble_eq_true rfl) (fun act0 f0 => ?_)
 have e0 : Ext w w := Ext.refl w
 refine sqs ?_
 refine At.bx f0 2 ((List.replicate 4 (0 : Int) : List Int).map wV) 44 (fun w1 g5 bx6 act4 f3 => ?_)
 clear f0; have := g5.size; replace e0 := e0.gn g5; have r9 := ra.gn g5; clear ra; have := bx6.lt; clear g5
 refine At.dn ?_
 refine sqs ?_
 refine At.bx f3 3 ((List.replicate 4 (0 : Int) : List Int).map wV) 44 (fun aZ aF aJ bA aL => ?_)
 clear f3; have := aF.size; replace e0 := e0.gn aF; replace r9 := r9.gn aF; replace bx6 := bx6.gn aF; have := aJ.lt; clear aF
 refine At.dn ?_
 refine wp_seq ?_
 refine sqs ?_
 refine At.rk aL 3 [(8, .int .i64 (0)), (7, .int .i64 (((la.length : Nat) : Int))), (6, .slice Aa la.length ca)] .n (fun bB aM => ?_)
 clear aL
 refine At.dn ?_
 refine wp_block ?_
 refine loop_g (fun (m_ : Nat) a_ w_ => ∃ (k : Int) (xs : List Int), m_ = ((la.length : Int) - k).toNat ∧ (Frm 17 a_ [(8, .int .i64 (k)), (7, .int .i64 (((la.length : Nat) : Int))), (6, .slice Aa la.length ca), (3, pt w1.heap.size 0), (2, pt w.heap.size 0)]) ∧ (Ext w w_) ∧ (RdI w_ 0 w.heap.size Aa la) ∧ (Bx w_ (w.heap.size) ((List.replicate 4 (0 : Int) : List Int).map wV) 44) ∧ (Bx w_ (w1.heap.size) ((xs : List Int).map wV) 44) ∧ (0 ≤ k) ∧ (k ≤ (la.length : Int)) ∧ (OkW xs) ∧ (xs = ofW (la.take k.toNat)) ∧ (xs.length = 4)) _ ⟨0, List.replicate 4 (0 : Int), rfl, aM.sb, e0, r9, bx6, aJ, ω, ω, okW_0, rfl, rfl⟩ ?_
 clear aM; clear r9; clear bx6; clear aJ; clear e0
 intro m_ bC bD ⟨k, xs, hm26, aN, aA, aC, aD, aB, i31, i32, hok, hxs, i33⟩
 have := aA.size; have := aD.lt; have := aB.lt
 refine sqs ?_
 refine At.rk aN 1 [(9, .bool (decide ((k : Int) < ((la.length : Nat) : Int))))] .n (fun bE aG => ?_)
 clear aN
 refine At.dn ?_
 refine wp_seq ?_
 refine cond_S aG (t := decide ((k : Int) < ((la.length : Nat) : Int))) rfl (fun aK => ?_) (fun aK => ?_)
 ·have bF := of_decide_eq_true aK
  refine wp_skip ?_
  refine t_n ?_
  refine wp_seq ?_
  refine wp_block ?_
  refine sqs ?_
  obtain ⟨bG, aT, _, _, aU⟩ := RdI.get aC (k) ω ω
  refine At.rk aG 3 [(5, .int .i64 (gI la (k)))] (.a k la.length aT <| .l aU <| .n) (fun bH aO => ?_)
  clear aG
  refine At.dn ?_
  refine At.start ?_
  refine At.rk aO 2 [(13, .int .i64 (gI la (k))), (12, .agg ((xs : List Int).map wV).toArray)] (.p (show ((xs : List Int).map wV).length = 4 from ((List.length_map _).trans σ)) <| .p aB.whole <| .o (.cs ((xs : List Int).map wV)) <| .n) (fun bI aP => ?_)
  clear aO
  refine At.cl aP (some 14) (with_any (s := xs) (n := gI la (k)) σ) ?_
  rintro e_ bJ ⟨rfl, he⟩
  refine ⟨_, rfl, _, rfl, fun bK aQ => ?_⟩
  clear aP; have aE := gr_ext he; have := aE.size; replace aA := aA.gn aE; replace aC := aC.gn aE; replace aD := aD.gn aE; replace aB := aB.gn aE; clear aE he
  refine At.act aQ (storeBlk (t := 44) (b := w1.heap.size) (n := 4) (cs' := ((withW xs (gI la (k)) : List Int).map wV)) κ κ ((List.length_map _).trans (okLen (okW_with σ))) oneW_ ((show ((withW xs (gI la (k)) : List Int).map wV).length = 4 from ((List.length_map _).trans (okLen (okW_with σ)))).trans (show ((xs : List Int).map wV).length = 4 from ((List.length_map _).trans σ)).symm) aB) ?_
  rintro d_ v_ bL ⟨rfl, aH, aV⟩
  refine ⟨_, rfl, fun bM aR => ?_⟩
  clear aQ; have := aH.size; replace aA := aA.gr aH (fun k h => by injection h; omega); replace aC := aC.gb aH ω; replace aD := aD.gb aH ω; clear aB aH
  refine At.done rfl ?_
  refine b_n ?_
  refine t_n ?_
  refine At.start ?_
  refine At.rk aR 2 [(8, .int .i64 (k + 1))] (.w 15 (k + 1) <| .n) (fun bN aW => ?_)
  clear aR
  refine At.dn ?_
  exact ⟨_, ω, (k + 1), withW xs (gI la (k)), rfl, aW.sb, aA, aC, aD, aV, ω, ω, (okW_with hok), (ofW_next hxs ω ω), (okW_with hok).1⟩
 have q63 := of_decide_eq_false aK
 refine wp_exit ?_
 refine t_e ?_
 clear hm26
 refine t_e ?_
 refine b_e ?_
 refine t_n ?_
 refine sqs ?_
 refine At.rk aG 1 [(16, .agg ((xs : List Int).map wV).toArray)] (.p (show ((xs : List Int).map wV).length = 4 from ((List.length_map _).trans σ)) <| .p aB.whole <| .o (.cs ((xs : List Int).map wV)) <| .n) (fun bO aS => ?_)
 clear aG
 refine At.act aS (storeBlk (t := 44) (b := w.heap.size) (n := 4) (cs' := ((xs : List Int).map wV)) κ κ ((List.length_map _).trans σ) oneW_ ((show ((xs : List Int).map wV).length = 4 from ((List.length_map _).trans σ)).trans (show ((List.replicate 4 (0 : Int) : List Int).map wV).length = 4 from len_P).symm) aD) ?_
 rintro d_ v_ bP ⟨rfl, aI, aX⟩
 refine ⟨_, rfl, fun bQ aY => ?_⟩
 clear aS; have := aI.size; replace aA := aA.gr aI (fun k h => by injection h; omega); replace aC := aC.gb aI ω; replace aB := aB.gb aI ω; clear aD aI
 refine At.dn ?_
 refine wp_ret ?_
 refine retB_ aY (sl := 2) (cs := ((xs : List Int).map wV)) (m := 4) rfl κ κ ((List.length_map _).trans σ) aX ?_
 exact ⟨ret_map (by rw [hxs, List.take_of_length_le ω]), aA⟩
end Go.Proofs.YtplpgfcjjnaigaaDoor
namespace Go.Proofs.YtplpgfcjjnaigaaDoor
open Go Go.RowKit
set_option maxHeartbeats 4000000 in
theorem full_any {n : Int} {w : World} (hn : -9223372036854775808 ≤ n ∧ n ≤ 9223372036854775807) :
    Calls Tryd.prog 44 #[.int .i64 (n)] w fun e w' => e = .returned (.agg (((fullW n : List Int)).map wV).toArray) ∧ Ext w w' := by
 refine enter_ (args := [.int .i64 (n)]) Tryd.func44 rfl Tryd.ntmps44 (Nat.le_of_ble_eq_true rfl) (fun act0 f0 => ?_)
 have e0 : Ext w w := Ext.refl w
 refine sqs ?_
 refine At.bx f0 2 ((List.replicate 4 (0 : Int) : List Int).map wV) 44 (fun w1 g5 bx6 act4 f3 => ?_)
 clear f0; have := g5.size; replace e0 := e0.gn g5; have := bx6.lt; clear g5
 refine At.dn ?_
 refine sqs ?_
 refine At.bx f3 3 ((List.replicate 4 (0 : Int) : List Int).map wV) 44 (fun w9 aF aJ bE aM => ?_)
 clear f3; have := aF.size; replace e0 := e0.gn aF; replace bx6 := bx6.gn aF; have := aJ.lt; clear aF
 refine At.dn ?_
 refine sqs ?_
 refine At.rk aM 3 [(0, .int .i64 (max n 0))] (.v 7 (show (.int .i64 (if 0 > n then 0 else n) : Value) = .int .i64 (max n 0) from (congrArg (Value.int .i64) (max_if _ _))) <| .n) (fun bF aN => ?_)
 clear aM
 refine At.dn ?_
 refine wp_seq ?_
 refine sqs ?_
 refine At.rk aN 1 [(8, .int .i64 (0))] .n (fun bG aO => ?_)
 clear aN
 refine At.dn ?_
 refine wp_block ?_
 refine loop_g (fun (m_ : Nat) a_ w_ => ∃ (k : Int) (xs : List Int), m_ = (4 - k).toNat ∧ (Frm 27 a_ [(8, .int .i64 (k)), (0, .int .i64 (max n 0)), (3, pt w1.heap.size 0), (2, pt w.heap.size 0)]) ∧ (Ext w w_) ∧ (Bx w_ (w.heap.size) ((List.replicate 4 (0 : Int) : List Int).map wV) 44) ∧ (Bx w_ (w1.heap.size) ((xs : List Int).map wV) 44) ∧ (0 ≤ k) ∧ (k ≤ 4) ∧ (xs.length = 4) ∧ (MixW (List.replicate 4 (0 : Int)) xs (fun j => lowW (if max n 0 > 256 then 64 else min (max (max n 0 - 64 * j) 0) 64)) k)) _ ⟨0, List.replicate 4 (0 : Int), rfl, aO.sb, e0, bx6, aJ, ω, ω, rfl, (mixW_0 rfl)⟩ ?_
 clear aO; clear bx6; clear aJ; clear e0
 intro m_ bH bI ⟨k, xs, hm26, aP, aA, aB, aC, i30, i31, i32, hmx⟩
 have := aA.size; have := aB.lt; have := aC.lt
 refine sqs ?_
 refine At.rk aP 1 [(9, .bool (decide ((k : Int) < 4)))] .n (fun bJ aD => ?_)
 clear aP
 refine At.dn ?_
 refine wp_seq ?_
 refine cond_S aD (t := decide ((k : Int) < 4)) rfl (fun aK => ?_) (fun aK => ?_)
 ·have bK := of_decide_eq_true aK
  refine wp_skip ?_
  refine t_n ?_
  refine wp_seq ?_
  refine wp_block ?_
  refine sqs ?_
  refine At.rk aD 2 [(4, .int .i64 (k))] .n (fun bL aQ => ?_)
  clear aD
  refine At.dn ?_
  refine sqs ?_
  refine At.rk aQ 7 [(5, .int .i64 (min (max ((max n 0) - (64 * k)) 0) 64))] (.w 13 (64 * k) <| .w 14 ((max n 0) - (64 * k)) <| .v 15 (show (.int .i64 (if 0 > ((max n 0) - (64 * k)) then 0 else ((max n 0) - (64 * k))) : Value) = .int .i64 (max ((max n 0) - (64 * k)) 0) from (congrArg (Value.int .i64) (max_if _ _))) <| .v 16 (show (.int .i64 (if 64 < (max ((max n 0) - (64 * k)) 0) then 64 else (max ((max n 0) - (64 * k)) 0)) : Value) = .int .i64 (min (max ((max n 0) - (64 * k)) 0) 64) from (congrArg (Value.int .i64) (min_if _ _))) <| .n) (fun bM aR => ?_)
  clear aQ
  refine At.dn ?_
  refine wp_seq ?_
  refine sqs ?_
  refine At.rk aR 2 [(18, .bool (decide ((max n 0 : Int) > 256)))] .n (fun bN aE => ?_)
  clear aR
  refine At.dn ?_
  refine cond_S aE (t := decide ((max n 0 : Int) > 256)) rfl (fun aL => ?_) (fun aL => ?_)
  ·have bO := of_decide_eq_true aL
   refine At.start ?_
   refine At.rk aE 1 [(5, .int .i64 (64))] .n (fun bP aS => ?_)
   clear aE
   refine At.dn ?_
   refine At.start ?_
   refine At.rk aS 6 [(24, .pointer (some ((⟨w1.heap.size, 0, none⟩ : Addr).add ((k : Int).toNat * 1)))), (23, .int .u64 (IntKind.u64.wrap ((IntKind.u64.wrap (1 * (2 ^ (min (64 : Int).toNat IntKind.u64.bits)))) - 1)))] (.v 21 (show (.int .u64 (IntKind.u64.wrap (64)) : Value) = .int .u64 (64) from (wu64 ω ω)) <| .p (show 0 ≤ (64 : Int) from ω) <| .b k 4 <| .n) (fun bQ aT => ?_)
   clear aS
   refine At.act aT (storeArrM (f := wV) (t := 42) (b := w1.heap.size) (i := k) (x := IntKind.u64.wrap ((IntKind.u64.wrap (1 * (2 ^ (min (64 : Int).toNat IntKind.u64.bits)))) - 1)) (v := .int .u64 (IntKind.u64.wrap ((IntKind.u64.wrap (1 * (2 ^ (min (64 : Int).toNat IntKind.u64.bits)))) - 1))) κ rfl rfl κ aC ω ω) ?_
   rintro d_ v_ bR ⟨rfl, aG, aY⟩
   refine ⟨_, rfl, fun bS aU => ?_⟩
   clear aT
   have bT : ((xs).set (k : Int).toNat (IntKind.u64.wrap ((IntKind.u64.wrap (1 * (2 ^ (min (64 : Int).toNat IntKind.u64.bits)))) - 1))).length = (xs : List Int).length := List.length_set
   have := aG.size; replace aA := aA.gr aG (fun k h => by injection h; omega); replace aB := aB.gb aG ω; clear aC aG
   refine At.done rfl ?_
   refine b_n ?_
   refine t_n ?_
   refine At.start ?_
   refine At.rk aU 2 [(8, .int .i64 (k + 1))] (.w 25 (k + 1) <| .n) (fun bU aZ => ?_)
   clear aU
   refine At.dn ?_
   exact ⟨_, ω, (k + 1), (xs).set (k : Int).toNat (IntKind.u64.wrap ((IntKind.u64.wrap (1 * (2 ^ (min (64 : Int).toNat IntKind.u64.bits)))) - 1)), rfl, aZ.sb, aA, aB, aY, ω, ω, ω, (mixW_next hmx ω ω ((shl_low ω ω).trans (congrArg lowW (by first | rw [if_pos ω] | rw [if_neg ω]))))⟩
  have bV := of_decide_eq_false aL
  refine wp_skip ?_
  refine t_n ?_
  refine At.start ?_
  refine At.rk aE 6 [(24, .pointer (some ((⟨w1.heap.size, 0, none⟩ : Addr).add ((k : Int).toNat * 1)))), (23, .int .u64 (IntKind.u64.wrap ((IntKind.u64.wrap (1 * (2 ^ (min (min (max ((max n 0) - (64 * k)) 0) 64 : Int).toNat IntKind.u64.bits)))) - 1)))] (.v 21 (show (.int .u64 (IntKind.u64.wrap (min (max ((max n 0) - (64 * k)) 0) 64)) : Value) = .int .u64 (min (max ((max n 0) - (64 * k)) 0) 64) from (wu64 ω ω)) <| .p (show 0 ≤ (min (max ((max n 0) - (64 * k)) 0) 64 : Int) from ω) <| .b k 4 <| .n) (fun bW aV => ?_)
  clear aE
  refine At.act aV (storeArrM (f := wV) (t := 42) (b := w1.heap.size) (i := k) (x := IntKind.u64.wrap ((IntKind.u64.wrap (1 * (2 ^ (min (min (max ((max n 0) - (64 * k)) 0) 64 : Int).toNat IntKind.u64.bits)))) - 1)) (v := .int .u64 (IntKind.u64.wrap ((IntKind.u64.wrap (1 * (2 ^ (min (min (max ((max n 0) - (64 * k)) 0) 64 : Int).toNat IntKind.u64.bits)))) - 1))) κ rfl rfl κ aC ω ω) ?_
  rintro d_ v_ bX ⟨rfl, aH, bA⟩
  refine ⟨_, rfl, fun bY aW => ?_⟩
  clear aV
  have bZ : ((xs).set (k : Int).toNat (IntKind.u64.wrap ((IntKind.u64.wrap (1 * (2 ^ (min (min (max ((max n 0) - (64 * k)) 0) 64 : Int).toNat IntKind.u64.bits)))) - 1))).length = (xs : List Int).length := List.length_set
  have := aH.size; replace aA := aA.gr aH (fun k h => by injection h; omega); replace aB := aB.gb aH ω; clear aC aH
  refine At.done rfl ?_
  refine b_n ?_
  refine t_n ?_
  refine At.start ?_
  refine At.rk aW 2 [(8, .int .i64 (k + 1))] (.w 25 (k + 1) <| .n) (fun cA bB => ?_)
  clear aW
  refine At.dn ?_
  exact ⟨_, ω, (k + 1), (xs).set (k : Int).toNat (IntKind.u64.wrap ((IntKind.u64.wrap (1 * (2 ^ (min (min (max ((max n 0) - (64 * k)) 0) 64 : Int).toNat IntKind.u64.bits)))) - 1)), rfl, bB.sb, aA, aB, bA, ω, ω, ω, (mixW_next hmx ω ω ((shl_low ω ω).trans (congrArg lowW (by first | rw [if_pos ω] | rw [if_neg ω]))))⟩
 have cB := of_decide_eq_false aK
 refine wp_exit ?_
 refine t_e ?_
 clear hm26
 refine t_e ?_
 refine b_e ?_
 refine t_n ?_
 refine sqs ?_
 refine At.rk aD 1 [(26, .agg ((xs : List Int).map wV).toArray)] (.p (show ((xs : List Int).map wV).length = 4 from ((List.length_map _).trans σ)) <| .p aC.whole <| .o (.cs ((xs : List Int).map wV)) <| .n) (fun cC aX => ?_)
 clear aD
 refine At.act aX (storeBlk (t := 44) (b := w.heap.size) (n := 4) (cs' := ((xs : List Int).map wV)) κ κ ((List.length_map _).trans σ) oneW_ ((show ((xs : List Int).map wV).length = 4 from ((List.length_map _).trans σ)).trans (show ((List.replicate 4 (0 : Int) : List Int).map wV).length = 4 from len_P).symm) aB) ?_
 rintro d_ v_ cD ⟨rfl, aI, bC⟩
 refine ⟨_, rfl, fun cE bD => ?_⟩
 clear aX; have := aI.size; replace aA := aA.gr aI (fun k h => by injection h; omega); replace aC := aC.gb aI ω; clear aB aI
 refine At.dn ?_
 refine wp_ret ?_
 refine retB_ bD (sl := 2) (cs := ((xs : List Int).map wV)) (m := 4) rfl κ κ ((List.length_map _).trans σ) bC ?_
 exact ⟨ret_map (mixW_end hmx ω), aA⟩
end Go.Proofs.YtplpgfcjjnaigaaDoor
namespace Go.Proofs.YtplpgfcjjnaigaaDoor
open Go Go.RowKit
set_option maxHeartbeats 4000000 in
theorem len_any {s : List Int} {w : World} (hs : OkW s) :
    Calls Tryd.prog 57 #[.agg ((s : List Int).map wV).toArray] w fun e w' => e = .returned (.int .i64 (lenW s)) ∧ Ext w w' := by
 have hls := hs.1
 refine enter_ (args := [.agg ((s : List Int).map wV).toArray]) Tryd.func57 rfl Tryd.ntmps57 (Nat.le_of_ble_eq_true rfl) (fun act0 f0 => ?_)
 have e0 : Ext w w := Ext.refl w
 refine sqs ?_
 refine At.bx f0 1 ((s : List Int).map wV) 44 (fun w1 g5 bx6 act4 f3 => ?_)
 clear f0; have := g5.size; replace e0 := e0.gn g5; have := bx6.lt; clear g5
 refine At.rk f3 1 [(2, .int .i64 (0))] .n (fun aO f9 => ?_)
 clear f3
 refine At.dn ?_
 refine sqs ?_
 refine At.rk f9 1 [(3, .int .i64 (0))] .n (fun aP aF => ?_)
 clear f9
 refine At.dn ?_
 refine wp_seq ?_
 refine sqs ?_
 refine At.rk aF 2 [(7, .int .i64 (0)), (6, .agg ((s : List Int).map wV).toArray)] (.p (show ((s : List Int).map wV).length = 4 from ((List.length_map _).trans σ)) <| .p bx6.whole <| .o (.cs ((s : List Int).map wV)) <| .n) (fun aQ aG => ?_)
 clear aF
 refine At.dn ?_
 refine wp_block ?_
 refine loop_g (fun (m_ : Nat) a_ w_ => ∃ (k : Int) (r : Int), m_ = (4 - k).toNat ∧ (Frm 16 a_ [(7, .int .i64 (k)), (3, .int .i64 (r)), (6, .agg ((s : List Int).map wV).toArray), (2, .int .i64 (0))]) ∧ (Ext w w_) ∧ (Bx w_ (w.heap.size) ((s : List Int).map wV) 44) ∧ (0 ≤ k) ∧ (k ≤ 4) ∧ (r = lenN s k.toNat) ∧ (0 ≤ r) ∧ (r ≤ 64 * k)) _ ⟨0, 0, rfl, aG.sb, e0, bx6, ω, ω, rfl, ω, ω⟩ ?_
 clear aG; clear bx6; clear e0
 intro m_ aR aS ⟨k, r, hm19, aH, aA, aC, i22, i23, hr, i24, i25⟩
 have := aA.size; have := aC.lt
 refine sqs ?_
 refine At.rk aH 1 [(8, .bool (decide ((k : Int) < 4)))] .n (fun aT aB => ?_)
 clear aH
 refine At.dn ?_
 refine wp_seq ?_
 refine cond_S aB (t := decide ((k : Int) < 4)) rfl (fun aE => ?_) (fun aE => ?_)
 ·have aU := of_decide_eq_true aE
  refine wp_skip ?_
  refine t_n ?_
  refine wp_seq ?_
  refine wp_block ?_
  refine sqs ?_
  refine At.rk aB 2 [(5, .int .u64 (gI s k))] (.b k 4 <| .p (show (((s : List Int).map wV).toArray : Array Value)[(k : Int).toNat * 1]? = some (.int .u64 (gI s k)) from (idxM wV (0 : Int) k ω (by have := len_4; omega))) <| .o (.ld (.int .u64 (gI s k))) <| .n) (fun aV aI => ?_)
  clear aB
  refine At.dn ?_
  refine At.start ?_
  refine At.rk aI 2 [(11, .int .u64 (gI s k)), (10, .int .i64 (r))] .n (fun aW aJ => ?_)
  clear aI
  refine At.cl aJ (some 12) (onesI (z := gI s k) (hs.2 _)) ?_
  rintro e_ aX ⟨rfl, he⟩
  have := onI_le (gI s k)
  refine ⟨_, rfl, _, rfl, fun aY aK => ?_⟩
  clear aJ; have aD := gr_ext he; have := aD.size; replace aA := aA.gn aD; replace aC := aC.gn aD; clear aD he
  refine At.rk aK 2 [(3, .int .i64 (r + (onI (gI s k))))] (.w 13 (r + (onI (gI s k))) <| .n) (fun aZ aL => ?_)
  clear aK
  refine At.done rfl ?_
  refine b_n ?_
  refine t_n ?_
  refine At.start ?_
  refine At.rk aL 2 [(7, .int .i64 (k + 1))] (.w 14 (k + 1) <| .n) (fun bA aM => ?_)
  clear aL
  refine At.dn ?_
  exact ⟨_, ω, (k + 1), (r + onI (gI s k)), rfl, aM.sb, aA, aC, ω, ω, (len_next hr ω), ω, ω⟩
 have bB := of_decide_eq_false aE
 refine wp_exit ?_
 refine t_e ?_
 clear hm19
 refine t_e ?_
 refine b_e ?_
 refine t_n ?_
 refine sqs ?_
 refine At.rk aB 2 [(2, .int .i64 (r))] .n (fun bC aN => ?_)
 clear aB
 refine At.dn ?_
 refine wp_ret ?_
 refine ret_ aN [] [.int .i64 (r)] [] κ trivial ?_
 exact ⟨ret_eq (congrArg (Value.int .i64) (len_end hr ω ω)), aA⟩
end Go.Proofs.YtplpgfcjjnaigaaDoor
namespace Go.Proofs.YtplpgfcjjnaigaaDoor
open Go Go.RowKit
set_option maxHeartbeats 4000000 in
theorem list_any {s : List Int} {w : World} (hs : OkW s) (rT : RdT w 0 w.heap.size) :
    Calls Tryd.prog 43 #[.agg ((s : List Int).map wV).toArray] w fun e w' => ∃ A c, e = .returned (.slice A ((lsD (fromW s) 256)).length c) ∧ Ext w w' ∧ OwnR w' (Sx w.heap.size []) A c 3 ((lsD (fromW s) 256) : List Int) := by
 have hls := hs.1
 refine enter_ (args := [.agg ((s : List Int).map wV).toArray]) Tryd.func43 rfl Tryd.ntmps43 (Nat.le_of_ble_eq_true rfl) (fun act0 f0 => ?_)
 have e0 : Ext w w := Ext.refl w
 refine sqs ?_
 refine At.bx f0 1 ((s : List Int).map wV) 44 (fun w1 g5 bx6 act4 f3 => ?_)
 clear f0; have := g5.size; replace e0 := e0.gn g5; have r9 := rT.gn g5; clear rT; have := bx6.lt; clear g5
 refine At.rk f3 1 [(2, .slice none 0 0)] .n (fun cC bC => ?_)
 clear f3
 refine At.dn ?_
 refine sqs ?_
 refine At.rk bC 1 [(6, .agg ((s : List Int).map wV).toArray)] (.p (show ((s : List Int).map wV).length = 4 from ((List.length_map _).trans σ)) <| .p bx6.whole <| .o (.cs ((s : List Int).map wV)) <| .n) (fun cD bD => ?_)
 clear bC
 refine At.cl bD (some 7) (len_any (s := s) σ) ?_
 rintro e_ aA ⟨rfl, he⟩
 have := lenW_le s
 refine ⟨_, rfl, _, rfl, fun cE bE => ?_⟩
 clear bD; have aL := gr_ext he; have := aL.size; replace e0 := e0.gn aL; replace r9 := r9.gn aL; replace bx6 := bx6.gn aL; clear aL he
 refine At.act bE (makeR (k1 := .i64) (k2 := .i64) (α := Int) (e := 3) (bytes := 8) (t := 22) (d := 8) (n := 0) (cap := lenW s) (0) κ rfl κ ω ω ω ω) ?_
 rintro d_ v_ cF ⟨rfl, rfl, aM, aQ⟩
 refine ⟨_, rfl, fun cG bF => ?_⟩
 clear bE; replace aQ := aQ (Sx (aA.heap.size) []) (Nat.le_refl _); have := aM.size; replace e0 := e0.gn aM; replace r9 := r9.gn aM; replace bx6 := bx6.gn aM; clear aM
 refine At.rk bF 1 [(3, .slice (some ⟨aA.heap.size, 0, none⟩) ((([] : List Int)).length) ((lenW s : Int).toNat))] .n (fun cH bG => ?_)
 clear bF
 refine At.dn ?_
 refine wp_seq ?_
 refine sqs ?_
 refine At.rk bG 2 [(10, .int .i64 (0)), (9, .agg ((s : List Int).map wV).toArray)] (.p (show ((s : List Int).map wV).length = 4 from ((List.length_map _).trans σ)) <| .p bx6.whole <| .o (.cs ((s : List Int).map wV)) <| .n) (fun cI bH => ?_)
 clear bG
 refine At.dn ?_
 refine wp_block ?_
 have bI := bH.as 3 (.slice (some ⟨aA.heap.size, 0, none⟩) ((([] : List Int)).length) ((lenW s : Int).toNat)) (.slice (some ⟨aA.heap.size, 0, none⟩) ((([] : List Int) : List Int).length) ((lenW s : Int).toNat)) rfl (slice_len (by first | rfl | omega | (simp; done) | (simp; omega)))
 clear bH
 refine loop_g (fun (m_ : Nat) a_ w_ => ∃ (i : Int) (xs : List Int) (aC : Option Addr) (aD : Nat), m_ = (4 - i).toNat ∧ (Frm 30 a_ [(3, .slice aC xs.length aD), (10, .int .i64 (i)), (9, .agg ((s : List Int).map wV).toArray), (2, .slice none 0 0)]) ∧ (Ext w w_) ∧ (RdT w_ 0 w.heap.size) ∧ (Bx w_ (w.heap.size) ((s : List Int).map wV) 44) ∧ (OwnR w_ (Sx (aA.heap.size) []) aC aD 3 (xs : List Int)) ∧ (0 ≤ i) ∧ (i ≤ 4) ∧ (xs = lsD (fromW s) (64 * i).toNat) ∧ (aA.heap.size ≤ w_.heap.size)) _ ⟨0, (([] : List Int) : List Int), some ⟨aA.heap.size, 0, none⟩, (lenW s : Int).toNat, rfl, bI.sb, e0, r9, bx6, aQ, ω, ω, rfl, ω⟩ ?_
 clear bI; clear r9; clear bx6; clear aQ; clear e0
 intro m_ cJ cK ⟨i, xs, aC, aD, hm42, bJ, aR, bK, aV, aW, i47, i48, hxs, i49⟩
 have := aR.size; have := aV.lt
 refine sqs ?_
 refine At.rk bJ 1 [(11, .bool (decide ((i : Int) < 4)))] .n (fun cL aN => ?_)
 clear bJ
 refine At.dn ?_
 refine wp_seq ?_
 refine cond_S aN (t := decide ((i : Int) < 4)) rfl (fun aX => ?_) (fun aX => ?_)
 ·have cM := of_decide_eq_true aX
  refine wp_skip ?_
  refine t_n ?_
  refine wp_seq ?_
  refine wp_block ?_
  refine sqs ?_
  refine At.rk aN 4 [(5, .int .u64 (gI s i)), (4, .int .i64 (i))] (.b i 4 <| .p (show (((s : List Int).map wV).toArray : Array Value)[(i : Int).toNat * 1]? = some (.int .u64 (gI s i)) from (idxM wV (0 : Int) i ω (by have := len_4; omega))) <| .o (.ld (.int .u64 (gI s i))) <| .n) (fun cN bL => ?_)
  clear aN
  refine At.dn ?_
  refine wp_block ?_
  have bM := bL.as 3 (.slice aC xs.length aD) (.slice aC ((xs : List Int).length) aD) rfl (slice_len (by first | rfl | omega | (simp; done) | (simp; omega))); clear bL
  refine loop_g (fun (m_ : Nat) a_ w_ => ∃ (v : Int) (c : Int) (ys : List Int) (aH : Option Addr) (aI : Nat), m_ = (64 - c).toNat ∧ (Frm 30 a_ [(3, .slice aH ys.length aI), (5, .int .u64 (v)), (4, .int .i64 (i)), (10, .int .i64 (i)), (9, .agg ((s : List Int).map wV).toArray), (2, .slice none 0 0)]) ∧ (Ext w w_) ∧ (RdT w_ 0 w.heap.size) ∧ (Bx w_ (w.heap.size) ((s : List Int).map wV) 44) ∧ (OwnR w_ (Sx (aA.heap.size) []) aH aI 3 (ys : List Int)) ∧ (0 ≤ c) ∧ (c ≤ 64) ∧ (RestW s i v c) ∧ (ys = lsD (fromW s) (64 * i + c).toNat) ∧ (aA.heap.size ≤ w_.heap.size)) _ ⟨(gI s i), 0, (xs : List Int), aC, aD, rfl, bM.sb, aR, bK, aV, aW, ω, ω, (rest_0 hs), (by rw [hxs, Int.add_zero]), ω⟩ ?_
  clear bM; clear bK; clear aV; clear aW; clear aR
  intro m_ cO cP ⟨v, c, ys, aH, aI, hm63, bN, aE, aF, aG, aB, i68, i69, hrw, hys, i70⟩
  have := aE.size; have := aG.lt; have hyl := ls_len (fromW s) (64 * i + c).toNat
  rw [← hys] at hyl
  have hrc := fun h_ : ¬ v = 0 => rest_tz hrw h_
  refine wp_seq ?_
  refine sqs ?_
  refine At.rk bN 2 [(15, .bool ((v : Int) != 0))] .n (fun cQ aO => ?_)
  clear bN
  refine At.dn ?_
  refine cond_S aO (t := (v : Int) != 0) rfl (fun aY => ?_) (fun aY => ?_)
  ·have cR := bne_iff_ne.1 aY
   refine wp_skip ?_
   refine t_n ?_
   refine wp_seq ?_
   refine wp_block ?_
   refine At.start ?_
   refine At.rk aO 4 [(23, .int .u64 (v)), (22, .int .i64 (64 * i)), (20, .slice aH ys.length aI)] (.w 22 (64 * i) <| .n) (fun cS bO => ?_)
   clear aO
   refine At.cl bO (some 24) (tzI_any (z := v) (by first | exact hs.2 _ | exact hrw.1 | assumption) (aF.wide (Nat.zero_le _) ω)) ?_
   rintro e_ aZ ⟨rfl, he⟩
   have := tz_lt (z := v) (by first | exact hs.2 _ | exact hrw.1 | assumption) ω
   refine ⟨_, rfl, _, rfl, fun cT bP => ?_⟩
   clear bO; have aJ := gr_ext he; have := aJ.size; replace aE := aE.gn aJ; replace aF := aF.gn aJ; replace aG := aG.gn aJ; replace aB := aB.gn aJ; clear aJ he
   refine At.rk bP 1 [(25, .int .i64 ((64 * i) + (tzI v)))] (.w 25 ((64 * i) + (tzI v)) <| .n) (fun cU bQ => ?_)
   clear bP
   refine At.seq bQ 1 [[]] [(26, .slice (some ⟨aZ.heap.size, 0, none⟩) 1 1)] (aZ.alloc (.cells #[.int .i64 ((64 * i) + (tzI v))] 3 (0, 0))) [] κ trivial (fun cV bR bA bS => ?_)
   clear bQ; have aK := gr_alloc bA; have := aK.size; replace aE := aE.gn aK; replace aF := aF.gn aK; replace aG := aG.gn aK; replace aB := aB.grN aK; have bB : Bx bR (aZ.heap.size) [.int .i64 ((64 * i) + (tzI v))] 3 := Bx.new bA; have := bB.lt; clear aK bA; have bX : (ys ++ ([(64 * i) + (tzI v)])).length = (ys).length + ([(64 * i) + (tzI v)] : List Int).length := List.length_append
   simp only [List.length_cons, List.length_nil] at bX
   refine At.act bS (appendR (α := Int) (t := 22) (d := 27) (n := ys.length) (m := 1) (cc := 1) (xs := ys) (ys := [(64 * i) + (tzI v)]) (bytes := 8) (by first | rfl | omega | (simp; done) | (simp; omega)) (by first | rfl | omega | (simp; done) | (simp; omega)) κ rfl κ aB (Bx.srcR (l := ([(64 * i) + (tzI v)] : List Int)) bB rfl) (by simp only [List.length_cons, List.length_nil]; omega) (by simp only [List.length_cons, List.length_nil]; omega)) ?_
   rintro d_ v_ cW ⟨rfl, aS, aT, aU⟩
   obtain rfl := aU.val
   have aP := aU.gr
   refine ⟨_, rfl, fun cX bT => ?_⟩
   clear bS; clear bB; have bY := aU.own (Sx (aA.heap.size) []) (fun g _ hs => hs.2) (show aA.heap.size ≤ bR.heap.size by omega); have := aP.size; replace aE := aE.gr aP (fun k hk => by have := aB.ge k hk; omega); replace aF := aF.gr aP (fun k hk => by have := aB.ge k hk; omega); replace aG := aG.gr aP (fun e => by have := aB.ge _ e; omega); clear aB aP aU
   refine At.rk bT 1 [(3, .slice aS ((ys ++ ([(64 * i) + (tzI v)])).length) aT)] .n (fun cY bU => ?_)
   clear bT
   refine At.done rfl ?_
   refine b_n ?_
   refine t_n ?_
   refine At.start ?_
   refine At.rk bU 5 [(5, .int .u64 (clrW v))] (.v 18 (show (.int .u64 (IntKind.u64.wrap (v - 1)) : Value) = .int .u64 (v - 1) from (congrArg (Value.int .u64) (sub_W hrw.1 ω))) <| .v 19 (show (.int .u64 (IntKind.u64.wrap ((BitVec.ofInt 64 v &&& BitVec.ofInt 64 (v - 1)).toNat : Int)) : Value) = .int .u64 (clrW v) from (congrArg (Value.int .u64) (clr_eq hrw.1 ω))) <| .n) (fun cZ bV => ?_)
   clear bU
   refine At.dn ?_
   have bZ := bV.as 3 (.slice aS ((ys ++ ([(64 * i) + (tzI v)])).length) aT) (.slice aS ((ys ++ ([(64 * i) + (tzI v)]) : List Int).length) aT) rfl (slice_len (by first | rfl | omega | (simp; done) | (simp; omega)))
   clear bV
   exact ⟨_, ω, (clrW v), (tzI v + 1), (ys ++ ([(64 * i) + (tzI v)]) : List Int), aS, aT, rfl, bZ.sb, aE, aF, aG, bY, ω, ω, (rest_next hrw ω), (rest_ls hrw ω ω ω ω hys), ω⟩
  have dA := bne_eq_false_iff_eq.1 aY
  refine wp_exit ?_
  refine t_e ?_
  clear hm63
  refine t_e ?_
  refine b_e ?_
  refine b_n ?_
  refine t_n ?_
  refine At.start ?_
  refine At.rk aO 2 [(10, .int .i64 (i + 1))] (.w 28 (i + 1) <| .n) (fun dB bW => ?_)
  clear aO
  refine At.dn ?_
  have cA := bW.as 3 (.slice aH ys.length aI) (.slice aH ((ys : List Int).length) aI) rfl (slice_len (by first | rfl | omega | (simp; done) | (simp; omega))); clear bW
  exact ⟨_, ω, (i + 1), (ys : List Int), aH, aI, rfl, cA.sb, aE, aF, aG, aB, ω, ω, (rest_end hrw ω ω ω ω ω hys), ω⟩
 have dC := of_decide_eq_false aX
 refine wp_exit ?_
 refine t_e ?_
 clear hm42
 refine t_e ?_
 refine b_e ?_
 refine t_n ?_
 refine sqs ?_
 refine At.rk aN 2 [(2, .slice aC xs.length aD)] .n (fun dD cB => ?_)
 clear aN
 refine At.dn ?_
 refine wp_ret ?_
 refine ret_ cB [] [.slice aC xs.length aD] [] κ trivial ?_
 have hq_ : (xs : List Int) = lsD (fromW s) 256 := list_end hxs ω ω
 exact ⟨aC, aD, ret_eq (slice_len (by first | (rw [← hq_]; done) | (rw [← hq_]; simp) | (rw [← hq_]; omega))), aR, (OwnR.as (aW.imp (fun g _ hs => by have := Sx_base hs; show w.heap.size ≤ g; omega)) hq_)⟩
end Go.Proofs.YtplpgfcjjnaigaaDoor
namespace Go.Proofs.YtplpgfcjjnaigaaDoor
open Go Go.RowKit
set_option maxHeartbeats 4000000 in
theorem least_any {s : List Int} {w : World} (hs : OkW s) (rT : RdT w 0 w.heap.size) :
    Calls Tryd.prog 40 #[.agg ((s : List Int).map wV).toArray] w fun e w' => e = .returned (.int .i64 (leastD (fromW s))) ∧ Ext w w' := by
 have hls := hs.1
 refine enter_ (args := [.agg ((s : List Int).map wV).toArray]) Tryd.func40 rfl Tryd.ntmps40 (Nat.le_of_ble_eq_true rfl) (fun act0 f0 => ?_)
 have e0 : Ext w w := Ext.refl w
 refine sqs ?_
 refine At.bx f0 1 ((s : List Int).map wV) 44 (fun w1 g5 bx6 act4 f3 => ?_)
 clear f0; have := g5.size; replace e0 := e0.gn g5; have r9 := rT.gn g5; clear rT; have := bx6.lt; clear g5
 refine At.rk f3 1 [(2, .int .i64 (0))] .n (fun aR aI => ?_)
 clear f3
 refine At.dn ?_
 refine wp_seq ?_
 refine sqs ?_
 refine At.rk aI 2 [(6, .int .i64 (0)), (5, .agg ((s : List Int).map wV).toArray)] (.p (show ((s : List Int).map wV).length = 4 from ((List.length_map _).trans σ)) <| .p bx6.whole <| .o (.cs ((s : List Int).map wV)) <| .n) (fun aS aJ => ?_)
 clear aI
 refine At.dn ?_
 refine wp_block ?_
 refine loop_g (fun (m_ : Nat) a_ w_ => ∃ (k : Int), m_ = (4 - k).toNat ∧ (Frm 18 a_ [(6, .int .i64 (k)), (5, .agg ((s : List Int).map wV).toArray)]) ∧ (Ext w w_) ∧ (RdT w_ 0 w.heap.size) ∧ (Bx w_ (w.heap.size) ((s : List Int).map wV) 44) ∧ (0 ≤ k) ∧ (k ≤ 4) ∧ (∀ j : Int, 0 ≤ j → j < 64 * k → gB (fromW s) j = false)) _ ⟨0, rfl, aJ.sb, e0, r9, bx6, ω, ω, (fun j a b => by omega)⟩ ?_
 clear aJ; clear r9; clear bx6; clear e0
 intro m_ aT aU ⟨k, hm18, aK, aA, aE, aF, i22, i23, hno⟩
 have := aA.size; have := aF.lt
 refine sqs ?_
 refine At.rk aK 1 [(7, .bool (decide ((k : Int) < 4)))] .n (fun aV aB => ?_)
 clear aK
 refine At.dn ?_
 refine wp_seq ?_
 refine cond_S aB (t := decide ((k : Int) < 4)) rfl (fun aG => ?_) (fun aG => ?_)
 ·have aW := of_decide_eq_true aG
  refine wp_skip ?_
  refine t_n ?_
  refine wp_seq ?_
  refine wp_block ?_
  refine sqs ?_
  refine At.rk aB 4 [(4, .int .u64 (gI s k)), (3, .int .i64 (k))] (.b k 4 <| .p (show (((s : List Int).map wV).toArray : Array Value)[(k : Int).toNat * 1]? = some (.int .u64 (gI s k)) from (idxM wV (0 : Int) k ω (by have := len_4; omega))) <| .o (.ld (.int .u64 (gI s k))) <| .n) (fun aX aL => ?_)
  clear aB
  refine At.dn ?_
  refine sqs ?_
  refine At.rk aL 2 [(11, .bool ((gI s k : Int) != 0))] .n (fun aY aC => ?_)
  clear aL
  refine At.dn ?_
  refine cond_S aC (t := (gI s k : Int) != 0) rfl (fun aH => ?_) (fun aH => ?_)
  ·have aZ := bne_iff_ne.1 aH
   refine sqs ?_
   refine At.rk aC 3 [(14, .int .u64 (gI s k)), (13, .int .i64 (64 * k))] (.w 13 (64 * k) <| .n) (fun bA aM => ?_)
   clear aC
   refine At.cl aM (some 15) (tzI_any (z := gI s k) (by first | exact hs.2 _ | exact hrw.1 | assumption) (aE.wide (Nat.zero_le _) ω)) ?_
   rintro e_ bB ⟨rfl, he⟩
   have := tz_lt (z := gI s k) (by first | exact hs.2 _ | exact hrw.1 | assumption) ω
   refine ⟨_, rfl, _, rfl, fun bC aN => ?_⟩
   clear aM; have aD := gr_ext he; have := aD.size; replace aA := aA.gn aD; replace aE := aE.gn aD; replace aF := aF.gn aD; clear aD he
   refine At.rk aN 2 [(2, .int .i64 ((64 * k) + (tzI (gI s k))))] (.w 16 ((64 * k) + (tzI (gI s k))) <| .n) (fun bD aO => ?_)
   clear aN
   refine At.dn ?_
   refine wp_ret ?_
   refine b_r ?_
   refine t_r ?_
   refine t_r ?_
   refine b_r ?_
   refine t_r ?_
   refine ret_ aO [] [.int .i64 ((64 * k) + (tzI (gI s k)))] [] κ trivial ?_
   exact ⟨ret_eq (congrArg (Value.int .i64) (by first | exact least_hit hs hno ω ω ω | exact least_no (k := 256) ω (fun j a b => hno j a ω))), aA⟩
  have bE := bne_eq_false_iff_eq.1 aH
  refine wp_skip ?_
  refine b_n ?_
  refine t_n ?_
  refine At.start ?_
  refine At.rk aC 2 [(6, .int .i64 (k + 1))] (.w 17 (k + 1) <| .n) (fun bF aP => ?_)
  clear aC
  refine At.dn ?_
  exact ⟨_, ω, (k + 1), rfl, aP.sb, aA, aE, aF, ω, ω, (least_skip hno ω ω ω)⟩
 have bG := of_decide_eq_false aG
 refine wp_exit ?_
 refine t_e ?_
 clear hm18
 refine t_e ?_
 refine b_e ?_
 refine t_n ?_
 refine sqs ?_
 refine At.rk aB 1 [(2, .int .i64 (-1))] .n (fun bH aQ => ?_)
 clear aB
 refine At.dn ?_
 refine wp_ret ?_
 refine ret_ aQ [] [.int .i64 (-1)] [] κ trivial ?_
 exact ⟨ret_eq (congrArg (Value.int .i64) (by first | exact least_hit hs hno ω ω ω | exact least_no (k := 256) ω (fun j a b => hno j a ω))), aA⟩
end Go.Proofs.YtplpgfcjjnaigaaDoor
namespace Go.Proofs.YtplpgfcjjnaigaaDoor
open Go Go.RowKit
theorem orS_any {s t : List Int} {w : World} (hs : OkW s) (ht : OkW t) : Calls Tryd.prog 32 #[.agg (s.map wV).toArray, .agg (t.map wV).toArray] w fun e w' => e = .returned (.agg ((orS s t).map wV).toArray) ∧ Ext w w' := or_any hs ht
theorem andS_any {s t : List Int} {w : World} (hs : OkW s) (ht : OkW t) : Calls Tryd.prog 26 #[.agg (s.map wV).toArray, .agg (t.map wV).toArray] w fun e w' => e = .returned (.agg ((andS s t).map wV).toArray) ∧ Ext w w' := and_any hs ht
theorem minusS_any {s t : List Int} {w : World} (hs : OkW s) (ht : OkW t) : Calls Tryd.prog 42 #[.agg (s.map wV).toArray, .agg (t.map wV).toArray] w fun e w' => e = .returned (.agg ((minusS s t).map wV).toArray) ∧ Ext w w' := minus_any hs ht
end Go.Proofs.YtplpgfcjjnaigaaDoor
namespace Go.Proofs.YtplpgfcjjnaigaaDoor
open Go Go.RowKit
set_option maxHeartbeats 4000000 in
theorem right_any {Ag0 Ag1 Ag2 : Option Addr} {cg0 cg1 cg2 : Nat} {g : GameL} {w : World} (rg : RdG w 0 w.heap.size Ag0 Ag1 Ag2 cg0 cg1 cg2 g) :
    Calls Tryd.prog 21 #[.agg #[.slice Ag0 g.ow.length cg0, .slice Ag1 g.pr.length cg1, .slice Ag2 g.mv.length cg2]] w fun e w' => e = .returned (.tuple #[.int .i64 (rightP g).1, .int .i64 (rightP g).2]) ∧ Ext w w' := by
 have hlg0 := rg.ow.len; have hlg1 := rg.pr.len; have hlg2 := rg.mv.len; have hkg0 := rg.k0; have hkg1 := rg.k1; have hkg2 := rg.k2
 refine enter_ (args := [.agg #[.slice Ag0 g.ow.length cg0, .slice Ag1 g.pr.length cg1, .slice Ag2 g.mv.length cg2]]) Tryd.func21 rfl Tryd.ntmps21 (Nat.le_of_ble_eq_true rfl) (fun act0 f0 => ?_)
 have e0 : Ext w w := Ext.refl w
 refine sqs ?_
 refine At.bx f0 1 [.slice Ag0 g.ow.length cg0, .slice Ag1 g.pr.length cg1, .slice Ag2 g.mv.length cg2] 25 (fun w1 g5 bx6 act4 f3 => ?_)
 clear f0; have := g5.size; replace e0 := e0.gn g5; have r9 := rg.gn g5; clear rg; have := bx6.lt; clear g5
 refine At.rk f3 2 [(3, .int .i64 (0)), (2, .int .i64 (0))] .n (fun dJ bR => ?_)
 clear f3
 refine At.dn ?_
 refine sqs ?_
 refine At.rk bR 4 [(4, .int .i64 (((g.mv.length : Nat) : Int)))] (.l (bx6.cell (i := 2) rfl) <| .n) (fun dK aW => ?_)
 clear bR
 refine At.dn ?_
 refine wp_seq ?_
 refine wp_block ?_
 refine sqs ?_
 rcases Bool.eq_false_or_eq_true ((((g.ow.length : Nat) : Int) : Int) != ((g.mv.length : Nat) : Int)) with aK | aK
 ·have dL := bne_iff_ne.1 aK
  refine At.rk aW 13 [(12, .bool true)] (.l (bx6.cell (i := 0) rfl) <| .e 18 aK <| .n) (fun dM bA => ?_)
  clear aW
  refine At.dn ?_
  refine cond_T bA rfl ?_
  refine sqs ?_
  refine At.rk bA 2 [(3, .int .i64 (1)), (2, .int .i64 (0))] .n (fun dN cI => ?_)
  clear bA
  refine At.dn ?_
  refine wp_ret ?_
  refine b_r ?_
  refine t_r ?_
  refine ret_ cI [] [.int .i64 (0), .int .i64 (1)] [] κ trivial ?_
  exact ⟨ret2_ii (right_lens ω) rfl rfl, e0⟩
 have dO := bne_eq_false_iff_eq.1 aK
 refine At.rk aW 13 [(12, .bool ((((g.pr.length : Nat) : Int) : Int) != ((g.mv.length : Nat) : Int)))] (.l (bx6.cell (i := 0) rfl) <| .e 18 aK <| .l (bx6.cell (i := 1) rfl) <| .n) (fun dP aD => ?_)
 clear aW
 refine At.dn ?_
 refine cond_S aD (t := (((g.pr.length : Nat) : Int) : Int) != ((g.mv.length : Nat) : Int)) rfl (fun bB => ?_) (fun bB => ?_)
 ·have dQ := bne_iff_ne.1 bB
  refine sqs ?_
  refine At.rk aD 2 [(3, .int .i64 (1)), (2, .int .i64 (0))] .n (fun dR cJ => ?_)
  clear aD
  refine At.dn ?_
  refine wp_ret ?_
  refine b_r ?_
  refine t_r ?_
  refine ret_ cJ [] [.int .i64 (0), .int .i64 (1)] [] κ trivial ?_
  exact ⟨ret2_ii (right_lens ω) rfl rfl, e0⟩
 have dS := bne_eq_false_iff_eq.1 bB
 refine sqs ?_
 rcases Bool.eq_false_or_eq_true (decide ((((g.mv.length : Nat) : Int) : Int) < 1)) with aL | aL
 ·have dT := of_decide_eq_true aL
  refine At.rk aD 7 [(25, .bool true)] (.e 28 aL <| .n) (fun dU bC => ?_)
  clear aD
  refine At.dn ?_
  refine cond_T bC rfl ?_
  refine sqs ?_
  refine At.rk bC 2 [(3, .int .i64 (10)), (2, .int .i64 (0))] .n (fun dV cK => ?_)
  clear bC
  refine At.dn ?_
  refine wp_ret ?_
  refine b_r ?_
  refine t_r ?_
  refine ret_ cK [] [.int .i64 (0), .int .i64 (10)] [] κ trivial ?_
  exact ⟨ret2_ii (right_many ω ω) rfl rfl, e0⟩
 have dW := of_decide_eq_false aL
 refine At.rk aD 7 [(25, .bool (decide ((((g.mv.length : Nat) : Int) : Int) > 200)))] (.e 28 aL <| .n) (fun dX aM => ?_)
 clear aD
 refine At.dn ?_
 refine cond_S aM (t := decide ((((g.mv.length : Nat) : Int) : Int) > 200)) rfl (fun bD => ?_) (fun bD => ?_)
 ·have dY := of_decide_eq_true bD
  refine sqs ?_
  refine At.rk aM 2 [(3, .int .i64 (10)), (2, .int .i64 (0))] .n (fun dZ cL => ?_)
  clear aM
  refine At.dn ?_
  refine wp_ret ?_
  refine b_r ?_
  refine t_r ?_
  refine ret_ cL [] [.int .i64 (0), .int .i64 (10)] [] κ trivial ?_
  exact ⟨ret2_ii (right_many ω ω) rfl rfl, e0⟩
 have eA := of_decide_eq_false bD
 refine wp_skip ?_
 refine b_n ?_
 refine t_n ?_
 refine wp_seq ?_
 refine sqs ?_
 refine At.rk aM 4 [(35, .int .i64 (0)), (34, .int .i64 (((g.mv.length : Nat) : Int))), (33, .slice Ag2 g.mv.length cg2)] (.l (bx6.cell (i := 2) rfl) <| .n) (fun eB bS => ?_)
 clear aM
 refine At.dn ?_
 refine wp_block ?_
 refine loop_g (fun (m_ : Nat) a_ w_ => ∃ (k : Int), m_ = ((g.ow.length : Int) - k).toNat ∧ (Frm 107 a_ [(35, .int .i64 (k)), (34, .int .i64 (((g.mv.length : Nat) : Int))), (33, .slice Ag2 g.mv.length cg2), (4, .int .i64 (((g.mv.length : Nat) : Int))), (1, pt w.heap.size 0)]) ∧ (Ext w w_) ∧ (RdG w_ 0 w.heap.size Ag0 Ag1 Ag2 cg0 cg1 cg2 g) ∧ (Bx w_ (w.heap.size) [.slice Ag0 g.ow.length cg0, .slice Ag1 g.pr.length cg1, .slice Ag2 g.mv.length cg2] 25) ∧ (0 ≤ k) ∧ (k ≤ (g.ow.length : Int)) ∧ (∀ j : Nat, (j : Int) < k → g.err j = 0)) _ ⟨0, rfl, bS.sb, e0, r9, bx6, ω, ω, (fun j hj => by omega)⟩ ?_
 clear bS; clear r9; clear bx6; clear e0
 intro m_ eC eD ⟨k, hm48, bT, aA, aE, aB, i52, i53, hp⟩
 have := aA.size; have := aB.lt
 refine sqs ?_
 refine At.rk bT 1 [(36, .bool (decide ((k : Int) < ((g.mv.length : Nat) : Int))))] .n (fun eE aN => ?_)
 clear bT
 refine At.dn ?_
 refine wp_seq ?_
 refine cond_S aN (t := decide ((k : Int) < ((g.mv.length : Nat) : Int))) rfl (fun bE => ?_) (fun bE => ?_)
 ·have eF := of_decide_eq_true bE
  refine wp_skip ?_
  refine t_n ?_
  refine wp_seq ?_
  refine wp_block ?_
  refine sqs ?_
  obtain ⟨eG, aI, aO, cM, _, _, cN, eH, bF⟩ := RdII.get aE.mv (k) ω ω
  have eI := bF.len
  refine At.rk aN 5 [(6, .slice aI ((gL g.mv (k)).length) aO), (5, .int .i64 (k))] (.a k g.mv.length cM <| .l cN <| .n) (fun eJ aX => ?_)
  clear aN
  refine At.dn ?_
  refine wp_seq ?_
  refine wp_block ?_
  refine sqs ?_
  obtain ⟨eK, bU, _, _, bV⟩ := RdI.get aE.ow (k) ω ω
  rcases Bool.eq_false_or_eq_true (decide ((gI g.ow (k) : Int) < 0)) with aP | aP
  ·have eL := of_decide_eq_true aP
   refine At.rk aX 15 [(40, .bool true)] (.l (aB.cell (i := 0) rfl) <| .a k g.ow.length bU <| .l bV <| .e 47 aP <| .n) (fun eM bG => ?_)
   clear aX
   refine At.dn ?_
   refine cond_T bG rfl ?_
   refine sqs ?_
   refine At.rk bG 3 [(3, .int .i64 (14)), (2, .int .i64 (k))] .n (fun eN cO => ?_)
   clear bG
   refine At.dn ?_
   refine wp_ret ?_
   refine b_r ?_
   refine t_r ?_
   refine b_r ?_
   refine t_r ?_
   refine t_r ?_
   refine b_r ?_
   refine t_r ?_
   refine ret_ cO [] [.int .i64 (k), .int .i64 (14)] [] κ trivial ?_
   exact ⟨ret2_ii (right_at' ω ω ω ω σ (err_14 ω ω) (by decide)) rfl rfl, aA⟩
  have eO := of_decide_eq_false aP
  obtain ⟨bW, cP, _, _, cQ⟩ := RdI.get aE.ow (k) ω ω
  refine At.rk aX 15 [(40, .bool (decide ((gI g.ow (k) : Int) > 1))), (53, .bool (decide ((gI g.ow (k) : Int) > 1))), (52, .int .i64 (gI g.ow (k))), (51, .pointer (some (bW.add ((k : Int).toNat * 1)))), (50, .int .i64 (k)), (49, .slice Ag0 g.ow.length cg0), (48, pt w.heap.size 0)] (.l (aB.cell (i := 0) rfl) <| .a k g.ow.length bU <| .l bV <| .e 47 aP <| .l (aB.cell (i := 0) rfl) <| .a k g.ow.length cP <| .l cQ <| .n) (fun eP aF => ?_)
  clear aX
  refine At.dn ?_
  refine cond_S aF (t := decide ((gI g.ow (k) : Int) > 1)) rfl (fun bH => ?_) (fun bH => ?_)
  ·have eQ := of_decide_eq_true bH
   refine sqs ?_
   refine At.rk aF 3 [(3, .int .i64 (14)), (2, .int .i64 (k))] .n (fun eR cR => ?_)
   clear aF
   refine At.dn ?_
   refine wp_ret ?_
   refine b_r ?_
   refine t_r ?_
   refine b_r ?_
   refine t_r ?_
   refine t_r ?_
   refine b_r ?_
   refine t_r ?_
   refine ret_ cR [] [.int .i64 (k), .int .i64 (14)] [] κ trivial ?_
   exact ⟨ret2_ii (right_at' ω ω ω ω σ (err_14 ω ω) (by decide)) rfl rfl, aA⟩
  have eS := of_decide_eq_false bH
  refine sqs ?_
  obtain ⟨eT, bX, _, _, bY⟩ := RdI.get aE.pr (k) ω ω
  rcases Bool.eq_false_or_eq_true (decide ((gI g.pr (k) : Int) < 0)) with aQ | aQ
  ·have eU := of_decide_eq_true aQ
   refine At.rk aF 15 [(56, .bool true)] (.l (aB.cell (i := 1) rfl) <| .a k g.pr.length bX <| .l bY <| .e 63 aQ <| .n) (fun eV bI => ?_)
   clear aF
   refine At.dn ?_
   refine cond_T bI rfl ?_
   refine sqs ?_
   refine At.rk bI 3 [(3, .int .i64 (15)), (2, .int .i64 (k))] .n (fun eW bZ => ?_)
   clear bI
   refine At.dn ?_
   have cS := bZ.sb (r := [(3, .int .i64 (15)), (2, .int .i64 (k))]); clear bZ
   refine wp_ret ?_
   refine b_r ?_
   refine t_r ?_
   refine b_r ?_
   refine t_r ?_
   refine t_r ?_
   refine b_r ?_
   refine t_r ?_
   refine ret_ cS [] [.int .i64 (k), .int .i64 (15)] [] κ trivial ?_
   exact ⟨ret2_ii (right_at' ω ω ω ω σ (err_15 ω ω) (by decide)) rfl rfl, aA⟩
  have eX := of_decide_eq_false aQ
  obtain ⟨cA, cT, _, _, cU⟩ := RdI.get aE.pr (k) ω ω
  refine At.rk aF 15 [(56, .bool (decide ((gI g.pr (k) : Int) > 7))), (69, .bool (decide ((gI g.pr (k) : Int) > 7))), (68, .int .i64 (gI g.pr (k))), (67, .pointer (some (cA.add ((k : Int).toNat * 1)))), (66, .int .i64 (k)), (65, .slice Ag1 g.pr.length cg1), (64, pt w.heap.size 1)] (.l (aB.cell (i := 1) rfl) <| .a k g.pr.length bX <| .l bY <| .e 63 aQ <| .l (aB.cell (i := 1) rfl) <| .a k g.pr.length cT <| .l cU <| .n) (fun eY aR => ?_)
  clear aF
  refine At.dn ?_
  refine cond_S aR (t := decide ((gI g.pr (k) : Int) > 7)) rfl (fun bJ => ?_) (fun bJ => ?_)
  ·have eZ := of_decide_eq_true bJ
   refine sqs ?_
   refine At.rk aR 3 [(3, .int .i64 (15)), (2, .int .i64 (k))] .n (fun fA cB => ?_)
   clear aR
   refine At.dn ?_
   have cV := cB.sb (r := [(3, .int .i64 (15)), (2, .int .i64 (k))]); clear cB
   refine wp_ret ?_
   refine b_r ?_
   refine t_r ?_
   refine b_r ?_
   refine t_r ?_
   refine t_r ?_
   refine b_r ?_
   refine t_r ?_
   refine ret_ cV [] [.int .i64 (k), .int .i64 (15)] [] κ trivial ?_
   exact ⟨ret2_ii (right_at' ω ω ω ω σ (err_15 ω ω) (by decide)) rfl rfl, aA⟩
  have fB := of_decide_eq_false bJ
  refine sqs ?_
  refine At.rk aR 4 [(72, .bool (((((gL g.mv (k)).length : Nat) : Int) : Int) == 0))] .n (fun fC aS => ?_)
  clear aR
  refine At.dn ?_
  refine cond_S aS (t := ((((gL g.mv (k)).length : Nat) : Int) : Int) == 0) rfl (fun bK => ?_) (fun bK => ?_)
  ·have fD := eq_of_beq bK
   refine sqs ?_
   refine At.rk aS 3 [(3, .int .i64 (17)), (2, .int .i64 (k))] .n (fun fE cC => ?_)
   clear aS
   refine At.dn ?_
   have cW := cC.sb (r := [(3, .int .i64 (17)), (2, .int .i64 (k))]); clear cC
   refine wp_ret ?_
   refine b_r ?_
   refine t_r ?_
   refine b_r ?_
   refine t_r ?_
   refine t_r ?_
   refine b_r ?_
   refine t_r ?_
   refine ret_ cW [] [.int .i64 (k), .int .i64 (17)] [] κ trivial ?_
   exact ⟨ret2_ii (right_at' ω ω ω ω σ (err_17 ω ω ω) (by decide)) rfl rfl, aA⟩
  have fF := ne_of_beq_false bK
  refine wp_skip ?_
  refine b_n ?_
  refine t_n ?_
  refine sqs ?_
  refine At.rk aS 3 [(79, .int .i64 (0)), (78, .int .i64 ((((gL g.mv (k)).length : Nat) : Int))), (77, .slice aI ((gL g.mv (k)).length) aO)] .n (fun fG cD => ?_)
  clear aS
  refine At.dn ?_
  refine wp_block ?_
  refine loop_g (fun (m_ : Nat) a_ w_ => ∃ (q : Int), m_ = (((gL g.mv k).length : Int) - q).toNat ∧ (Frm 107 a_ [(79, .int .i64 (q)), (78, .int .i64 ((((gL g.mv (k)).length : Nat) : Int))), (77, .slice aI ((gL g.mv (k)).length) aO), (69, .bool (decide ((gI g.pr (k) : Int) > 7))), (68, .int .i64 (gI g.pr (k))), (67, .pointer (some (cA.add ((k : Int).toNat * 1)))), (66, .int .i64 (k)), (65, .slice Ag1 g.pr.length cg1), (64, pt w.heap.size 1), (53, .bool (decide ((gI g.ow (k) : Int) > 1))), (52, .int .i64 (gI g.ow (k))), (51, .pointer (some (bW.add ((k : Int).toNat * 1)))), (50, .int .i64 (k)), (49, .slice Ag0 g.ow.length cg0), (48, pt w.heap.size 0), (6, .slice aI ((gL g.mv (k)).length) aO), (5, .int .i64 (k)), (35, .int .i64 (k)), (34, .int .i64 (((g.mv.length : Nat) : Int))), (33, .slice Ag2 g.mv.length cg2), (4, .int .i64 (((g.mv.length : Nat) : Int))), (1, pt w.heap.size 0)]) ∧ (Ext w w_) ∧ (RdG w_ 0 w.heap.size Ag0 Ag1 Ag2 cg0 cg1 cg2 g) ∧ (Bx w_ (w.heap.size) [.slice Ag0 g.ow.length cg0, .slice Ag1 g.pr.length cg1, .slice Ag2 g.mv.length cg2] 25) ∧ (RdI w_ 0 w.heap.size aI (gL g.mv (k))) ∧ (0 ≤ q) ∧ (q ≤ ((gL g.mv k).length : Int)) ∧ (rowBad g.ow.length (-1) ((gL g.mv k).take q.toNat) = false)) _ ⟨0, rfl, cD.sb, aA, aE, aB, bF, ω, ω, rfl⟩ ?_
  clear cD; clear aE; clear aB; clear bF; clear aA
  intro m_ fH fI ⟨q, hm125, cE, aG, bL, aY, aZ, i130, i131, i132⟩
  have := aG.size; have := aY.lt
  refine sqs ?_
  refine At.rk cE 1 [(80, .bool (decide ((q : Int) < (((gL g.mv (k)).length : Nat) : Int))))] .n (fun fJ aT => ?_)
  clear cE
  refine At.dn ?_
  refine wp_seq ?_
  refine cond_S aT (t := decide ((q : Int) < (((gL g.mv (k)).length : Nat) : Int))) rfl (fun bM => ?_) (fun bM => ?_)
  ·have fK := of_decide_eq_true bM
   refine wp_skip ?_
   refine t_n ?_
   refine wp_seq ?_
   refine wp_block ?_
   refine sqs ?_
   obtain ⟨fL, cX, _, _, cY⟩ := RdI.get aZ (q) ω ω
   refine At.rk aT 5 [(8, .int .i64 (gI (gL g.mv (k)) (q))), (7, .int .i64 (q))] (.a q ((gL g.mv (k)).length) cX <| .l cY <| .n) (fun fM aC => ?_)
   clear aT
   refine At.dn ?_
   refine sqs ?_
   rcases Bool.eq_false_or_eq_true (decide ((gI (gL g.mv (k)) (q) : Int) < 0)) with aH | aH
   ·have fN := of_decide_eq_true aH
    refine At.rk aC 20 [(103, .bool true)] (.e 86 aH <| .n) (fun fO bN => ?_)
    clear aC
    refine At.dn ?_
    refine cond_T bN rfl ?_
    refine sqs ?_
    refine At.rk bN 3 [(3, .int .i64 (16)), (2, .int .i64 (k))] .n (fun fP cF => ?_)
    clear bN
    refine At.dn ?_
    have cZ := cF.sb (r := [(3, .int .i64 (16)), (2, .int .i64 (k))]); clear cF
    refine wp_ret ?_
    refine b_r ?_
    refine t_r ?_
    refine t_r ?_
    refine b_r ?_
    refine b_r ?_
    refine t_r ?_
    refine t_r ?_
    refine b_r ?_
    refine t_r ?_
    refine ret_ cZ [] [.int .i64 (k), .int .i64 (16)] [] κ trivial ?_
    exact ⟨ret2_ii (right_at' ω ω ω ω σ (err_16 ω ω ω (bad_at2 (q := q) ω ω σ ω)) (by decide)) rfl rfl, aG⟩
   have fQ := of_decide_eq_false aH
   rcases Bool.eq_false_or_eq_true (decide ((gI (gL g.mv (k)) (q) : Int) ≥ ((g.mv.length : Nat) : Int))) with aJ | aJ
   ·have fR := of_decide_eq_true aJ
    refine At.rk aC 20 [(103, .bool true), (89, .bool (decide ((gI (gL g.mv (k)) (q) : Int) ≥ ((g.mv.length : Nat) : Int)))), (88, .int .i64 (((g.mv.length : Nat) : Int))), (87, .int .i64 (gI (gL g.mv (k)) (q)))] (.e 86 aH <| .e 91 aJ <| .n) (fun fS bO => ?_)
    clear aC
    refine At.dn ?_
    refine cond_T bO rfl ?_
    refine sqs ?_
    refine At.rk bO 3 [(3, .int .i64 (16)), (2, .int .i64 (k))] .n (fun fT cG => ?_)
    clear bO
    refine At.dn ?_
    have dA := cG.sb (r := [(3, .int .i64 (16)), (2, .int .i64 (k))]); clear cG
    refine wp_ret ?_
    refine b_r ?_
    refine t_r ?_
    refine t_r ?_
    refine b_r ?_
    refine b_r ?_
    refine t_r ?_
    refine t_r ?_
    refine b_r ?_
    refine t_r ?_
    refine ret_ dA [] [.int .i64 (k), .int .i64 (16)] [] κ trivial ?_
    exact ⟨ret2_ii (right_at' ω ω ω ω σ (err_16 ω ω ω (bad_at2 (q := q) ω ω σ ω)) (by decide)) rfl rfl, aG⟩
   have fU := of_decide_eq_false aJ
   rcases Bool.eq_false_or_eq_true (decide ((q : Int) > 0)) with aU | aU
   ·have fV := of_decide_eq_true aU
    obtain ⟨dB, dC, _, _, dD⟩ := RdI.get aZ (q - 1) ω ω
    refine At.rk aC 20 [(103, .bool (decide ((gI (gL g.mv (k)) (q) : Int) ≤ (gI (gL g.mv (k)) (q - 1))))), (102, .bool (decide ((gI (gL g.mv (k)) (q) : Int) ≤ (gI (gL g.mv (k)) (q - 1))))), (101, .bool (decide ((gI (gL g.mv (k)) (q) : Int) ≤ (gI (gL g.mv (k)) (q - 1))))), (100, .int .i64 (gI (gL g.mv (k)) (q - 1))), (99, .pointer (some (dB.add ((q - 1 : Int).toNat * 1)))), (98, .int .i64 (q - 1)), (97, .int .i64 (q)), (96, .slice aI ((gL g.mv (k)).length) aO), (95, .int .i64 (gI (gL g.mv (k)) (q))), (94, .bool true), (93, .bool (decide ((q : Int) > 0))), (92, .int .i64 (q)), (89, .bool (decide ((gI (gL g.mv (k)) (q) : Int) ≥ ((g.mv.length : Nat) : Int)))), (88, .int .i64 (((g.mv.length : Nat) : Int))), (87, .int .i64 (gI (gL g.mv (k)) (q)))] (.e 86 aH <| .e 91 aJ <| .e 94 aU <| .w 98 (q - 1) <| .a (q - 1) ((gL g.mv (k)).length) dC <| .l dD <| .n) (fun fW aV => ?_)
    clear aC
    refine At.dn ?_
    refine cond_S aV (t := decide ((gI (gL g.mv (k)) (q) : Int) ≤ (gI (gL g.mv (k)) (q - 1)))) rfl (fun bP => ?_) (fun bP => ?_)
    ·have fX := of_decide_eq_true bP
     refine sqs ?_
     refine At.rk aV 3 [(3, .int .i64 (16)), (2, .int .i64 (k))] .n (fun fY cH => ?_)
     clear aV
     refine At.dn ?_
     have dE := cH.sb (r := [(3, .int .i64 (16)), (2, .int .i64 (k))]); clear cH
     refine wp_ret ?_
     refine b_r ?_
     refine t_r ?_
     refine t_r ?_
     refine b_r ?_
     refine b_r ?_
     refine t_r ?_
     refine t_r ?_
     refine b_r ?_
     refine t_r ?_
     refine ret_ dE [] [.int .i64 (k), .int .i64 (16)] [] κ trivial ?_
     exact ⟨ret2_ii (right_at' ω ω ω ω σ (err_16 ω ω ω (bad_at2 (q := q) ω ω σ ω)) (by decide)) rfl rfl, aG⟩
    have fZ := of_decide_eq_false bP
    refine wp_skip ?_
    refine b_n ?_
    refine t_n ?_
    refine At.start ?_
    refine At.rk aV 2 [(79, .int .i64 (q + 1))] (.w 105 (q + 1) <| .n) (fun gA dF => ?_)
    clear aV
    refine At.dn ?_
    exact ⟨_, ω, (q + 1), rfl, dF.sb, aG, bL, aY, aZ, ω, ω, (bad_next2 ω ω σ ω ω ω)⟩
   have gB := of_decide_eq_false aU
   refine At.rk aC 20 [(103, .bool false), (102, .bool false), (94, .bool false), (93, .bool (decide ((q : Int) > 0))), (92, .int .i64 (q)), (89, .bool (decide ((gI (gL g.mv (k)) (q) : Int) ≥ ((g.mv.length : Nat) : Int)))), (88, .int .i64 (((g.mv.length : Nat) : Int))), (87, .int .i64 (gI (gL g.mv (k)) (q)))] (.e 86 aH <| .e 91 aJ <| .e 94 aU <| .n) (fun gC bQ => ?_)
   clear aC
   refine At.dn ?_
   refine cond_F bQ rfl ?_
   refine wp_skip ?_
   refine b_n ?_
   refine t_n ?_
   refine At.start ?_
   refine At.rk bQ 2 [(79, .int .i64 (q + 1))] (.w 105 (q + 1) <| .n) (fun gD dG => ?_)
   clear bQ
   refine At.dn ?_
   exact ⟨_, ω, (q + 1), rfl, dG.sb, aG, bL, aY, aZ, ω, ω, (bad_next2 ω ω σ ω ω ω)⟩
  have gE := of_decide_eq_false bM
  refine wp_exit ?_
  refine t_e ?_
  clear hm125
  refine t_e ?_
  refine b_e ?_
  refine b_n ?_
  refine t_n ?_
  refine At.start ?_
  refine At.rk aT 2 [(35, .int .i64 (k + 1))] (.w 106 (k + 1) <| .n) (fun gF dH => ?_)
  clear aT
  refine At.dn ?_
  exact ⟨_, ω, (k + 1), rfl, dH.sb, aG, bL, aY, ω, ω, (err_next ω hp (err_0 ω ω ω (bad_all σ ω)))⟩
 have gG := of_decide_eq_false bE
 refine wp_exit ?_
 refine t_e ?_
 clear hm48
 refine t_e ?_
 refine b_e ?_
 refine t_n ?_
 refine sqs ?_
 refine At.rk aN 2 [(3, .int .i64 (0)), (2, .int .i64 (0))] .n (fun gH dI => ?_)
 clear aN
 refine At.dn ?_
 refine wp_ret ?_
 refine ret_ dI [] [.int .i64 (0), .int .i64 (0)] [] κ trivial ?_
 exact ⟨ret2_ii (right_ok' (k := k) ω ω ω σ) rfl rfl, aA⟩
end Go.Proofs.YtplpgfcjjnaigaaDoor
