/-
  Plain: who leads to whom within a set, and how many moves count. No program.
-/
import Derived.Test.YtkpljmalbmcdfaaDoorPureAttr
set_option linter.unusedVariables false
set_option linter.unusedSimpArgs false
namespace Go.Proofs.YtkpljmalbmcdfaaDoor
open Go Go.RowKit
theorem gI_eq {l : List Int} {k : Int} (h0 : 0 ≤ k) (h1 : k < (l.length : Int)) : gI l k = l[k.toNat]'(by omega) := by
  simp only [gI, List.getD_eq_getElem?_getD, List.getElem?_eq_getElem (show k.toNat < l.length by omega), Option.getD_some]
theorem mv_sorted {g : GameL} (hG : RightG g) {i : Int} (a : 0 ≤ i) (b : i < (g.ow.length : Int)) : (gL g.mv i).Pairwise (· < ·) := by
  have hup := hG.up i a b
  generalize gL g.mv i = l at *
  have h2 : ∀ d k : Nat, k + d + 1 < l.length → gI l (k : Int) < gI l ((k + d + 1 : Nat) : Int) := by
    intro d
    induction d with
    | zero =>
      intro k hk
      have := hup ((k + 0 + 1 : Nat) : Int) (by omega) (by omega)
      rwa [show (((k + 0 + 1 : Nat) : Int) - 1) = (k : Int) by omega] at this
    | succ d ih =>
      intro k hk
      have h3 := ih k (by omega)
      have h4 := hup ((k + (d + 1) + 1 : Nat) : Int) (by omega) (by omega)
      rw [show (((k + (d + 1) + 1 : Nat) : Int) - 1) = ((k + d + 1 : Nat) : Int) by omega] at h4
      omega
  rw [List.pairwise_iff_getElem]
  intro x y hx hy hxy
  have := h2 (y - x - 1) x (by omega)
  rw [show x + (y - x - 1) + 1 = y by omega, gI_eq (by omega) (by omega), gI_eq (by omega) (by omega)] at this
  exact this
theorem mv_nd {g : GameL} (hG : RightG g) : ∀ i : Int, 0 ≤ i → i < (g.ow.length : Int) → (gL g.mv i).Nodup := fun i a b =>
  (mv_sorted hG a b).imp (fun h => by omega)
theorem take_cM {l : List Int} {f : Int → Bool} {q : Int} (h0 : 0 ≤ q) (h1 : q < (l.length : Int)) : cM (l.take (q + 1).toNat) f = cM (l.take q.toNat) f + if f (gI l q) = true then 1 else 0 := by
  rw [show (q + 1).toNat = q.toNat + 1 by omega, List.take_succ_eq_append_getElem (show q.toNat < l.length by omega), ← gI_eq h0 h1]
  unfold cM
  rw [List.filter_append]
  cases hf : f (gI l q) <;> simp [hf]
theorem mem_take {l : List Int} {q x : Int} (h0 : 0 ≤ q) (h1 : q < (l.length : Int)) : x ∈ l.take (q + 1).toNat ↔ x ∈ l.take q.toNat ∨ x = gI l q := by
  rw [show (q + 1).toNat = q.toNat + 1 by omega, List.take_succ_eq_append_getElem (show q.toNat < l.length by omega), ← gI_eq h0 h1, List.mem_append, List.mem_singleton]
theorem not_take {l : List Int} (hn : l.Nodup) {q : Int} (h0 : 0 ≤ q) (h1 : q < (l.length : Int)) : gI l q ∉ l.take q.toNat := fun h => by
  obtain ⟨k, hk, e⟩ := List.mem_iff_getElem.1 h
  rw [List.length_take] at hk
  rw [List.getElem_take, gI_eq h0 h1] at e
  have := (List.getElem_inj hn).1 e
  omega
structure FrA (g : GameL) (I : List Bool) (fr : List (List Int)) (lf : List Int) (i q : Int) : Prop where
  len : fr.length = g.ow.length
  ll : lf.length = g.ow.length
  mem : ∀ m j : Int, 0 ≤ m → m < (g.ow.length : Int) → (j ∈ gL fr m ↔ 0 ≤ j ∧ j < (g.ow.length : Int) ∧ gB I j = true ∧ gB I m = true ∧ ((j < i ∧ m ∈ gL g.mv j) ∨ (j = i ∧ m ∈ (gL g.mv i).take q.toNat)))
  nd : ∀ m : Int, 0 ≤ m → m < (g.ow.length : Int) → (gL fr m).Nodup
  lf : ∀ j : Int, 0 ≤ j → j < (g.ow.length : Int) → gI lf j = if j < i then (if gB I j = true then cM (gL g.mv j) (gB I) else 0) else if j = i then cM ((gL g.mv i).take q.toNat) (gB I) else 0
  cnt : ∀ m : Int, 0 ≤ m → m < (g.ow.length : Int) → ((gL fr m).length : Int) ≤ 200 * i + q
theorem gI_rep0 (n : Nat) (m : Int) : gI (List.replicate n 0) m = 0 := by
  simp only [gI, List.getD_eq_getElem?_getD, List.getElem?_replicate]
  split <;> rfl
theorem fra0 {g : GameL} {I : List Bool} : FrA g I (List.replicate g.ow.length []) (List.replicate g.ow.length 0) 0 0 := by
  refine ⟨List.length_replicate, List.length_replicate, fun m j a b => ?_, fun m a b => by rw [gL_rep]; exact List.nodup_nil, fun j a b => ?_, fun m a b => by rw [gL_rep]; simp⟩
  · rw [gL_rep]
    refine ⟨fun h => (List.not_mem_nil h).elim, fun h => ?_⟩
    rcases h.2.2.2.2 with h2 | h2
    · omega
    · simp at h2
  · rw [gI_rep0, if_neg (by omega)]
    split
    · simp [cM]
    · rfl
theorem fra_row {g : GameL} (hG : RightG g) {I : List Bool} {fr : List (List Int)} {lf : List Int} {i q : Int} (h : FrA g I fr lf i q) (h0 : 0 ≤ i) (h1 : i < (g.ow.length : Int)) (hq : ((gL g.mv i).length : Int) ≤ q) (hq2 : q ≤ ((gL g.mv i).length : Int)) (hI : gB I i = true) : FrA g I fr lf (i + 1) 0 := by
  have hr := row_len hG h0 h1
  have hn := hG.n1
  have e : (gL g.mv i).take q.toNat = gL g.mv i := List.take_of_length_le (by omega)
  refine ⟨h.len, h.ll, fun m j a b => ?_, h.nd, fun j a b => ?_, fun m a b => by have := h.cnt m a b; omega⟩
  · rw [h.mem m j a b, e]
    constructor
    · rintro ⟨c, d, f, k, l⟩
      refine ⟨c, d, f, k, ?_⟩
      rcases l with l | l
      · exact .inl ⟨by omega, l.2⟩
      · obtain ⟨rfl, l⟩ := l
        exact .inl ⟨by omega, l⟩
    · rintro ⟨c, d, f, k, l⟩
      refine ⟨c, d, f, k, ?_⟩
      rcases l with l | l
      · by_cases hj : j = i
        · subst hj
          exact .inr ⟨rfl, l.2⟩
        · exact .inl ⟨by omega, l.2⟩
      · simp at l
  · rw [h.lf j a b]
    by_cases hj : j < i
    · rw [if_pos hj, if_pos (show j < i + 1 by omega)]
    · rw [if_neg hj]
      by_cases he : j = i
      · subst he
        rw [if_pos rfl, if_pos (by omega), if_pos hI, e]
      · rw [if_neg he, if_neg (by omega)]
        split
        · simp [cM]
        · rfl
theorem fra_out {g : GameL} (hG : RightG g) {I : List Bool} {fr : List (List Int)} {lf : List Int} {i : Int} (h : FrA g I fr lf i 0) (h0 : 0 ≤ i) (h1 : i < (g.ow.length : Int)) (hI : gB I i = false) : FrA g I fr lf (i + 1) 0 := by
  refine ⟨h.len, h.ll, fun m j a b => ?_, h.nd, fun j a b => ?_, fun m a b => by have := h.cnt m a b; omega⟩
  · rw [h.mem m j a b]
    constructor
    · rintro ⟨c, d, f, k, l⟩
      refine ⟨c, d, f, k, ?_⟩
      rcases l with l | l
      · exact .inl ⟨by omega, l.2⟩
      · simp at l
    · rintro ⟨c, d, f, k, l⟩
      refine ⟨c, d, f, k, ?_⟩
      rcases l with l | l
      · by_cases hj : j = i
        · subst hj
          rw [hI] at f
          cases f
        · exact .inl ⟨by omega, l.2⟩
      · simp at l
  · rw [h.lf j a b]
    by_cases hj : j < i
    · rw [if_pos hj, if_pos (show j < i + 1 by omega)]
    · rw [if_neg hj]
      by_cases he : j = i
      · subst he
        rw [if_pos rfl, if_pos (by omega), if_neg (by rw [hI]; decide)]
        simp [cM]
      · rw [if_neg he, if_neg (by omega)]
        split
        · simp [cM]
        · rfl
theorem fra_skip {g : GameL} (hG : RightG g) {I : List Bool} {fr : List (List Int)} {lf : List Int} {i q : Int} (h : FrA g I fr lf i q) (h0 : 0 ≤ i) (h1 : i < (g.ow.length : Int)) (k0 : 0 ≤ q) (k1 : q < ((gL g.mv i).length : Int)) (hm : gB I (gI (gL g.mv i) q) = false) : FrA g I fr lf i (q + 1) := by
  refine ⟨h.len, h.ll, fun m j a b => ?_, h.nd, fun j a b => ?_, fun m a b => by have := h.cnt m a b; omega⟩
  · rw [h.mem m j a b, mem_take k0 k1]
    constructor
    · rintro ⟨c, d, f, k, l⟩
      exact ⟨c, d, f, k, l.imp id fun x => ⟨x.1, .inl x.2⟩⟩
    · rintro ⟨c, d, f, k, l⟩
      refine ⟨c, d, f, k, l.imp id fun x => ⟨x.1, x.2.resolve_right fun e => ?_⟩⟩
      subst e
      rw [hm] at k
      cases k
  · rw [h.lf j a b, take_cM k0 k1, if_neg (show ¬ gB I (gI (gL g.mv i) q) = true by rw [hm]; decide), Int.add_zero]
theorem fra_push {g : GameL} (hG : RightG g) {I : List Bool} {fr : List (List Int)} {lf : List Int} {i q : Int} (h : FrA g I fr lf i q) (h0 : 0 ≤ i) (h1 : i < (g.ow.length : Int)) (k0 : 0 ≤ q) (k1 : q < ((gL g.mv i).length : Int)) (hI : gB I i = true) (hm : gB I (gI (gL g.mv i) q) = true) :
    FrA g I (fr.set (gI (gL g.mv i) q).toNat (gL fr (gI (gL g.mv i) q) ++ [i])) (lf.set i.toNat (gI lf i + 1)) i (q + 1) := by
  have hr := hG.mv i h0 h1 q k0 k1
  have hl := h.len
  have hll := h.ll
  have hni : i ∉ gL fr (gI (gL g.mv i) q) := fun hh => by
    rcases ((h.mem _ i hr.1 hr.2).1 hh).2.2.2.2 with l | l
    · omega
    · exact not_take (mv_nd hG i h0 h1) k0 k1 l.2
  refine ⟨by rw [List.length_set]; exact hl, by rw [List.length_set]; exact hll, fun m j a b => ?_, fun m a b => ?_, fun j a b => ?_, fun m a b => ?_⟩
  · rw [gL_set hr.1 (by omega) a, mem_take k0 k1]
    by_cases e : gI (gL g.mv i) q = m
    · rw [if_pos e, List.mem_append, List.mem_singleton, e, h.mem m j a b]
      constructor
      · rintro (⟨c, d, f, k, l⟩ | rfl)
        · exact ⟨c, d, f, k, l.imp id fun x => ⟨x.1, .inl x.2⟩⟩
        · exact ⟨h0, h1, hI, e ▸ hm, .inr ⟨rfl, .inr rfl⟩⟩
      · rintro ⟨c, d, f, k, l⟩
        by_cases hj : j = i
        · exact .inr hj
        · refine .inl ⟨c, d, f, k, ?_⟩
          rcases l with l | l
          · exact .inl l
          · exact absurd l.1 hj
    · rw [if_neg e, h.mem m j a b]
      constructor
      · rintro ⟨c, d, f, k, l⟩
        exact ⟨c, d, f, k, l.imp id fun x => ⟨x.1, .inl x.2⟩⟩
      · rintro ⟨c, d, f, k, l⟩
        exact ⟨c, d, f, k, l.imp id fun x => ⟨x.1, x.2.resolve_right fun e2 => e e2.symm⟩⟩
  · rw [gL_set hr.1 (by omega) a]
    by_cases e : gI (gL g.mv i) q = m
    · rw [if_pos e, List.nodup_append]
      refine ⟨h.nd _ hr.1 hr.2, List.nodup_cons.2 ⟨List.not_mem_nil, List.nodup_nil⟩, fun x hx y hy => ?_⟩
      rw [List.mem_singleton] at hy
      subst hy
      exact fun e3 => hni (e3 ▸ hx)
    · rw [if_neg e]
      exact h.nd m a b
  · rw [gI_setE h0 (by omega) a]
    have h5 := h.lf j a b
    by_cases hj : i = j
    · subst hj
      rw [if_pos rfl, if_neg (by omega), if_pos rfl, take_cM k0 k1, if_pos hm]
      rw [if_neg (by omega), if_pos rfl] at h5
      omega
    · rw [if_neg hj, h5]
      by_cases hlt : j < i
      · rw [if_pos hlt, if_pos hlt]
      · rw [if_neg hlt, if_neg hlt, if_neg (fun e => hj e.symm), if_neg (fun e => hj e.symm)]
  · rw [gL_set hr.1 (by omega) a]
    have h3 := h.cnt m a b
    have h4 := h.cnt _ hr.1 hr.2
    split
    · rw [List.length_append]
      simp
      omega
    · omega
theorem fra_leads {g : GameL} {I : List Bool} {fr : List (List Int)} {lf : List Int} (h : FrA g I fr lf (g.ow.length : Int) 0) {m : Int} (a : 0 ≤ m) (b : m < (g.ow.length : Int)) : LeadsT g I m (gL fr m) := by
  refine ⟨h.nd m a b, fun i => ?_⟩
  rw [h.mem m i a b]
  constructor
  · rintro ⟨c, d, f, k, l⟩
    refine ⟨c, d, f, k, ?_⟩
    rcases l with l | l
    · exact l.2
    · simp at l
  · rintro ⟨c, d, f, k, l⟩
    exact ⟨c, d, f, k, .inl ⟨d, l⟩⟩
theorem fra_lf {g : GameL} {I : List Bool} {fr : List (List Int)} {lf : List Int} (h : FrA g I fr lf (g.ow.length : Int) 0) : ∀ i : Int, 0 ≤ i → i < (g.ow.length : Int) → gB I i = true → gI lf i = cM (gL g.mv i) (gB I) := fun i a b c => by
  rw [h.lf i a b, if_pos b, if_pos c]
/-- The positions that count: those of s that the game has. -/
def inS (g : GameL) (s : List Int) : List Int := andS s (fullW ((g.ow.length : Nat) : Int))
def inT (g : GameL) (s : List Int) : List Bool := fromW (inS g s)
theorem inS_ok {g : GameL} {s : List Int} (h : OkW s) : OkW (inS g s) := okW_andS h (fullW_W _)
theorem gB_inT {g : GameL} {s : List Int} {j : Int} (a : 0 ≤ j) (b : j < 256) : gB (inT g s) j = (gB (fromW s) j && decide (j < (g.ow.length : Int))) := by
  rw [inT, inS, from_andS, gB_andD a b, from_full, gB_fullD a b]
theorem inT_lt {g : GameL} {s : List Int} : ∀ j : Int, 0 ≤ j → j < 256 → gB (inT g s) j = true → j < (g.ow.length : Int) := fun j a b h => by
  rw [gB_inT a b, Bool.and_eq_true] at h
  exact of_decide_eq_true h.2
theorem has_inT {g : GameL} {s : List Int} {m : Int} (a : 0 ≤ m) (b : m < 256) : hasW (inS g s) m = gB (inT g s) m := by
  rw [hasW_from, hasD, decide_eq_true ⟨a, b⟩, Bool.true_and, inT]
theorem mv_in {g : GameL} (hG : RightG g) {i q : Int} (a : 0 ≤ i) (b : i < (g.ow.length : Int)) (k0 : 0 ≤ q) (k1 : q < ((gL g.mv i).length : Int)) : gI (gL g.mv i) q ∈ gL g.mv i := by
  rw [gI_eq k0 k1]
  exact List.getElem_mem _
def AttractT (g : GameL) (s : List Int) (p : Int) (t ss mvs : List Int) : Prop :=
  OkW ss ∧ ((¬ (isR g = true ∧ (p = 0 ∨ p = 1)) ∧ ss = [0, 0, 0, 0] ∧ mvs = []) ∨ (isR g = true ∧ (p = 0 ∨ p = 1) ∧ AttrT g (inT g s) p (fromW t) (fromW ss) ∧ MovA g (inT g s) p (fromW t) (fromW ss) mvs))
end Go.Proofs.YtkpljmalbmcdfaaDoor
