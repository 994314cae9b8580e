/-
  Plain: best moves, the least tuples that stand, ranks. No program.
-/
import Derived.Test.YtklbpajmoklheaaPureLift
set_option linter.unusedVariables false
namespace Go.Proofs.Ytklbpajmoklheaa
open Go Go.RowKit
/-- What bestB tells of a row: own = 1: a greatest, else a least. -/
theorem bestB_spec {f : Int → Tup} {own : Int} {row : List Int} (hm : ∀ k : Int, 0 ≤ k → k < (row.length : Int) → 0 ≤ gI row k) : ∀ k : Nat, 0 < k → k ≤ row.length →
    ∃ j : Int, 0 ≤ j ∧ j < k ∧ bestB f own (row.take k) = (f (gI row j), gI row j) ∧ ∀ i : Int, 0 ≤ i → i < k → if own = 1 then leT (f (gI row i)) (f (gI row j)) else leT (f (gI row j)) (f (gI row i)) := by
  intro k hk hl
  induction k with
  | zero => omega
  | succ k ih =>
    have hn := bestB_next (f := f) (own := own) (row := row) (k := (k : Int)) (by omega) (by omega)
    rw [show ((k : Int) + 1).toNat = k + 1 by omega, show (k : Int).toNat = k by omega] at hn
    by_cases h0 : k = 0
    · subst h0
      refine ⟨0, by omega, by omega, ?_, fun i a b => ?_⟩
      · rw [hn]
        unfold stepB
        rw [if_pos (.inl (by simp [bestB]))]
        rfl
      · obtain rfl : i = 0 := by omega
        split
        · exact leT_refl _
        · exact leT_refl _
    · obtain ⟨j, j0, j1, e, hall⟩ := ih (by omega) (by omega)
      have hj := hm j j0 (by omega)
      rw [e] at hn
      by_cases ho : own = 1
      · by_cases hc : cmpT (f (gI row k)) (f (gI row j)) 0 > 0
        · refine ⟨k, by omega, by omega, ?_, fun i a b => ?_⟩
          · rw [hn]
            unfold stepB
            rw [if_pos (.inr (by rw [if_pos ho]; exact hc))]
          · rw [if_pos ho]
            by_cases hi : i = k
            · subst hi
              exact leT_refl _
            · have := hall i a (by omega)
              rw [if_pos ho] at this
              refine leT_trans this ?_
              have := cmp_swap (f (gI row k)) (f (gI row j)) 0
              unfold leT
              omega
        · refine ⟨j, j0, by omega, ?_, fun i a b => ?_⟩
          · rw [hn]
            unfold stepB
            rw [if_neg]
            rintro (h | h)
            · simp only at h
              omega
            · rw [if_pos ho] at h
              exact hc h
          · rw [if_pos ho]
            by_cases hi : i = k
            · subst hi
              exact leT_of_not_gt hc
            · have := hall i a (by omega)
              rwa [if_pos ho] at this
      · by_cases hc : cmpT (f (gI row k)) (f (gI row j)) 0 < 0
        · refine ⟨k, by omega, by omega, ?_, fun i a b => ?_⟩
          · rw [hn]
            unfold stepB
            rw [if_pos (.inr (by rw [if_neg ho]; exact hc))]
          · rw [if_neg ho]
            by_cases hi : i = k
            · subst hi
              exact leT_refl _
            · have := hall i a (by omega)
              rw [if_neg ho] at this
              refine leT_trans ?_ this
              unfold leT
              omega
        · refine ⟨j, j0, by omega, ?_, fun i a b => ?_⟩
          · rw [hn]
            unfold stepB
            rw [if_neg]
            rintro (h | h)
            · simp only at h
              omega
            · rw [if_neg ho] at h
              exact hc h
          · rw [if_neg ho]
            by_cases hi : i = k
            · subst hi
              exact leT_of_not_lt hc
            · have := hall i a (by omega)
              rwa [if_neg ho] at this
/-- The counters' bounds of a game. -/
def BndG (g : GameL) (t : Tup) : Prop := Bnd (cnt g.pr 1) (cnt g.pr 3) (cnt g.pr 5) (cnt g.pr 7) t
def liftT (g : GameL) (l : List Tup) (i : Int) : Tup := (bestB (upG g l i) (gI g.ow i) (gL g.mv i)).1
theorem lift_spec {g : GameL} (hG : RightG g) (l : List Tup) {i : Int} (h0 : 0 ≤ i) (h1 : i < g.ow.length) :
    ∃ j : Int, 0 ≤ j ∧ j < (gL g.mv i).length ∧ bestB (upG g l i) (gI g.ow i) (gL g.mv i) = (upG g l i (gI (gL g.mv i) j), gI (gL g.mv i) j) ∧
      ∀ k : Int, 0 ≤ k → k < (gL g.mv i).length → if gI g.ow i = 1 then leT (upG g l i (gI (gL g.mv i) k)) (upG g l i (gI (gL g.mv i) j)) else leT (upG g l i (gI (gL g.mv i) j)) (upG g l i (gI (gL g.mv i) k)) := by
  have hne := hG.ne i h0 h1
  have := bestB_spec (f := upG g l i) (own := gI g.ow i) (row := gL g.mv i) (fun k a b => (hG.mv i h0 h1 k a b).1) (gL g.mv i).length hne (Nat.le_refl _)
  rwa [List.take_length] at this
theorem lift_bnd {g : GameL} (hG : RightG g) {l : List Tup} (hl : l.length = g.ow.length) (hb : ∀ i : Int, 0 ≤ i → i < g.ow.length → BndG g (gT l i)) {i : Int} (h0 : 0 ≤ i) (h1 : i < g.ow.length) : BndG g (liftT g l i) := by
  obtain ⟨j, j0, j1, e, _⟩ := lift_spec hG l h0 h1
  unfold liftT
  rw [e]
  have := hG.mv i h0 h1 j j0 j1
  exact up_bnd (hb _ this.1 this.2)
theorem lift_mono {g : GameL} (hG : RightG g) {l l' : List Tup} (hb : ∀ i : Int, 0 ≤ i → i < g.ow.length → BndG g (gT l i)) (hb' : ∀ i : Int, 0 ≤ i → i < g.ow.length → BndG g (gT l' i)) (hle : ∀ i : Int, 0 ≤ i → i < g.ow.length → leT (gT l i) (gT l' i)) {i : Int} (h0 : 0 ≤ i) (h1 : i < g.ow.length) :
    leT (liftT g l i) (liftT g l' i) := by
  obtain ⟨j, j0, j1, e, ha⟩ := lift_spec hG l h0 h1
  obtain ⟨j', j0', j1', e', ha'⟩ := lift_spec hG l' h0 h1
  have hu : ∀ k : Int, 0 ≤ k → k < (gL g.mv i).length → leT (upG g l i (gI (gL g.mv i) k)) (upG g l' i (gI (gL g.mv i) k)) := fun k a b => by
    have hm := hG.mv i h0 h1 k a b
    exact up_mono (hb _ hm.1 hm.2) (hb' _ hm.1 hm.2) (hle _ hm.1 hm.2)
  unfold liftT
  rw [e, e']
  simp only
  by_cases ho : gI g.ow i = 1
  · have k := ha' j j0 j1
    rw [if_pos ho] at k
    exact leT_trans (hu j j0 j1) k
  · have k := ha j' j0' j1'
    rw [if_neg ho] at k
    exact leT_trans k (hu j' j0' j1')
/-- Tuples that stand. -/
def PreT (g : GameL) (l : List Tup) : Prop := ∀ i : Int, 0 ≤ i → i < g.ow.length → leT (liftT g l i) (gT l i)
def BndL (g : GameL) (l : List Tup) : Prop := l.length = g.ow.length ∧ ∀ i : Int, 0 ≤ i → i < g.ow.length → BndG g (gT l i)
def LowT (g : GameL) (l : List Tup) : Prop := ∀ l', BndL g l' → PreT g l' → ∀ i : Int, 0 ≤ i → i < g.ow.length → leT (gT l i) (gT l' i)
/-- The least tuples that stand. -/
structure LeastT (g : GameL) (l : List Tup) : Prop where
  bnd : BndL g l
  pre : PreT g l
  low : LowT g l
theorem least_one {g : GameL} {l l' : List Tup} (h : LeastT g l) (h' : LeastT g l') : l = l' := by
  have e : ∀ i : Int, 0 ≤ i → i < g.ow.length → gT l i = gT l' i := fun i a b => leT_anti (h.bnd.2 i a b) (h'.bnd.2 i a b) (h.low l' h'.bnd h'.pre i a b) (h'.low l h.bnd h.pre i a b)
  refine List.ext_getElem (by rw [h.bnd.1, h'.bnd.1]) fun i h1 h2 => ?_
  have hl := h.bnd.1
  have hl' := h'.bnd.1
  have := e (i : Int) (by omega) (by omega)
  simp only [gA, Int.toNat_natCast, List.getD_eq_getElem?_getD, List.getElem?_eq_getElem h1, List.getElem?_eq_getElem h2, Option.getD_some] at this
  exact this
theorem gT_set {l : List Tup} {i j : Int} {t : Tup} (h0 : 0 ≤ i) (h1 : i < l.length) (h2 : 0 ≤ j) : gT (l.set i.toNat t) j = if i = j then t else gT l j := by
  simp only [gA, List.getD_eq_getElem?_getD, List.getElem?_set]
  by_cases h : i = j
  · subst h
    rw [if_pos rfl, if_pos rfl, if_pos (by omega)]
    rfl
  · rw [if_neg h, if_neg (by omega)]
theorem low_set {g : GameL} (hG : RightG g) {l : List Tup} (hb : BndL g l) (hl : LowT g l) {i : Int} (h0 : 0 ≤ i) (h1 : i < g.ow.length) : LowT g (l.set i.toNat (liftT g l i)) := by
  intro l' hb' hp j a b
  have e1 := hb.1
  rw [gT_set h0 (by omega) a]
  split
  · rename_i e
    subst e
    exact leT_trans (lift_mono hG hb.2 hb'.2 (hl l' hb' hp) h0 h1) (hp i h0 h1)
  · exact hl l' hb' hp j a b
theorem bnd_set {g : GameL} (hG : RightG g) {l : List Tup} (hb : BndL g l) {i : Int} (h0 : 0 ≤ i) (h1 : i < g.ow.length) : BndL g (l.set i.toNat (liftT g l i)) := by
  have e1 := hb.1
  refine ⟨by rw [List.length_set]; exact e1, fun j a b => ?_⟩
  rw [gT_set h0 (by omega) a]
  split
  · exact lift_bnd hG hb.1 hb.2 h0 h1
  · exact hb.2 j a b
theorem gT_zero (n : Nat) (i : Int) : gT (List.replicate n tup0) i = tup0 := by
  simp only [gA, List.getD_eq_getElem?_getD, List.getElem?_replicate]
  split <;> rfl
theorem bnd_zero (g : GameL) : BndL g (List.replicate g.ow.length tup0) := ⟨List.length_replicate, fun i _ _ => by rw [gT_zero]; exact bnd_0 (cnt_ge _ _) (cnt_ge _ _) (cnt_ge _ _) (cnt_ge _ _)⟩
theorem low_zero (g : GameL) : LowT g (List.replicate g.ow.length tup0) := fun l' hb _ i a b => by
  rw [gT_zero]
  cases h : (gT l' i).top
  · rw [leT_ff rfl h]
    obtain ⟨_, k0, k1, k2, k3⟩ := hb.2 i a b
    unfold lex tup0
    dsimp only
    omega
  · exact leT_top h
end Go.Proofs.Ytklbpajmoklheaa
