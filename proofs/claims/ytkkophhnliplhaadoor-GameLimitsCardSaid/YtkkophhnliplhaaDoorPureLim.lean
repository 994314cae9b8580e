/-
  Plain: games at the limits (law GameLimits). No program.
-/
import Derived.Test.YtkkophhnliplhaaDoorPureGameB
set_option linter.unusedVariables false
set_option linter.unusedSimpArgs false
namespace Go.Proofs.YtkkophhnliplhaaDoor
open Go Go.RowKit
/-- The first k of what f tells. -/
def limL {α : Type} (f : Int → α) (k : Int) : List α := (List.range k.toNat).map fun (i : Nat) => f (i : Int)
theorem lim_0 {α : Type} {f : Int → α} : [] = limL f 0 := rfl
theorem lim_len {α : Type} {f : Int → α} {k : Int} : (limL f k).length = k.toNat := by unfold limL; rw [List.length_map, List.length_range]
theorem lim_push {α : Type} {f : Int → α} {k : Int} {xs : List α} (h : xs = limL f k) (a : 0 ≤ k) : xs ++ [f k] = limL f (k + 1) := by
  subst h
  unfold limL
  rw [show (k + 1).toNat = k.toNat + 1 by omega, List.range_succ, List.map_append]
  simp only [List.map_cons, List.map_nil]
  rw [show ((k.toNat : Nat) : Int) = k by omega]
theorem gI_lim {f : Int → Int} {k j : Int} (a : 0 ≤ j) (b : j < k) : gI (limL f k) j = f j := by
  simp only [gI, limL, List.getD_eq_getElem?_getD, List.getElem?_map, List.getElem?_range (show j.toNat < k.toNat by omega), Option.map_some, Option.getD_some]
  rw [show ((j.toNat : Nat) : Int) = j by omega]
theorem gL_lim {f : Int → List Int} {k j : Int} (a : 0 ≤ j) (b : j < k) : gL (limL f k) j = f j := by
  simp only [gL, limL, List.getD_eq_getElem?_getD, List.getElem?_map, List.getElem?_range (show j.toNat < k.toNat by omega), Option.map_some, Option.getD_some]
  rw [show ((j.toNat : Nat) : Int) = j by omega]
theorem lim_inner {f : Int → Int} {k : Int} {xm : List (List Int)} (h : xm = limL (fun i => [f i]) k) : ∀ i, i < xm.length → (xm.getD i []).length * 8 ≤ 140737488351232 := by
  subst h
  intro i hi
  rw [lim_len] at hi
  simp only [limL, List.getD_eq_getElem?_getD, List.getElem?_map, List.getElem?_range hi, Option.map_some, Option.getD_some, List.length_singleton]
  omega
theorem inner_set {ls : List (List Int)} {k : Nat} {xs : List Int} (h : ∀ i, i < ls.length → (ls.getD i []).length * 8 ≤ 140737488351232) (hx : xs.length * 8 ≤ 140737488351232) : ∀ i, i < (ls.set k xs).length → ((ls.set k xs).getD i []).length * 8 ≤ 140737488351232 := by
  intro i hi
  rw [List.length_set] at hi
  simp only [List.getD_eq_getElem?_getD, List.getElem?_set]
  split
  · split
    · simpa using hx
    · simp
  · have := h i hi
    simpa [List.getD_eq_getElem?_getD] using this
theorem lim_bad {xo xp : List Int} {xm : List (List Int)} {q : Int} {f f1 : Int → Int} {f2 : Int → List Int} (h0 : xo = limL f q) (h1 : xp = limL f1 q) (h2 : xm = limL f2 q) (hq : q < 1 ∨ 200 < q) : rightP ⟨xo, xp, xm⟩ = (0, 10) := by
  subst h0 h1 h2
  refine right_many ⟨?_, ?_⟩ ?_
  · rw [lim_len, lim_len]
  · rw [lim_len, lim_len]
  · show (limL f q).length = 0 ∨ 200 < (limL f q).length
    rw [lim_len]
    omega
theorem lim_right {xo xp : List Int} {xm : List (List Int)} {q : Int} (h0 : xo = limL (fun i => i % 2) q) (h1 : xp = limL (fun i => i % 8) q) (h2 : xm = limL (fun i => [(i * 7) % q]) q) (ha : 1 ≤ q) (hb : q ≤ 200) : isR ⟨xo, xp, xm⟩ = true := by
  subst h0 h1 h2
  have l0 : (limL (fun i : Int => i % 2) q).length = q.toNat := lim_len
  have l1 : (limL (fun i : Int => i % 8) q).length = q.toNat := lim_len
  have l2 : (limL (fun i : Int => [(i * 7) % q]) q).length = q.toNat := lim_len
  refine isR_of ⟨?_, ?_, ?_, ?_, ?_, ?_, ?_, ?_, ?_⟩
  · exact l1.trans l0.symm
  · exact l2.trans l0.symm
  · dsimp only
    omega
  · dsimp only
    omega
  · intro i a b
    have b : i < ((limL (fun i : Int => i % 2) q).length : Int) := b
    dsimp only
    rw [gI_lim a (by omega)]
    omega
  · intro i a b
    have b : i < ((limL (fun i : Int => i % 2) q).length : Int) := b
    dsimp only
    rw [gI_lim a (by omega)]
    omega
  · intro i a b
    have b : i < ((limL (fun i : Int => i % 2) q).length : Int) := b
    dsimp only
    rw [gL_lim a (by omega)]
    exact Nat.one_pos
  · intro i a b k c d
    have b : i < ((limL (fun i : Int => i % 2) q).length : Int) := b
    dsimp only
    have d : k < ((gL (limL (fun i : Int => [(i * 7) % q]) q) i).length : Int) := d
    rw [gL_lim a (by omega)] at d ⊢
    simp only [List.length_singleton] at d
    obtain rfl : k = 0 := by omega
    show 0 ≤ (i * 7) % q ∧ (i * 7) % q < _
    have := Int.emod_nonneg (i * 7) (show q ≠ 0 by omega)
    have := Int.emod_lt_of_pos (i * 7) (show 0 < q by omega)
    omega
  · intro i a b k c d
    have b : i < ((limL (fun i : Int => i % 2) q).length : Int) := b
    have d : k < ((gL (limL (fun i : Int => [(i * 7) % q]) q) i).length : Int) := d
    rw [gL_lim a (by omega)] at d
    simp only [List.length_singleton] at d
    omega
theorem err_all {g : GameL} (hR : isR g = true) : (g.pr.length = g.ow.length ∧ g.mv.length = g.ow.length) ∧ ¬ (g.ow.length = 0 ∨ 200 < g.ow.length) ∧ ∀ j : Nat, j < g.ow.length → g.err j = 0 := by
  have h : (rightP g).2 = 0 := by
    unfold isR at hR
    exact eq_of_beq hR
  obtain ⟨h1, h2, h3, h4, h5⟩ := right_lens' h
  exact ⟨⟨h1, h2⟩, by omega, h5⟩
/-- One position is turned: what is told. -/
theorem lim_one {g h : GameL} (hR : isR g = true) {i e : Int} (a : 0 ≤ i) (b : i < (g.ow.length : Int)) (l0 : h.ow.length = g.ow.length) (l1 : h.pr.length = g.pr.length) (l2 : h.mv.length = g.mv.length) (he : ∀ j : Nat, (j : Int) ≠ i → h.err j = g.err j) (hi : h.err i.toNat = e) :
    rightP h = if e = 0 then (0, 0) else (i, e) := by
  obtain ⟨h1, h2, h3⟩ := err_all hR
  split
  · rename_i e0
    refine right_ok ⟨by omega, by omega⟩ (by omega) fun j hj => ?_
    by_cases e1 : (j : Int) = i
    · rw [← e0, ← hi]
      congr 1
      omega
    · rw [he j e1]
      exact h3 j (by omega)
  · rename_i e0
    refine right_at' ⟨by omega, by omega⟩ (by omega) a (by omega) (fun j hj => ?_) hi e0
    rw [he j (by omega)]
    exact h3 j (by omega)
theorem getD_set {α : Type} {l : List α} {i j : Nat} {v d : α} : (l.set i v).getD j d = if i = j ∧ j < l.length then v else l.getD j d := by
  simp only [List.getD_eq_getElem?_getD, List.getElem?_set]
  by_cases h : i = j
  · subst h
    by_cases h2 : i < l.length
    · simp [h2]
    · simp [h2]
  · simp [h]
section
variable {g : GameL}
theorem posErr_ow {n o p : Int} {row : List Int} (h : posErr n o p row = 0) : (o = 0 ∨ o = 1) ∧ (0 ≤ p ∧ p ≤ 7) ∧ row.length ≠ 0 ∧ rowBad n (-1) row = false := by
  unfold posErr at h
  split at h
  · cases h
  · rename_i h1
    split at h
    · cases h
    · rename_i h2
      split at h
      · cases h
      · rename_i h3
        split at h
        · cases h
        · rename_i h4
          exact ⟨Decidable.not_not.1 h1, Decidable.not_not.1 h2, h3, by simpa using h4⟩
theorem err_at (hR : isR g = true) {i : Int} (a : 0 ≤ i) (b : i < (g.ow.length : Int)) : posErr g.ow.length (g.ow.getD i.toNat 0) (g.pr.getD i.toNat 0) (g.mv.getD i.toNat []) = 0 := (err_all hR).2.2 i.toNat (by omega)
theorem lim_ow (hR : isR g = true) {i o : Int} (a : 0 ≤ i) (b : i < (g.ow.length : Int)) : rightP ⟨g.ow.set i.toNat o, g.pr, g.mv⟩ = if o = 0 ∨ o = 1 then (0, 0) else (i, 14) := by
  have h := posErr_ow (err_at hR a b)
  have h2 := lim_one (h := ⟨g.ow.set i.toNat o, g.pr, g.mv⟩) (e := if o = 0 ∨ o = 1 then 0 else 14) hR a b (by simp) rfl rfl (fun j hj => by
    unfold GameL.err
    simp only [List.length_set, getD_set]
    rw [if_neg (by omega)]) (by
    unfold GameL.err
    simp only [List.length_set, getD_set]
    rw [if_pos ⟨trivial, by omega⟩]
    unfold posErr
    by_cases e : o = 0 ∨ o = 1
    · rw [if_neg (fun k => k e), if_neg (fun k => k h.2.1), if_neg h.2.2.1, if_neg (by rw [h.2.2.2]; decide), if_pos e]
    · rw [if_pos e, if_neg e])
  rw [h2]
  by_cases e : o = 0 ∨ o = 1
  · rw [if_pos e, if_pos e, if_pos rfl]
  · rw [if_neg e, if_neg e, if_neg (by decide)]
theorem lim_pr (hR : isR g = true) {i p : Int} (a : 0 ≤ i) (b : i < (g.ow.length : Int)) : rightP ⟨g.ow, g.pr.set i.toNat p, g.mv⟩ = if 0 ≤ p ∧ p ≤ 7 then (0, 0) else (i, 15) := by
  have h := posErr_ow (err_at hR a b)
  have hl := (err_all hR).1.1
  have h2 := lim_one (h := ⟨g.ow, g.pr.set i.toNat p, g.mv⟩) (e := if 0 ≤ p ∧ p ≤ 7 then 0 else 15) hR a b rfl (by simp) rfl (fun j hj => by
    unfold GameL.err
    simp only [getD_set]
    rw [if_neg (by omega)]) (by
    unfold GameL.err
    simp only [getD_set]
    rw [if_pos ⟨trivial, by omega⟩]
    unfold posErr
    rw [if_neg (fun k => k h.1)]
    by_cases e : 0 ≤ p ∧ p ≤ 7
    · rw [if_neg (fun k => k e), if_neg h.2.2.1, if_neg (by rw [h.2.2.2]; decide), if_pos e]
    · rw [if_pos e, if_neg e])
  rw [h2]
  by_cases e : 0 ≤ p ∧ p ≤ 7
  · rw [if_pos e, if_pos e, if_pos rfl]
  · rw [if_neg e, if_neg e, if_neg (by decide)]
theorem lim_mv (hR : isR g = true) {m : Int} : rightP ⟨g.ow, g.pr, g.mv.set (0 : Int).toNat [m]⟩ = if 0 ≤ m ∧ m < (g.ow.length : Int) then (0, 0) else (0, 16) := by
  have hn := (isR_ok hR).n0
  have h := posErr_ow (err_at hR (Int.le_refl 0) (by omega))
  have hl := (err_all hR).1.2
  have h2 := lim_one (h := ⟨g.ow, g.pr, g.mv.set (0 : Int).toNat [m]⟩) (i := 0) (e := if 0 ≤ m ∧ m < (g.ow.length : Int) then 0 else 16) hR (Int.le_refl 0) (by omega) rfl rfl (by simp) (fun j hj => by
    unfold GameL.err
    simp only [getD_set]
    rw [if_neg (by omega)]) (by
    unfold GameL.err
    simp only [getD_set]
    rw [if_pos ⟨trivial, by omega⟩]
    unfold posErr
    rw [if_neg (fun k => k h.1), if_neg (fun k => k h.2.1), if_neg (by simp)]
    by_cases e : 0 ≤ m ∧ m < (g.ow.length : Int)
    · rw [if_pos e, if_neg]
      simp only [rowBad, Bool.or_false, Bool.or_eq_true, decide_eq_true_iff]
      omega
    · rw [if_neg e, if_pos]
      simp only [rowBad, Bool.or_false, Bool.or_eq_true, decide_eq_true_iff]
      omega)
  rw [h2]
  by_cases e : 0 ≤ m ∧ m < (g.ow.length : Int)
  · rw [if_pos e, if_pos e, if_pos rfl]
  · rw [if_neg e, if_neg e, if_neg (by decide)]
theorem lim_nil (hR : isR g = true) {m : Int} : rightP ⟨g.ow, g.pr, (g.mv.set (0 : Int).toNat [m]).set (0 : Int).toNat []⟩ = (0, 17) := by
  have hn := (isR_ok hR).n0
  have h := posErr_ow (err_at hR (Int.le_refl 0) (by omega))
  have hl := (err_all hR).1.2
  rw [List.set_set]
  have h2 := lim_one (h := ⟨g.ow, g.pr, g.mv.set (0 : Int).toNat []⟩) (i := 0) (e := 17) hR (Int.le_refl 0) (by omega) rfl rfl (by simp) (fun j hj => by
    unfold GameL.err
    simp only [getD_set]
    rw [if_neg (by omega)]) (by
    unfold GameL.err
    simp only [getD_set]
    rw [if_pos ⟨trivial, by omega⟩]
    unfold posErr
    rw [if_neg (fun k => k h.1), if_neg (fun k => k h.2.1), if_pos (by simp)])
  rw [h2]
  rfl
end
theorem lim_no {c : Prop} [Decidable c] {b : Bool} {r x y : Int × Int} (e : r = if c then x else y) (h : b = decide c) (hb : b = false) : r = y := by
  rw [hb] at h
  rw [e, if_neg (of_decide_eq_false h.symm)]
theorem lim_b {c : Prop} [Decidable c] {b : Bool} {r : Int × Int} {i k : Int} (e : r = if c then (0, 0) else (i, k)) (h : b = decide c) (hk : k ≠ 0) : (r.2 == 0) = b := by
  rw [h, e]
  by_cases hc : c
  · rw [if_pos hc, decide_eq_true hc]; rfl
  · rw [if_neg hc, decide_eq_false hc]; simp [hk]
end Go.Proofs.YtkkophhnliplhaaDoor
