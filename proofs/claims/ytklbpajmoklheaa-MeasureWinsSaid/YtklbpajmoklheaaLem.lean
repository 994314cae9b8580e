/-
  Plain lemmas on lists that the walks lean on. No program.
-/
import Derived.Test.YtklbpajmoklheaaFy
namespace Go.Proofs.Ytklbpajmoklheaa
open Go Go.RowKit

theorem take_next {la lb : List Int} {k : Int} (h : la.take k.toNat = lb.take k.toNat) (h0 : 0 ≤ k) (h1 : k < (la.length : Int)) (h2 : k < (lb.length : Int)) (e : gI la k = gI lb k) : la.take (k + 1).toNat = lb.take (k + 1).toNat := by
  rw [show (k + 1).toNat = k.toNat + 1 by omega]
  exact take_succ_eq h (by omega) (by omega) e
theorem take_all {la lb : List Int} {k : Int} (h : la.take k.toNat = lb.take k.toNat) (h1 : (la.length : Int) ≤ k) (h2 : (lb.length : Int) ≤ k) : la = lb := by
  rwa [List.take_of_length_le (by omega), List.take_of_length_le (by omega)] at h
theorem takeL_next {la lb : List (List Int)} {k : Int} (h : la.take k.toNat = lb.take k.toNat) (h0 : 0 ≤ k) (h1 : k < (la.length : Int)) (h2 : k < (lb.length : Int)) (e : decide (gL la k = gL lb k) = true) : la.take (k + 1).toNat = lb.take (k + 1).toNat := by
  have h3 : k.toNat < la.length := by omega
  have h4 : k.toNat < lb.length := by omega
  have e := of_decide_eq_true e
  rw [show (k + 1).toNat = k.toNat + 1 by omega, List.take_succ_eq_append_getElem h3, List.take_succ_eq_append_getElem h4, h]
  simp only [gL, List.getD_eq_getElem?_getD, List.getElem?_eq_getElem h3, List.getElem?_eq_getElem h4, Option.getD_some] at e
  rw [e]
theorem takeL_all {la lb : List (List Int)} {k : Int} (h : la.take k.toNat = lb.take k.toNat) (h1 : (la.length : Int) ≤ k) (h2 : (lb.length : Int) ≤ k) : la = lb := by
  rwa [List.take_of_length_le (by omega), List.take_of_length_le (by omega)] at h
theorem game_ne0 {a b : GameL} (h : decide (a.ow = b.ow) = false) : false = decide (a = b) := (decide_eq_false (fun e => of_decide_eq_false h (by rw [e]))).symm
theorem game_ne1 {a b : GameL} (h : decide (a.pr = b.pr) = false) : false = decide (a = b) := (decide_eq_false (fun e => of_decide_eq_false h (by rw [e]))).symm
theorem game_ne2 {a b : GameL} (h : (((a.mv.length : Nat) : Int) : Int) ≠ ((b.mv.length : Nat) : Int)) : false = decide (a = b) := (decide_eq_false (fun e => h (by rw [e]))).symm
theorem game_ne3 {a b : GameL} {k : Int} (h : decide (gL a.mv k = gL b.mv k) = false) : false = decide (a = b) := (decide_eq_false (fun e => of_decide_eq_false h (by rw [e]))).symm
theorem game_eq {a b : GameL} {k : Int} (h0 : decide (a.ow = b.ow) = true) (h1 : decide (a.pr = b.pr) = true) (h2 : (((a.mv.length : Nat) : Int) : Int) = ((b.mv.length : Nat) : Int)) (h : a.mv.take k.toNat = b.mv.take k.toNat) (h3 : (a.mv.length : Int) ≤ k) : true = decide (a = b) := by
  refine (decide_eq_true ?_).symm
  have e0 := of_decide_eq_true h0
  have e1 := of_decide_eq_true h1
  have e2 := takeL_all h h3 (by omega)
  cases a; cases b
  simp_all
/-- Where a number first stands in a list; -1: nowhere. -/
def idxI (l : List Int) (v : Int) : Int := if v ∈ l then ((l.idxOf v : Nat) : Int) else -1
theorem notin_next {l : List Int} {v k : Int} (h0 : 0 ≤ k) (h1 : k < (l.length : Int)) (h : v ∉ l.take k.toNat) (e : v ≠ gI l k) : v ∉ l.take (k + 1).toNat := by
  rw [show (k + 1).toNat = k.toNat + 1 by omega, List.take_succ_eq_append_getElem (by omega)]
  simp only [gI, List.getD_eq_getElem?_getD, List.getElem?_eq_getElem (show k.toNat < l.length by omega), Option.getD_some] at e
  simp only [List.mem_append, List.mem_singleton, not_or]
  exact ⟨h, e⟩
theorem in_at {l : List Int} {v k : Int} (h0 : 0 ≤ k) (h1 : k < (l.length : Int)) (e : v = gI l k) : v ∈ l := by
  simp only [gI, List.getD_eq_getElem?_getD, List.getElem?_eq_getElem (show k.toNat < l.length by omega), Option.getD_some] at e
  rw [e]
  exact List.getElem_mem _
theorem notin_all {l : List Int} {v k : Int} (h : v ∉ l.take k.toNat) (h1 : (l.length : Int) ≤ k) : v ∉ l := by
  rwa [List.take_of_length_le (by omega)] at h
theorem idx_at {l : List Int} {v k : Int} (h0 : 0 ≤ k) (h1 : k < (l.length : Int)) (h : v ∉ l.take k.toNat) (e : v = gI l k) : k = idxI l v := by
  have hin := in_at h0 h1 e
  rw [idxI, if_pos hin]
  have h3 : k.toNat < l.length := by omega
  have h2 : l = l.take k.toNat ++ l.drop k.toNat := (List.take_append_drop _ _).symm
  have h4 : l.idxOf v = k.toNat := by
    rw [h2, List.idxOf_append, if_neg h, List.drop_eq_getElem_cons h3]
    simp only [gI, List.getD_eq_getElem?_getD, List.getElem?_eq_getElem h3, Option.getD_some] at e
    rw [← e, List.idxOf_cons_self, List.length_take]
    omega
  rw [h4]
  omega
theorem idx_no {l : List Int} {v k : Int} (h : v ∉ l.take k.toNat) (h1 : (l.length : Int) ≤ k) : -1 = idxI l v := by
  rw [idxI, if_neg (notin_all h h1)]
theorem idx_in (l : List Int) (v : Int) : decide (idxI l v ≥ 0) = decide (v ∈ l) := by
  unfold idxI
  split
  · rename_i h
    simp only [h, decide_true, decide_eq_true_eq]
    omega
  · rename_i h
    simp [h]
theorem notin_zero (l : List Int) (v : Int) : v ∉ l.take (0 : Int).toNat := by simp
/-- The first k of what f tells. -/
def limL {α : Type} (f : Int → α) (k : Int) : List α := (List.range k.toNat).map fun (i : Nat) => f (i : Int)
theorem lim_0 {α : Type} {f : Int → α} : [] = limL f 0 := rfl
theorem lim_len {α : Type} {f : Int → α} {k : Int} : (limL f k).length = k.toNat := by unfold limL; rw [List.length_map, List.length_range]
theorem lim_push {α : Type} {f : Int → α} {k : Int} {xs : List α} (h : xs = limL f k) (a : 0 ≤ k) : xs ++ [f k] = limL f (k + 1) := by
  subst h
  unfold limL
  rw [show (k + 1).toNat = k.toNat + 1 by omega, List.range_succ, List.map_append]
  simp only [List.map_cons, List.map_nil]
  rw [show ((k.toNat : Nat) : Int) = k by omega]
theorem gI_lim {f : Int → Int} {k j : Int} (a : 0 ≤ j) (b : j < k) : gI (limL f k) j = f j := by
  simp only [gI, limL, List.getD_eq_getElem?_getD, List.getElem?_map, List.getElem?_range (show j.toNat < k.toNat by omega), Option.map_some, Option.getD_some]
  rw [show ((j.toNat : Nat) : Int) = j by omega]
theorem gL_lim {f : Int → List Int} {k j : Int} (a : 0 ≤ j) (b : j < k) : gL (limL f k) j = f j := by
  simp only [gL, limL, List.getD_eq_getElem?_getD, List.getElem?_map, List.getElem?_range (show j.toNat < k.toNat by omega), Option.map_some, Option.getD_some]
  rw [show ((j.toNat : Nat) : Int) = j by omega]
theorem lim_down {α : Type} {f : Int → α} {n i : Int} {xs : List α} {v : α} (h : xs = limL f (n - 1 - i)) (a : i ≤ n - 1) (hv : v = f (n - 1 - i)) : xs ++ [v] = limL f (n - 1 - (i - 1)) := by
  rw [hv, lim_push h (by omega), show n - 1 - i + 1 = n - 1 - (i - 1) by omega]
end Go.Proofs.Ytklbpajmoklheaa
