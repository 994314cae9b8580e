/-
  Plain: which games are right: the first position that is not, and why. No program.
-/
import Derived.Test.YtklbpajmoklheaaBase
namespace Go.Proofs.Ytklbpajmoklheaa
open Go Go.RowKit

/-- Some move is not above the one before it, or not below n. -/
def rowBad (n : Int) : Int → List Int → Bool
  | _, [] => false
  | last, m :: r => decide (m ≤ last) || decide (n ≤ m) || rowBad n m r
def posErr (n o p : Int) (row : List Int) : Int :=
  if ¬ (o = 0 ∨ o = 1) then 14 else if ¬ (0 ≤ p ∧ p ≤ 7) then 15 else if row.length = 0 then 17 else if rowBad n (-1) row = true then 16 else 0
def GameL.err (G : GameL) (i : Nat) : Int := posErr G.ow.length (G.ow.getD i 0) (G.pr.getD i 0) (G.mv.getD i [])
def rightP (G : GameL) : Int × Int :=
  if ¬ (G.pr.length = G.ow.length ∧ G.mv.length = G.ow.length) then (0, 1)
  else if G.ow.length = 0 ∨ 200 < G.ow.length then (0, 10)
  else match (List.range G.ow.length).find? (fun i => G.err i != 0) with
    | some i => (i, G.err i)
    | none => (0, 0)
theorem right_lens {G : GameL} (h : ¬ (G.pr.length = G.ow.length ∧ G.mv.length = G.ow.length)) : rightP G = (0, 1) := by simp only [rightP]; rw [if_pos h]
theorem right_many {G : GameL} (h : G.pr.length = G.ow.length ∧ G.mv.length = G.ow.length) (h2 : G.ow.length = 0 ∨ 200 < G.ow.length) : rightP G = (0, 10) := by
  simp only [rightP]; rw [if_neg (by simp only [Decidable.not_not]; exact h), if_pos h2]
theorem right_find {G : GameL} (h : G.pr.length = G.ow.length ∧ G.mv.length = G.ow.length) (h2 : ¬ (G.ow.length = 0 ∨ 200 < G.ow.length)) :
    rightP G = match (List.range G.ow.length).find? (fun i => G.err i != 0) with | some i => ((i : Int), G.err i) | none => (0, 0) := by
  simp only [rightP]; rw [if_neg (by simp only [Decidable.not_not]; exact h), if_neg h2]
theorem right_at {G : GameL} (h : G.pr.length = G.ow.length ∧ G.mv.length = G.ow.length) (h2 : ¬ (G.ow.length = 0 ∨ 200 < G.ow.length)) {i : Nat} (hi : i < G.ow.length)
    (hp : ∀ j, j < i → G.err j = 0) (he : G.err i ≠ 0) : rightP G = ((i : Int), G.err i) := by
  rw [right_find h h2]
  have : (List.range G.ow.length).find? (fun i => G.err i != 0) = some i := by
    rw [List.find?_range_eq_some]
    exact ⟨by simpa using he, by simpa using hi, fun j hj => by simpa using hp j hj⟩
  rw [this]
theorem right_ok {G : GameL} (h : G.pr.length = G.ow.length ∧ G.mv.length = G.ow.length) (h2 : ¬ (G.ow.length = 0 ∨ 200 < G.ow.length))
    (hp : ∀ j, j < G.ow.length → G.err j = 0) : rightP G = (0, 0) := by
  rw [right_find h h2]
  have : (List.range G.ow.length).find? (fun i => G.err i != 0) = none := by
    rw [List.find?_eq_none]
    intro x hx
    simpa using hp x (by simpa using hx)
  rw [this]
theorem rowBad_append (n : Int) : ∀ (l : List Int) (last m : Int), rowBad n last (l ++ [m]) = (rowBad n last l || decide (m ≤ l.getLastD last) || decide (n ≤ m))
  | [], last, m => by simp [rowBad]
  | x :: l, last, m => by
    simp only [List.cons_append, rowBad]
    rw [rowBad_append n l x m]
    simp only [Bool.or_assoc, List.getLastD_cons]
/-- How far a row has been looked through. -/
def lastOf (row : List Int) (k : Nat) : Int := (row.take k).getLastD (-1)
theorem lastOf_zero (row : List Int) : lastOf row 0 = -1 := by simp [lastOf]
theorem lastOf_succ (row : List Int) (k : Nat) (h : k < row.length) : lastOf row (k + 1) = row.getD k 0 := by
  simp only [lastOf]
  rw [List.getD_eq_getElem?_getD, List.getElem?_eq_getElem h]
  rw [List.take_succ_eq_append_getElem h, List.getLastD_concat]
  rfl
theorem rowBad_succ (n : Int) (row : List Int) (k : Nat) (h : k < row.length) :
    rowBad n (-1) (row.take (k + 1)) = (rowBad n (-1) (row.take k) || decide (row.getD k 0 ≤ lastOf row k) || decide (n ≤ row.getD k 0)) := by
  rw [List.take_succ_eq_append_getElem h, rowBad_append]
  simp only [lastOf]
  rw [List.getD_eq_getElem?_getD, List.getElem?_eq_getElem h]
  rfl
theorem rowBad_mono (n : Int) : ∀ (l r : List Int) (last : Int), rowBad n last l = true → rowBad n last (l ++ r) = true
  | [], _, _, h => by simp [rowBad] at h
  | x :: l, r, last, h => by
    simp only [rowBad, List.cons_append, Bool.or_eq_true] at h ⊢
    rcases h with h | h
    · exact .inl h
    · exact .inr (rowBad_mono n l r x h)
theorem rowBad_take (n : Int) (row : List Int) (k : Nat) (h : rowBad n (-1) (row.take k) = true) : rowBad n (-1) row = true := by
  have := rowBad_mono n (row.take k) (row.drop k) (-1) h
  rwa [List.take_append_drop] at this
theorem err_14 {G : GameL} {k : Int} (h0 : gI G.ow k ≠ 0) (h1 : gI G.ow k ≠ 1) : G.err k.toNat = 14 := by
  unfold GameL.err posErr
  exact if_pos (fun h => h.elim h0 h1)
theorem err_15 {G : GameL} {k : Int} (h0 : gI G.ow k = 0 ∨ gI G.ow k = 1) (h1 : gI G.pr k < 0 ∨ 7 < gI G.pr k) : G.err k.toNat = 15 := by
  unfold GameL.err posErr
  rw [if_neg (by simp only [Decidable.not_not]; exact h0), if_pos (by show ¬ (0 ≤ gI G.pr k ∧ gI G.pr k ≤ 7); omega)]
theorem err_17 {G : GameL} {k : Int} (h0 : gI G.ow k = 0 ∨ gI G.ow k = 1) (h1 : 0 ≤ gI G.pr k ∧ gI G.pr k ≤ 7) (h2 : (gL G.mv k).length = 0) : G.err k.toNat = 17 := by
  unfold GameL.err posErr
  rw [if_neg (by simp only [Decidable.not_not]; exact h0), if_neg (by simp only [Decidable.not_not]; exact h1), if_pos (by exact h2)]
theorem err_16 {G : GameL} {k : Int} (h0 : gI G.ow k = 0 ∨ gI G.ow k = 1) (h1 : 0 ≤ gI G.pr k ∧ gI G.pr k ≤ 7) (h2 : (gL G.mv k).length ≠ 0) (h3 : rowBad G.ow.length (-1) (gL G.mv k) = true) : G.err k.toNat = 16 := by
  unfold GameL.err posErr
  rw [if_neg (by simp only [Decidable.not_not]; exact h0), if_neg (by simp only [Decidable.not_not]; exact h1), if_neg (by exact h2), if_pos (by exact h3)]
theorem err_0 {G : GameL} {k : Int} (h0 : gI G.ow k = 0 ∨ gI G.ow k = 1) (h1 : 0 ≤ gI G.pr k ∧ gI G.pr k ≤ 7) (h2 : (gL G.mv k).length ≠ 0) (h3 : rowBad G.ow.length (-1) (gL G.mv k) = false) : G.err k.toNat = 0 := by
  unfold GameL.err posErr
  rw [if_neg (by simp only [Decidable.not_not]; exact h0), if_neg (by simp only [Decidable.not_not]; exact h1), if_neg (by exact h2), if_neg (by show ¬ rowBad G.ow.length (-1) (gL G.mv k) = true; rw [h3]; decide)]
theorem right_at' {G : GameL} {k e : Int} (h : G.pr.length = G.ow.length ∧ G.mv.length = G.ow.length) (h2 : ¬ (G.ow.length = 0 ∨ 200 < G.ow.length)) (h0 : 0 ≤ k) (h1 : k < (G.ow.length : Int))
    (hp : ∀ j : Nat, (j : Int) < k → G.err j = 0) (he : G.err k.toNat = e) (hne : e ≠ 0) : rightP G = (k, e) := by
  rw [right_at h h2 (i := k.toNat) (by omega) (fun j hj => hp j (by omega)) (by rw [he]; exact hne), he, show ((k.toNat : Nat) : Int) = k by omega]
theorem right_ok' {G : GameL} {k : Int} (h : G.pr.length = G.ow.length ∧ G.mv.length = G.ow.length) (h2 : ¬ (G.ow.length = 0 ∨ 200 < G.ow.length)) (h1 : (G.ow.length : Int) ≤ k)
    (hp : ∀ j : Nat, (j : Int) < k → G.err j = 0) : rightP G = (0, 0) := right_ok h h2 (fun j hj => hp j (by omega))
theorem err_next {G : GameL} {k : Int} (h0 : 0 ≤ k) (hp : ∀ j : Nat, (j : Int) < k → G.err j = 0) (he : G.err k.toNat = 0) : ∀ j : Nat, (j : Int) < k + 1 → G.err j = 0 := fun j hj => by
  by_cases h : (j : Int) < k
  · exact hp j h
  · rw [show j = k.toNat by omega]
    exact he
theorem bad_at {n : Int} {row : List Int} {q : Int} (h0 : 0 ≤ q) (h1 : q < (row.length : Int)) (h : gI row q ≤ lastOf row q.toNat ∨ n ≤ gI row q) : rowBad n (-1) row = true := by
  apply rowBad_take n row (q.toNat + 1)
  rw [rowBad_succ n row q.toNat (by omega)]
  simp only [gI] at h
  simp only [Bool.or_eq_true, decide_eq_true_eq]
  rcases h with h | h
  · exact .inl (.inr h)
  · exact .inr h
theorem bad_next {n : Int} {row : List Int} {q : Int} (h0 : 0 ≤ q) (h1 : q < (row.length : Int)) (hb : rowBad n (-1) (row.take q.toNat) = false) (h : lastOf row q.toNat < gI row q) (h2 : gI row q < n) : rowBad n (-1) (row.take (q + 1).toNat) = false := by
  rw [show (q + 1).toNat = q.toNat + 1 by omega, rowBad_succ n row q.toNat (by omega), hb]
  simp only [gI] at h h2
  simp only [Bool.false_or, Bool.or_eq_false_iff, decide_eq_false_iff_not]
  omega
theorem bad_all {n : Int} {row : List Int} {q : Int} (hb : rowBad n (-1) (row.take q.toNat) = false) (h : (row.length : Int) ≤ q) : rowBad n (-1) row = false := by
  rwa [List.take_of_length_le (by omega)] at hb
theorem last_next {row : List Int} {q : Int} (h0 : 0 ≤ q) (h1 : q < (row.length : Int)) : gI row q = lastOf row (q + 1).toNat := by
  rw [show (q + 1).toNat = q.toNat + 1 by omega, lastOf_succ row q.toNat (by omega)]
  rfl
theorem last_at {row : List Int} {q : Int} (h0 : 0 < q) (h1 : q ≤ (row.length : Int)) : gI row (q - 1) = lastOf row q.toNat := by
  have := last_next (row := row) (q := q - 1) (by omega) (by omega)
  rwa [show q - 1 + 1 = q by omega] at this
theorem last_0 {row : List Int} : lastOf row (0 : Int).toNat = -1 := lastOf_zero row
theorem last_ge {n : Int} {row : List Int} : ∀ {q : Nat}, rowBad n (-1) (row.take q) = false → -1 ≤ lastOf row q
  | 0, _ => by rw [lastOf_zero]; omega
  | q + 1, h => by
    by_cases hq : q < row.length
    · rw [lastOf_succ row q hq]
      rw [rowBad_succ n row q hq] at h
      simp only [Bool.or_eq_false_iff, decide_eq_false_iff_not] at h
      have := last_ge (q := q) h.1.1
      omega
    · have h2 : row.take (q + 1) = row.take q := by rw [List.take_of_length_le (by omega), List.take_of_length_le (by omega)]
      have : lastOf row (q + 1) = lastOf row q := by simp only [lastOf, h2]
      rw [this]
      exact last_ge (by rw [h2] at h; exact h)
theorem bad_at2 {n : Int} {row : List Int} {q : Int} (h0 : 0 ≤ q) (h1 : q < (row.length : Int)) (hb : rowBad n (-1) (row.take q.toNat) = false) (h : gI row q < 0 ∨ n ≤ gI row q ∨ (0 < q ∧ gI row q ≤ gI row (q - 1))) : rowBad n (-1) row = true := by
  have hg := last_ge hb
  refine bad_at (q := q) h0 h1 ?_
  rcases h with h | h | ⟨h2, h3⟩
  · exact .inl (by omega)
  · exact .inr h
  · exact .inl (by rw [← last_at h2 (by omega)]; exact h3)
theorem bad_next2 {n : Int} {row : List Int} {q : Int} (h0 : 0 ≤ q) (h1 : q < (row.length : Int)) (hb : rowBad n (-1) (row.take q.toNat) = false) (hz : 0 ≤ gI row q) (h2 : gI row q < n) (h : q ≤ 0 ∨ gI row (q - 1) < gI row q) : rowBad n (-1) (row.take (q + 1).toNat) = false := by
  refine bad_next h0 h1 hb ?_ h2
  by_cases hq : 0 < q
  · rw [← last_at hq (by omega)]
    omega
  · obtain rfl : q = 0 := by omega
    rw [last_0]
    omega
/-- Is a game right? -/
def isR (g : GameL) : Bool := ((rightP g).2 : Int) == 0
theorem ret2_ii {v1 v2 : Value} {a b : Int} {p : Int × Int} (hp : p = (a, b)) (h1 : v1 = .int .i64 a) (h2 : v2 = .int .i64 b) : Ending.returned (.tuple #[v1, v2]) = .returned (.tuple #[.int .i64 p.1, .int .i64 p.2]) := by rw [hp, h1, h2]
end Go.Proofs.Ytklbpajmoklheaa
