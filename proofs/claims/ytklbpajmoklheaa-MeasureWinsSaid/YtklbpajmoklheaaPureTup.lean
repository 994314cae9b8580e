/-
  Plain: tuples of counters, their order, how many positions have a priority. No program.
-/
import Derived.Test.YtklbpajmoklheaaFq
set_option linter.unusedVariables false
set_option linter.unusedSimpArgs false
namespace Go.Proofs.Ytklbpajmoklheaa
open Go Go.RowKit

structure Tup where
  top : Bool
  c0 : Int
  c1 : Int
  c2 : Int
  c3 : Int
  deriving DecidableEq
def tup0 : Tup := ⟨false, 0, 0, 0, 0⟩
def tupT : Tup := ⟨true, 0, 0, 0, 0⟩
instance : Enc Tup := ⟨fun t => [.bool t.top, .int .i64 t.c0, .int .i64 t.c1, .int .i64 t.c2, .int .i64 t.c3], 5, tup0, fun _ => rfl, fun x u h => by simp at h; rcases h with rfl | rfl | rfl | rfl | rfl <;> rfl, by decide, 40, by decide⟩
def tupV (t : Tup) : Value := .agg #[.bool t.top, .int .i64 t.c0, .int .i64 t.c1, .int .i64 t.c2, .int .i64 t.c3]
def tupC (t : Tup) : List Value := [.bool t.top, .int .i64 t.c0, .int .i64 t.c1, .int .i64 t.c2, .int .i64 t.c3]
abbrev gT (l : List Tup) (i : Int) : Tup := gA l i
theorem tup_beq (a b : Tup) : ((a.top == b.top) && ((((a.c0 : Int) == b.c0) && (((a.c1 : Int) == b.c1) && (((a.c2 : Int) == b.c2) && (((a.c3 : Int) == b.c3) && true)))) && true)) = decide (a = b) := by
  rw [Bool.eq_iff_iff]
  obtain ⟨a0, a1, a2, a3, a4⟩ := a
  obtain ⟨b0, b1, b2, b3, b4⟩ := b
  simp [and_assoc]
/-- Two tuples from a priority on. -/
def cmpT (a b : Tup) (p : Int) : Int :=
  if a.top = true ∧ b.top = true then 0 else if a.top = true then 1 else if b.top = true then -1
  else if 7 < p then 0 else if a.c3 < b.c3 then -1 else if a.c3 > b.c3 then 1
  else if 5 < p then 0 else if a.c2 < b.c2 then -1 else if a.c2 > b.c2 then 1
  else if 3 < p then 0 else if a.c1 < b.c1 then -1 else if a.c1 > b.c1 then 1
  else if 1 < p then 0 else if a.c0 < b.c0 then -1 else if a.c0 > b.c0 then 1 else 0
def lowT (a b : Tup) (p : Int) : Int :=
  if 7 < p then 0 else if a.c3 < b.c3 then -1 else if a.c3 > b.c3 then 1
  else if 5 < p then 0 else if a.c2 < b.c2 then -1 else if a.c2 > b.c2 then 1
  else if 3 < p then 0 else if a.c1 < b.c1 then -1 else if a.c1 > b.c1 then 1
  else if 1 < p then 0 else if a.c0 < b.c0 then -1 else if a.c0 > b.c0 then 1 else 0
theorem low_ff {a b : Tup} {p : Int} (ha : a.top = false) (hb : b.top = false) : cmpT a b p = lowT a b p := by simp [cmpT, lowT, ha, hb]
theorem cmp_tt {a b : Tup} {p : Int} (ha : a.top = true) (hb : b.top = true) : 0 = cmpT a b p := by simp [cmpT, ha, hb]
theorem cmp_tf {a b : Tup} {p : Int} (ha : a.top = true) (hb : b.top = false) : 1 = cmpT a b p := by simp [cmpT, ha, hb]
theorem cmp_ft {a b : Tup} {p : Int} (ha : a.top = false) (hb : b.top = true) : -1 = cmpT a b p := by simp [cmpT, ha, hb]
/-- How many are q. -/
def cnt (l : List Int) (q : Int) : Int := ((l.countP (· == q) : Nat) : Int)
theorem cnt_zero (l : List Int) (q : Int) : cnt (l.take (0 : Int).toNat) q = 0 := by simp [cnt]
theorem cnt_next {l : List Int} {j : Int} (q : Int) (h0 : 0 ≤ j) (h1 : j < (l.length : Int)) : cnt (l.take (j + 1).toNat) q = if gI l j = q then cnt (l.take j.toNat) q + 1 else cnt (l.take j.toNat) q := by
  have h2 : j.toNat < l.length := by omega
  rw [show (j + 1).toNat = j.toNat + 1 by omega, List.take_succ_eq_append_getElem h2]
  simp only [cnt, List.countP_append, gI, List.getD_eq_getElem?_getD, List.getElem?_eq_getElem h2, Option.getD_some, List.countP_singleton]
  by_cases h : l[j.toNat] = q
  · simp [h]
  · simp [h]
theorem cnt_all {l : List Int} {j : Int} (q : Int) (h : (l.length : Int) ≤ j) : cnt (l.take j.toNat) q = cnt l q := by rw [List.take_of_length_le (by omega)]
theorem cnt_le (l : List Int) (q : Int) : cnt l q ≤ l.length := by
  unfold cnt
  have := List.countP_le_length (p := (· == q)) (l := l)
  omega
theorem cnt_ge (l : List Int) (q : Int) : 0 ≤ cnt l q := by unfold cnt; omega
theorem gI4 {a b c d : Int} (i : Int) (h0 : 0 ≤ i) (h1 : i < 4) : gI [a, b, c, d] i = if i = 0 then a else if i = 1 then b else if i = 2 then c else d := by
  obtain rfl | rfl | rfl | rfl : i = 0 ∨ i = 1 ∨ i = 2 ∨ i = 3 := by omega
  all_goals rfl
theorem gI4_b {a b c d B : Int} {i : Int} (h0 : 0 ≤ i) (h1 : i < 4) (ha : 0 ≤ a ∧ a ≤ B) (hb : 0 ≤ b ∧ b ≤ B) (hc : 0 ≤ c ∧ c ≤ B) (hd : 0 ≤ d ∧ d ≤ B) : 0 ≤ gI [a, b, c, d] i ∧ gI [a, b, c, d] i ≤ B := by
  rw [gI4 i h0 h1]
  split
  · exact ha
  · split
    · exact hb
    · split
      · exact hc
      · exact hd
/-- How many positions have the odd priorities. -/
def cs4 (l : List Int) : List Value := [.int .i64 (cnt l 1), .int .i64 (cnt l 3), .int .i64 (cnt l 5), .int .i64 (cnt l 7)]
theorem v4_eq {a b c d a' b' c' d' : Int} (h0 : a = a') (h1 : b = b') (h2 : c = c') (h3 : d = d') : ([.int .i64 a, .int .i64 b, .int .i64 c, .int .i64 d] : List Value) = [.int .i64 a', .int .i64 b', .int .i64 c', .int .i64 d'] := by rw [h0, h1, h2, h3]
theorem cs4_no {l : List Int} {j : Int} (h0 : 0 ≤ j) (h1 : j < (l.length : Int)) (h : ¬ (0 < gI l j ∧ gI l j < 8 ∧ (gI l j).tmod 2 = 1)) :
    ([.int .i64 (cnt (l.take j.toNat) 1), .int .i64 (cnt (l.take j.toNat) 3), .int .i64 (cnt (l.take j.toNat) 5), .int .i64 (cnt (l.take j.toNat) 7)] : List Value) = [.int .i64 (cnt (l.take (j + 1).toNat) 1), .int .i64 (cnt (l.take (j + 1).toNat) 3), .int .i64 (cnt (l.take (j + 1).toNat) 5), .int .i64 (cnt (l.take (j + 1).toNat) 7)] := by
  have hh : ∀ q : Int, (q = 1 ∨ q = 3 ∨ q = 5 ∨ q = 7) → gI l j ≠ q := fun q hq he => h (by rw [he]; rcases hq with rfl | rfl | rfl | rfl <;> decide)
  refine v4_eq ?_ ?_ ?_ ?_
  · rw [cnt_next 1 h0 h1, if_neg (hh 1 (by omega))]
  · rw [cnt_next 3 h0 h1, if_neg (hh 3 (by omega))]
  · rw [cnt_next 5 h0 h1, if_neg (hh 5 (by omega))]
  · rw [cnt_next 7 h0 h1, if_neg (hh 7 (by omega))]
theorem tdiv_odd {p : Int} (h : 0 < p ∧ p < 8 ∧ p.tmod 2 = 1) : 0 ≤ p.tdiv 2 ∧ p.tdiv 2 < 4 ∧ p = 2 * p.tdiv 2 + 1 := by
  obtain ⟨h1, h2, h3⟩ := h
  have := Int.mul_tdiv_add_tmod p 2
  omega
theorem cs4_yes {l : List Int} {j : Int} (h0 : 0 ≤ j) (h1 : j < (l.length : Int)) (h : 0 < gI l j ∧ gI l j < 8 ∧ (gI l j).tmod 2 = 1) {d : Int} (hd : d = (gI l j).tdiv 2) :
    ([.int .i64 (if d = 0 then gI [cnt (l.take j.toNat) 1, cnt (l.take j.toNat) 3, cnt (l.take j.toNat) 5, cnt (l.take j.toNat) 7] d + 1 else cnt (l.take j.toNat) 1), .int .i64 (if d = 1 then gI [cnt (l.take j.toNat) 1, cnt (l.take j.toNat) 3, cnt (l.take j.toNat) 5, cnt (l.take j.toNat) 7] d + 1 else cnt (l.take j.toNat) 3), .int .i64 (if d = 2 then gI [cnt (l.take j.toNat) 1, cnt (l.take j.toNat) 3, cnt (l.take j.toNat) 5, cnt (l.take j.toNat) 7] d + 1 else cnt (l.take j.toNat) 5), .int .i64 (if d = 3 then gI [cnt (l.take j.toNat) 1, cnt (l.take j.toNat) 3, cnt (l.take j.toNat) 5, cnt (l.take j.toNat) 7] d + 1 else cnt (l.take j.toNat) 7)] : List Value) =
     [.int .i64 (cnt (l.take (j + 1).toNat) 1), .int .i64 (cnt (l.take (j + 1).toNat) 3), .int .i64 (cnt (l.take (j + 1).toNat) 5), .int .i64 (cnt (l.take (j + 1).toNat) 7)] := by
  obtain ⟨k0, k1, k2⟩ := tdiv_odd h
  rw [← hd] at k0 k1 k2
  rw [gI4 d k0 k1, cnt_next 1 h0 h1, cnt_next 3 h0 h1, cnt_next 5 h0 h1, cnt_next 7 h0 h1, k2]
  obtain rfl | rfl | rfl | rfl : d = 0 ∨ d = 1 ∨ d = 2 ∨ d = 3 := by omega
  all_goals rfl
theorem cs4_b {l : List Int} {j : Int} {p : Int} : cnt (l.take j.toNat) p ≤ l.length := by
  have := cnt_le (l.take j.toNat) p
  have h2 : (l.take j.toNat).length ≤ l.length := List.length_take_le' _ _
  omega
/-- Up: what a position of priority p needs at least, what is ahead being t; n0.. the numbers of positions. -/
def keepT (p : Int) (t : Tup) : Tup := ⟨false, if 1 ≥ p then t.c0 else 0, if 3 ≥ p then t.c1 else 0, if 5 ≥ p then t.c2 else 0, if 7 ≥ p then t.c3 else 0⟩
/-- One more at the lowest counter from p on that is not full. -/
def incT (n0 n1 n2 n3 p : Int) (t : Tup) : Tup :=
  if 1 ≥ p ∧ t.c0 < n0 then ⟨false, t.c0 + 1, t.c1, t.c2, t.c3⟩
  else if 3 ≥ p ∧ t.c1 < n1 then ⟨false, if 1 ≥ p then 0 else t.c0, t.c1 + 1, t.c2, t.c3⟩
  else if 5 ≥ p ∧ t.c2 < n2 then ⟨false, if 1 ≥ p then 0 else t.c0, if 3 ≥ p then 0 else t.c1, t.c2 + 1, t.c3⟩
  else if 7 ≥ p ∧ t.c3 < n3 then ⟨false, if 1 ≥ p then 0 else t.c0, if 3 ≥ p then 0 else t.c1, if 5 ≥ p then 0 else t.c2, t.c3 + 1⟩
  else tupT
def odd1 (p : Int) : Prop := ¬ IntKind.i64.wrap ((BitVec.ofInt 64 p &&& BitVec.ofInt 64 1).toNat : Int) = 0
instance (p : Int) : Decidable (odd1 p) := by unfold odd1; infer_instance
def upT (n0 n1 n2 n3 p : Int) (t : Tup) : Tup := if t.top = true then tupT else if odd1 p then incT n0 n1 n2 n3 p (keepT p t) else keepT p t
/-- The first loop of Up, k counters having been seen. -/
def kp (p k : Int) (q j c : Int) : Int := if j < k ∧ q < p then 0 else c
theorem kp0 {p q j c : Int} (hj : 0 ≤ j) : c = kp p 0 q j c := by unfold kp; rw [if_neg (by omega)]
theorem kp4 {p q j c : Int} (hj : j < 4) : kp p 4 q j c = if q ≥ p then c else 0 := by unfold kp; split <;> split <;> omega
theorem kp_keep {p k q j c : Int} (h : 2 * k + 1 ≥ p) (hq : q = 2 * j + 1) : kp p k q j c = kp p (k + 1) q j c := by unfold kp; split <;> split <;> omega
theorem kp_zero {p k q j c : Int} (h : ¬ 2 * k + 1 ≥ p) (hq : q = 2 * j + 1) : (if k = j then 0 else kp p k q j c) = kp p (k + 1) q j c := by unfold kp; split <;> split <;> (try split) <;> omega
/-- The second loop, k counters having been seen. -/
def k2 (p k : Int) (q j c : Int) : Int := if j < k ∧ q ≥ p then 0 else c
theorem k20 {p q j c : Int} (hj : 0 ≤ j) : c = k2 p 0 q j c := by unfold k2; rw [if_neg (by omega)]
theorem k2_keep {p k q j c : Int} (h : ¬ 2 * k + 1 ≥ p) (hq : q = 2 * j + 1) : k2 p k q j c = k2 p (k + 1) q j c := by unfold k2; split <;> split <;> omega
theorem k2_zero {p k q j c : Int} (h : 2 * k + 1 ≥ p) (hq : q = 2 * j + 1) : (if k = j then 0 else k2 p k q j c) = k2 p (k + 1) q j c := by unfold k2; split <;> split <;> (try split) <;> omega
theorem v5_eq {x y : Bool} {a b c d a' b' c' d' : Int} (h : x = y) (h0 : a = a') (h1 : b = b') (h2 : c = c') (h3 : d = d') : ([.bool x, .int .i64 a, .int .i64 b, .int .i64 c, .int .i64 d] : List Value) = [.bool y, .int .i64 a', .int .i64 b', .int .i64 c', .int .i64 d'] := by rw [h, h0, h1, h2, h3]
/-- The counters below k that count are all full. -/
def full4 (n0 n1 n2 n3 p k : Int) (t : Tup) : Prop := (0 < k → 1 ≥ p → n0 ≤ t.c0) ∧ (1 < k → 3 ≥ p → n1 ≤ t.c1) ∧ (2 < k → 5 ≥ p → n2 ≤ t.c2) ∧ (3 < k → 7 ≥ p → n3 ≤ t.c3)
theorem full0 {n0 n1 n2 n3 p : Int} {t : Tup} : full4 n0 n1 n2 n3 p 0 t := by unfold full4; omega
theorem full_keep {n0 n1 n2 n3 p k : Int} {t : Tup} (h : full4 n0 n1 n2 n3 p k t) (h0 : 0 ≤ k) (h1 : ¬ 2 * k + 1 ≥ p) : full4 n0 n1 n2 n3 p (k + 1) t := by unfold full4 at *; omega
theorem full_next {n0 n1 n2 n3 p k : Int} {t : Tup} (h : full4 n0 n1 n2 n3 p k t) (h0 : 0 ≤ k) (h4 : k < 4) (h2 : ¬ gI [k2 p k 1 0 t.c0, k2 p k 3 1 t.c1, k2 p k 5 2 t.c2, k2 p k 7 3 t.c3] k < gI [n0, n1, n2, n3] k) : full4 n0 n1 n2 n3 p (k + 1) t := by
  rw [gI4 k h0 h4, gI4 k h0 h4] at h2
  unfold full4 k2 at *
  obtain rfl | rfl | rfl | rfl : k = 0 ∨ k = 1 ∨ k = 2 ∨ k = 3 := by omega
  all_goals simp at h2 h ⊢
  all_goals omega
theorem inc_at {n0 n1 n2 n3 p k : Int} {t : Tup} (h : full4 n0 n1 n2 n3 p k t) (h0 : 0 ≤ k) (h4 : k < 4) (hp : 2 * k + 1 ≥ p) (h2 : gI [k2 p k 1 0 t.c0, k2 p k 3 1 t.c1, k2 p k 5 2 t.c2, k2 p k 7 3 t.c3] k < gI [n0, n1, n2, n3] k) {x : Bool} (hx : x = false) {v : Int} (hv : v = gI [k2 p k 1 0 t.c0, k2 p k 3 1 t.c1, k2 p k 5 2 t.c2, k2 p k 7 3 t.c3] k + 1) :
    (⟨x, if k = 0 then v else k2 p k 1 0 t.c0, if k = 1 then v else k2 p k 3 1 t.c1, if k = 2 then v else k2 p k 5 2 t.c2, if k = 3 then v else k2 p k 7 3 t.c3⟩ : Tup) = incT n0 n1 n2 n3 p t := by
  subst hx
  subst hv
  rw [gI4 k h0 h4] at h2 ⊢
  rw [gI4 k h0 h4] at h2
  unfold full4 k2 at *
  unfold incT
  obtain rfl | rfl | rfl | rfl : k = 0 ∨ k = 1 ∨ k = 2 ∨ k = 3 := by omega
  · simp at h2 h
    exact Eq.trans (by simp) (if_pos (by omega)).symm
  · simp at h2 h
    refine Eq.trans ?_ (if_neg (by omega)).symm
    exact Eq.trans (by simp) (if_pos (by omega)).symm
  · simp at h2 h
    refine Eq.trans ?_ (if_neg (by omega)).symm
    refine Eq.trans ?_ (if_neg (by omega)).symm
    exact Eq.trans (by simp) (if_pos (by omega)).symm
  · simp at h2 h
    refine Eq.trans ?_ (if_neg (by omega)).symm
    refine Eq.trans ?_ (if_neg (by omega)).symm
    refine Eq.trans ?_ (if_neg (by omega)).symm
    exact Eq.trans (by simp) (if_pos (by omega)).symm
theorem inc_no {n0 n1 n2 n3 p k : Int} {t : Tup} (h : full4 n0 n1 n2 n3 p k t) (h4 : 4 ≤ k) : tupT = incT n0 n1 n2 n3 p t := by
  unfold full4 at h
  unfold incT
  rw [if_neg (by omega), if_neg (by omega), if_neg (by omega), if_neg (by omega)]
/-- The counters above k count, and are alike. -/
def DownT (a b : Tup) (p k : Int) : Prop := ∀ j : Int, k < j → j ≤ 3 → p ≤ 2 * j + 1 ∧ gI [a.c0, a.c1, a.c2, a.c3] j = gI [b.c0, b.c1, b.c2, b.c3] j
theorem down0 {a b : Tup} {p : Int} : DownT a b p 3 := fun j h1 h2 => by omega
theorem down_next {a b : Tup} {p k : Int} (h : DownT a b p k) (hp : 2 * k + 1 ≥ p) (h1 : ¬ gI [a.c0, a.c1, a.c2, a.c3] k < gI [b.c0, b.c1, b.c2, b.c3] k) (h2 : ¬ gI [a.c0, a.c1, a.c2, a.c3] k > gI [b.c0, b.c1, b.c2, b.c3] k) : DownT a b p (k - 1) := fun j a1 a2 => by
  by_cases e : j = k
  · subst e
    exact ⟨by omega, by omega⟩
  · exact h j (by omega) a2
theorem g4_0 (x0 x1 x2 x3 : Int) : gI [x0, x1, x2, x3] 0 = x0 := rfl
theorem g4_1 (x0 x1 x2 x3 : Int) : gI [x0, x1, x2, x3] 1 = x1 := rfl
theorem g4_2 (x0 x1 x2 x3 : Int) : gI [x0, x1, x2, x3] 2 = x2 := rfl
theorem g4_3 (x0 x1 x2 x3 : Int) : gI [x0, x1, x2, x3] 3 = x3 := rfl
theorem down_lt {a b : Tup} {p k : Int} (ha : a.top = false) (hb : b.top = false) (h : DownT a b p k) (k0 : 0 ≤ k) (k1 : k ≤ 3) (hp : 2 * k + 1 ≥ p) (hc : gI [a.c0, a.c1, a.c2, a.c3] k < gI [b.c0, b.c1, b.c2, b.c3] k) : -1 = cmpT a b p := by
  rw [low_ff ha hb]
  unfold lowT
  obtain rfl | rfl | rfl | rfl : k = 0 ∨ k = 1 ∨ k = 2 ∨ k = 3 := by omega
  · obtain ⟨p1, e1⟩ := h 1 (by omega) (by omega)
    replace e1 : a.c1 = b.c1 := e1
    obtain ⟨p2, e2⟩ := h 2 (by omega) (by omega)
    replace e2 : a.c2 = b.c2 := e2
    obtain ⟨p3, e3⟩ := h 3 (by omega) (by omega)
    replace e3 : a.c3 = b.c3 := e3
    replace hc : a.c0 < b.c0 := hc
    rw [if_neg (by omega), if_neg (by omega), if_neg (by omega), if_neg (by omega), if_neg (by omega), if_neg (by omega), if_neg (by omega), if_neg (by omega), if_neg (by omega), if_neg (by omega), if_pos (by omega)]
  · obtain ⟨p2, e2⟩ := h 2 (by omega) (by omega)
    replace e2 : a.c2 = b.c2 := e2
    obtain ⟨p3, e3⟩ := h 3 (by omega) (by omega)
    replace e3 : a.c3 = b.c3 := e3
    replace hc : a.c1 < b.c1 := hc
    rw [if_neg (by omega), if_neg (by omega), if_neg (by omega), if_neg (by omega), if_neg (by omega), if_neg (by omega), if_neg (by omega), if_pos (by omega)]
  · obtain ⟨p3, e3⟩ := h 3 (by omega) (by omega)
    replace e3 : a.c3 = b.c3 := e3
    replace hc : a.c2 < b.c2 := hc
    rw [if_neg (by omega), if_neg (by omega), if_neg (by omega), if_neg (by omega), if_pos (by omega)]
  · replace hc : a.c3 < b.c3 := hc
    rw [if_neg (by omega), if_pos (by omega)]
theorem down_gt {a b : Tup} {p k : Int} (ha : a.top = false) (hb : b.top = false) (h : DownT a b p k) (k0 : 0 ≤ k) (k1 : k ≤ 3) (hp : 2 * k + 1 ≥ p) (hc : gI [a.c0, a.c1, a.c2, a.c3] k > gI [b.c0, b.c1, b.c2, b.c3] k) : 1 = cmpT a b p := by
  rw [low_ff ha hb]
  unfold lowT
  obtain rfl | rfl | rfl | rfl : k = 0 ∨ k = 1 ∨ k = 2 ∨ k = 3 := by omega
  · obtain ⟨p1, e1⟩ := h 1 (by omega) (by omega)
    replace e1 : a.c1 = b.c1 := e1
    obtain ⟨p2, e2⟩ := h 2 (by omega) (by omega)
    replace e2 : a.c2 = b.c2 := e2
    obtain ⟨p3, e3⟩ := h 3 (by omega) (by omega)
    replace e3 : a.c3 = b.c3 := e3
    replace hc : a.c0 > b.c0 := hc
    rw [if_neg (by omega), if_neg (by omega), if_neg (by omega), if_neg (by omega), if_neg (by omega), if_neg (by omega), if_neg (by omega), if_neg (by omega), if_neg (by omega), if_neg (by omega), if_neg (by omega), if_pos (by omega)]
  · obtain ⟨p2, e2⟩ := h 2 (by omega) (by omega)
    replace e2 : a.c2 = b.c2 := e2
    obtain ⟨p3, e3⟩ := h 3 (by omega) (by omega)
    replace e3 : a.c3 = b.c3 := e3
    replace hc : a.c1 > b.c1 := hc
    rw [if_neg (by omega), if_neg (by omega), if_neg (by omega), if_neg (by omega), if_neg (by omega), if_neg (by omega), if_neg (by omega), if_neg (by omega), if_pos (by omega)]
  · obtain ⟨p3, e3⟩ := h 3 (by omega) (by omega)
    replace e3 : a.c3 = b.c3 := e3
    replace hc : a.c2 > b.c2 := hc
    rw [if_neg (by omega), if_neg (by omega), if_neg (by omega), if_neg (by omega), if_neg (by omega), if_pos (by omega)]
  · replace hc : a.c3 > b.c3 := hc
    rw [if_neg (by omega), if_neg (by omega), if_pos (by omega)]
theorem down_end {a b : Tup} {p k : Int} (ha : a.top = false) (hb : b.top = false) (h : DownT a b p k) (k0 : -1 ≤ k) (k1 : k ≤ 3) (hc : k < 0 ∨ ¬ 2 * k + 1 ≥ p) : 0 = cmpT a b p := by
  rw [low_ff ha hb]
  unfold lowT
  obtain rfl | rfl | rfl | rfl | rfl : k = -1 ∨ k = 0 ∨ k = 1 ∨ k = 2 ∨ k = 3 := by omega
  · obtain ⟨p0, e0⟩ := h 0 (by omega) (by omega)
    replace e0 : a.c0 = b.c0 := e0
    obtain ⟨p1, e1⟩ := h 1 (by omega) (by omega)
    replace e1 : a.c1 = b.c1 := e1
    obtain ⟨p2, e2⟩ := h 2 (by omega) (by omega)
    replace e2 : a.c2 = b.c2 := e2
    obtain ⟨p3, e3⟩ := h 3 (by omega) (by omega)
    replace e3 : a.c3 = b.c3 := e3
    rw [if_neg (by omega), if_neg (by omega), if_neg (by omega), if_neg (by omega), if_neg (by omega), if_neg (by omega), if_neg (by omega), if_neg (by omega), if_neg (by omega), if_neg (by omega), if_neg (by omega), if_neg (by omega)]
  · obtain ⟨p1, e1⟩ := h 1 (by omega) (by omega)
    replace e1 : a.c1 = b.c1 := e1
    obtain ⟨p2, e2⟩ := h 2 (by omega) (by omega)
    replace e2 : a.c2 = b.c2 := e2
    obtain ⟨p3, e3⟩ := h 3 (by omega) (by omega)
    replace e3 : a.c3 = b.c3 := e3
    rw [if_neg (by omega), if_neg (by omega), if_neg (by omega), if_neg (by omega), if_neg (by omega), if_neg (by omega), if_neg (by omega), if_neg (by omega), if_neg (by omega), if_pos (by omega)]
  · obtain ⟨p2, e2⟩ := h 2 (by omega) (by omega)
    replace e2 : a.c2 = b.c2 := e2
    obtain ⟨p3, e3⟩ := h 3 (by omega) (by omega)
    replace e3 : a.c3 = b.c3 := e3
    rw [if_neg (by omega), if_neg (by omega), if_neg (by omega), if_neg (by omega), if_neg (by omega), if_neg (by omega), if_pos (by omega)]
  · obtain ⟨p3, e3⟩ := h 3 (by omega) (by omega)
    replace e3 : a.c3 = b.c3 := e3
    rw [if_neg (by omega), if_neg (by omega), if_neg (by omega), if_pos (by omega)]
  · rw [if_pos (by omega)]
theorem cmp_rng (a b : Tup) (p : Int) : -1 ≤ cmpT a b p ∧ cmpT a b p ≤ 1 := by
  unfold cmpT
  (repeat' split) <;> omega
theorem tup_ret {x : Bool} {a b c d : Int} {u : Tup} (h : (⟨x, a, b, c, d⟩ : Tup) = u) : Ending.returned (.agg #[.bool x, .int .i64 a, .int .i64 b, .int .i64 c, .int .i64 d]) = .returned (.agg #[.bool u.top, .int .i64 u.c0, .int .i64 u.c1, .int .i64 u.c2, .int .i64 u.c3]) := by subst h; rfl
def okT (t : Tup) : Prop := -9223372036854775808 ≤ t.c0 ∧ -9223372036854775808 ≤ t.c1 ∧ -9223372036854775808 ≤ t.c2 ∧ -9223372036854775808 ≤ t.c3
theorem up_top {n0 n1 n2 n3 p : Int} {t : Tup} (h : t.top = true) : (⟨true, 0, 0, 0, 0⟩ : Tup) = upT n0 n1 n2 n3 p t := by unfold upT; rw [if_pos h]; rfl
theorem up_even {n0 n1 n2 n3 p : Int} {t : Tup} {x : Bool} (hx : x = false) (h : t.top = false) (ho : IntKind.i64.wrap ((BitVec.ofInt 64 p &&& BitVec.ofInt 64 1).toNat : Int) = 0) :
    (⟨x, kp p 4 1 0 t.c0, kp p 4 3 1 t.c1, kp p 4 5 2 t.c2, kp p 4 7 3 t.c3⟩ : Tup) = upT n0 n1 n2 n3 p t := by
  unfold upT
  rw [if_neg (by rw [h]; decide), if_neg (fun hh => hh ho), hx, kp4 (by omega), kp4 (by omega), kp4 (by omega), kp4 (by omega)]
  rfl
theorem up_odd {n0 n1 n2 n3 p : Int} {t u : Tup} (h : t.top = false) (ho : ¬ IntKind.i64.wrap ((BitVec.ofInt 64 p &&& BitVec.ofInt 64 1).toNat : Int) = 0) (hu : u = incT n0 n1 n2 n3 p (keepT p t)) : u = upT n0 n1 n2 n3 p t := by
  unfold upT
  rw [if_neg (by rw [h]; decide), if_pos (show odd1 p from ho), hu]
theorem kp_k2 {p : Int} {t : Tup} {x y : Bool} (h : x = y) : ([.bool x, .int .i64 (kp p 4 1 0 t.c0), .int .i64 (kp p 4 3 1 t.c1), .int .i64 (kp p 4 5 2 t.c2), .int .i64 (kp p 4 7 3 t.c3)] : List Value) = [.bool y, .int .i64 (k2 p 0 1 0 (keepT p t).c0), .int .i64 (k2 p 0 3 1 (keepT p t).c1), .int .i64 (k2 p 0 5 2 (keepT p t).c2), .int .i64 (k2 p 0 7 3 (keepT p t).c3)] :=
  v5_eq h ((kp4 (by omega)).trans (k20 (by omega))) ((kp4 (by omega)).trans (k20 (by omega))) ((kp4 (by omega)).trans (k20 (by omega))) ((kp4 (by omega)).trans (k20 (by omega)))
/-- The same where the counters are copied one by one. -/
def ko (p k : Int) (q j c : Int) : Int := if j < k ∧ q ≥ p then c else 0
theorem ko0 {p q j c : Int} (hj : 0 ≤ j) : 0 = ko p 0 q j c := by unfold ko; rw [if_neg (by omega)]
theorem ko4 {p q j c : Int} (hj : j < 4) : ko p 4 q j c = kp p 4 q j c := by unfold ko kp; split <;> split <;> omega
theorem ko_no {p k q j c : Int} (h : ¬ 2 * k + 1 ≥ p) (hq : q = 2 * j + 1) : ko p k q j c = ko p (k + 1) q j c := by unfold ko; split <;> split <;> omega
theorem ko_yes {p k q j c0 c1 c2 c3 : Int} (h : 2 * k + 1 ≥ p) (h0 : 0 ≤ k) (h4 : k < 4) (hq : q = 2 * j + 1) {c : Int} (hc : k = j → gI [c0, c1, c2, c3] k = c) : (if k = j then gI [c0, c1, c2, c3] k else ko p k q j c) = ko p (k + 1) q j c := by
  unfold ko
  by_cases hj : k = j
  · rw [if_pos hj, hc hj, if_pos (by omega)]
  · rw [if_neg hj]
    split <;> split <;> omega
theorem ko_all {p k : Int} {t : Tup} (h : 2 * k + 1 ≥ p) (h0 : 0 ≤ k) (h4 : k < 4) :
    ([.bool false, .int .i64 (if k = 0 then gI [t.c0, t.c1, t.c2, t.c3] k else ko p k 1 0 t.c0), .int .i64 (if k = 1 then gI [t.c0, t.c1, t.c2, t.c3] k else ko p k 3 1 t.c1), .int .i64 (if k = 2 then gI [t.c0, t.c1, t.c2, t.c3] k else ko p k 5 2 t.c2), .int .i64 (if k = 3 then gI [t.c0, t.c1, t.c2, t.c3] k else ko p k 7 3 t.c3)] : List Value) =
      [.bool false, .int .i64 (ko p (k + 1) 1 0 t.c0), .int .i64 (ko p (k + 1) 3 1 t.c1), .int .i64 (ko p (k + 1) 5 2 t.c2), .int .i64 (ko p (k + 1) 7 3 t.c3)] :=
  v5_eq rfl (ko_yes h h0 h4 rfl (fun e => by subst e; rfl)) (ko_yes h h0 h4 rfl (fun e => by subst e; rfl)) (ko_yes h h0 h4 rfl (fun e => by subst e; rfl)) (ko_yes h h0 h4 rfl (fun e => by subst e; rfl))
theorem k2_lb {p k q j c : Int} {B : Int} (hB : B ≤ 0) (h : B ≤ c) : B ≤ k2 p k q j c := by unfold k2; split <;> omega
theorem keep_ok {p : Int} {t : Tup} (h : okT t) : okT (keepT p t) := by
  unfold okT keepT at *
  refine ⟨?_, ?_, ?_, ?_⟩ <;> (simp only; split <;> omega)
theorem gI4_lb {a b c d B : Int} {i : Int} (h0 : 0 ≤ i) (h1 : i < 4) (ha : B ≤ a) (hb : B ≤ b) (hc : B ≤ c) (hd : B ≤ d) : B ≤ gI [a, b, c, d] i := by
  rw [gI4 i h0 h1]
  split
  · exact ha
  · split
    · exact hb
    · split
      · exact hc
      · exact hd
theorem gI_cnt {l : List Int} {i : Int} (h0 : 0 ≤ i) (h1 : i < 4) : cnt l (2 * i + 1) = gI [cnt l 1, cnt l 3, cnt l 5, cnt l 7] i := by
  obtain rfl | rfl | rfl | rfl : i = 0 ∨ i = 1 ∨ i = 2 ∨ i = 3 := by omega
  all_goals rfl
theorem gI4_ub {a b c d B : Int} {i : Int} (h0 : 0 ≤ i) (h1 : i < 4) (ha : a ≤ B) (hb : b ≤ B) (hc : c ≤ B) (hd : d ≤ B) : gI [a, b, c, d] i ≤ B := by
  rw [gI4 i h0 h1]
  split
  · exact ha
  · split
    · exact hb
    · split
      · exact hc
      · exact hd
end Go.Proofs.Ytklbpajmoklheaa
