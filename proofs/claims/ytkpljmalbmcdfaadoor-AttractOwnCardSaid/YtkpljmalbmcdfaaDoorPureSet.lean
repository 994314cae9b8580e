/-
  Plain: sets as truths for each number, and as four words. No program.
-/
import Derived.Test.YtkpljmalbmcdfaaDoorPureBit
import Derived.Test.YtkpljmalbmcdfaaDoorFt
set_option linter.unusedVariables false
set_option linter.unusedSimpArgs false
namespace Go.Proofs.YtkpljmalbmcdfaaDoor
open Go Go.RowKit
def putD (l : List Bool) (n : Int) (v : Bool) : List Bool := if 0 ≤ n ∧ n < 256 then l.set n.toNat v else l
theorem gB_set' {l : List Bool} {i j : Int} {v : Bool} (h0 : 0 ≤ i) (h1 : i < l.length) (h2 : 0 ≤ j) : gB (l.set i.toNat v) j = if i = j then v else gB l j := by
  simp only [gB, List.getD_eq_getElem?_getD, List.getElem?_set]
  by_cases h : i = j
  · subst h
    rw [if_pos rfl, if_pos rfl, if_pos (by omega)]
    rfl
  · rw [if_neg h, if_neg (by omega)]
theorem gI_set' {l : List Int} {i j v : Int} (h0 : 0 ≤ i) (h1 : i < l.length) (h2 : 0 ≤ j) : gI (l.set i.toNat v) j = if i = j then v else gI l j := by
  simp only [gI, List.getD_eq_getElem?_getD, List.getElem?_set]
  by_cases h : i = j
  · subst h
    rw [if_pos rfl, if_pos rfl, if_pos (by omega)]
    rfl
  · rw [if_neg h, if_neg (by omega)]
/-- The first k numbers have been gone through: z tells what is put there. -/
def MixL (l xs : List Bool) (z : Int → Bool) (k : Int) : Prop := xs.length = 256 ∧ ∀ j : Int, 0 ≤ j → j < 256 → gB xs j = if j < k then z j else gB l j
theorem mix_0 {l : List Bool} {z : Int → Bool} (h : l.length = 256) : MixL l l z 0 := ⟨h, fun j a b => by rw [if_neg (by omega)]⟩
theorem mix_next {l xs : List Bool} {z : Int → Bool} {k : Int} {v : Bool} (h : MixL l xs z k) (h0 : 0 ≤ k) (h1 : k < 256) (hv : v = z k) : MixL l (xs.set k.toNat v) z (k + 1) := by
  have hl := h.1
  refine ⟨by rw [List.length_set]; exact hl, fun j a b => ?_⟩
  rw [gB_set' h0 (by omega) a]
  by_cases e : k = j
  · subst e
    rw [if_pos rfl, if_pos (by omega), hv]
  · rw [if_neg e, h.2 j a b]
    by_cases e2 : j < k
    · rw [if_pos e2, if_pos (by omega)]
    · rw [if_neg e2, if_neg (by omega)]
theorem mix_skip {l xs : List Bool} {z : Int → Bool} {k : Int} (h : MixL l xs z k) (hv : gB xs k = z k) (h0 : 0 ≤ k) (h1 : k < 256) : MixL l xs z (k + 1) := by
  refine ⟨h.1, fun j a b => ?_⟩
  have := h.2 j a b
  by_cases e : j = k
  · subst e
    rw [if_pos (by omega), hv]
  · by_cases e2 : j < k
    · rw [if_pos e2] at this
      rw [if_pos (by omega), this]
    · rw [if_neg e2] at this
      rw [if_neg (by omega), this]
theorem mix_at {l xs : List Bool} {z : Int → Bool} {k : Int} (h : MixL l xs z k) (h0 : 0 ≤ k) (h1 : k < 256) : gB xs k = gB l k := by
  rw [h.2 k h0 h1, if_neg (by omega)]
/-- The list of what z tells. -/
def ofZ (z : Int → Bool) : List Bool := (List.range 256).map fun (i : Nat) => z (i : Int)
theorem ofZ_len (z : Int → Bool) : (ofZ z).length = 256 := by simp [ofZ]
theorem gB_ofZ {z : Int → Bool} {j : Int} (h0 : 0 ≤ j) (h1 : j < 256) : gB (ofZ z) j = z j := by
  simp only [gB, ofZ, List.getD_eq_getElem?_getD, List.getElem?_map, List.getElem?_range (show j.toNat < 256 by omega), Option.map_some, Option.getD_some]
  congr 1
  omega
theorem list_ext {l r : List Bool} (hl : l.length = 256) (hr : r.length = 256) (h : ∀ j : Int, 0 ≤ j → j < 256 → gB l j = gB r j) : l = r := by
  refine List.ext_getElem (by rw [hl, hr]) fun i h1 h2 => ?_
  have := h i (by omega) (by omega)
  simp only [gB, Int.toNat_natCast, List.getD_eq_getElem?_getD, List.getElem?_eq_getElem h1, List.getElem?_eq_getElem h2, Option.getD_some] at this
  exact this
theorem mix_end {l xs : List Bool} {z : Int → Bool} {k : Int} (h : MixL l xs z k) (hk : 256 ≤ k) : xs = ofZ z :=
  list_ext h.1 (ofZ_len z) fun j a b => by rw [h.2 j a b, if_pos (by omega), gB_ofZ a b]
theorem put_len {l : List Bool} {n : Int} {v : Bool} (h : l.length = 256) : (putD l n v).length = 256 := by
  unfold putD
  split
  · rw [List.length_set]; exact h
  · exact h
def hasD (l : List Bool) (n : Int) : Bool := decide (0 ≤ n ∧ n < 256) && gB l n
theorem has_yes {l : List Bool} {n : Int} (h0 : 0 ≤ n) (h1 : n < 256) : gB l n = hasD l n := by rw [hasD, decide_eq_true ⟨h0, h1⟩, Bool.true_and]
theorem has_no {l : List Bool} {n : Int} (h : ¬ (0 ≤ n ∧ n < 256)) : false = hasD l n := by rw [hasD, decide_eq_false h, Bool.false_and]
theorem gB_rep (n : Nat) (j : Int) : gB (List.replicate n false) j = false := by
  simp only [gB, List.getD_eq_getElem?_getD, List.getElem?_replicate]
  split <;> rfl
theorem full_end {n k : Int} {xs : List Bool} (h : MixL (List.replicate 256 false) xs (fun j => decide (j < n)) k) (hk : 256 ≤ k ∨ n ≤ k) : xs = ofZ (fun j => decide (j < n)) :=
  list_ext h.1 (ofZ_len _) fun j a b => by
    rw [h.2 j a b, gB_ofZ a b]
    by_cases e : j < k
    · rw [if_pos e]
    · rw [if_neg e, gB_rep]
      exact (decide_eq_false (by omega)).symm
/-- The set of a list. -/
def ofD (l : List Int) : List Bool := l.foldl (fun s n => putD s n true) (List.replicate 256 false)
theorem of_len (l : List Int) : (ofD l).length = 256 := by
  unfold ofD
  have : ∀ (l : List Int) (s : List Bool), s.length = 256 → (l.foldl (fun s n => putD s n true) s).length = 256 := by
    intro l
    induction l with
    | nil => intro s h; exact h
    | cons n l ih => intro s h; exact ih _ (put_len h)
  exact this l _ List.length_replicate
theorem of_next {l : List Int} {xs : List Bool} {k : Int} (h : xs = ofD (l.take k.toNat)) (h0 : 0 ≤ k) (h1 : k < l.length) : putD xs (gI l k) true = ofD (l.take (k + 1).toNat) := by
  subst h
  rw [show (k + 1).toNat = k.toNat + 1 by omega, List.take_succ_eq_append_getElem (by omega), ofD, ofD, List.foldl_append]
  simp only [List.foldl_cons, List.foldl_nil, gI, List.getD_eq_getElem?_getD, List.getElem?_eq_getElem (show k.toNat < l.length by omega), Option.getD_some]
theorem put_in {l : List Bool} {n : Int} {v : Bool} (h0 : 0 ≤ n) (h1 : n < 256) : l.set n.toNat v = putD l n v := by rw [putD, if_pos ⟨h0, h1⟩]
theorem put_out {l : List Bool} {n : Int} {v : Bool} (h : ¬ (0 ≤ n ∧ n < 256)) : l = putD l n v := by rw [putD, if_neg h]
/-- The numbers below n that are in a set, rising. -/
def lsD (l : List Bool) : Nat → List Int
  | 0 => []
  | n + 1 => if gB l (n : Int) = true then lsD l n ++ [(n : Int)] else lsD l n
theorem ls_yes {l : List Bool} {xs : List Int} {k : Int} (h : xs = lsD l k.toNat) (h0 : 0 ≤ k) (hb : gB l k = true) : xs ++ [k] = lsD l (k + 1).toNat := by
  rw [show (k + 1).toNat = k.toNat + 1 by omega, lsD, show ((k.toNat : Nat) : Int) = k by omega, if_pos hb, h]
theorem ls_no {l : List Bool} {xs : List Int} {k : Int} (h : xs = lsD l k.toNat) (h0 : 0 ≤ k) (hb : gB l k = false) : xs = lsD l (k + 1).toNat := by
  rw [show (k + 1).toNat = k.toNat + 1 by omega, lsD, show ((k.toNat : Nat) : Int) = k by omega, if_neg (by rw [hb]; decide), h]
theorem ls_len (l : List Bool) : ∀ n, (lsD l n).length ≤ n
  | 0 => Nat.le_refl _
  | n + 1 => by
    have := ls_len l n
    rw [lsD]
    split
    · rw [List.length_append]; simp; omega
    · omega
theorem ls_end {l : List Bool} {xs : List Int} {k : Int} (h : xs = lsD l k.toNat) (h0 : k ≤ 256) (h1 : 256 ≤ k) : xs = lsD l 256 := by
  rw [h, show k.toNat = 256 by omega]
/-- The least number in a set. -/
def leastD (l : List Bool) : Int := match (List.range 256).find? (fun i => gB l ((i : Nat) : Int)) with | some i => (i : Int) | none => -1
theorem least_at {l : List Bool} {k : Int} (h0 : 0 ≤ k) (h1 : k < 256) (h : ∀ j : Int, 0 ≤ j → j < k → gB l j = false) (hk : gB l k = true) : k = leastD l := by
  have e : (List.range 256).find? (fun i => gB l ((i : Nat) : Int)) = some k.toNat := by
    rw [List.find?_range_eq_some]
    refine ⟨by rw [show ((k.toNat : Nat) : Int) = k by omega]; exact hk, List.mem_range.2 (by omega), fun j hj => by
      have := h j (by omega) (by omega)
      simp [this]⟩
  rw [leastD, e]
  simp only
  omega
theorem least_no {l : List Bool} {k : Int} (hk : 256 ≤ k) (h : ∀ j : Int, 0 ≤ j → j < k → gB l j = false) : -1 = leastD l := by
  have e : (List.range 256).find? (fun i => gB l ((i : Nat) : Int)) = none := by
    rw [List.find?_eq_none]
    intro x hx
    have hx := List.mem_range.1 hx
    rw [h x (by omega) (by omega)]
    decide
  rw [leastD, e]
/-- Are all of one set in another? -/
def inD (l r : List Bool) : Bool := (List.range 256).all fun i => !gB l ((i : Nat) : Int) || gB r ((i : Nat) : Int)
theorem in_bad {l r : List Bool} {k : Int} (h0 : 0 ≤ k) (h1 : k < 256) (hl : gB l k = true) (hr : gB r k = false) : false = inD l r := by
  refine Eq.symm ?_
  rw [inD, List.all_eq_false]
  refine ⟨k.toNat, List.mem_range.2 (by omega), ?_⟩
  rw [show ((k.toNat : Nat) : Int) = k by omega, hl, hr]
  decide
theorem in_good {l r : List Bool} {k : Int} (hk : 256 ≤ k) (h : ∀ j : Int, 0 ≤ j → j < k → gB l j = true → gB r j = true) : true = inD l r := by
  refine Eq.symm ?_
  rw [inD, List.all_eq_true]
  intro x hx
  have hx := List.mem_range.1 hx
  cases hl : gB l (x : Int)
  · rfl
  · rw [h x (by omega) (by omega) hl]
    rfl
/-- Four words. -/
def OkW (s : List Int) : Prop := s.length = 4 ∧ ∀ j : Int, W64 (gI s j)
theorem okLen {s : List Int} (h : OkW s) : s.length = 4 := h.1
def fromW (s : List Int) : List Bool := ofZ (fun j => bitI (gI s (j / 64)) (j % 64))
/-- The first k words have been gone through: z tells what is put there. -/
def MixW (l xs : List Int) (z : Int → Int) (k : Int) : Prop := xs.length = 4 ∧ ∀ j : Int, 0 ≤ j → j < 4 → gI xs j = if j < k then z j else gI l j
theorem mixW_0 {l : List Int} {z : Int → Int} (h : l.length = 4) : MixW l l z 0 := ⟨h, fun j a b => by rw [if_neg (by omega)]⟩
theorem mixW_next {l xs : List Int} {z : Int → Int} {k v : Int} (h : MixW l xs z k) (h0 : 0 ≤ k) (h1 : k < 4) (hv : v = z k) : MixW l (xs.set k.toNat v) z (k + 1) := by
  have hl := h.1
  refine ⟨by rw [List.length_set]; exact hl, fun j a b => ?_⟩
  rw [gI_set' h0 (by omega) a]
  by_cases e : k = j
  · subst e
    rw [if_pos rfl, if_pos (by omega), hv]
  · rw [if_neg e, h.2 j a b]
    by_cases e2 : j < k
    · rw [if_pos e2, if_pos (by omega)]
    · rw [if_neg e2, if_neg (by omega)]
theorem mixW_at {l xs : List Int} {z : Int → Int} {k : Int} (h : MixW l xs z k) (h0 : 0 ≤ k) (h1 : k < 4) : gI xs k = gI l k := by
  rw [h.2 k h0 h1, if_neg (by omega)]
def ofZW (z : Int → Int) : List Int := [z 0, z 1, z 2, z 3]
theorem gI_ofZW {z : Int → Int} {j : Int} (h0 : 0 ≤ j) (h1 : j < 4) : gI (ofZW z) j = z j := by
  obtain rfl | rfl | rfl | rfl : j = 0 ∨ j = 1 ∨ j = 2 ∨ j = 3 := by omega
  all_goals rfl
theorem words_ext {l r : List Int} (hl : l.length = 4) (hr : r.length = 4) (h : ∀ j : Int, 0 ≤ j → j < 4 → gI l j = gI r j) : l = r := by
  refine List.ext_getElem (by rw [hl, hr]) fun i h1 h2 => ?_
  have := h i (by omega) (by omega)
  simp only [gI, Int.toNat_natCast, List.getD_eq_getElem?_getD, List.getElem?_eq_getElem h1, List.getElem?_eq_getElem h2, Option.getD_some] at this
  exact this
theorem mixW_end {l xs : List Int} {z : Int → Int} {k : Int} (h : MixW l xs z k) (hk : 4 ≤ k) : xs = ofZW z :=
  words_ext h.1 rfl fun j a b => by rw [h.2 j a b, if_pos (by omega), gI_ofZW a b]
theorem mixW_W {l xs : List Int} {z : Int → Int} {k : Int} (h : MixW l xs z k) (h0 : 0 ≤ k) (h1 : k < 4) (hl : OkW l) : W64 (gI xs k) := by
  rw [mixW_at h h0 h1]
  exact hl.2 k
def withW (s : List Int) (n : Int) : List Int := if 0 ≤ n ∧ n < 256 then s.set (n / 64).toNat (orW (gI s (n / 64)) (oneW (n % 64))) else s
def lessW (s : List Int) (n : Int) : List Int := if 0 ≤ n ∧ n < 256 then s.set (n / 64).toNat (notW (gI s (n / 64)) (oneW (n % 64))) else s
def hasW (s : List Int) (n : Int) : Bool := decide (0 ≤ n ∧ n < 256) && bitI (gI s (n / 64)) (n % 64)
theorem hasW_yes {s : List Int} {n : Int} (h : OkW s) (h0 : 0 ≤ n) (h1 : n < 256) : ((IntKind.u64.wrap (((BitVec.ofInt 64 ((gI s (n / 64)).fdiv (2 ^ (min (n % 64).toNat IntKind.u64.bits))) &&& BitVec.ofInt 64 1).toNat : Nat) : Int) : Int) == 1) = hasW s n := by
  rw [bit_test (h.2 _) (by omega) (by omega), hasW, decide_eq_true ⟨h0, h1⟩, Bool.true_and]
theorem hasW_no {s : List Int} {n : Int} (h : ¬ (0 ≤ n ∧ n < 256)) : false = hasW s n := by rw [hasW, decide_eq_false h, Bool.false_and]
theorem gI_set_W {s : List Int} {i v : Int} (h : OkW s) (hv : W64 v) : OkW (s.set i.toNat v) := ⟨by rw [List.length_set]; exact h.1, fun j => by
  simp only [gI, List.getD_eq_getElem?_getD, List.getElem?_set]
  split
  · split
    · exact hv
    · exact ⟨by show (0 : Int) ≤ 0; omega, by show (0 : Int) < _; omega⟩
  · exact h.2 j⟩
theorem okW_with {s : List Int} {n : Int} (h : OkW s) : OkW (withW s n) := by
  unfold withW
  split
  · exact gI_set_W h (orW_W (h.2 _) (oneW_W (by omega) (by omega)))
  · exact h
theorem okW_less {s : List Int} {n : Int} (h : OkW s) : OkW (lessW s n) := by
  unfold lessW
  split
  · exact gI_set_W h (notW_W (h.2 _) (oneW_W (by omega) (by omega)))
  · exact h
theorem okW_lit {a b c d : Int} (ha : W64 a) (hb : W64 b) (hc : W64 c) (hd : W64 d) : OkW [a, b, c, d] := ⟨rfl, fun j => by
  by_cases h : 0 ≤ j ∧ j < 4
  · obtain rfl | rfl | rfl | rfl : j = 0 ∨ j = 1 ∨ j = 2 ∨ j = 3 := by omega
    · exact ha
    · exact hb
    · exact hc
    · exact hd
  · by_cases h0 : 0 ≤ j
    · have e : gI [a, b, c, d] j = 0 := by
        simp only [gI, List.getD_eq_getElem?_getD]
        rw [List.getElem?_eq_none (show ([a, b, c, d] : List Int).length ≤ j.toNat by show 4 ≤ j.toNat; omega)]
        rfl
      rw [e]
      exact ⟨by omega, by omega⟩
    · have e : gI [a, b, c, d] j = a := by
        simp only [gI]
        rw [show j.toNat = 0 by omega]
        rfl
      rw [e]
      exact ha⟩
theorem okW_of4 {z : Int → Int} (h : ∀ j : Int, 0 ≤ j → j < 4 → W64 (z j)) : OkW (ofZW z) := okW_lit (h 0 (by omega) (by omega)) (h 1 (by omega) (by omega)) (h 2 (by omega) (by omega)) (h 3 (by omega) (by omega))
theorem okW_or {s t : List Int} (h : OkW s) (h2 : OkW t) : OkW (ofZW (fun j => orW (gI s j) (gI t j))) := okW_of4 fun j _ _ => orW_W (h.2 j) (h2.2 j)
theorem okW_and {s t : List Int} (h : OkW s) (h2 : OkW t) : OkW (ofZW (fun j => andW (gI s j) (gI t j))) := okW_of4 fun j _ _ => andW_W (h.2 j) (h2.2 j)
theorem okW_minus {s t : List Int} (h : OkW s) (h2 : OkW t) : OkW (ofZW (fun j => notW (gI s j) (gI t j))) := okW_of4 fun j _ _ => notW_W (h.2 j) (h2.2 j)
theorem okW_0 : OkW (List.replicate 4 (0 : Int)) := okW_lit ⟨by omega, by omega⟩ ⟨by omega, by omega⟩ ⟨by omega, by omega⟩ ⟨by omega, by omega⟩
theorem okW_00 : OkW ([0, 0, 0, 0] : List Int) := okW_0
/-- The words of a list. -/
def ofW (l : List Int) : List Int := l.foldl withW (List.replicate 4 0)
theorem ofW_ok (l : List Int) : OkW (ofW l) := by
  unfold ofW
  have : ∀ (l : List Int) (s : List Int), OkW s → OkW (l.foldl withW s) := by
    intro l
    induction l with
    | nil => intro s h; exact h
    | cons n l ih => intro s h; exact ih _ (okW_with h)
  exact this l _ okW_0
theorem ofW_next {l : List Int} {xs : List Int} {k : Int} (h : xs = ofW (l.take k.toNat)) (h0 : 0 ≤ k) (h1 : k < l.length) : withW xs (gI l k) = ofW (l.take (k + 1).toNat) := by
  subst h
  rw [show (k + 1).toNat = k.toNat + 1 by omega, List.take_succ_eq_append_getElem (by omega), ofW, ofW, List.foldl_append]
  simp only [List.foldl_cons, List.foldl_nil, gI, List.getD_eq_getElem?_getD, List.getElem?_eq_getElem (show k.toNat < l.length by omega), Option.getD_some]
def inW (s t : List Int) : Bool := decide (ofZW (fun j => notW (gI s j) (gI t j)) = ([0, 0, 0, 0] : List Int))
theorem map4 {s : List Int} (h : s.length = 4) : (s.map wV).toArray = ([wV (gI s 0), wV (gI s 1), wV (gI s 2), wV (gI s 3)] : List Value).toArray := by
  match s, h with
  | [a, b, c, d], _ => rfl
theorem w4_eq {s t : List Int} (h : s.length = 4) (h2 : t.length = 4) : (((gI s 0 : Int) == gI t 0) && (((gI s 1 : Int) == gI t 1) && (((gI s 2 : Int) == gI t 2) && (((gI s 3 : Int) == gI t 3) && true)))) = decide (s = t) := by
  match s, t, h, h2 with
  | [a, b, c, d], [a', b', c', d'], _, _ =>
    show ((a == a') && ((b == b') && ((c == c') && ((d == d') && true)))) = _
    rw [Bool.eq_iff_iff]
    simp
/-- The word of the numbers 64 j, 64 j + 1, .. below n more. -/
def wP (l : List Bool) (j : Int) : Nat → Nat
  | 0 => 0
  | n + 1 => wP l j n + (if gB l (64 * j + n) = true then 2 ^ n else 0)
theorem wP_lt (l : List Bool) (j : Int) : ∀ n, wP l j n < 2 ^ n
  | 0 => (Nat.zero_lt_one : 0 < 1)
  | n + 1 => by
    have := wP_lt l j n
    rw [wP, Nat.pow_succ]
    split <;> omega
theorem wP_bit (l : List Bool) (j : Int) : ∀ n i, (wP l j n).testBit i = (decide (i < n) && gB l (64 * j + i))
  | 0, i => by simp [wP]
  | n + 1, i => by
    have hlt := wP_lt l j n
    have ih := wP_bit l j n i
    rw [wP]
    by_cases hb : gB l (64 * j + n) = true
    · rw [if_pos hb, Nat.add_comm]
      by_cases hi : i < n
      · rw [Nat.testBit_two_pow_add_gt hi, ih, decide_eq_true hi, decide_eq_true (by omega)]
      · by_cases he : i = n
        · subst he
          rw [Nat.testBit_two_pow_add_eq, Nat.testBit_lt_two_pow hlt, decide_eq_true (by omega), hb]
          rfl
        · rw [decide_eq_false (by omega), Bool.false_and]
          refine Nat.testBit_lt_two_pow ?_
          have h1 := Nat.pow_le_pow_right (n := 2) (by omega) (show n + 1 ≤ i by omega)
          rw [Nat.pow_succ] at h1
          omega
    · rw [if_neg hb, Nat.add_zero, ih]
      by_cases hi : i < n
      · rw [decide_eq_true hi, decide_eq_true (by omega)]
      · by_cases he : i = n
        · subst he
          have : gB l (64 * j + (i : Int)) = false := by simpa using hb
          rw [decide_eq_false (by omega), this]
          simp
        · rw [decide_eq_false (by omega), decide_eq_false (by omega)]
/-- The words of a set, k numbers having been gone through. -/
def WordsT (l : List Bool) (xs : List Int) (k : Int) : Prop := xs.length = 4 ∧ ∀ j : Int, 0 ≤ j → j < 4 → gI xs j = ((wP l j (min 64 (k - 64 * j).toNat) : Nat) : Int)
theorem words_0 {l : List Bool} : WordsT l (List.replicate 4 (0 : Int)) 0 := ⟨rfl, fun j a b => by
  rw [show (min 64 (0 - 64 * j).toNat) = 0 by omega, wP]
  obtain rfl | rfl | rfl | rfl : j = 0 ∨ j = 1 ∨ j = 2 ∨ j = 3 := by omega
  all_goals rfl⟩
theorem words_no {l : List Bool} {xs : List Int} {k : Int} (h : WordsT l xs k) (h0 : 0 ≤ k) (h1 : k < 256) (hb : gB l k = false) : WordsT l xs (k + 1) := by
  refine ⟨h.1, fun j a b => ?_⟩
  rw [h.2 j a b]
  by_cases e : k / 64 = j
  · rw [show min 64 (k + 1 - 64 * j).toNat = min 64 (k - 64 * j).toNat + 1 by omega, wP, if_neg (by rw [show 64 * j + ((min 64 (k - 64 * j).toNat : Nat) : Int) = k by omega, hb]; decide)]
    simp
  · rw [show min 64 (k + 1 - 64 * j).toNat = min 64 (k - 64 * j).toNat by omega]
theorem words_add {l : List Bool} {xs : List Int} {k : Int} (h : WordsT l xs k) (h0 : 0 ≤ k) (h1 : k < 256) (hb : gB l k = true) : IntKind.u64.wrap (gI xs (k / 64) + oneW (k % 64)) = ((wP l (k / 64) (min 64 (k + 1 - 64 * (k / 64)).toNat) : Nat) : Int) := by
  have e : min 64 (k + 1 - 64 * (k / 64)).toNat = min 64 (k - 64 * (k / 64)).toNat + 1 := by omega
  have e2 : min 64 (k - 64 * (k / 64)).toNat = (k % 64).toNat := by omega
  have hlt := wP_lt l (k / 64) (min 64 (k - 64 * (k / 64)).toNat + 1)
  rw [h.2 _ (by omega) (by omega), e]
  rw [wP, if_pos (by rw [show 64 * (k / 64) + ((min 64 (k - 64 * (k / 64)).toNat : Nat) : Int) = k by omega]; exact hb)] at hlt ⊢
  rw [e2] at hlt ⊢
  have hp := Nat.pow_le_pow_right (n := 2) (by omega) (show (k % 64).toNat + 1 ≤ 64 by omega)
  have h64 : (2 : Nat) ^ 64 = 18446744073709551616 := by decide
  have ee : ((wP l (k / 64) (k % 64).toNat : Nat) : Int) + oneW (k % 64) = ((wP l (k / 64) (k % 64).toNat + 2 ^ (k % 64).toNat : Nat) : Int) := by simp [oneW]
  rw [ee]
  exact wrapU (natW (by omega))
theorem words_yes {l : List Bool} {xs : List Int} {k v : Int} (h : WordsT l xs k) (h0 : 0 ≤ k) (h1 : k < 256) (hb : gB l k = true) (hv : v = IntKind.u64.wrap (gI xs (k / 64) + oneW (k % 64))) : WordsT l (xs.set (k / 64).toNat v) (k + 1) := by
  have hl := h.1
  refine ⟨by rw [List.length_set]; exact hl, fun j a b => ?_⟩
  rw [gI_set' (by omega) (by omega) a]
  by_cases e : k / 64 = j
  · subst e
    rw [if_pos rfl, hv, words_add h h0 h1 hb]
  · rw [if_neg e, h.2 j a b, show min 64 (k + 1 - 64 * j).toNat = min 64 (k - 64 * j).toNat by omega]
def wordsD (l : List Bool) : List Int := ofZW (fun j => ((wP l j 64 : Nat) : Int))
theorem words_end {l : List Bool} {xs : List Int} {k : Int} (h : WordsT l xs k) (hk : 256 ≤ k) : xs = wordsD l :=
  words_ext h.1 rfl fun j a b => by
    rw [h.2 j a b, wordsD, gI_ofZW a b, show min 64 (k - 64 * j).toNat = 64 by omega]
theorem wordsD_W (l : List Bool) : OkW (wordsD l) := ⟨rfl, fun j => by
  have h64 : (2 : Nat) ^ 64 = 18446744073709551616 := by decide
  by_cases h : 0 ≤ j ∧ j < 4
  · rw [wordsD, gI_ofZW h.1 h.2]
    exact natW (by have := wP_lt l j 64; omega)
  · have e : gI (wordsD l) j = gI (wordsD l) 0 ∨ gI (wordsD l) j = 0 := by
      by_cases h0 : 0 ≤ j
      · right
        simp only [gI, List.getD_eq_getElem?_getD]
        rw [List.getElem?_eq_none (show (wordsD l).length ≤ j.toNat by show 4 ≤ j.toNat; omega)]
        rfl
      · left
        simp only [gI]
        rw [show j.toNat = (0 : Int).toNat by omega]
    rcases e with e | e
    · rw [e, wordsD, gI_ofZW (by omega) (by omega)]
      exact natW (by have := wP_lt l 0 64; omega)
    · rw [e]
      exact ⟨by omega, by omega⟩⟩
theorem ret_map {α : Type} {f : α → Value} {l r : List α} (h : l = r) : Ending.returned (.agg (l.map f).toArray) = .returned (.agg (r.map f).toArray) := by rw [h]
end Go.Proofs.YtkpljmalbmcdfaaDoor
