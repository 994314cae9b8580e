/-
  Plain: words of 64 bits as ints, bit by bit. No program. Plain: sets as truths for each number, and as four words. No program. Plain: the four words of a set and its truths say the same. No program.
-/
import Derived.Test.YtklbpajmoklheaaBase
import Derived.Test.YtklbpajmoklheaaFt
set_option linter.unusedVariables false
namespace Go.Proofs.Ytklbpajmoklheaa
open Go Go.RowKit
/-- A word: an int from 0 below 2^64. -/
def W64 (a : Int) : Prop := 0 ≤ a ∧ a < 18446744073709551616
def bitI (a : Int) (k : Int) : Bool := a.toNat.testBit k.toNat
theorem wrapU {a : Int} (h : W64 a) : IntKind.u64.wrap a = a := by
  obtain ⟨h0, h1⟩ := h
  simp only [IntKind.wrap, IntKind.signed, IntKind.bits]
  simp
  omega
theorem ofInt_nat {a : Int} (h : W64 a) : (BitVec.ofInt 64 a).toNat = a.toNat := by
  obtain ⟨h0, h1⟩ := h
  rw [BitVec.toNat_ofInt]
  congr 1
  omega
theorem natW {n : Nat} (h : n < 18446744073709551616) : W64 (n : Int) := ⟨by omega, by omega⟩
theorem or64 {a b : Int} (ha : W64 a) (hb : W64 b) : IntKind.u64.wrap (((BitVec.ofInt 64 a ||| BitVec.ofInt 64 b).toNat : Nat) : Int) = ((a.toNat ||| b.toNat : Nat) : Int) := by
  rw [BitVec.toNat_or, ofInt_nat ha, ofInt_nat hb]
  refine wrapU (natW ?_)
  have := Nat.or_lt_two_pow (n := 64) (x := a.toNat) (y := b.toNat) (by have := ha.2; omega) (by have := hb.2; omega)
  simpa using this
theorem and64 {a b : Int} (ha : W64 a) (hb : W64 b) : IntKind.u64.wrap (((BitVec.ofInt 64 a &&& BitVec.ofInt 64 b).toNat : Nat) : Int) = ((a.toNat &&& b.toNat : Nat) : Int) := by
  rw [BitVec.toNat_and, ofInt_nat ha, ofInt_nat hb]
  refine wrapU (natW ?_)
  have := Nat.and_lt_two_pow (n := 64) a.toNat (y := b.toNat) (by have := hb.2; omega)
  simpa using this
theorem andNot64 {a b : Int} (ha : W64 a) (hb : W64 b) : IntKind.u64.wrap (((BitVec.ofInt 64 a &&& ~~~ (BitVec.ofInt 64 b)).toNat : Nat) : Int) = ((a.toNat &&& (18446744073709551615 - b.toNat) : Nat) : Int) := by
  rw [BitVec.toNat_and, BitVec.toNat_not, ofInt_nat ha, ofInt_nat hb]
  have e : (2 ^ 64 - 1 - b.toNat : Nat) = 18446744073709551615 - b.toNat := by omega
  rw [e]
  refine wrapU (natW ?_)
  have := Nat.and_lt_two_pow (n := 64) a.toNat (y := 18446744073709551615 - b.toNat) (by omega)
  simpa using this
def orW (a b : Int) : Int := ((a.toNat ||| b.toNat : Nat) : Int)
def andW (a b : Int) : Int := ((a.toNat &&& b.toNat : Nat) : Int)
def notW (a b : Int) : Int := ((a.toNat &&& (18446744073709551615 - b.toNat) : Nat) : Int)
theorem orW_W {a b : Int} (ha : W64 a) (hb : W64 b) : W64 (orW a b) := by
  refine natW ?_
  have := Nat.or_lt_two_pow (n := 64) (x := a.toNat) (y := b.toNat) (by have := ha.2; omega) (by have := hb.2; omega)
  simpa using this
theorem andW_W {a b : Int} (ha : W64 a) (hb : W64 b) : W64 (andW a b) := by
  refine natW ?_
  have := Nat.and_lt_two_pow (n := 64) a.toNat (y := b.toNat) (by have := hb.2; omega)
  simpa using this
theorem notW_W {a b : Int} (ha : W64 a) (hb : W64 b) : W64 (notW a b) := by
  refine natW ?_
  have := Nat.and_lt_two_pow (n := 64) a.toNat (y := 18446744073709551615 - b.toNat) (by omega)
  simpa using this
theorem tmodE {x : Int} (h : 0 ≤ x) (y : Int) : x.tmod y = x % y := Int.tmod_eq_emod_of_nonneg h
theorem w64q {x y : Int} (h0 : 0 ≤ x) (h1 : x ≤ 9223372036854775807) (hy : 0 < y) : IntKind.i64.wrap (x.tdiv y) = x / y := by
  rw [Int.tdiv_eq_ediv_of_nonneg h0]
  have h2 := Int.ediv_nonneg h0 (Int.le_of_lt hy)
  have h3 := Int.ediv_le_self y h0
  simp only [IntKind.wrap, IntKind.signed, IntKind.bits]
  simp
  omega
theorem shr6 (x : Int) : x.fdiv (2 ^ (min (6 : Int).toNat IntKind.i64.bits)) = x / 64 := by
  have e : (2 : Int) ^ (min (6 : Int).toNat IntKind.i64.bits) = 64 := by decide
  rw [e, Int.fdiv_eq_ediv_of_nonneg _ (by decide)]
theorem and63 {x : Int} (h0 : 0 ≤ x) (h1 : x < 256) : IntKind.i64.wrap (((BitVec.ofInt 64 x &&& BitVec.ofInt 64 63).toNat : Nat) : Int) = x % 64 := by
  have e : (BitVec.ofInt 64 x).toNat = x.toNat := by rw [BitVec.toNat_ofInt]; congr 1; omega
  have e2 : (BitVec.ofInt 64 63).toNat = 63 := by decide
  rw [BitVec.toNat_and, e, e2]
  have e3 : x.toNat &&& 63 = x.toNat % 64 := Nat.and_two_pow_sub_one_eq_mod x.toNat 6
  rw [e3]
  simp only [IntKind.wrap, IntKind.signed, IntKind.bits]
  simp
  omega
theorem bit_mod {a k : Int} (ha : W64 a) (h0 : 0 ≤ k) (h1 : k < 64) : (((a.fdiv (2 ^ (min k.toNat IntKind.u64.bits))).tmod 2 : Int) == 1) = bitI a k := by
  have e : min k.toNat IntKind.u64.bits = k.toNat := by simp only [IntKind.bits]; omega
  obtain ⟨a0, a1⟩ := ha
  have e2 : a.fdiv (2 ^ k.toNat) = ((a.toNat / 2 ^ k.toNat : Nat) : Int) := by
    obtain ⟨n, rfl⟩ := Int.eq_ofNat_of_zero_le a0
    rw [Int.fdiv_eq_ediv_of_nonneg _ (by exact Int.le_of_lt (Int.pow_pos (by omega)))]
    simp
  rw [e, e2, tmodE (Int.natCast_nonneg _), bitI, Nat.testBit_eq_decide_div_mod_eq, Bool.eq_iff_iff, beq_iff_eq, decide_eq_true_eq]
  omega
theorem bit_or {a b k : Int} : bitI ((a.toNat ||| b.toNat : Nat) : Int) k = (bitI a k || bitI b k) := by simp [bitI, Nat.testBit_or]
theorem bit_and {a b k : Int} : bitI ((a.toNat &&& b.toNat : Nat) : Int) k = (bitI a k && bitI b k) := by simp [bitI, Nat.testBit_and]
theorem bit_andNot {a b k : Int} (hb : W64 b) (h0 : 0 ≤ k) (h1 : k < 64) : bitI ((a.toNat &&& (18446744073709551615 - b.toNat) : Nat) : Int) k = (bitI a k && !bitI b k) := by
  have e : (18446744073709551615 - b.toNat : Nat).testBit k.toNat = !b.toNat.testBit k.toNat := by
    have := Nat.testBit_two_pow_sub_succ (n := 64) (x := b.toNat) (by have := hb.2; have := hb.1; omega) k.toNat
    rw [show (2 ^ 64 - (b.toNat + 1) : Nat) = 18446744073709551615 - b.toNat by omega] at this
    rw [this]
    simp
    omega
  simp [bitI, Nat.testBit_and, e]
theorem word_ext {a b : Int} (ha : W64 a) (hb : W64 b) (h : ∀ k : Int, 0 ≤ k → k < 64 → bitI a k = bitI b k) : a = b := by
  have e : a.toNat = b.toNat := by
    refine Nat.eq_of_testBit_eq fun i => ?_
    by_cases hi : i < 64
    · have := h i (by omega) (by omega)
      simpa [bitI] using this
    · have h1 := ha.1
      have h2 := ha.2
      have h3 := hb.1
      have h4 := hb.2
      rw [Nat.testBit_lt_two_pow, Nat.testBit_lt_two_pow]
      · exact Nat.lt_of_lt_of_le (by omega) (Nat.pow_le_pow_right (n := 2) (by omega) (show 64 ≤ i by omega))
      · exact Nat.lt_of_lt_of_le (by omega) (Nat.pow_le_pow_right (n := 2) (by omega) (show 64 ≤ i by omega))
  have h1 := ha.1
  have h3 := hb.1
  omega
theorem bit_zero (k : Int) : bitI 0 k = false := by simp [bitI]
/-- The word with one bit. -/
def oneW (k : Int) : Int := ((2 ^ k.toNat : Nat) : Int)
theorem oneW_W {k : Int} (h0 : 0 ≤ k) (h1 : k < 64) : W64 (oneW k) := by
  refine natW ?_
  exact Nat.lt_of_lt_of_le (Nat.pow_lt_pow_right (a := 2) (by omega) (show k.toNat < 64 by omega)) (by decide)
theorem shl_one {k : Int} (h0 : 0 ≤ k) (h1 : k < 64) : IntKind.u64.wrap (1 * 2 ^ (min k.toNat IntKind.u64.bits)) = oneW k := by
  have e : min k.toNat IntKind.u64.bits = k.toNat := by simp only [IntKind.bits]; omega
  rw [e, Int.one_mul]
  have h := oneW_W h0 h1
  have e2 : ((2 : Int) ^ k.toNat) = oneW k := by simp [oneW]
  rw [e2]
  exact wrapU h
theorem bit_one {k j : Int} (h0 : 0 ≤ k) (j0 : 0 ≤ j) : bitI (oneW k) j = decide (k = j) := by
  simp only [bitI, oneW, Int.toNat_natCast, Nat.testBit_two_pow]
  rw [Bool.eq_iff_iff]
  simp
  omega
/-- The word of all bits below k. -/
def lowW (k : Int) : Int := ((2 ^ k.toNat - 1 : Nat) : Int)
theorem lowW_W {k : Int} (h0 : 0 ≤ k) (h1 : k ≤ 64) : W64 (lowW k) := by
  refine natW ?_
  have := Nat.pow_le_pow_right (n := 2) (by omega) (show k.toNat ≤ 64 by omega)
  have : (2 : Nat) ^ 64 = 18446744073709551616 := by decide
  have := Nat.two_pow_pos k.toNat
  omega
theorem shl_low {k : Int} (h0 : 0 ≤ k) (h1 : k ≤ 64) : IntKind.u64.wrap (IntKind.u64.wrap (1 * 2 ^ (min k.toNat IntKind.u64.bits)) - 1) = lowW k := by
  by_cases hk : k = 64
  · subst hk
    decide
  · rw [shl_one h0 (by omega)]
    have e : oneW k - 1 = lowW k := by
      have := Nat.two_pow_pos k.toNat
      simp only [oneW, lowW]
      omega
    rw [e]
    exact wrapU (lowW_W h0 h1)
theorem bit_low {k j : Int} (h0 : 0 ≤ k) (j0 : 0 ≤ j) : bitI (lowW k) j = decide (j < k) := by
  simp only [bitI, lowW, Int.toNat_natCast, Nat.testBit_two_pow_sub_one]
  rw [Bool.eq_iff_iff]
  simp
  omega
/-- Is a bit set? By a shift and a test of the lowest one. -/
theorem bit_test {a k : Int} (ha : W64 a) (h0 : 0 ≤ k) (h1 : k < 64) : ((IntKind.u64.wrap (((BitVec.ofInt 64 (a.fdiv (2 ^ (min k.toNat IntKind.u64.bits))) &&& BitVec.ofInt 64 1).toNat : Nat) : Int) : Int) == 1) = bitI a k := by
  have e : min k.toNat IntKind.u64.bits = k.toNat := by simp only [IntKind.bits]; omega
  obtain ⟨a0, a1⟩ := ha
  have e2 : a.fdiv (2 ^ k.toNat) = ((a.toNat / 2 ^ k.toNat : Nat) : Int) := by
    obtain ⟨n, rfl⟩ := Int.eq_ofNat_of_zero_le a0
    rw [Int.fdiv_eq_ediv_of_nonneg _ (by exact Int.le_of_lt (Int.pow_pos (by omega)))]
    simp
  rw [e, e2]
  have hw : W64 ((a.toNat / 2 ^ k.toNat : Nat) : Int) := natW (Nat.lt_of_le_of_lt (Nat.div_le_self _ _) (by omega))
  rw [and64 hw (b := 1) ⟨by omega, by omega⟩]
  simp only [Int.toNat_natCast, bitI]
  rw [show (1 : Int).toNat = 1 from rfl, Nat.and_one_is_mod, Nat.testBit_eq_decide_div_mod_eq]
  rw [Bool.eq_iff_iff, beq_iff_eq, decide_eq_true_eq]
  omega
end Go.Proofs.Ytklbpajmoklheaa
set_option linter.unusedVariables false
set_option linter.unusedSimpArgs false
namespace Go.Proofs.Ytklbpajmoklheaa
open Go Go.RowKit
def putD (l : List Bool) (n : Int) (v : Bool) : List Bool := if 0 ≤ n ∧ n < 256 then l.set n.toNat v else l
theorem gB_set' {l : List Bool} {i j : Int} {v : Bool} (h0 : 0 ≤ i) (h1 : i < l.length) (h2 : 0 ≤ j) : gB (l.set i.toNat v) j = if i = j then v else gB l j := by
  simp only [gB, List.getD_eq_getElem?_getD, List.getElem?_set]
  by_cases h : i = j
  · subst h
    rw [if_pos rfl, if_pos rfl, if_pos (by omega)]
    rfl
  · rw [if_neg h, if_neg (by omega)]
theorem gI_set' {l : List Int} {i j v : Int} (h0 : 0 ≤ i) (h1 : i < l.length) (h2 : 0 ≤ j) : gI (l.set i.toNat v) j = if i = j then v else gI l j := by
  simp only [gI, List.getD_eq_getElem?_getD, List.getElem?_set]
  by_cases h : i = j
  · subst h
    rw [if_pos rfl, if_pos rfl, if_pos (by omega)]
    rfl
  · rw [if_neg h, if_neg (by omega)]
/-- The first k numbers have been gone through: z tells what is put there. -/
def MixL (l xs : List Bool) (z : Int → Bool) (k : Int) : Prop := xs.length = 256 ∧ ∀ j : Int, 0 ≤ j → j < 256 → gB xs j = if j < k then z j else gB l j
theorem mix_0 {l : List Bool} {z : Int → Bool} (h : l.length = 256) : MixL l l z 0 := ⟨h, fun j a b => by rw [if_neg (by omega)]⟩
theorem mix_next {l xs : List Bool} {z : Int → Bool} {k : Int} {v : Bool} (h : MixL l xs z k) (h0 : 0 ≤ k) (h1 : k < 256) (hv : v = z k) : MixL l (xs.set k.toNat v) z (k + 1) := by
  have hl := h.1
  refine ⟨by rw [List.length_set]; exact hl, fun j a b => ?_⟩
  rw [gB_set' h0 (by omega) a]
  by_cases e : k = j
  · subst e
    rw [if_pos rfl, if_pos (by omega), hv]
  · rw [if_neg e, h.2 j a b]
    by_cases e2 : j < k
    · rw [if_pos e2, if_pos (by omega)]
    · rw [if_neg e2, if_neg (by omega)]
theorem mix_skip {l xs : List Bool} {z : Int → Bool} {k : Int} (h : MixL l xs z k) (hv : gB xs k = z k) (h0 : 0 ≤ k) (h1 : k < 256) : MixL l xs z (k + 1) := by
  refine ⟨h.1, fun j a b => ?_⟩
  have := h.2 j a b
  by_cases e : j = k
  · subst e
    rw [if_pos (by omega), hv]
  · by_cases e2 : j < k
    · rw [if_pos e2] at this
      rw [if_pos (by omega), this]
    · rw [if_neg e2] at this
      rw [if_neg (by omega), this]
theorem mix_at {l xs : List Bool} {z : Int → Bool} {k : Int} (h : MixL l xs z k) (h0 : 0 ≤ k) (h1 : k < 256) : gB xs k = gB l k := by
  rw [h.2 k h0 h1, if_neg (by omega)]
/-- The list of what z tells. -/
def ofZ (z : Int → Bool) : List Bool := (List.range 256).map fun (i : Nat) => z (i : Int)
theorem ofZ_len (z : Int → Bool) : (ofZ z).length = 256 := by simp [ofZ]
theorem gB_ofZ {z : Int → Bool} {j : Int} (h0 : 0 ≤ j) (h1 : j < 256) : gB (ofZ z) j = z j := by
  simp only [gB, ofZ, List.getD_eq_getElem?_getD, List.getElem?_map, List.getElem?_range (show j.toNat < 256 by omega), Option.map_some, Option.getD_some]
  congr 1
  omega
theorem list_ext {l r : List Bool} (hl : l.length = 256) (hr : r.length = 256) (h : ∀ j : Int, 0 ≤ j → j < 256 → gB l j = gB r j) : l = r := by
  refine List.ext_getElem (by rw [hl, hr]) fun i h1 h2 => ?_
  have := h i (by omega) (by omega)
  simp only [gB, Int.toNat_natCast, List.getD_eq_getElem?_getD, List.getElem?_eq_getElem h1, List.getElem?_eq_getElem h2, Option.getD_some] at this
  exact this
theorem mix_end {l xs : List Bool} {z : Int → Bool} {k : Int} (h : MixL l xs z k) (hk : 256 ≤ k) : xs = ofZ z :=
  list_ext h.1 (ofZ_len z) fun j a b => by rw [h.2 j a b, if_pos (by omega), gB_ofZ a b]
theorem put_len {l : List Bool} {n : Int} {v : Bool} (h : l.length = 256) : (putD l n v).length = 256 := by
  unfold putD
  split
  · rw [List.length_set]; exact h
  · exact h
def hasD (l : List Bool) (n : Int) : Bool := decide (0 ≤ n ∧ n < 256) && gB l n
theorem has_yes {l : List Bool} {n : Int} (h0 : 0 ≤ n) (h1 : n < 256) : gB l n = hasD l n := by rw [hasD, decide_eq_true ⟨h0, h1⟩, Bool.true_and]
theorem has_no {l : List Bool} {n : Int} (h : ¬ (0 ≤ n ∧ n < 256)) : false = hasD l n := by rw [hasD, decide_eq_false h, Bool.false_and]
theorem gB_rep (n : Nat) (j : Int) : gB (List.replicate n false) j = false := by
  simp only [gB, List.getD_eq_getElem?_getD, List.getElem?_replicate]
  split <;> rfl
theorem full_end {n k : Int} {xs : List Bool} (h : MixL (List.replicate 256 false) xs (fun j => decide (j < n)) k) (hk : 256 ≤ k ∨ n ≤ k) : xs = ofZ (fun j => decide (j < n)) :=
  list_ext h.1 (ofZ_len _) fun j a b => by
    rw [h.2 j a b, gB_ofZ a b]
    by_cases e : j < k
    · rw [if_pos e]
    · rw [if_neg e, gB_rep]
      exact (decide_eq_false (by omega)).symm
/-- The set of a list. -/
def ofD (l : List Int) : List Bool := l.foldl (fun s n => putD s n true) (List.replicate 256 false)
theorem of_len (l : List Int) : (ofD l).length = 256 := by
  unfold ofD
  have : ∀ (l : List Int) (s : List Bool), s.length = 256 → (l.foldl (fun s n => putD s n true) s).length = 256 := by
    intro l
    induction l with
    | nil => intro s h; exact h
    | cons n l ih => intro s h; exact ih _ (put_len h)
  exact this l _ List.length_replicate
theorem of_next {l : List Int} {xs : List Bool} {k : Int} (h : xs = ofD (l.take k.toNat)) (h0 : 0 ≤ k) (h1 : k < l.length) : putD xs (gI l k) true = ofD (l.take (k + 1).toNat) := by
  subst h
  rw [show (k + 1).toNat = k.toNat + 1 by omega, List.take_succ_eq_append_getElem (by omega), ofD, ofD, List.foldl_append]
  simp only [List.foldl_cons, List.foldl_nil, gI, List.getD_eq_getElem?_getD, List.getElem?_eq_getElem (show k.toNat < l.length by omega), Option.getD_some]
theorem put_in {l : List Bool} {n : Int} {v : Bool} (h0 : 0 ≤ n) (h1 : n < 256) : l.set n.toNat v = putD l n v := by rw [putD, if_pos ⟨h0, h1⟩]
theorem put_out {l : List Bool} {n : Int} {v : Bool} (h : ¬ (0 ≤ n ∧ n < 256)) : l = putD l n v := by rw [putD, if_neg h]
/-- The numbers below n that are in a set, rising. -/
def lsD (l : List Bool) : Nat → List Int
  | 0 => []
  | n + 1 => if gB l (n : Int) = true then lsD l n ++ [(n : Int)] else lsD l n
theorem ls_yes {l : List Bool} {xs : List Int} {k : Int} (h : xs = lsD l k.toNat) (h0 : 0 ≤ k) (hb : gB l k = true) : xs ++ [k] = lsD l (k + 1).toNat := by
  rw [show (k + 1).toNat = k.toNat + 1 by omega, lsD, show ((k.toNat : Nat) : Int) = k by omega, if_pos hb, h]
theorem ls_no {l : List Bool} {xs : List Int} {k : Int} (h : xs = lsD l k.toNat) (h0 : 0 ≤ k) (hb : gB l k = false) : xs = lsD l (k + 1).toNat := by
  rw [show (k + 1).toNat = k.toNat + 1 by omega, lsD, show ((k.toNat : Nat) : Int) = k by omega, if_neg (by rw [hb]; decide), h]
theorem ls_len (l : List Bool) : ∀ n, (lsD l n).length ≤ n
  | 0 => Nat.le_refl _
  | n + 1 => by
    have := ls_len l n
    rw [lsD]
    split
    · rw [List.length_append]; simp; omega
    · omega
theorem ls_end {l : List Bool} {xs : List Int} {k : Int} (h : xs = lsD l k.toNat) (h0 : k ≤ 256) (h1 : 256 ≤ k) : xs = lsD l 256 := by
  rw [h, show k.toNat = 256 by omega]
/-- The least number in a set. -/
def leastD (l : List Bool) : Int := match (List.range 256).find? (fun i => gB l ((i : Nat) : Int)) with | some i => (i : Int) | none => -1
theorem least_at {l : List Bool} {k : Int} (h0 : 0 ≤ k) (h1 : k < 256) (h : ∀ j : Int, 0 ≤ j → j < k → gB l j = false) (hk : gB l k = true) : k = leastD l := by
  have e : (List.range 256).find? (fun i => gB l ((i : Nat) : Int)) = some k.toNat := by
    rw [List.find?_range_eq_some]
    refine ⟨by rw [show ((k.toNat : Nat) : Int) = k by omega]; exact hk, List.mem_range.2 (by omega), fun j hj => by
      have := h j (by omega) (by omega)
      simp [this]⟩
  rw [leastD, e]
  simp only
  omega
theorem least_no {l : List Bool} {k : Int} (hk : 256 ≤ k) (h : ∀ j : Int, 0 ≤ j → j < k → gB l j = false) : -1 = leastD l := by
  have e : (List.range 256).find? (fun i => gB l ((i : Nat) : Int)) = none := by
    rw [List.find?_eq_none]
    intro x hx
    have hx := List.mem_range.1 hx
    rw [h x (by omega) (by omega)]
    decide
  rw [leastD, e]
/-- Are all of one set in another? -/
def inD (l r : List Bool) : Bool := (List.range 256).all fun i => !gB l ((i : Nat) : Int) || gB r ((i : Nat) : Int)
theorem in_bad {l r : List Bool} {k : Int} (h0 : 0 ≤ k) (h1 : k < 256) (hl : gB l k = true) (hr : gB r k = false) : false = inD l r := by
  refine Eq.symm ?_
  rw [inD, List.all_eq_false]
  refine ⟨k.toNat, List.mem_range.2 (by omega), ?_⟩
  rw [show ((k.toNat : Nat) : Int) = k by omega, hl, hr]
  decide
theorem in_good {l r : List Bool} {k : Int} (hk : 256 ≤ k) (h : ∀ j : Int, 0 ≤ j → j < k → gB l j = true → gB r j = true) : true = inD l r := by
  refine Eq.symm ?_
  rw [inD, List.all_eq_true]
  intro x hx
  have hx := List.mem_range.1 hx
  cases hl : gB l (x : Int)
  · rfl
  · rw [h x (by omega) (by omega) hl]
    rfl
/-- Four words. -/
def OkW (s : List Int) : Prop := s.length = 4 ∧ ∀ j : Int, W64 (gI s j)
theorem okLen {s : List Int} (h : OkW s) : s.length = 4 := h.1
def fromW (s : List Int) : List Bool := ofZ (fun j => bitI (gI s (j / 64)) (j % 64))
/-- The first k words have been gone through: z tells what is put there. -/
def MixW (l xs : List Int) (z : Int → Int) (k : Int) : Prop := xs.length = 4 ∧ ∀ j : Int, 0 ≤ j → j < 4 → gI xs j = if j < k then z j else gI l j
theorem mixW_0 {l : List Int} {z : Int → Int} (h : l.length = 4) : MixW l l z 0 := ⟨h, fun j a b => by rw [if_neg (by omega)]⟩
theorem mixW_next {l xs : List Int} {z : Int → Int} {k v : Int} (h : MixW l xs z k) (h0 : 0 ≤ k) (h1 : k < 4) (hv : v = z k) : MixW l (xs.set k.toNat v) z (k + 1) := by
  have hl := h.1
  refine ⟨by rw [List.length_set]; exact hl, fun j a b => ?_⟩
  rw [gI_set' h0 (by omega) a]
  by_cases e : k = j
  · subst e
    rw [if_pos rfl, if_pos (by omega), hv]
  · rw [if_neg e, h.2 j a b]
    by_cases e2 : j < k
    · rw [if_pos e2, if_pos (by omega)]
    · rw [if_neg e2, if_neg (by omega)]
theorem mixW_at {l xs : List Int} {z : Int → Int} {k : Int} (h : MixW l xs z k) (h0 : 0 ≤ k) (h1 : k < 4) : gI xs k = gI l k := by
  rw [h.2 k h0 h1, if_neg (by omega)]
def ofZW (z : Int → Int) : List Int := [z 0, z 1, z 2, z 3]
theorem gI_ofZW {z : Int → Int} {j : Int} (h0 : 0 ≤ j) (h1 : j < 4) : gI (ofZW z) j = z j := by
  obtain rfl | rfl | rfl | rfl : j = 0 ∨ j = 1 ∨ j = 2 ∨ j = 3 := by omega
  all_goals rfl
theorem words_ext {l r : List Int} (hl : l.length = 4) (hr : r.length = 4) (h : ∀ j : Int, 0 ≤ j → j < 4 → gI l j = gI r j) : l = r := by
  refine List.ext_getElem (by rw [hl, hr]) fun i h1 h2 => ?_
  have := h i (by omega) (by omega)
  simp only [gI, Int.toNat_natCast, List.getD_eq_getElem?_getD, List.getElem?_eq_getElem h1, List.getElem?_eq_getElem h2, Option.getD_some] at this
  exact this
theorem mixW_end {l xs : List Int} {z : Int → Int} {k : Int} (h : MixW l xs z k) (hk : 4 ≤ k) : xs = ofZW z :=
  words_ext h.1 rfl fun j a b => by rw [h.2 j a b, if_pos (by omega), gI_ofZW a b]
theorem mixW_W {l xs : List Int} {z : Int → Int} {k : Int} (h : MixW l xs z k) (h0 : 0 ≤ k) (h1 : k < 4) (hl : OkW l) : W64 (gI xs k) := by
  rw [mixW_at h h0 h1]
  exact hl.2 k
def withW (s : List Int) (n : Int) : List Int := if 0 ≤ n ∧ n < 256 then s.set (n / 64).toNat (orW (gI s (n / 64)) (oneW (n % 64))) else s
def lessW (s : List Int) (n : Int) : List Int := if 0 ≤ n ∧ n < 256 then s.set (n / 64).toNat (notW (gI s (n / 64)) (oneW (n % 64))) else s
def hasW (s : List Int) (n : Int) : Bool := decide (0 ≤ n ∧ n < 256) && bitI (gI s (n / 64)) (n % 64)
theorem hasW_yes {s : List Int} {n : Int} (h : OkW s) (h0 : 0 ≤ n) (h1 : n < 256) : ((IntKind.u64.wrap (((BitVec.ofInt 64 ((gI s (n / 64)).fdiv (2 ^ (min (n % 64).toNat IntKind.u64.bits))) &&& BitVec.ofInt 64 1).toNat : Nat) : Int) : Int) == 1) = hasW s n := by
  rw [bit_test (h.2 _) (by omega) (by omega), hasW, decide_eq_true ⟨h0, h1⟩, Bool.true_and]
theorem hasW_no {s : List Int} {n : Int} (h : ¬ (0 ≤ n ∧ n < 256)) : false = hasW s n := by rw [hasW, decide_eq_false h, Bool.false_and]
theorem gI_set_W {s : List Int} {i v : Int} (h : OkW s) (hv : W64 v) : OkW (s.set i.toNat v) := ⟨by rw [List.length_set]; exact h.1, fun j => by
  simp only [gI, List.getD_eq_getElem?_getD, List.getElem?_set]
  split
  · split
    · exact hv
    · exact ⟨by show (0 : Int) ≤ 0; omega, by show (0 : Int) < _; omega⟩
  · exact h.2 j⟩
theorem okW_with {s : List Int} {n : Int} (h : OkW s) : OkW (withW s n) := by
  unfold withW
  split
  · exact gI_set_W h (orW_W (h.2 _) (oneW_W (by omega) (by omega)))
  · exact h
theorem okW_less {s : List Int} {n : Int} (h : OkW s) : OkW (lessW s n) := by
  unfold lessW
  split
  · exact gI_set_W h (notW_W (h.2 _) (oneW_W (by omega) (by omega)))
  · exact h
theorem okW_lit {a b c d : Int} (ha : W64 a) (hb : W64 b) (hc : W64 c) (hd : W64 d) : OkW [a, b, c, d] := ⟨rfl, fun j => by
  by_cases h : 0 ≤ j ∧ j < 4
  · obtain rfl | rfl | rfl | rfl : j = 0 ∨ j = 1 ∨ j = 2 ∨ j = 3 := by omega
    · exact ha
    · exact hb
    · exact hc
    · exact hd
  · by_cases h0 : 0 ≤ j
    · have e : gI [a, b, c, d] j = 0 := by
        simp only [gI, List.getD_eq_getElem?_getD]
        rw [List.getElem?_eq_none (show ([a, b, c, d] : List Int).length ≤ j.toNat by show 4 ≤ j.toNat; omega)]
        rfl
      rw [e]
      exact ⟨by omega, by omega⟩
    · have e : gI [a, b, c, d] j = a := by
        simp only [gI]
        rw [show j.toNat = 0 by omega]
        rfl
      rw [e]
      exact ha⟩
theorem okW_of4 {z : Int → Int} (h : ∀ j : Int, 0 ≤ j → j < 4 → W64 (z j)) : OkW (ofZW z) := okW_lit (h 0 (by omega) (by omega)) (h 1 (by omega) (by omega)) (h 2 (by omega) (by omega)) (h 3 (by omega) (by omega))
theorem okW_or {s t : List Int} (h : OkW s) (h2 : OkW t) : OkW (ofZW (fun j => orW (gI s j) (gI t j))) := okW_of4 fun j _ _ => orW_W (h.2 j) (h2.2 j)
theorem okW_and {s t : List Int} (h : OkW s) (h2 : OkW t) : OkW (ofZW (fun j => andW (gI s j) (gI t j))) := okW_of4 fun j _ _ => andW_W (h.2 j) (h2.2 j)
theorem okW_minus {s t : List Int} (h : OkW s) (h2 : OkW t) : OkW (ofZW (fun j => notW (gI s j) (gI t j))) := okW_of4 fun j _ _ => notW_W (h.2 j) (h2.2 j)
theorem okW_0 : OkW (List.replicate 4 (0 : Int)) := okW_lit ⟨by omega, by omega⟩ ⟨by omega, by omega⟩ ⟨by omega, by omega⟩ ⟨by omega, by omega⟩
theorem okW_00 : OkW ([0, 0, 0, 0] : List Int) := okW_0
/-- The words of a list. -/
def ofW (l : List Int) : List Int := l.foldl withW (List.replicate 4 0)
theorem ofW_ok (l : List Int) : OkW (ofW l) := by
  unfold ofW
  have : ∀ (l : List Int) (s : List Int), OkW s → OkW (l.foldl withW s) := by
    intro l
    induction l with
    | nil => intro s h; exact h
    | cons n l ih => intro s h; exact ih _ (okW_with h)
  exact this l _ okW_0
theorem ofW_next {l : List Int} {xs : List Int} {k : Int} (h : xs = ofW (l.take k.toNat)) (h0 : 0 ≤ k) (h1 : k < l.length) : withW xs (gI l k) = ofW (l.take (k + 1).toNat) := by
  subst h
  rw [show (k + 1).toNat = k.toNat + 1 by omega, List.take_succ_eq_append_getElem (by omega), ofW, ofW, List.foldl_append]
  simp only [List.foldl_cons, List.foldl_nil, gI, List.getD_eq_getElem?_getD, List.getElem?_eq_getElem (show k.toNat < l.length by omega), Option.getD_some]
def inW (s t : List Int) : Bool := decide (ofZW (fun j => notW (gI s j) (gI t j)) = ([0, 0, 0, 0] : List Int))
theorem map4 {s : List Int} (h : s.length = 4) : (s.map wV).toArray = ([wV (gI s 0), wV (gI s 1), wV (gI s 2), wV (gI s 3)] : List Value).toArray := by
  match s, h with
  | [a, b, c, d], _ => rfl
theorem w4_eq {s t : List Int} (h : s.length = 4) (h2 : t.length = 4) : (((gI s 0 : Int) == gI t 0) && (((gI s 1 : Int) == gI t 1) && (((gI s 2 : Int) == gI t 2) && (((gI s 3 : Int) == gI t 3) && true)))) = decide (s = t) := by
  match s, t, h, h2 with
  | [a, b, c, d], [a', b', c', d'], _, _ =>
    show ((a == a') && ((b == b') && ((c == c') && ((d == d') && true)))) = _
    rw [Bool.eq_iff_iff]
    simp
/-- The word of the numbers 64 j, 64 j + 1, .. below n more. -/
def wP (l : List Bool) (j : Int) : Nat → Nat
  | 0 => 0
  | n + 1 => wP l j n + (if gB l (64 * j + n) = true then 2 ^ n else 0)
theorem wP_lt (l : List Bool) (j : Int) : ∀ n, wP l j n < 2 ^ n
  | 0 => (Nat.zero_lt_one : 0 < 1)
  | n + 1 => by
    have := wP_lt l j n
    rw [wP, Nat.pow_succ]
    split <;> omega
theorem wP_bit (l : List Bool) (j : Int) : ∀ n i, (wP l j n).testBit i = (decide (i < n) && gB l (64 * j + i))
  | 0, i => by simp [wP]
  | n + 1, i => by
    have hlt := wP_lt l j n
    have ih := wP_bit l j n i
    rw [wP]
    by_cases hb : gB l (64 * j + n) = true
    · rw [if_pos hb, Nat.add_comm]
      by_cases hi : i < n
      · rw [Nat.testBit_two_pow_add_gt hi, ih, decide_eq_true hi, decide_eq_true (by omega)]
      · by_cases he : i = n
        · subst he
          rw [Nat.testBit_two_pow_add_eq, Nat.testBit_lt_two_pow hlt, decide_eq_true (by omega), hb]
          rfl
        · rw [decide_eq_false (by omega), Bool.false_and]
          refine Nat.testBit_lt_two_pow ?_
          have h1 := Nat.pow_le_pow_right (n := 2) (by omega) (show n + 1 ≤ i by omega)
          rw [Nat.pow_succ] at h1
          omega
    · rw [if_neg hb, Nat.add_zero, ih]
      by_cases hi : i < n
      · rw [decide_eq_true hi, decide_eq_true (by omega)]
      · by_cases he : i = n
        · subst he
          have : gB l (64 * j + (i : Int)) = false := by simpa using hb
          rw [decide_eq_false (by omega), this]
          simp
        · rw [decide_eq_false (by omega), decide_eq_false (by omega)]
/-- The words of a set, k numbers having been gone through. -/
def WordsT (l : List Bool) (xs : List Int) (k : Int) : Prop := xs.length = 4 ∧ ∀ j : Int, 0 ≤ j → j < 4 → gI xs j = ((wP l j (min 64 (k - 64 * j).toNat) : Nat) : Int)
theorem words_0 {l : List Bool} : WordsT l (List.replicate 4 (0 : Int)) 0 := ⟨rfl, fun j a b => by
  rw [show (min 64 (0 - 64 * j).toNat) = 0 by omega, wP]
  obtain rfl | rfl | rfl | rfl : j = 0 ∨ j = 1 ∨ j = 2 ∨ j = 3 := by omega
  all_goals rfl⟩
theorem words_no {l : List Bool} {xs : List Int} {k : Int} (h : WordsT l xs k) (h0 : 0 ≤ k) (h1 : k < 256) (hb : gB l k = false) : WordsT l xs (k + 1) := by
  refine ⟨h.1, fun j a b => ?_⟩
  rw [h.2 j a b]
  by_cases e : k / 64 = j
  · rw [show min 64 (k + 1 - 64 * j).toNat = min 64 (k - 64 * j).toNat + 1 by omega, wP, if_neg (by rw [show 64 * j + ((min 64 (k - 64 * j).toNat : Nat) : Int) = k by omega, hb]; decide)]
    simp
  · rw [show min 64 (k + 1 - 64 * j).toNat = min 64 (k - 64 * j).toNat by omega]
theorem words_add {l : List Bool} {xs : List Int} {k : Int} (h : WordsT l xs k) (h0 : 0 ≤ k) (h1 : k < 256) (hb : gB l k = true) : IntKind.u64.wrap (gI xs (k / 64) + oneW (k % 64)) = ((wP l (k / 64) (min 64 (k + 1 - 64 * (k / 64)).toNat) : Nat) : Int) := by
  have e : min 64 (k + 1 - 64 * (k / 64)).toNat = min 64 (k - 64 * (k / 64)).toNat + 1 := by omega
  have e2 : min 64 (k - 64 * (k / 64)).toNat = (k % 64).toNat := by omega
  have hlt := wP_lt l (k / 64) (min 64 (k - 64 * (k / 64)).toNat + 1)
  rw [h.2 _ (by omega) (by omega), e]
  rw [wP, if_pos (by rw [show 64 * (k / 64) + ((min 64 (k - 64 * (k / 64)).toNat : Nat) : Int) = k by omega]; exact hb)] at hlt ⊢
  rw [e2] at hlt ⊢
  have hp := Nat.pow_le_pow_right (n := 2) (by omega) (show (k % 64).toNat + 1 ≤ 64 by omega)
  have h64 : (2 : Nat) ^ 64 = 18446744073709551616 := by decide
  have ee : ((wP l (k / 64) (k % 64).toNat : Nat) : Int) + oneW (k % 64) = ((wP l (k / 64) (k % 64).toNat + 2 ^ (k % 64).toNat : Nat) : Int) := by simp [oneW]
  rw [ee]
  exact wrapU (natW (by omega))
theorem words_yes {l : List Bool} {xs : List Int} {k v : Int} (h : WordsT l xs k) (h0 : 0 ≤ k) (h1 : k < 256) (hb : gB l k = true) (hv : v = IntKind.u64.wrap (gI xs (k / 64) + oneW (k % 64))) : WordsT l (xs.set (k / 64).toNat v) (k + 1) := by
  have hl := h.1
  refine ⟨by rw [List.length_set]; exact hl, fun j a b => ?_⟩
  rw [gI_set' (by omega) (by omega) a]
  by_cases e : k / 64 = j
  · subst e
    rw [if_pos rfl, hv, words_add h h0 h1 hb]
  · rw [if_neg e, h.2 j a b, show min 64 (k + 1 - 64 * j).toNat = min 64 (k - 64 * j).toNat by omega]
def wordsD (l : List Bool) : List Int := ofZW (fun j => ((wP l j 64 : Nat) : Int))
theorem words_end {l : List Bool} {xs : List Int} {k : Int} (h : WordsT l xs k) (hk : 256 ≤ k) : xs = wordsD l :=
  words_ext h.1 rfl fun j a b => by
    rw [h.2 j a b, wordsD, gI_ofZW a b, show min 64 (k - 64 * j).toNat = 64 by omega]
theorem wordsD_W (l : List Bool) : OkW (wordsD l) := ⟨rfl, fun j => by
  have h64 : (2 : Nat) ^ 64 = 18446744073709551616 := by decide
  by_cases h : 0 ≤ j ∧ j < 4
  · rw [wordsD, gI_ofZW h.1 h.2]
    exact natW (by have := wP_lt l j 64; omega)
  · have e : gI (wordsD l) j = gI (wordsD l) 0 ∨ gI (wordsD l) j = 0 := by
      by_cases h0 : 0 ≤ j
      · right
        simp only [gI, List.getD_eq_getElem?_getD]
        rw [List.getElem?_eq_none (show (wordsD l).length ≤ j.toNat by show 4 ≤ j.toNat; omega)]
        rfl
      · left
        simp only [gI]
        rw [show j.toNat = (0 : Int).toNat by omega]
    rcases e with e | e
    · rw [e, wordsD, gI_ofZW (by omega) (by omega)]
      exact natW (by have := wP_lt l 0 64; omega)
    · rw [e]
      exact ⟨by omega, by omega⟩⟩
theorem ret_map {α : Type} {f : α → Value} {l r : List α} (h : l = r) : Ending.returned (.agg (l.map f).toArray) = .returned (.agg (r.map f).toArray) := by rw [h]
end Go.Proofs.Ytklbpajmoklheaa
set_option linter.unusedVariables false
set_option linter.unusedSimpArgs false
namespace Go.Proofs.Ytklbpajmoklheaa
open Go Go.RowKit
theorem from_len (s : List Int) : (fromW s).length = 256 := ofZ_len _
theorem gB_from {s : List Int} {j : Int} (h0 : 0 ≤ j) (h1 : j < 256) : gB (fromW s) j = bitI (gI s (j / 64)) (j % 64) := gB_ofZ h0 h1
theorem bits_ext {s t : List Int} (hs : OkW s) (ht : OkW t) (h : ∀ j : Int, 0 ≤ j → j < 256 → bitI (gI s (j / 64)) (j % 64) = bitI (gI t (j / 64)) (j % 64)) : s = t :=
  words_ext hs.1 ht.1 fun q a b => word_ext (hs.2 q) (ht.2 q) fun r c d => by
    have := h (64 * q + r) (by omega) (by omega)
    rwa [show (64 * q + r) / 64 = q by omega, show (64 * q + r) % 64 = r by omega] at this
theorem from_inj {s t : List Int} (hs : OkW s) (ht : OkW t) (h : fromW s = fromW t) : s = t :=
  bits_ext hs ht fun j a b => by rw [← gB_from a b, ← gB_from a b, h]
theorem bit_words {l : List Bool} {q r : Int} (q0 : 0 ≤ q) (q1 : q < 4) (r0 : 0 ≤ r) (r1 : r < 64) : bitI (gI (wordsD l) q) r = gB l (64 * q + r) := by
  rw [wordsD, gI_ofZW q0 q1, bitI, Int.toNat_natCast, wP_bit, decide_eq_true (by omega), Bool.true_and]
  congr 1
  omega
theorem from_words {l : List Bool} (h : l.length = 256) : fromW (wordsD l) = l :=
  list_ext (from_len _) h fun j a b => by
    rw [gB_from a b, bit_words (by omega) (by omega) (by omega) (by omega)]
    congr 1
    omega
/-- The document's words of a set are the program's set, where both hold the same. -/
theorem same_iff {s : List Int} {l : List Bool} (hs : OkW s) (hl : l.length = 256) : s = wordsD l ↔ fromW s = l :=
  ⟨fun h => by rw [h, from_words hl], fun h => from_inj hs (wordsD_W l) (by rw [from_words hl, h])⟩
theorem gB_put {l : List Bool} {n j : Int} {v : Bool} (hl : l.length = 256) (h0 : 0 ≤ j) (h1 : j < 256) : gB (putD l n v) j = if n = j then v else gB l j := by
  unfold putD
  by_cases h : 0 ≤ n ∧ n < 256
  · rw [if_pos h, gB_set' h.1 (by omega) h0]
  · rw [if_neg h, if_neg (by omega)]
theorem bit_set {s : List Int} {n v : Int} {j : Int} (hs : OkW s) (h0 : 0 ≤ n) (h1 : n < 256) (j0 : 0 ≤ j) (j1 : j < 256) : bitI (gI (s.set (n / 64).toNat v) (j / 64)) (j % 64) = if n / 64 = j / 64 then bitI v (j % 64) else bitI (gI s (j / 64)) (j % 64) := by
  have := hs.1
  rw [gI_set' (by omega) (by omega) (by omega)]
  split <;> rfl
theorem from_with {s : List Int} {n : Int} (hs : OkW s) : fromW (withW s n) = putD (fromW s) n true :=
  list_ext (from_len _) (put_len (from_len _)) fun j a b => by
    rw [gB_from a b, gB_put (from_len _) a b]
    unfold withW
    by_cases h : 0 ≤ n ∧ n < 256
    · rw [if_pos h, bit_set hs h.1 h.2 a b, gB_from a b]
      by_cases e : n / 64 = j / 64
      · rw [if_pos e, orW, bit_or, bit_one (by omega) (by omega), e]
        by_cases e2 : n = j
        · rw [if_pos e2, decide_eq_true (by omega), Bool.or_true]
        · rw [if_neg e2, decide_eq_false (by omega), Bool.or_false]
      · rw [if_neg e, if_neg (by omega)]
    · rw [if_neg h, if_neg (by omega), gB_from a b]
theorem from_less {s : List Int} {n : Int} (hs : OkW s) : fromW (lessW s n) = putD (fromW s) n false :=
  list_ext (from_len _) (put_len (from_len _)) fun j a b => by
    rw [gB_from a b, gB_put (from_len _) a b]
    unfold lessW
    by_cases h : 0 ≤ n ∧ n < 256
    · rw [if_pos h, bit_set hs h.1 h.2 a b, gB_from a b]
      by_cases e : n / 64 = j / 64
      · rw [if_pos e, notW, bit_andNot (oneW_W (by omega) (by omega)) (by omega) (by omega), bit_one (by omega) (by omega), e]
        by_cases e2 : n = j
        · rw [if_pos e2, decide_eq_true (by omega)]
          simp
        · rw [if_neg e2, decide_eq_false (by omega)]
          simp
      · rw [if_neg e, if_neg (by omega)]
    · rw [if_neg h, if_neg (by omega), gB_from a b]
theorem from_or {s t : List Int} : fromW (ofZW (fun j => orW (gI s j) (gI t j))) = ofZ (fun j => gB (fromW s) j || gB (fromW t) j) :=
  list_ext (from_len _) (ofZ_len _) fun j a b => by
    rw [gB_from a b, gB_ofZ a b, gI_ofZW (by omega) (by omega), orW, bit_or, gB_from a b, gB_from a b]
theorem from_and {s t : List Int} : fromW (ofZW (fun j => andW (gI s j) (gI t j))) = ofZ (fun j => gB (fromW s) j && gB (fromW t) j) :=
  list_ext (from_len _) (ofZ_len _) fun j a b => by
    rw [gB_from a b, gB_ofZ a b, gI_ofZW (by omega) (by omega), andW, bit_and, gB_from a b, gB_from a b]
theorem from_minus {s t : List Int} (ht : OkW t) : fromW (ofZW (fun j => notW (gI s j) (gI t j))) = ofZ (fun j => gB (fromW s) j && !gB (fromW t) j) :=
  list_ext (from_len _) (ofZ_len _) fun j a b => by
    rw [gB_from a b, gB_ofZ a b, gI_ofZW (by omega) (by omega), notW, bit_andNot (ht.2 _) (by omega) (by omega), gB_from a b, gB_from a b]
theorem hasW_from (s : List Int) (n : Int) : hasW s n = hasD (fromW s) n := by
  unfold hasW hasD
  by_cases h : 0 ≤ n ∧ n < 256
  · rw [decide_eq_true h, gB_from h.1 h.2]
  · rw [decide_eq_false h, Bool.false_and, Bool.false_and]
theorem from_0 : fromW (List.replicate 4 (0 : Int)) = List.replicate 256 false :=
  list_ext (from_len _) List.length_replicate fun j a b => by
    rw [gB_from a b, gB_rep]
    have e : gI (List.replicate 4 (0 : Int)) (j / 64) = 0 := by
      obtain h | h | h | h : j / 64 = 0 ∨ j / 64 = 1 ∨ j / 64 = 2 ∨ j / 64 = 3 := by omega
      all_goals rw [h]; rfl
    rw [e, bit_zero]
theorem from_of (l : List Int) : fromW (ofW l) = ofD l := by
  unfold ofW ofD
  have : ∀ (l : List Int) (s : List Int), OkW s → fromW (l.foldl withW s) = l.foldl (fun s n => putD s n true) (fromW s) := by
    intro l
    induction l with
    | nil => intro s h; rfl
    | cons n l ih => intro s h; rw [List.foldl_cons, List.foldl_cons, ih _ (okW_with h), from_with h]
  rw [this l _ okW_0, from_0]
theorem inW_from {s t : List Int} (hs : OkW s) (ht : OkW t) : inW s t = inD (fromW s) (fromW t) := by
  unfold inW
  by_cases h : ofZW (fun j => notW (gI s j) (gI t j)) = ([0, 0, 0, 0] : List Int)
  · rw [decide_eq_true h]
    refine in_good (k := 256) (by omega) fun j a b hj => ?_
    have e := from_minus (s := s) ht
    rw [h] at e
    have e2 : gB _ j = gB _ j := congrArg (fun l => gB l j) e
    rw [gB_ofZ a b, hj, Bool.true_and, show ([0, 0, 0, 0] : List Int) = List.replicate 4 0 from rfl, from_0, gB_rep] at e2
    simpa using e2.symm
  · rw [decide_eq_false h]
    refine Eq.symm ?_
    rw [Bool.eq_false_iff]
    intro hin
    refine h (from_inj (okW_minus hs ht) okW_0 ?_)
    rw [from_minus ht, show fromW ([0, 0, 0, 0] : List Int) = fromW (List.replicate 4 (0 : Int)) from rfl, from_0]
    refine list_ext (ofZ_len _) List.length_replicate fun j a b => ?_
    rw [gB_ofZ a b, gB_rep]
    rw [inD, List.all_eq_true] at hin
    have := hin j.toNat (List.mem_range.2 (by omega))
    rw [show ((j.toNat : Nat) : Int) = j by omega] at this
    cases h1 : gB (fromW s) j <;> cases h2 : gB (fromW t) j <;> simp_all
end Go.Proofs.Ytklbpajmoklheaa
