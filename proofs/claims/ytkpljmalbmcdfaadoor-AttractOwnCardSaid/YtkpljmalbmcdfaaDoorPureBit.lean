/-
  Plain: words of 64 bits as ints, bit by bit. No program.
-/
import Derived.Test.YtkpljmalbmcdfaaDoorBase
set_option linter.unusedVariables false
namespace Go.Proofs.YtkpljmalbmcdfaaDoor
open Go Go.RowKit
/-- A word: an int from 0 below 2^64. -/
def W64 (a : Int) : Prop := 0 ≤ a ∧ a < 18446744073709551616
def bitI (a : Int) (k : Int) : Bool := a.toNat.testBit k.toNat
theorem wrapU {a : Int} (h : W64 a) : IntKind.u64.wrap a = a := by
  obtain ⟨h0, h1⟩ := h
  simp only [IntKind.wrap, IntKind.signed, IntKind.bits]
  simp
  omega
theorem ofInt_nat {a : Int} (h : W64 a) : (BitVec.ofInt 64 a).toNat = a.toNat := by
  obtain ⟨h0, h1⟩ := h
  rw [BitVec.toNat_ofInt]
  congr 1
  omega
theorem natW {n : Nat} (h : n < 18446744073709551616) : W64 (n : Int) := ⟨by omega, by omega⟩
theorem or64 {a b : Int} (ha : W64 a) (hb : W64 b) : IntKind.u64.wrap (((BitVec.ofInt 64 a ||| BitVec.ofInt 64 b).toNat : Nat) : Int) = ((a.toNat ||| b.toNat : Nat) : Int) := by
  rw [BitVec.toNat_or, ofInt_nat ha, ofInt_nat hb]
  refine wrapU (natW ?_)
  have := Nat.or_lt_two_pow (n := 64) (x := a.toNat) (y := b.toNat) (by have := ha.2; omega) (by have := hb.2; omega)
  simpa using this
theorem and64 {a b : Int} (ha : W64 a) (hb : W64 b) : IntKind.u64.wrap (((BitVec.ofInt 64 a &&& BitVec.ofInt 64 b).toNat : Nat) : Int) = ((a.toNat &&& b.toNat : Nat) : Int) := by
  rw [BitVec.toNat_and, ofInt_nat ha, ofInt_nat hb]
  refine wrapU (natW ?_)
  have := Nat.and_lt_two_pow (n := 64) a.toNat (y := b.toNat) (by have := hb.2; omega)
  simpa using this
theorem andNot64 {a b : Int} (ha : W64 a) (hb : W64 b) : IntKind.u64.wrap (((BitVec.ofInt 64 a &&& ~~~ (BitVec.ofInt 64 b)).toNat : Nat) : Int) = ((a.toNat &&& (18446744073709551615 - b.toNat) : Nat) : Int) := by
  rw [BitVec.toNat_and, BitVec.toNat_not, ofInt_nat ha, ofInt_nat hb]
  have e : (2 ^ 64 - 1 - b.toNat : Nat) = 18446744073709551615 - b.toNat := by omega
  rw [e]
  refine wrapU (natW ?_)
  have := Nat.and_lt_two_pow (n := 64) a.toNat (y := 18446744073709551615 - b.toNat) (by omega)
  simpa using this
def orW (a b : Int) : Int := ((a.toNat ||| b.toNat : Nat) : Int)
def andW (a b : Int) : Int := ((a.toNat &&& b.toNat : Nat) : Int)
def notW (a b : Int) : Int := ((a.toNat &&& (18446744073709551615 - b.toNat) : Nat) : Int)
theorem orW_W {a b : Int} (ha : W64 a) (hb : W64 b) : W64 (orW a b) := by
  refine natW ?_
  have := Nat.or_lt_two_pow (n := 64) (x := a.toNat) (y := b.toNat) (by have := ha.2; omega) (by have := hb.2; omega)
  simpa using this
theorem andW_W {a b : Int} (ha : W64 a) (hb : W64 b) : W64 (andW a b) := by
  refine natW ?_
  have := Nat.and_lt_two_pow (n := 64) a.toNat (y := b.toNat) (by have := hb.2; omega)
  simpa using this
theorem notW_W {a b : Int} (ha : W64 a) (hb : W64 b) : W64 (notW a b) := by
  refine natW ?_
  have := Nat.and_lt_two_pow (n := 64) a.toNat (y := 18446744073709551615 - b.toNat) (by omega)
  simpa using this
theorem tmodE {x : Int} (h : 0 ≤ x) (y : Int) : x.tmod y = x % y := Int.tmod_eq_emod_of_nonneg h
theorem w64q {x y : Int} (h0 : 0 ≤ x) (h1 : x ≤ 9223372036854775807) (hy : 0 < y) : IntKind.i64.wrap (x.tdiv y) = x / y := by
  rw [Int.tdiv_eq_ediv_of_nonneg h0]
  have h2 := Int.ediv_nonneg h0 (Int.le_of_lt hy)
  have h3 := Int.ediv_le_self y h0
  simp only [IntKind.wrap, IntKind.signed, IntKind.bits]
  simp
  omega
theorem shr6 (x : Int) : x.fdiv (2 ^ (min (6 : Int).toNat IntKind.i64.bits)) = x / 64 := by
  have e : (2 : Int) ^ (min (6 : Int).toNat IntKind.i64.bits) = 64 := by decide
  rw [e, Int.fdiv_eq_ediv_of_nonneg _ (by decide)]
theorem and63 {x : Int} (h0 : 0 ≤ x) (h1 : x < 256) : IntKind.i64.wrap (((BitVec.ofInt 64 x &&& BitVec.ofInt 64 63).toNat : Nat) : Int) = x % 64 := by
  have e : (BitVec.ofInt 64 x).toNat = x.toNat := by rw [BitVec.toNat_ofInt]; congr 1; omega
  have e2 : (BitVec.ofInt 64 63).toNat = 63 := by decide
  rw [BitVec.toNat_and, e, e2]
  have e3 : x.toNat &&& 63 = x.toNat % 64 := Nat.and_two_pow_sub_one_eq_mod x.toNat 6
  rw [e3]
  simp only [IntKind.wrap, IntKind.signed, IntKind.bits]
  simp
  omega
theorem bit_mod {a k : Int} (ha : W64 a) (h0 : 0 ≤ k) (h1 : k < 64) : (((a.fdiv (2 ^ (min k.toNat IntKind.u64.bits))).tmod 2 : Int) == 1) = bitI a k := by
  have e : min k.toNat IntKind.u64.bits = k.toNat := by simp only [IntKind.bits]; omega
  obtain ⟨a0, a1⟩ := ha
  have e2 : a.fdiv (2 ^ k.toNat) = ((a.toNat / 2 ^ k.toNat : Nat) : Int) := by
    obtain ⟨n, rfl⟩ := Int.eq_ofNat_of_zero_le a0
    rw [Int.fdiv_eq_ediv_of_nonneg _ (by exact Int.le_of_lt (Int.pow_pos (by omega)))]
    simp
  rw [e, e2, tmodE (Int.natCast_nonneg _), bitI, Nat.testBit_eq_decide_div_mod_eq, Bool.eq_iff_iff, beq_iff_eq, decide_eq_true_eq]
  omega
theorem bit_or {a b k : Int} : bitI ((a.toNat ||| b.toNat : Nat) : Int) k = (bitI a k || bitI b k) := by simp [bitI, Nat.testBit_or]
theorem bit_and {a b k : Int} : bitI ((a.toNat &&& b.toNat : Nat) : Int) k = (bitI a k && bitI b k) := by simp [bitI, Nat.testBit_and]
theorem bit_andNot {a b k : Int} (hb : W64 b) (h0 : 0 ≤ k) (h1 : k < 64) : bitI ((a.toNat &&& (18446744073709551615 - b.toNat) : Nat) : Int) k = (bitI a k && !bitI b k) := by
  have e : (18446744073709551615 - b.toNat : Nat).testBit k.toNat = !b.toNat.testBit k.toNat := by
    have := Nat.testBit_two_pow_sub_succ (n := 64) (x := b.toNat) (by have := hb.2; have := hb.1; omega) k.toNat
    rw [show (2 ^ 64 - (b.toNat + 1) : Nat) = 18446744073709551615 - b.toNat by omega] at this
    rw [this]
    simp
    omega
  simp [bitI, Nat.testBit_and, e]
theorem word_ext {a b : Int} (ha : W64 a) (hb : W64 b) (h : ∀ k : Int, 0 ≤ k → k < 64 → bitI a k = bitI b k) : a = b := by
  have e : a.toNat = b.toNat := by
    refine Nat.eq_of_testBit_eq fun i => ?_
    by_cases hi : i < 64
    · have := h i (by omega) (by omega)
      simpa [bitI] using this
    · have h1 := ha.1
      have h2 := ha.2
      have h3 := hb.1
      have h4 := hb.2
      rw [Nat.testBit_lt_two_pow, Nat.testBit_lt_two_pow]
      · exact Nat.lt_of_lt_of_le (by omega) (Nat.pow_le_pow_right (n := 2) (by omega) (show 64 ≤ i by omega))
      · exact Nat.lt_of_lt_of_le (by omega) (Nat.pow_le_pow_right (n := 2) (by omega) (show 64 ≤ i by omega))
  have h1 := ha.1
  have h3 := hb.1
  omega
theorem bit_zero (k : Int) : bitI 0 k = false := by simp [bitI]
/-- The word with one bit. -/
def oneW (k : Int) : Int := ((2 ^ k.toNat : Nat) : Int)
theorem oneW_W {k : Int} (h0 : 0 ≤ k) (h1 : k < 64) : W64 (oneW k) := by
  refine natW ?_
  exact Nat.lt_of_lt_of_le (Nat.pow_lt_pow_right (a := 2) (by omega) (show k.toNat < 64 by omega)) (by decide)
theorem shl_one {k : Int} (h0 : 0 ≤ k) (h1 : k < 64) : IntKind.u64.wrap (1 * 2 ^ (min k.toNat IntKind.u64.bits)) = oneW k := by
  have e : min k.toNat IntKind.u64.bits = k.toNat := by simp only [IntKind.bits]; omega
  rw [e, Int.one_mul]
  have h := oneW_W h0 h1
  have e2 : ((2 : Int) ^ k.toNat) = oneW k := by simp [oneW]
  rw [e2]
  exact wrapU h
theorem bit_one {k j : Int} (h0 : 0 ≤ k) (j0 : 0 ≤ j) : bitI (oneW k) j = decide (k = j) := by
  simp only [bitI, oneW, Int.toNat_natCast, Nat.testBit_two_pow]
  rw [Bool.eq_iff_iff]
  simp
  omega
/-- The word of all bits below k. -/
def lowW (k : Int) : Int := ((2 ^ k.toNat - 1 : Nat) : Int)
theorem lowW_W {k : Int} (h0 : 0 ≤ k) (h1 : k ≤ 64) : W64 (lowW k) := by
  refine natW ?_
  have := Nat.pow_le_pow_right (n := 2) (by omega) (show k.toNat ≤ 64 by omega)
  have : (2 : Nat) ^ 64 = 18446744073709551616 := by decide
  have := Nat.two_pow_pos k.toNat
  omega
theorem shl_low {k : Int} (h0 : 0 ≤ k) (h1 : k ≤ 64) : IntKind.u64.wrap (IntKind.u64.wrap (1 * 2 ^ (min k.toNat IntKind.u64.bits)) - 1) = lowW k := by
  by_cases hk : k = 64
  · subst hk
    decide
  · rw [shl_one h0 (by omega)]
    have e : oneW k - 1 = lowW k := by
      have := Nat.two_pow_pos k.toNat
      simp only [oneW, lowW]
      omega
    rw [e]
    exact wrapU (lowW_W h0 h1)
theorem bit_low {k j : Int} (h0 : 0 ≤ k) (j0 : 0 ≤ j) : bitI (lowW k) j = decide (j < k) := by
  simp only [bitI, lowW, Int.toNat_natCast, Nat.testBit_two_pow_sub_one]
  rw [Bool.eq_iff_iff]
  simp
  omega
/-- Is a bit set? By a shift and a test of the lowest one. -/
theorem bit_test {a k : Int} (ha : W64 a) (h0 : 0 ≤ k) (h1 : k < 64) : ((IntKind.u64.wrap (((BitVec.ofInt 64 (a.fdiv (2 ^ (min k.toNat IntKind.u64.bits))) &&& BitVec.ofInt 64 1).toNat : Nat) : Int) : Int) == 1) = bitI a k := by
  have e : min k.toNat IntKind.u64.bits = k.toNat := by simp only [IntKind.bits]; omega
  obtain ⟨a0, a1⟩ := ha
  have e2 : a.fdiv (2 ^ k.toNat) = ((a.toNat / 2 ^ k.toNat : Nat) : Int) := by
    obtain ⟨n, rfl⟩ := Int.eq_ofNat_of_zero_le a0
    rw [Int.fdiv_eq_ediv_of_nonneg _ (by exact Int.le_of_lt (Int.pow_pos (by omega)))]
    simp
  rw [e, e2]
  have hw : W64 ((a.toNat / 2 ^ k.toNat : Nat) : Int) := natW (Nat.lt_of_le_of_lt (Nat.div_le_self _ _) (by omega))
  rw [and64 hw (b := 1) ⟨by omega, by omega⟩]
  simp only [Int.toNat_natCast, bitI]
  rw [show (1 : Int).toNat = 1 from rfl, Nat.and_one_is_mod, Nat.testBit_eq_decide_div_mod_eq]
  rw [Bool.eq_iff_iff, beq_iff_eq, decide_eq_true_eq]
  omega
end Go.Proofs.YtkpljmalbmcdfaaDoor
