/-
  Plain: how many bits of a word are set, added up byte by byte. No program.
-/
import Derived.Test.YtplpgfcjjnaigaaDoorPureSet
set_option linter.unusedVariables false
set_option linter.unusedSimpArgs false
namespace Go.Proofs.YtplpgfcjjnaigaaDoor
open Go Go.RowKit
theorem and_byte (z a m : Nat) (ha : a < 256) : z &&& (a + 256 * m) = ((z % 256) &&& a) + 256 * ((z / 256) &&& m) := by
  have hz : z = 2 ^ 8 * (z / 256) + z % 256 := by omega
  have hlt : (z % 256) &&& a < 2 ^ 8 := Nat.and_lt_two_pow _ (by omega)
  refine Nat.eq_of_testBit_eq fun i => ?_
  rw [Nat.testBit_and]
  conv => lhs; rw [hz, show a + 256 * m = 2 ^ 8 * m + a by omega]
  rw [show ((z % 256) &&& a) + 256 * ((z / 256) &&& m) = 2 ^ 8 * ((z / 256) &&& m) + ((z % 256) &&& a) by omega]
  rw [Nat.testBit_two_pow_mul_add _ (by omega), Nat.testBit_two_pow_mul_add _ (by omega), Nat.testBit_two_pow_mul_add _ hlt]
  split <;> simp [Nat.testBit_and]
def mkB (a : Nat) : Nat → Nat
  | 0 => 0
  | n + 1 => a + 256 * mkB a n
def fmB (f : Nat → Nat) : Nat → Nat → Nat
  | 0, _ => 0
  | n + 1, x => f (x % 256) + 256 * fmB f n (x / 256)
theorem d1 : ∀ r, r < 256 → ∀ b, b < 2 → (r / 2 + 128 * b) &&& 85 = (r / 2) &&& 85 := by decide +kernel
theorem d2 : ∀ r, r < 256 → ∀ b, b < 4 → (r / 4 + 64 * b) &&& 51 = (r / 4) &&& 51 := by decide +kernel
theorem d3 : ∀ r, r < 256 → ∀ b, b < 16 → r / 16 ≤ 4 → r % 16 ≤ 4 → ((r / 16 + 16 * b + r) % 256) &&& 15 = r / 16 + r % 16 := by decide +kernel
def f1 (r : Nat) : Nat := ((r / 2) &&& 85) + (r &&& 85)
def f2 (r : Nat) : Nat := ((r / 4) &&& 51) + (r &&& 51)
def f3 (r : Nat) : Nat := r / 16 + r % 16
theorem step1 : ∀ n x, ((x / 2) &&& mkB 85 n) + (x &&& mkB 85 n) = fmB f1 n x
  | 0, x => by simp [mkB, fmB]
  | n + 1, x => by
    have ih := step1 n (x / 256)
    have h := d1 (x % 256) (by omega) (x / 256 % 2) (by omega)
    rw [mkB, fmB, and_byte _ _ _ (by omega), and_byte _ _ _ (by omega), ← ih, f1, ← h]
    rw [show x / 2 % 256 = x % 256 / 2 + 128 * (x / 256 % 2) by omega, show x / 2 / 256 = x / 256 / 2 by omega]
    omega
theorem step2 : ∀ n x, ((x / 4) &&& mkB 51 n) + (x &&& mkB 51 n) = fmB f2 n x
  | 0, x => by simp [mkB, fmB]
  | n + 1, x => by
    have ih := step2 n (x / 256)
    have h := d2 (x % 256) (by omega) (x / 256 % 4) (by omega)
    rw [mkB, fmB, and_byte _ _ _ (by omega), and_byte _ _ _ (by omega), ← ih, f2, ← h]
    rw [show x / 4 % 256 = x % 256 / 4 + 64 * (x / 256 % 4) by omega, show x / 4 / 256 = x / 256 / 4 by omega]
    omega
def okB : Nat → Nat → Prop
  | 0, _ => True
  | n + 1, x => x % 256 / 16 ≤ 4 ∧ x % 256 % 16 ≤ 4 ∧ okB n (x / 256)
theorem step3 : ∀ n x, okB n x → (x / 16 + x) &&& mkB 15 n = fmB f3 n x
  | 0, x, _ => by simp [mkB, fmB]
  | n + 1, x, h => by
    have h3 := d3 (x % 256) (by omega) (x / 256 % 16) (by omega) h.1 h.2.1
    rw [mkB, fmB, and_byte _ _ _ (by omega), f3, ← h3]
    rw [show (x / 16 + x) % 256 = (x % 256 / 16 + 16 * (x / 256 % 16) + x % 256) % 256 by omega]
    cases n with
    | zero => simp [mkB, fmB]
    | succ n =>
      have ih := step3 (n + 1) (x / 256) h.2.2
      have hy := h.2.2.2.1
      have k1 := h.1
      have k2 := h.2.1
      have hz : (x / 16 + x) / 256 = x / 256 / 16 + x / 256 := by
        have e1 : x / 256 % 16 ≤ 4 := by
          have : x / 256 % 256 % 16 = x / 256 % 16 := Nat.mod_mod_of_dvd _ (by decide)
          omega
        clear ih h3 h
        generalize hy2 : x / 256 = y at *
        generalize hr : x % 256 = r at *
        have hx : x = r + 256 * y := by omega
        subst hx
        clear hy2 hr hy
        have e2 : (r + 256 * y) / 16 = r / 16 + 16 * y := by omega
        rw [e2]
        omega
      rw [← ih, hz]
theorem fm_fm (f g : Nat → Nat) (hf : ∀ r, r < 256 → f r < 256) : ∀ n x, fmB g n (fmB f n x) = fmB (fun r => g (f r)) n x
  | 0, x => rfl
  | n + 1, x => by
    have h := hf (x % 256) (by omega)
    rw [fmB, fmB, fmB, show (f (x % 256) + 256 * fmB f n (x / 256)) % 256 = f (x % 256) by omega, show (f (x % 256) + 256 * fmB f n (x / 256)) / 256 = fmB f n (x / 256) by omega, fm_fm f g hf n]
theorem ok_fm (f : Nat → Nat) (hf : ∀ r, r < 256 → f r < 256 ∧ f r / 16 ≤ 4 ∧ f r % 16 ≤ 4) : ∀ n x, okB n (fmB f n x)
  | 0, x => trivial
  | n + 1, x => by
    have h := hf (x % 256) (by omega)
    rw [fmB, okB, show (f (x % 256) + 256 * fmB f n (x / 256)) % 256 = f (x % 256) by omega, show (f (x % 256) + 256 * fmB f n (x / 256)) / 256 = fmB f n (x / 256) by omega]
    exact ⟨h.2.1, h.2.2, ok_fm f hf n _⟩
/-- How many of the lowest n bits are set. -/
def popN (x : Nat) : Nat → Nat
  | 0 => 0
  | n + 1 => popN x n + (if x.testBit n = true then 1 else 0)
def pop8 (r : Nat) : Nat := f3 (f2 (f1 r))
theorem d4 : ∀ r, r < 256 → f1 r < 256 ∧ f2 (f1 r) < 256 ∧ f2 (f1 r) / 16 ≤ 4 ∧ f2 (f1 r) % 16 ≤ 4 ∧ pop8 r ≤ 8 ∧ pop8 r = popN r 8 := by decide +kernel
theorem pop_add (x n : Nat) : ∀ m, popN x (n + m) = popN x n + popN (x / 2 ^ n) m
  | 0 => rfl
  | m + 1 => by
    rw [← Nat.add_assoc, popN, popN, pop_add x n m, Nat.testBit_div_two_pow, Nat.add_comm m n, Nat.add_assoc]
theorem pop_mod (x : Nat) : popN x 8 = popN (x % 256) 8 := by
  have : ∀ n, n ≤ 8 → popN x n = popN (x % 256) n := by
    intro n
    induction n with
    | zero => intro _; rfl
    | succ n ih =>
      intro h
      rw [popN, popN, ih (by omega), show x % 256 = x % 2 ^ 8 from rfl, Nat.testBit_mod_two_pow, decide_eq_true (by omega), Bool.true_and]
  exact this 8 (Nat.le_refl _)
/-- The sum of the bytes that the masks leave is how many bits are set. -/
theorem ones_sum {x : Nat} (h : x < 18446744073709551616) : let x3 := fmB pop8 8 x
    let x4 := (x3 + x3 / 256) % 18446744073709551616
    let x5 := (x4 + x4 / 65536) % 18446744073709551616
    ((x5 + x5 / 4294967296) % 18446744073709551616) % 128 = popN x 64 := by
  intro x3 x4 x5
  have e : popN x 64 = pop8 (x % 256) + (pop8 (x / 256 % 256) + (pop8 (x / 65536 % 256) + (pop8 (x / 16777216 % 256) + (pop8 (x / 4294967296 % 256) + (pop8 (x / 1099511627776 % 256) + (pop8 (x / 281474976710656 % 256) + pop8 (x / 72057594037927936 % 256))))))) := by
    have hb : ∀ y, pop8 (y % 256) = popN y 8 := fun y => by rw [(d4 (y % 256) (by omega)).2.2.2.2.2, ← pop_mod]
    rw [hb, hb, hb, hb, hb, hb, hb, hb]
    rw [show (64 : Nat) = 8 + 56 from rfl, pop_add, show (56 : Nat) = 8 + 48 from rfl, pop_add, show (48 : Nat) = 8 + 40 from rfl, pop_add, show (40 : Nat) = 8 + 32 from rfl, pop_add, show (32 : Nat) = 8 + 24 from rfl, pop_add, show (24 : Nat) = 8 + 16 from rfl, pop_add, show (16 : Nat) = 8 + 8 from rfl, pop_add]
    simp only [Nat.div_div_eq_div_mul]
  have hx3 : x3 = pop8 (x % 256) + 256 * (pop8 (x / 256 % 256) + 256 * (pop8 (x / 65536 % 256) + 256 * (pop8 (x / 16777216 % 256) + 256 * (pop8 (x / 4294967296 % 256) + 256 * (pop8 (x / 1099511627776 % 256) + 256 * (pop8 (x / 281474976710656 % 256) + 256 * pop8 (x / 72057594037927936 % 256))))))) := by
    show fmB pop8 8 x = _
    simp only [fmB, Nat.div_div_eq_div_mul, Nat.mul_zero, Nat.add_zero]
  have b0 := (d4 (x % 256) (by omega)).2.2.2.2.1
  have b1 := (d4 (x / 256 % 256) (by omega)).2.2.2.2.1
  have b2 := (d4 (x / 65536 % 256) (by omega)).2.2.2.2.1
  have b3 := (d4 (x / 16777216 % 256) (by omega)).2.2.2.2.1
  have b4 := (d4 (x / 4294967296 % 256) (by omega)).2.2.2.2.1
  have b5 := (d4 (x / 1099511627776 % 256) (by omega)).2.2.2.2.1
  have b6 := (d4 (x / 281474976710656 % 256) (by omega)).2.2.2.2.1
  have b7 := (d4 (x / 72057594037927936 % 256) (by omega)).2.2.2.2.1
  rw [e]
  show ((x5 + x5 / 4294967296) % 18446744073709551616) % 128 = _
  have h4 : x4 = (x3 + x3 / 256) % 18446744073709551616 := rfl
  have h5 : x5 = (x4 + x4 / 65536) % 18446744073709551616 := rfl
  clear_value x3 x4 x5
  generalize pop8 (x % 256) = p0 at *
  generalize pop8 (x / 256 % 256) = p1 at *
  generalize pop8 (x / 65536 % 256) = p2 at *
  generalize pop8 (x / 16777216 % 256) = p3 at *
  generalize pop8 (x / 4294967296 % 256) = p4 at *
  generalize pop8 (x / 1099511627776 % 256) = p5 at *
  generalize pop8 (x / 281474976710656 % 256) = p6 at *
  generalize pop8 (x / 72057594037927936 % 256) = p7 at *
  clear e
  have q3 : x3 / 256 = p1 + 256 * (p2 + 256 * (p3 + 256 * (p4 + 256 * (p5 + 256 * (p6 + 256 * p7))))) := by omega
  rw [q3] at h4
  have e4 : x4 = (p0 + p1) + 256 * ((p1 + p2) + 256 * ((p2 + p3) + 256 * ((p3 + p4) + 256 * ((p4 + p5) + 256 * ((p5 + p6) + 256 * ((p6 + p7) + 256 * p7)))))) := by omega
  clear h4 hx3 q3
  have q4 : x4 / 65536 = (p2 + p3) + 256 * ((p3 + p4) + 256 * ((p4 + p5) + 256 * ((p5 + p6) + 256 * ((p6 + p7) + 256 * p7)))) := by omega
  rw [q4] at h5
  have e5 : x5 = (p0 + p1 + p2 + p3) + 256 * ((p1 + p2 + p3 + p4) + 256 * ((p2 + p3 + p4 + p5) + 256 * ((p3 + p4 + p5 + p6) + 256 * ((p4 + p5 + p6 + p7) + 256 * ((p5 + p6 + p7) + 256 * ((p6 + p7) + 256 * p7)))))) := by omega
  clear h5 e4 q4
  have q5 : x5 / 4294967296 = (p4 + p5 + p6 + p7) + 256 * ((p5 + p6 + p7) + 256 * ((p6 + p7) + 256 * p7)) := by omega
  rw [q5]
  omega
theorem fdN {a : Int} (h : 0 ≤ a) (m : Nat) : a.fdiv (2 ^ m) = ((a.toNat / 2 ^ m : Nat) : Int) := by
  obtain ⟨n, rfl⟩ := Int.eq_ofNat_of_zero_le h
  rw [Int.fdiv_eq_ediv_of_nonneg _ (by exact Int.le_of_lt (Int.pow_pos (by omega)))]
  simp
theorem shN {a : Int} {k d : Nat} (h : 0 ≤ a) {j : Int} (hj : min j.toNat IntKind.u64.bits = k) (hd : 2 ^ k = d) : a.fdiv (2 ^ (min j.toNat IntKind.u64.bits)) = ((a.toNat / d : Nat) : Int) := by
  rw [hj, fdN h, hd]
theorem fm_lt (f : Nat → Nat) (hf : ∀ r, r < 256 → f r < 256) : ∀ n x, fmB f n x < 256 ^ n
  | 0, x => by simp [fmB]
  | n + 1, x => by
    have h1 := hf (x % 256) (by omega)
    have h2 := fm_lt f hf n (x / 256)
    rw [fmB, Nat.pow_succ]
    omega
theorem lt8 {f : Nat → Nat} (hf : ∀ r, r < 256 → f r < 256) (x : Nat) : fmB f 8 x < 18446744073709551616 := by
  have := fm_lt f hf 8 x
  have e : (256 : Nat) ^ 8 = 18446744073709551616 := by decide
  omega
theorem f1_lt : ∀ r, r < 256 → f1 r < 256 := fun r h => (d4 r h).1
theorem f21_lt : ∀ r, r < 256 → f2 (f1 r) < 256 := fun r h => (d4 r h).2.1
theorem m85 : mkB 85 8 = 6148914691236517205 := by decide
theorem m51 : mkB 51 8 = 3689348814741910323 := by decide
theorem m15 : mkB 15 8 = 1085102592571150095 := by decide
theorem sum1 (x : Nat) : IntKind.u64.wrap (((x / 2 &&& 6148914691236517205 : Nat) : Int) + ((x &&& 6148914691236517205 : Nat) : Int)) = ((fmB f1 8 x : Nat) : Int) := by
  have h := step1 8 x
  rw [m85] at h
  have hl := lt8 f1_lt x
  rw [wrapU ⟨by omega, by omega⟩]
  omega
theorem sum2 (x : Nat) : IntKind.u64.wrap (((fmB f1 8 x / 4 &&& 3689348814741910323 : Nat) : Int) + ((fmB f1 8 x &&& 3689348814741910323 : Nat) : Int)) = ((fmB (fun r => f2 (f1 r)) 8 x : Nat) : Int) := by
  have h := step2 8 (fmB f1 8 x)
  rw [m51, fm_fm f1 f2 f1_lt] at h
  have hl := lt8 f21_lt x
  rw [wrapU ⟨by omega, by omega⟩]
  omega
theorem add2_lt (x : Nat) : fmB (fun r => f2 (f1 r)) 8 x / 16 + fmB (fun r => f2 (f1 r)) 8 x < 18446744073709551616 := by
  have d : ∀ r, r < 256 → f2 (f1 r) ≤ 68 := fun r h => by have := (d4 r h).2.2; omega
  have e : fmB (fun r => f2 (f1 r)) 8 x = f2 (f1 (x % 256)) + 256 * (f2 (f1 (x / 256 % 256)) + 256 * (f2 (f1 (x / 65536 % 256)) + 256 * (f2 (f1 (x / 16777216 % 256)) + 256 * (f2 (f1 (x / 4294967296 % 256)) + 256 * (f2 (f1 (x / 1099511627776 % 256)) + 256 * (f2 (f1 (x / 281474976710656 % 256)) + 256 * f2 (f1 (x / 72057594037927936 % 256)))))))) := by
    simp only [fmB, Nat.div_div_eq_div_mul, Nat.mul_zero, Nat.add_zero]
  have b7 := d (x / 72057594037927936 % 256) (by omega)
  have hl := fm_lt (fun r => f2 (f1 r)) f21_lt 7 (x / 256)
  have b0 := d (x % 256) (by omega)
  have b1 := d (x / 256 % 256) (by omega)
  have b2 := d (x / 65536 % 256) (by omega)
  have b3 := d (x / 16777216 % 256) (by omega)
  have b4 := d (x / 4294967296 % 256) (by omega)
  have b5 := d (x / 1099511627776 % 256) (by omega)
  have b6 := d (x / 281474976710656 % 256) (by omega)
  clear hl
  rw [e]
  omega
theorem sum3 (x : Nat) : IntKind.u64.wrap (((fmB (fun r => f2 (f1 r)) 8 x / 16 : Nat) : Int) + ((fmB (fun r => f2 (f1 r)) 8 x : Nat) : Int)) = ((fmB (fun r => f2 (f1 r)) 8 x / 16 + fmB (fun r => f2 (f1 r)) 8 x : Nat) : Int) := by
  have := add2_lt x
  rw [wrapU ⟨by omega, by omega⟩]
  omega
theorem and3 (x : Nat) : (fmB (fun r => f2 (f1 r)) 8 x / 16 + fmB (fun r => f2 (f1 r)) 8 x) &&& 1085102592571150095 = fmB pop8 8 x := by
  rw [← m15, step3 8 _ (ok_fm (fun r => f2 (f1 r)) (fun r h => ⟨(d4 r h).2.1, (d4 r h).2.2.1, (d4 r h).2.2.2.1⟩) 8 x), fm_fm (fun r => f2 (f1 r)) f3 f21_lt]
  rfl
theorem sumM (a b : Nat) : IntKind.u64.wrap ((a : Int) + (b : Int)) = (((a + b) % 18446744073709551616 : Nat) : Int) := by
  simp only [IntKind.wrap, IntKind.signed, IntKind.bits]
  simp
def o3 (x : Nat) : Nat := fmB pop8 8 x
def o4 (x : Nat) : Nat := (o3 x + o3 x / 256) % 18446744073709551616
def o5 (x : Nat) : Nat := (o4 x + o4 x / 65536) % 18446744073709551616
def o6 (x : Nat) : Nat := (o5 x + o5 x / 4294967296) % 18446744073709551616
theorem o6_lt (x : Nat) : o6 x < 18446744073709551616 := Nat.mod_lt _ (by decide)
theorem o6_pop {x : Nat} (h : x < 18446744073709551616) : o6 x % 128 = popN x 64 := ones_sum h
theorem ofI_nat (b n : Nat) : BitVec.ofInt b ((n : Nat) : Int) = BitVec.ofNat b n := by simp
theorem andNN {a b : Nat} {z : Int} (ha : a < 18446744073709551616) (hb : b < 18446744073709551616) (hz : z = (b : Int)) : IntKind.u64.wrap (((BitVec.ofInt 64 ((a : Nat) : Int) &&& BitVec.ofInt 64 z).toNat : Nat) : Int) = ((a &&& b : Nat) : Int) := by
  subst hz
  rw [ofI_nat, ofI_nat, BitVec.toNat_and, BitVec.toNat_ofNat, BitVec.toNat_ofNat, Nat.mod_eq_of_lt (by omega), Nat.mod_eq_of_lt (by omega)]
  have : a &&& b ≤ a := Nat.and_le_left
  rw [wrapU ⟨by omega, by omega⟩]
theorem and127 {a : Nat} (h : a < 18446744073709551616) : IntKind.i64.wrap (((BitVec.ofInt 64 (IntKind.i64.wrap ((a : Nat) : Int)) &&& BitVec.ofInt 64 127).toNat : Nat) : Int) = ((a % 128 : Nat) : Int) := by
  have e : BitVec.ofInt 64 (IntKind.i64.wrap ((a : Nat) : Int)) = BitVec.ofNat 64 a := by
    rw [← ofI_nat]
    apply BitVec.eq_of_toInt_eq
    rw [BitVec.toInt_ofInt, BitVec.toInt_ofInt]
    simp only [IntKind.wrap, IntKind.signed, IntKind.bits]
    simp only [Int.bmod_def]
    simp
    split <;> split <;> split <;> omega
  have e2 : (BitVec.ofNat 64 a).toNat = a := by rw [BitVec.toNat_ofNat]; exact Nat.mod_eq_of_lt (by omega)
  rw [e, BitVec.toNat_and, e2, show (BitVec.ofInt 64 127).toNat = 2 ^ 7 - 1 by decide, Nat.and_two_pow_sub_one_eq_mod]
  have : a % 2 ^ 7 < 128 := Nat.mod_lt _ (by decide)
  have h7 : (a % 128 : Nat) = a % 2 ^ 7 := rfl
  rw [h7]
  generalize a % 2 ^ 7 = r at *
  simp only [IntKind.wrap, IntKind.signed, IntKind.bits]
  simp
  rw [if_neg (by omega)]
  omega
theorem half_lt {x : Nat} (h : x < 18446744073709551616) : x / 2 < 18446744073709551616 := by omega
def o1 (x : Nat) : Nat := fmB f1 8 x
def o2 (x : Nat) : Nat := fmB (fun r => f2 (f1 r)) 8 x
theorem o1_lt (x : Nat) : o1 x < 18446744073709551616 := lt8 f1_lt x
theorem o1q_lt (x : Nat) : o1 x / 4 < 18446744073709551616 := by have := o1_lt x; omega
theorem o2s_lt (x : Nat) : o2 x / 16 + o2 x < 18446744073709551616 := add2_lt x
theorem sumO1 (x : Nat) : IntKind.u64.wrap (((x / 2 &&& 6148914691236517205 : Nat) : Int) + ((x &&& 6148914691236517205 : Nat) : Int)) = ((o1 x : Nat) : Int) := sum1 x
theorem sumO2 (x : Nat) : IntKind.u64.wrap (((o1 x / 4 &&& 3689348814741910323 : Nat) : Int) + ((o1 x &&& 3689348814741910323 : Nat) : Int)) = ((o2 x : Nat) : Int) := sum2 x
theorem sumO3 (x : Nat) : IntKind.u64.wrap (((o2 x / 16 : Nat) : Int) + ((o2 x : Nat) : Int)) = ((o2 x / 16 + o2 x : Nat) : Int) := sum3 x
theorem andO3 (x : Nat) : IntKind.u64.wrap (((BitVec.ofInt 64 ((o2 x / 16 + o2 x : Nat) : Int) &&& BitVec.ofInt 64 1085102592571150095).toNat : Nat) : Int) = ((o3 x : Nat) : Int) :=
  (andNN (b := 1085102592571150095) (o2s_lt x) (by decide) rfl).trans (congrArg Nat.cast (and3 x))
theorem sumO4 (x : Nat) : IntKind.u64.wrap (((o3 x : Nat) : Int) + ((o3 x / 256 : Nat) : Int)) = ((o4 x : Nat) : Int) := sumM _ _
theorem sumO5 (x : Nat) : IntKind.u64.wrap (((o4 x : Nat) : Int) + ((o4 x / 65536 : Nat) : Int)) = ((o5 x : Nat) : Int) := sumM _ _
theorem sumO6 (x : Nat) : IntKind.u64.wrap (((o5 x : Nat) : Int) + ((o5 x / 4294967296 : Nat) : Int)) = ((o6 x : Nat) : Int) := sumM _ _
theorem andO6 {x : Nat} (hx : x < 18446744073709551616) : IntKind.i64.wrap (((BitVec.ofInt 64 (IntKind.i64.wrap ((o6 x : Nat) : Int)) &&& BitVec.ofInt 64 127).toNat : Nat) : Int) = ((popN x 64 : Nat) : Int) :=
  (and127 (o6_lt x)).trans (congrArg Nat.cast (o6_pop hx))
theorem and85 {a : Nat} (ha : a < 18446744073709551616) : IntKind.u64.wrap (((BitVec.ofInt 64 ((a : Nat) : Int) &&& BitVec.ofInt 64 6148914691236517205).toNat : Nat) : Int) = ((a &&& 6148914691236517205 : Nat) : Int) := andNN ha (by decide) rfl
theorem and51 {a : Nat} (ha : a < 18446744073709551616) : IntKind.u64.wrap (((BitVec.ofInt 64 ((a : Nat) : Int) &&& BitVec.ofInt 64 3689348814741910323).toNat : Nat) : Int) = ((a &&& 3689348814741910323 : Nat) : Int) := andNN ha (by decide) rfl
theorem sh1 (a : Nat) : ((a : Nat) : Int).fdiv (2 ^ (min (1 : Int).toNat IntKind.u64.bits)) = ((a / 2 : Nat) : Int) := shN (k := 1) (d := 2) (Int.natCast_nonneg _) (by decide) (by decide)
theorem sh2 (a : Nat) : ((a : Nat) : Int).fdiv (2 ^ (min (2 : Int).toNat IntKind.u64.bits)) = ((a / 4 : Nat) : Int) := shN (k := 2) (d := 4) (Int.natCast_nonneg _) (by decide) (by decide)
theorem sh4 (a : Nat) : ((a : Nat) : Int).fdiv (2 ^ (min (4 : Int).toNat IntKind.u64.bits)) = ((a / 16 : Nat) : Int) := shN (k := 4) (d := 16) (Int.natCast_nonneg _) (by decide) (by decide)
theorem sh8 (a : Nat) : ((a : Nat) : Int).fdiv (2 ^ (min (8 : Int).toNat IntKind.u64.bits)) = ((a / 256 : Nat) : Int) := shN (k := 8) (d := 256) (Int.natCast_nonneg _) (by decide) (by decide)
theorem sh16 (a : Nat) : ((a : Nat) : Int).fdiv (2 ^ (min (16 : Int).toNat IntKind.u64.bits)) = ((a / 65536 : Nat) : Int) := shN (k := 16) (d := 65536) (Int.natCast_nonneg _) (by decide) (by decide)
theorem sh32 (a : Nat) : ((a : Nat) : Int).fdiv (2 ^ (min (32 : Int).toNat IntKind.u64.bits)) = ((a / 4294967296 : Nat) : Int) := shN (k := 32) (d := 4294967296) (Int.natCast_nonneg _) (by decide) (by decide)
def c6 (x : Nat) : Int := IntKind.i64.wrap ((o6 x : Nat) : Int)
theorem c6_eq (x : Nat) : IntKind.i64.wrap ((o6 x : Nat) : Int) = c6 x := rfl
theorem andC6 {x : Nat} (hx : x < 18446744073709551616) : IntKind.i64.wrap (((BitVec.ofInt 64 (c6 x) &&& BitVec.ofInt 64 127).toNat : Nat) : Int) = ((popN x 64 : Nat) : Int) := andO6 hx
attribute [irreducible] o1 o2 o3 o4 o5 o6 c6 fmB popN mkB
end Go.Proofs.YtplpgfcjjnaigaaDoor
