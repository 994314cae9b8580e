/-
  Plain: the lowest bit of a word that is set; the numbers of a set of words, word by word; how many they are.
-/
import Derived.Test.YtplpgfcjjnaigaaDoorPureSet
import Derived.Test.YtplpgfcjjnaigaaDoorPureLen
import Derived.Test.YtplpgfcjjnaigaaDoorWTz
set_option linter.unusedVariables false
set_option linter.unusedSimpArgs false
namespace Go.Proofs.YtplpgfcjjnaigaaDoor
open Go Go.RowKit
def tzI (z : Int) : Int := ((Lib.ctz 64 z.toNat : Nat) : Int)
theorem tzI_any {z : Int} {w : World} (h : W64 z) (rT : RdT w 0 w.heap.size) : Calls Tryd.prog 56 #[.int .u64 z] w fun e w' => e = .returned (.int .i64 (tzI z)) ∧ Ext w w' := by
  have h2 : z = ((z.toNat : Nat) : Int) := by have := h.1; omega
  have h3 : z.toNat < 18446744073709551616 := by have := h.1; have := h.2; omega
  have := tz_any (x := z.toNat) (w := w) h3 rT
  rw [← h2] at this
  exact this
theorem ctz_bits {x : Nat} (h0 : x ≠ 0) (h : x < 18446744073709551616) : Lib.ctz 64 x < 64 ∧ x.testBit (Lib.ctz 64 x) = true ∧ (∀ r, r < Lib.ctz 64 x → x.testBit r = false) ∧ ∀ r, (x &&& (x - 1)).testBit r = (x.testBit r && !decide (r = Lib.ctz 64 x)) := by
  have e : Lib.ctz 64 x = Lib.ctzFrom 64 x := by simp [Lib.ctz, h0]
  rw [e]
  obtain ⟨m, hm, hk⟩ := Lib.ctzFrom_spec 64 x (by omega) (by simpa using h)
  generalize Lib.ctzFrom 64 x = t at *
  have hp := Nat.two_pow_pos t
  have h1 : x - 1 = 2 ^ t * (2 * m) + (2 ^ t - 1) := by
    rw [hm, Nat.mul_add, Nat.mul_one]
    omega
  have hx : ∀ r, x.testBit r = if r < t then false else (2 * m + 1).testBit (r - t) := fun r => by
    have := Nat.testBit_two_pow_mul_add (2 * m + 1) (b := 0) (i := t) hp r
    rw [Nat.add_zero, ← hm] at this
    rw [this]
    simp
  have hy : ∀ r, (x - 1).testBit r = if r < t then true else (2 * m).testBit (r - t) := fun r => by
    rw [h1, Nat.testBit_two_pow_mul_add (2 * m) (b := 2 ^ t - 1) (i := t) (by omega) r]
    split
    · rw [Nat.testBit_two_pow_sub_one, decide_eq_true (by omega)]
    · rfl
  refine ⟨hk, ?_, fun r hr => ?_, fun r => ?_⟩
  · rw [hx, if_neg (by omega), Nat.sub_self]
    simp
  · rw [hx, if_pos hr]
  · rw [Nat.testBit_and, hx, hy]
    by_cases hr : r < t
    · rw [if_pos hr, if_pos hr]
      simp
    · rw [if_neg hr, if_neg hr]
      by_cases he : r = t
      · subst he
        simp
      · rw [decide_eq_false he]
        obtain ⟨j, hj⟩ : ∃ j, r - t = j + 1 := ⟨r - t - 1, by omega⟩
        rw [hj, Nat.testBit_succ, Nat.testBit_succ, show (2 * m + 1) / 2 = m by omega, show 2 * m / 2 = m by omega]
        cases m.testBit j <;> rfl
theorem tz_lt {z : Int} (h : W64 z) (h0 : ¬ z = 0) : 0 ≤ tzI z ∧ tzI z < 64 := by
  have h1 := h.1
  have h2 := h.2
  have := (ctz_bits (x := z.toNat) (by omega) (by omega)).1
  unfold tzI
  omega
theorem tz_bit {z : Int} (h : W64 z) (h0 : ¬ z = 0) : bitI z (tzI z) = true := by
  have h1 := h.1
  have h2 := h.2
  have := (ctz_bits (x := z.toNat) (by omega) (by omega)).2.1
  rw [bitI, tzI, Int.toNat_natCast]
  exact this
theorem tz_low {z : Int} (h : W64 z) (h0 : ¬ z = 0) {r : Int} (r0 : 0 ≤ r) (r1 : r < tzI z) : bitI z r = false := by
  have h1 := h.1
  have h2 := h.2
  have := (ctz_bits (x := z.toNat) (by omega) (by omega)).2.2.1 r.toNat (by unfold tzI at r1; omega)
  rw [bitI]
  exact this
def clrW (z : Int) : Int := andW z (z - 1)
theorem clr_bit {z : Int} (h : W64 z) (h0 : ¬ z = 0) {r : Int} (r0 : 0 ≤ r) : bitI (clrW z) r = (bitI z r && !decide (r = tzI z)) := by
  have h1 := h.1
  have h2 := h.2
  have := (ctz_bits (x := z.toNat) (by omega) (by omega)).2.2.2 r.toNat
  rw [clrW, andW, bitI, Int.toNat_natCast, show (z - 1).toNat = z.toNat - 1 by omega, this, bitI]
  congr 2
  unfold tzI
  rw [decide_eq_decide]
  omega
theorem clr_W {z : Int} (h : W64 z) (h0 : ¬ z = 0) : W64 (clrW z) := by
  have h1 := h.1
  have h2 := h.2
  exact andW_W h ⟨by omega, by omega⟩
theorem sub_W {z : Int} (h : W64 z) (h0 : ¬ z = 0) : IntKind.u64.wrap (z - 1) = z - 1 := by
  have h1 := h.1
  have h2 := h.2
  exact wrapU ⟨by omega, by omega⟩
theorem clr_eq {z : Int} (h : W64 z) (h0 : ¬ z = 0) : IntKind.u64.wrap (((BitVec.ofInt 64 z &&& BitVec.ofInt 64 (z - 1)).toNat : Nat) : Int) = clrW z := by
  have h1 := h.1
  have h2 := h.2
  exact and64 h ⟨by omega, by omega⟩
theorem ls_run {l : List Bool} {a : Nat} : ∀ d : Nat, (∀ r : Nat, a ≤ r → r < a + d → gB l (r : Int) = false) → lsD l (a + d) = lsD l a
  | 0, _ => rfl
  | d + 1, h => by
    rw [← Nat.add_assoc, lsD, if_neg (by rw [h (a + d) (by omega) (by omega)]; decide)]
    exact ls_run d fun r h1 h2 => h r h1 (by omega)
theorem ls_to {l : List Bool} {a b : Int} (h0 : 0 ≤ a) (h1 : a ≤ b) (h : ∀ r : Int, a ≤ r → r < b → gB l r = false) : lsD l b.toNat = lsD l a.toNat := by
  have := ls_run (l := l) (a := a.toNat) (b - a).toNat fun r x y => h r (by omega) (by omega)
  rw [show a.toNat + (b - a).toNat = b.toNat by omega] at this
  exact this
/-- The word v is the i-th of s but for its numbers below c. -/
def RestW (s : List Int) (i v c : Int) : Prop := W64 v ∧ ∀ r : Int, 0 ≤ r → r < 64 → bitI v r = (decide (c ≤ r) && bitI (gI s i) r)
theorem rest_0 {s : List Int} {i : Int} (h : OkW s) : RestW s i (gI s i) 0 := ⟨h.2 i, fun r a b => by rw [decide_eq_true (by omega), Bool.true_and]⟩
theorem rest_tz {s : List Int} {i v c : Int} (h : RestW s i v c) (h0 : ¬ v = 0) : c ≤ tzI v := by
  have h1 := tz_lt h.1 h0
  have h2 := h.2 _ h1.1 h1.2
  rw [tz_bit h.1 h0] at h2
  by_cases hc : c ≤ tzI v
  · exact hc
  · rw [decide_eq_false hc] at h2
    cases h2
theorem rest_next {s : List Int} {i v c : Int} (h : RestW s i v c) (h0 : ¬ v = 0) : RestW s i (clrW v) (tzI v + 1) := by
  have h1 := tz_lt h.1 h0
  refine ⟨clr_W h.1 h0, fun r a b => ?_⟩
  rw [clr_bit h.1 h0 a]
  by_cases hr : tzI v + 1 ≤ r
  · rw [h.2 r a b, decide_eq_true hr, decide_eq_true (by have := rest_tz h h0; omega), decide_eq_false (by omega)]
    simp
  · rw [decide_eq_false hr]
    by_cases he : r = tzI v
    · rw [decide_eq_true he]
      simp
    · rw [tz_low h.1 h0 a (by omega)]
      simp
theorem rest_ls {s : List Int} {i v c : Int} {xs : List Int} (h : RestW s i v c) (h0 : ¬ v = 0) (i0 : 0 ≤ i) (i1 : i < 4) (c0 : 0 ≤ c) (hx : xs = lsD (fromW s) (64 * i + c).toNat) : xs ++ [64 * i + tzI v] = lsD (fromW s) (64 * i + (tzI v + 1)).toNat := by
  have h1 := tz_lt h.1 h0
  have h2 := rest_tz h h0
  have e : xs = lsD (fromW s) (64 * i + tzI v).toNat := by
    rw [hx]
    refine (ls_to (by omega) (by omega) fun r a b => ?_).symm
    rw [gB_from (by omega) (by omega), show r / 64 = i by omega]
    have h3 := h.2 (r % 64) (by omega) (by omega)
    rw [tz_low h.1 h0 (by omega) (by omega), decide_eq_true (by omega), Bool.true_and] at h3
    exact h3.symm
  rw [← Int.add_assoc]
  refine ls_yes e (by omega) ?_
  rw [gB_from (by omega) (by omega), show (64 * i + tzI v) / 64 = i by omega, show (64 * i + tzI v) % 64 = tzI v by omega]
  have h3 := h.2 _ h1.1 h1.2
  rw [tz_bit h.1 h0, decide_eq_true h2, Bool.true_and] at h3
  exact h3.symm
theorem rest_end {s : List Int} {i v c : Int} {xs : List Int} (h : RestW s i v c) (h0 : v = 0) (i0 : 0 ≤ i) (i1 : i < 4) (c0 : 0 ≤ c) (c1 : c ≤ 64) (hx : xs = lsD (fromW s) (64 * i + c).toNat) : xs = lsD (fromW s) (64 * (i + 1)).toNat := by
  subst h0
  rw [hx]
  refine (ls_to (by omega) (by omega) fun r a b => ?_).symm
  rw [gB_from (by omega) (by omega), show r / 64 = i by omega]
  have h3 := h.2 (r % 64) (by omega) (by omega)
  rw [bit_zero, decide_eq_true (by omega), Bool.true_and] at h3
  exact h3.symm
theorem list_end {s : List Int} {k : Int} {xs : List Int} (hx : xs = lsD (fromW s) (64 * k).toNat) (h0 : 4 ≤ k) (h1 : k ≤ 4) : xs = lsD (fromW s) 256 := by
  rw [hx, show (64 * k).toNat = 256 by omega]
/- Least. -/
theorem least_skip {s : List Int} {k : Int} (h : ∀ j : Int, 0 ≤ j → j < 64 * k → gB (fromW s) j = false) (h0 : 0 ≤ k) (h1 : k < 4) (hz : gI s k = 0) : ∀ j : Int, 0 ≤ j → j < 64 * (k + 1) → gB (fromW s) j = false := fun j a b => by
  by_cases hj : j < 64 * k
  · exact h j a hj
  · rw [gB_from a (by omega), show j / 64 = k by omega, hz, bit_zero]
theorem least_hit {s : List Int} {k : Int} (hs : OkW s) (h : ∀ j : Int, 0 ≤ j → j < 64 * k → gB (fromW s) j = false) (h0 : 0 ≤ k) (h1 : k < 4) (hz : ¬ gI s k = 0) : 64 * k + tzI (gI s k) = leastD (fromW s) := by
  have h2 := tz_lt (hs.2 k) hz
  refine least_at (by omega) (by omega) (fun j a b => ?_) ?_
  · by_cases hj : j < 64 * k
    · exact h j a hj
    · rw [gB_from a (by omega), show j / 64 = k by omega]
      exact tz_low (hs.2 k) hz (by omega) (by omega)
  · rw [gB_from (by omega) (by omega), show (64 * k + tzI (gI s k)) / 64 = k by omega, show (64 * k + tzI (gI s k)) % 64 = tzI (gI s k) by omega]
    exact tz_bit (hs.2 k) hz
/- Len. -/
theorem ls_count {s : List Int} {q : Nat} (hq : q < 4) : ∀ n, n ≤ 64 → (lsD (fromW s) (64 * q + n)).length = (lsD (fromW s) (64 * q)).length + popN (gI s (q : Int)).toNat n
  | 0, _ => by unfold popN; rfl
  | n + 1, h => by
    have ih := ls_count (s := s) hq n (by omega)
    have e : gB (fromW s) ((64 * q + n : Nat) : Int) = (gI s (q : Int)).toNat.testBit n := by
      rw [gB_from (by omega) (by omega), show ((64 * q + n : Nat) : Int) / 64 = (q : Int) by omega, show ((64 * q + n : Nat) : Int) % 64 = (n : Int) by omega]
      rfl
    rw [← Nat.add_assoc, lsD, e]
    unfold popN
    split
    · rw [List.length_append, ih]
      simp
      omega
    · rw [ih]
      omega
theorem lenN_ls {s : List Int} : ∀ q, q ≤ 4 → lenN s q = ((lsD (fromW s) (64 * q)).length : Int)
  | 0, _ => rfl
  | q + 1, h => by
    rw [lenN, lenN_ls q (by omega), onI, show 64 * (q + 1) = 64 * q + 64 by omega, ls_count (by omega) 64 (by omega)]
    omega
theorem lenW_ls (s : List Int) : lenW s = ((lsD (fromW s) 256).length : Int) := lenN_ls 4 (by omega)
theorem lenW_le (s : List Int) : 0 ≤ lenW s ∧ lenW s ≤ 256 := by
  rw [lenW_ls]
  have := ls_len (fromW s) 256
  omega
end Go.Proofs.YtplpgfcjjnaigaaDoor
