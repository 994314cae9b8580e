/-
  Plain: how many of a word's lowest bits are clear, by the table; how the table reads in a world. No program.
-/
import Derived.Test.YtplpgfcjjnaigaaDoorPureLen
import Derived.Lib.TrailingZeros
set_option linter.unusedVariables false
namespace Go.Proofs.YtplpgfcjjnaigaaDoor
open Go Go.RowKit
def deI (i : Int) : Int := ((Lib.deBruijn64tab.getD i.toNat 0 : Nat) : Int)
/-- The table, in the blocks from lo on below hi. -/
def RdT (w : World) (lo hi : Nat) : Prop := RdV w lo hi (some ⟨0, 0, none⟩) 64 1 (fun i _ => .int .u8 (deI i))
theorem RdT.gr {w w1 : World} {lo hi : Nat} {row : Option Nat} (h : RdT w lo hi) (g : w.grownBy w1 row) (hr : ∀ k, row = some k → k < lo ∨ hi ≤ k) : RdT w1 lo hi := RdV.gr h g hr
theorem RdT.gn {w w1 : World} {lo hi : Nat} (h : RdT w lo hi) (g : w.grownBy w1 none) : RdT w1 lo hi := RdV.gn h g
theorem RdT.gb {w w1 : World} {lo hi b : Nat} (h : RdT w lo hi) (g : w.grownBy w1 (some b)) (hb : b < lo ∨ hi ≤ b) : RdT w1 lo hi := RdV.gb h g hb
theorem RdT.wide {w : World} {lo hi lo' hi' : Nat} (h : RdT w lo hi) (h1 : lo' ≤ lo) (h2 : hi ≤ hi') : RdT w lo' hi' := RdV.wide h h1 h2
theorem RdT.get {w : World} {lo hi : Nat} (h : RdT w lo hi) (i : Int) (h0 : 0 ≤ i) (h1 : i < 64) : w.cell? ((⟨0, 0, none⟩ : Addr).add (i.toNat * 1)) = some (.int .u8 (deI i)) := by
  obtain ⟨ad, e, h2, h3, hc⟩ := h i.toNat 0 (by omega) (by omega)
  injection e with e
  subst e
  rw [add_zero] at hc
  rw [hc]
  show some (Value.int IntKind.u8 (deI ((i.toNat : Nat) : Int))) = _
  rw [Int.toNat_of_nonneg h0]
def lowB (x : Nat) : Nat := 2 ^ Lib.ctz 64 x
def mulB (x : Nat) : Nat := lowB x * 285870213051353865 % 18446744073709551616
def idxB (x : Nat) : Nat := mulB x / 288230376151711744
theorem negB {x : Nat} (h0 : ¬ ((x : Nat) : Int) = 0) (h : x < 18446744073709551616) : IntKind.u64.wrap (0 - ((x : Nat) : Int)) = ((18446744073709551616 - x : Nat) : Int) := by
  simp only [IntKind.wrap, IntKind.signed, IntKind.bits]
  simp
  omega
theorem andB {x : Nat} (h0 : ¬ ((x : Nat) : Int) = 0) (h : x < 18446744073709551616) : IntKind.u64.wrap (((BitVec.ofInt 64 ((x : Nat) : Int) &&& BitVec.ofInt 64 ((18446744073709551616 - x : Nat) : Int)).toNat : Nat) : Int) = ((lowB x : Nat) : Int) := by
  refine (andNN (b := 18446744073709551616 - x) h (by omega) rfl).trans (congrArg Nat.cast ?_)
  exact (Lib.lowest_bit 64 x (by omega) (by omega)).1
theorem mulB_eq (x : Nat) : IntKind.u64.wrap (((lowB x : Nat) : Int) * 285870213051353865) = ((mulB x : Nat) : Int) := by
  unfold mulB
  generalize lowB x = b
  simp only [IntKind.wrap, IntKind.signed, IntKind.bits]
  simp
theorem sh58 (a : Nat) : ((a : Nat) : Int).fdiv (2 ^ (min (58 : Int).toNat IntKind.u64.bits)) = ((a / 288230376151711744 : Nat) : Int) := shN (k := 58) (d := 288230376151711744) (Int.natCast_nonneg _) (by decide) (by decide)
theorem shB (x : Nat) : ((mulB x : Nat) : Int).fdiv (2 ^ (min (58 : Int).toNat IntKind.u64.bits)) = ((idxB x : Nat) : Int) := sh58 _
theorem idxB_lt (x : Nat) : idxB x < 64 := by
  have : mulB x < 18446744073709551616 := Nat.mod_lt _ (by decide)
  unfold idxB
  omega
theorem ctz_at {x : Nat} (h0 : ¬ ((x : Nat) : Int) = 0) (h : x < 18446744073709551616) : IntKind.i64.wrap (deI ((idxB x : Nat) : Int)) = ((Lib.ctz 64 x : Nat) : Int) := by
  have h1 := (Lib.lowest_bit 64 x (by omega) (by omega)).2
  have h2 : Lib.deBruijn64tab.getD (idxB x) 0 = Lib.ctz 64 x := by
    unfold idxB mulB lowB
    generalize Lib.ctz 64 x = k at h1
    exact (Lib.deBruijn64_at k h1).2
  have h3 : deI ((idxB x : Nat) : Int) = ((Lib.ctz 64 x : Nat) : Int) := by
    unfold deI
    rw [Int.toNat_natCast, h2]
  rw [h3]
  generalize Lib.ctz 64 x = r at *
  simp only [IntKind.wrap, IntKind.signed, IntKind.bits]
  simp
  rw [if_neg (by omega)]
  omega
theorem ctz_0 {x : Nat} (h : ((x : Nat) : Int) = 0) : (64 : Int) = ((Lib.ctz 64 x : Nat) : Int) := by
  have : x = 0 := by omega
  subst this
  rfl
end Go.Proofs.YtplpgfcjjnaigaaDoor
