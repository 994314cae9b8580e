/-
  A walk of a Go function, printed by a program of this repo. Conditions: what the theorems name.
-/
import Derived.Test.YtplpgfcjjnaigaaDoorPureTz
set_option linter.unusedVariables false
set_option linter.unusedSimpArgs false
namespace Go.Proofs.YtplpgfcjjnaigaaDoor
open Go Go.RowKit

set_option maxHeartbeats 4000000 in
theorem tz_any {x : Nat} {w : World} (hx : x < 18446744073709551616) (rT : RdT w 0 w.heap.size) :
    Calls Tryd.prog 56 #[.int .u64 (((x : Nat) : Int))] w fun e w' => e = .returned (.int .i64 ((Lib.ctz 64 x : Nat) : Int)) ∧ Ext w w' := by
 have hib := idxB_lt x
 refine enter_ (args := [.int .u64 (((x : Nat) : Int))]) Tryd.func56 rfl Tryd.ntmps56 (Nat.le_of_ble_eq_true rfl) (fun act0 f0 => ?_)
 have e0 : Ext w w := Ext.refl w
 refine wp_seq ?_
 refine At.start ?_
 refine At.rd f0 1 [[]] [(2, .int .i64 (0))] [] (by kernel_rfl) trivial (fun act2 f1 => ?_)
 clear f0
 refine At.done rfl ?_
 refine t_n ?_
 have f3 := f1.sub (r := [(0, .int .u64 (((x : Nat) : Int)))]) ⟨rfl, trivial⟩; clear f1
 refine wp_seq ?_
 refine wp_seq ?_
 refine At.start ?_
 refine At.rd f3 2 [[], []] [(4, .bool ((((x : Nat) : Int) : Int) == 0)), (3, .int .u64 (((x : Nat) : Int)))] [] (by kernel_rfl) trivial (fun act5 f4 => ?_)
 clear f3
 refine At.done rfl ?_
 refine t_n ?_
 have f6 := f4.sub (r := [(4, .bool ((((x : Nat) : Int) : Int) == 0)), (0, .int .u64 (((x : Nat) : Int)))]) ⟨rfl, rfl, trivial⟩; clear f4
 refine cond_S f6 (t := (((x : Nat) : Int) : Int) == 0) rfl (fun h7 => ?_) (fun h7 => ?_)
 ·have q8 := eq_of_beq h7
  refine wp_seq ?_
  refine At.start ?_
  refine At.rd f6 1 [[]] [(2, .int .i64 (64))] [] (by kernel_rfl) trivial (fun aE f9 => ?_)
  clear f6
  refine At.done rfl ?_
  refine t_n ?_
  have aC := f9.sub (r := [(2, .int .i64 (64))]) ⟨rfl, trivial⟩; clear f9
  refine wp_ret ?_
  refine t_r ?_
  refine ret_ aC [] [.int .i64 (64)] [] (by kernel_rfl) trivial ?_
  exact ⟨ret_eq (congrArg (Value.int .i64) (by first | rfl | exact ctz_0 (by assumption))), e0⟩
 have aF := ne_of_beq_false h7
 refine wp_skip ?_
 refine t_n ?_
 have aA := f6.sub (r := [(0, .int .u64 (((x : Nat) : Int)))]) ⟨rfl, trivial⟩; clear f6
 refine wp_seq ?_
 refine At.start ?_
 refine At.rd aA 10 [[], [], [.as_ (.int .u64 (((18446744073709551616 - x : Nat) : Int)))], [.as_ (.int .u64 (((lowB x : Nat) : Int)))], [.as_ (.int .u64 (((mulB x : Nat) : Int)))], [.as_ (.int .u64 (((idxB x : Nat) : Int)))], [], [.ld (.int .u8 (deI ((idxB x : Nat) : Int)))], [.as_ (.int .i64 (((Lib.ctz 64 x : Nat) : Int)))], []] [(2, .int .i64 (((Lib.ctz 64 x : Nat) : Int))), (13, .int .i64 (((Lib.ctz 64 x : Nat) : Int))), (12, .int .u8 (deI ((idxB x : Nat) : Int))), (11, .pointer (some ((⟨0, 0, none⟩ : Addr).add ((((idxB x : Nat) : Int) : Int).toNat * 1)))), (10, .int .u64 (((idxB x : Nat) : Int))), (9, .int .u64 (((mulB x : Nat) : Int))), (8, .int .u64 (((lowB x : Nat) : Int))), (7, .int .u64 (((18446744073709551616 - x : Nat) : Int))), (6, .int .u64 (((x : Nat) : Int))), (5, .int .u64 (((x : Nat) : Int)))] [((.int .u64 (IntKind.u64.wrap (0 - ((x : Nat) : Int))) : Value) = .int .u64 (((18446744073709551616 - x : Nat) : Int))), ((.int .u64 (IntKind.u64.wrap ((BitVec.ofInt 64 ((x : Nat) : Int) &&& BitVec.ofInt 64 ((18446744073709551616 - x : Nat) : Int)).toNat : Int)) : Value) = .int .u64 (((lowB x : Nat) : Int))), ((.int .u64 (IntKind.u64.wrap (((lowB x : Nat) : Int) * 285870213051353865)) : Value) = .int .u64 (((mulB x : Nat) : Int))), (0 ≤ (58 : Int)), ((.int .u64 ((((mulB x : Nat) : Int) : Int).fdiv (2 ^ (min (58 : Int).toNat IntKind.u64.bits))) : Value) = .int .u64 (((idxB x : Nat) : Int))), (0 ≤ (((idxB x : Nat) : Int) : Int)), ((((idxB x : Nat) : Int) : Int) < (64 : Nat)), (w.cell? ((⟨0, 0, none⟩ : Addr).add ((((idxB x : Nat) : Int) : Int).toNat * 1)) = some (.int .u8 (deI ((idxB x : Nat) : Int)))), ((.int .i64 (IntKind.i64.wrap (deI ((idxB x : Nat) : Int))) : Value) = .int .i64 (((Lib.ctz 64 x : Nat) : Int)))] (by kernel_rfl) ⟨(congrArg (Value.int .u64) (negB (by assumption) hx)), (congrArg (Value.int .u64) (andB (by assumption) hx)), (congrArg (Value.int .u64) (mulB_eq x)), (by omega), (congrArg (Value.int .u64) (shB x)), (by omega), (by omega), (RdT.get rT ((idxB x : Nat) : Int) (by omega) (by omega)), (congrArg (Value.int .i64) (ctz_at (by assumption) hx)), trivial⟩ (fun aG aB => ?_)
 clear aA
 refine At.done rfl ?_
 refine t_n ?_
 have aD := aB.sub (r := [(2, .int .i64 (((Lib.ctz 64 x : Nat) : Int)))]) ⟨rfl, trivial⟩; clear aB
 refine wp_ret ?_
 refine ret_ aD [] [.int .i64 (((Lib.ctz 64 x : Nat) : Int))] [] (by kernel_rfl) trivial ?_
 exact ⟨ret_eq (congrArg (Value.int .i64) (by first | rfl | exact ctz_0 (by assumption))), e0⟩

end Go.Proofs.YtplpgfcjjnaigaaDoor
