/-
  A walk of a Go function, printed by a program of this repo. Conditions: what the theorems name.
-/
import Derived.Test.YtplpgfcjjnaigaaDoorPureOnes
import Derived.Test.YtplpgfcjjnaigaaDoorPureSet
set_option linter.unusedVariables false
set_option linter.unusedSimpArgs false
namespace Go.Proofs.YtplpgfcjjnaigaaDoor
open Go Go.RowKit

set_option maxHeartbeats 4000000 in
theorem ones_any {x : Nat} {w : World} (hx : x < 18446744073709551616) :
    Calls Tryd.prog 62 #[.int .u64 (((x : Nat) : Int))] w fun e w' => e = .returned (.int .i64 ((popN x 64 : Nat) : Int)) ∧ Ext w w' := by
 refine enter_ (args := [.int .u64 (((x : Nat) : Int))]) Tryd.func62 rfl Tryd.ntmps62 (Nat.le_of_ble_eq_true rfl) (fun act0 f0 => ?_)
 have e0 : Ext w w := Ext.refl w
 refine wp_seq ?_
 refine At.start ?_
 refine At.rd f0 1 [[]] [(2, .int .i64 (0))] [] (by kernel_rfl) trivial (fun act2 f1 => ?_)
 clear f0
 refine At.done rfl ?_
 refine t_n ?_
 have f3 := f1.sub (r := [(0, .int .u64 (((x : Nat) : Int)))]) ⟨rfl, trivial⟩; clear f1
 refine wp_seq ?_
 refine At.start ?_
 refine At.rd f3 7 [[], [.as_ (.int .u64 (((x / 2 : Nat) : Int)))], [.as_ (.int .u64 (((x / 2 &&& 6148914691236517205 : Nat) : Int)))], [], [.as_ (.int .u64 (((x &&& 6148914691236517205 : Nat) : Int)))], [.as_ (.int .u64 (((o1 x : Nat) : Int)))], []] [(0, .int .u64 (((o1 x : Nat) : Int))), (8, .int .u64 (((o1 x : Nat) : Int))), (7, .int .u64 (((x &&& 6148914691236517205 : Nat) : Int))), (6, .int .u64 (((x : Nat) : Int))), (5, .int .u64 (((x / 2 &&& 6148914691236517205 : Nat) : Int))), (4, .int .u64 (((x / 2 : Nat) : Int))), (3, .int .u64 (((x : Nat) : Int)))] [(0 ≤ (1 : Int)), ((.int .u64 ((((x : Nat) : Int) : Int).fdiv (2 ^ (min (1 : Int).toNat IntKind.u64.bits))) : Value) = .int .u64 (((x / 2 : Nat) : Int))), ((.int .u64 (IntKind.u64.wrap ((BitVec.ofInt 64 ((x / 2 : Nat) : Int) &&& BitVec.ofInt 64 6148914691236517205).toNat : Int)) : Value) = .int .u64 (((x / 2 &&& 6148914691236517205 : Nat) : Int))), ((.int .u64 (IntKind.u64.wrap ((BitVec.ofInt 64 ((x : Nat) : Int) &&& BitVec.ofInt 64 6148914691236517205).toNat : Int)) : Value) = .int .u64 (((x &&& 6148914691236517205 : Nat) : Int))), ((.int .u64 (IntKind.u64.wrap (((x / 2 &&& 6148914691236517205 : Nat) : Int) + ((x &&& 6148914691236517205 : Nat) : Int))) : Value) = .int .u64 (((o1 x : Nat) : Int)))] (by kernel_rfl) ⟨(by omega), (congrArg (Value.int .u64) (sh1 x)), (congrArg (Value.int .u64) (and85 (half_lt hx))), (congrArg (Value.int .u64) (and85 hx)), (congrArg (Value.int .u64) (sumO1 x)), trivial⟩ (fun act5 f4 => ?_)
 clear f3
 refine At.done rfl ?_
 refine t_n ?_
 have f6 := f4.sub (r := [(0, .int .u64 (((o1 x : Nat) : Int)))]) ⟨rfl, trivial⟩; clear f4
 refine wp_seq ?_
 refine At.start ?_
 refine At.rd f6 7 [[], [.as_ (.int .u64 (((o1 x / 4 : Nat) : Int)))], [.as_ (.int .u64 (((o1 x / 4 &&& 3689348814741910323 : Nat) : Int)))], [], [.as_ (.int .u64 (((o1 x &&& 3689348814741910323 : Nat) : Int)))], [.as_ (.int .u64 (((o2 x : Nat) : Int)))], []] [(0, .int .u64 (((o2 x : Nat) : Int))), (14, .int .u64 (((o2 x : Nat) : Int))), (13, .int .u64 (((o1 x &&& 3689348814741910323 : Nat) : Int))), (12, .int .u64 (((o1 x : Nat) : Int))), (11, .int .u64 (((o1 x / 4 &&& 3689348814741910323 : Nat) : Int))), (10, .int .u64 (((o1 x / 4 : Nat) : Int))), (9, .int .u64 (((o1 x : Nat) : Int)))] [(0 ≤ (2 : Int)), ((.int .u64 ((((o1 x : Nat) : Int) : Int).fdiv (2 ^ (min (2 : Int).toNat IntKind.u64.bits))) : Value) = .int .u64 (((o1 x / 4 : Nat) : Int))), ((.int .u64 (IntKind.u64.wrap ((BitVec.ofInt 64 ((o1 x / 4 : Nat) : Int) &&& BitVec.ofInt 64 3689348814741910323).toNat : Int)) : Value) = .int .u64 (((o1 x / 4 &&& 3689348814741910323 : Nat) : Int))), ((.int .u64 (IntKind.u64.wrap ((BitVec.ofInt 64 ((o1 x : Nat) : Int) &&& BitVec.ofInt 64 3689348814741910323).toNat : Int)) : Value) = .int .u64 (((o1 x &&& 3689348814741910323 : Nat) : Int))), ((.int .u64 (IntKind.u64.wrap (((o1 x / 4 &&& 3689348814741910323 : Nat) : Int) + ((o1 x &&& 3689348814741910323 : Nat) : Int))) : Value) = .int .u64 (((o2 x : Nat) : Int)))] (by kernel_rfl) ⟨(by omega), (congrArg (Value.int .u64) (sh2 (o1 x))), (congrArg (Value.int .u64) (and51 (o1q_lt x))), (congrArg (Value.int .u64) (and51 (o1_lt x))), (congrArg (Value.int .u64) (sumO2 x)), trivial⟩ (fun act8 f7 => ?_)
 clear f6
 refine At.done rfl ?_
 refine t_n ?_
 have f9 := f7.sub (r := [(0, .int .u64 (((o2 x : Nat) : Int)))]) ⟨rfl, trivial⟩; clear f7
 refine wp_seq ?_
 refine At.start ?_
 refine At.rd f9 6 [[], [.as_ (.int .u64 (((o2 x / 16 : Nat) : Int)))], [], [.as_ (.int .u64 (((o2 x / 16 + o2 x : Nat) : Int)))], [.as_ (.int .u64 (((o3 x : Nat) : Int)))], []] [(0, .int .u64 (((o3 x : Nat) : Int))), (19, .int .u64 (((o3 x : Nat) : Int))), (18, .int .u64 (((o2 x / 16 + o2 x : Nat) : Int))), (17, .int .u64 (((o2 x : Nat) : Int))), (16, .int .u64 (((o2 x / 16 : Nat) : Int))), (15, .int .u64 (((o2 x : Nat) : Int)))] [(0 ≤ (4 : Int)), ((.int .u64 ((((o2 x : Nat) : Int) : Int).fdiv (2 ^ (min (4 : Int).toNat IntKind.u64.bits))) : Value) = .int .u64 (((o2 x / 16 : Nat) : Int))), ((.int .u64 (IntKind.u64.wrap (((o2 x / 16 : Nat) : Int) + ((o2 x : Nat) : Int))) : Value) = .int .u64 (((o2 x / 16 + o2 x : Nat) : Int))), ((.int .u64 (IntKind.u64.wrap ((BitVec.ofInt 64 ((o2 x / 16 + o2 x : Nat) : Int) &&& BitVec.ofInt 64 1085102592571150095).toNat : Int)) : Value) = .int .u64 (((o3 x : Nat) : Int)))] (by kernel_rfl) ⟨(by omega), (congrArg (Value.int .u64) (sh4 (o2 x))), (congrArg (Value.int .u64) (sumO3 x)), (congrArg (Value.int .u64) (andO3 x)), trivial⟩ (fun aK aA => ?_)
 clear f9
 refine At.done rfl ?_
 refine t_n ?_
 have aB := aA.sub (r := [(0, .int .u64 (((o3 x : Nat) : Int)))]) ⟨rfl, trivial⟩; clear aA
 refine wp_seq ?_
 refine At.start ?_
 refine At.rd aB 5 [[], [], [.as_ (.int .u64 (((o3 x / 256 : Nat) : Int)))], [.as_ (.int .u64 (((o4 x : Nat) : Int)))], []] [(0, .int .u64 (((o4 x : Nat) : Int))), (23, .int .u64 (((o4 x : Nat) : Int))), (22, .int .u64 (((o3 x / 256 : Nat) : Int))), (21, .int .u64 (((o3 x : Nat) : Int))), (20, .int .u64 (((o3 x : Nat) : Int)))] [(0 ≤ (8 : Int)), ((.int .u64 ((((o3 x : Nat) : Int) : Int).fdiv (2 ^ (min (8 : Int).toNat IntKind.u64.bits))) : Value) = .int .u64 (((o3 x / 256 : Nat) : Int))), ((.int .u64 (IntKind.u64.wrap (((o3 x : Nat) : Int) + ((o3 x / 256 : Nat) : Int))) : Value) = .int .u64 (((o4 x : Nat) : Int)))] (by kernel_rfl) ⟨(by omega), (congrArg (Value.int .u64) (sh8 (o3 x))), (congrArg (Value.int .u64) (sumO4 x)), trivial⟩ (fun aL aC => ?_)
 clear aB
 refine At.done rfl ?_
 refine t_n ?_
 have aD := aC.sub (r := [(0, .int .u64 (((o4 x : Nat) : Int)))]) ⟨rfl, trivial⟩; clear aC
 refine wp_seq ?_
 refine At.start ?_
 refine At.rd aD 5 [[], [], [.as_ (.int .u64 (((o4 x / 65536 : Nat) : Int)))], [.as_ (.int .u64 (((o5 x : Nat) : Int)))], []] [(0, .int .u64 (((o5 x : Nat) : Int))), (27, .int .u64 (((o5 x : Nat) : Int))), (26, .int .u64 (((o4 x / 65536 : Nat) : Int))), (25, .int .u64 (((o4 x : Nat) : Int))), (24, .int .u64 (((o4 x : Nat) : Int)))] [(0 ≤ (16 : Int)), ((.int .u64 ((((o4 x : Nat) : Int) : Int).fdiv (2 ^ (min (16 : Int).toNat IntKind.u64.bits))) : Value) = .int .u64 (((o4 x / 65536 : Nat) : Int))), ((.int .u64 (IntKind.u64.wrap (((o4 x : Nat) : Int) + ((o4 x / 65536 : Nat) : Int))) : Value) = .int .u64 (((o5 x : Nat) : Int)))] (by kernel_rfl) ⟨(by omega), (congrArg (Value.int .u64) (sh16 (o4 x))), (congrArg (Value.int .u64) (sumO5 x)), trivial⟩ (fun aM aE => ?_)
 clear aD
 refine At.done rfl ?_
 refine t_n ?_
 have aF := aE.sub (r := [(0, .int .u64 (((o5 x : Nat) : Int)))]) ⟨rfl, trivial⟩; clear aE
 refine wp_seq ?_
 refine At.start ?_
 refine At.rd aF 5 [[], [], [.as_ (.int .u64 (((o5 x / 4294967296 : Nat) : Int)))], [.as_ (.int .u64 (((o6 x : Nat) : Int)))], []] [(0, .int .u64 (((o6 x : Nat) : Int))), (31, .int .u64 (((o6 x : Nat) : Int))), (30, .int .u64 (((o5 x / 4294967296 : Nat) : Int))), (29, .int .u64 (((o5 x : Nat) : Int))), (28, .int .u64 (((o5 x : Nat) : Int)))] [(0 ≤ (32 : Int)), ((.int .u64 ((((o5 x : Nat) : Int) : Int).fdiv (2 ^ (min (32 : Int).toNat IntKind.u64.bits))) : Value) = .int .u64 (((o5 x / 4294967296 : Nat) : Int))), ((.int .u64 (IntKind.u64.wrap (((o5 x : Nat) : Int) + ((o5 x / 4294967296 : Nat) : Int))) : Value) = .int .u64 (((o6 x : Nat) : Int)))] (by kernel_rfl) ⟨(by omega), (congrArg (Value.int .u64) (sh32 (o5 x))), (congrArg (Value.int .u64) (sumO6 x)), trivial⟩ (fun aN aG => ?_)
 clear aF
 refine At.done rfl ?_
 refine t_n ?_
 have aH := aG.sub (r := [(0, .int .u64 (((o6 x : Nat) : Int)))]) ⟨rfl, trivial⟩; clear aG
 refine wp_seq ?_
 refine At.start ?_
 refine At.rd aH 4 [[], [.as_ (.int .i64 (c6 x))], [.as_ (.int .i64 (((popN x 64 : Nat) : Int)))], []] [(2, .int .i64 (((popN x 64 : Nat) : Int))), (34, .int .i64 (((popN x 64 : Nat) : Int))), (33, .int .i64 (c6 x)), (32, .int .u64 (((o6 x : Nat) : Int)))] [((.int .i64 (IntKind.i64.wrap (((o6 x : Nat) : Int))) : Value) = .int .i64 (c6 x)), ((.int .i64 (IntKind.i64.wrap ((BitVec.ofInt 64 (c6 x) &&& BitVec.ofInt 64 127).toNat : Int)) : Value) = .int .i64 (((popN x 64 : Nat) : Int)))] (by kernel_rfl) ⟨(congrArg (Value.int .i64) (c6_eq x)), (congrArg (Value.int .i64) (andC6 hx)), trivial⟩ (fun aO aI => ?_)
 clear aH
 refine At.done rfl ?_
 refine t_n ?_
 have aJ := aI.sub (r := [(2, .int .i64 (((popN x 64 : Nat) : Int)))]) ⟨rfl, trivial⟩; clear aI
 refine wp_ret ?_
 refine ret_ aJ [] [.int .i64 (((popN x 64 : Nat) : Int))] [] (by kernel_rfl) trivial ?_
 exact ⟨rfl, e0⟩

end Go.Proofs.YtplpgfcjjnaigaaDoor
