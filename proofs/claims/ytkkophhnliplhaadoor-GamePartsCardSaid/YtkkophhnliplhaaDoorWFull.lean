/-
  A walk of a Go function, printed by a program of this repo. Conditions: what the theorems name.
-/
import Derived.Test.YtkkophhnliplhaaDoorPureSet3
set_option linter.unusedVariables false
set_option linter.unusedSimpArgs false
namespace Go.Proofs.YtkkophhnliplhaaDoor
open Go Go.RowKit

set_option maxHeartbeats 4000000 in
theorem full_any {n : Int} {w : World} (hn : -9223372036854775808 ≤ n ∧ n ≤ 9223372036854775807) :
    Calls Tryd.prog 30 #[.int .i64 (n)] w fun e w' => e = .returned (.agg (((fullW n : List Int)).map wV).toArray) ∧ Ext w w' := by
 refine enter_ (args := [.int .i64 (n)]) Tryd.func30 rfl Tryd.ntmps30 (Nat.le_of_ble_eq_true rfl) (fun act0 f0 => ?_)
 have e0 : Ext w w := Ext.refl w
 refine wp_seq ?_
 refine At.start ?_
 refine At.seq f0 1 [[]] [(2, .pointer (some ⟨w.heap.size, 0, none⟩))] (w.alloc (.cells ((List.replicate 4 (0 : Int) : List Int).map wV).toArray 47 (0, 0))) [] (by kernel_rfl) trivial (fun act4 w1 hw2 f3 => ?_)
 clear f0
 have g5 := gr_alloc hw2
 have szw1 := g5.size
 replace e0 := e0.gr g5 no_row
 have bx8 : Bx w1 (w.heap.size) ((List.replicate 4 (0 : Int) : List Int).map wV) 47 := Bx.new hw2
 have := bx8.lt
 clear g5 hw2
 refine At.done rfl ?_
 refine t_n ?_
 refine wp_seq ?_
 refine At.start ?_
 refine At.seq f3 1 [[]] [(3, .pointer (some ⟨w1.heap.size, 0, none⟩))] (w1.alloc (.cells ((List.replicate 4 (0 : Int) : List Int).map wV).toArray 47 (0, 0))) [] (by kernel_rfl) trivial (fun act12 w9 hw10 f11 => ?_)
 clear f3
 have g13 := gr_alloc hw10
 have szw9 := g13.size
 replace e0 := e0.gr g13 no_row
 replace bx8 := bx8.gr g13 (by simp)
 have bx17 : Bx w9 (w1.heap.size) ((List.replicate 4 (0 : Int) : List Int).map wV) 47 := Bx.new hw10
 have := bx17.lt
 clear g13 hw10
 refine At.done rfl ?_
 refine t_n ?_
 refine wp_seq ?_
 refine At.start ?_
 refine At.rd f11 3 [[], [.as_ (.int .i64 (max n 0))], []] [(0, .int .i64 (max n 0)), (7, .int .i64 (max n 0)), (6, .int .i64 (n))] [((.int .i64 (if 0 > n then 0 else n) : Value) = .int .i64 (max n 0))] (by kernel_rfl) ⟨(congrArg (Value.int .i64) (max_if _ _)), trivial⟩ (fun act19 f18 => ?_)
 clear f11
 refine At.done rfl ?_
 refine t_n ?_
 refine wp_seq ?_
 refine wp_seq ?_
 refine At.start ?_
 refine At.rd f18 1 [[]] [(8, .int .i64 (0))] [] (by kernel_rfl) trivial (fun act21 f20 => ?_)
 clear f18
 refine At.done rfl ?_
 refine t_n ?_
 refine wp_block ?_
 have f22 := f20.sub (r := [(8, .int .i64 (0)), (0, .int .i64 (max n 0)), (3, .pointer (some ⟨w1.heap.size, 0, none⟩)), (2, .pointer (some ⟨w.heap.size, 0, none⟩))]) ⟨rfl, rfl, rfl, rfl, trivial⟩
 refine loop_g (fun (m_ : Nat) a_ w_ => ∃ (k : Int) (xs : List Int), m_ = (4 - k).toNat ∧ (Frm 27 a_ [(8, .int .i64 (k)), (0, .int .i64 (max n 0)), (3, .pointer (some ⟨w1.heap.size, 0, none⟩)), (2, .pointer (some ⟨w.heap.size, 0, none⟩))]) ∧ (Ext w w_) ∧ (Bx w_ (w.heap.size) ((List.replicate 4 (0 : Int) : List Int).map wV) 47) ∧ (Bx w_ (w1.heap.size) ((xs : List Int).map wV) 47) ∧ (0 ≤ k) ∧ (k ≤ 4) ∧ (xs.length = 4) ∧ (MixW (List.replicate 4 (0 : Int)) xs (fun j => lowW (if max n 0 > 256 then 64 else min (max (max n 0 - 64 * j) 0) 64)) k)) _ ⟨0, List.replicate 4 (0 : Int), rfl, f22, e0, bx8, bx17, (by omega), (by omega), rfl, (mixW_0 rfl)⟩ ?_
 clear f22 f20
 clear bx8
 clear bx17
 clear e0
 intro m_ act23 w24 ⟨k, xs, hm26, f27, e25, bx28, bx29, i30, i31, i32, hmx⟩
 have szw24 := e25.size
 have := bx28.lt
 have := bx29.lt
 refine wp_seq ?_
 refine At.start ?_
 refine At.rd f27 1 [[]] [(9, .bool (decide ((k : Int) < 4)))] [] (by kernel_rfl) trivial (fun act34 f33 => ?_)
 clear f27
 refine At.done rfl ?_
 refine t_n ?_
 refine wp_seq ?_
 refine cond_S f33 (t := decide ((k : Int) < 4)) rfl (fun h35 => ?_) (fun h35 => ?_)
 ·have q36 := of_decide_eq_true h35
  refine wp_skip ?_
  refine t_n ?_
  refine wp_seq ?_
  refine wp_block ?_
  refine wp_seq ?_
  refine At.start ?_
  refine At.rd f33 2 [[], []] [(4, .int .i64 (k)), (10, .int .i64 (k))] [] (by kernel_rfl) trivial (fun act38 f37 => ?_)
  clear f33
  refine At.done rfl ?_
  refine t_n ?_
  refine wp_seq ?_
  refine At.start ?_
  refine At.rd f37 7 [[], [], [.as_ (.int .i64 (64 * k))], [.as_ (.int .i64 ((max n 0) - (64 * k)))], [.as_ (.int .i64 (max ((max n 0) - (64 * k)) 0))], [.as_ (.int .i64 (min (max ((max n 0) - (64 * k)) 0) 64))], []] [(5, .int .i64 (min (max ((max n 0) - (64 * k)) 0) 64)), (16, .int .i64 (min (max ((max n 0) - (64 * k)) 0) 64)), (15, .int .i64 (max ((max n 0) - (64 * k)) 0)), (14, .int .i64 ((max n 0) - (64 * k))), (13, .int .i64 (64 * k)), (12, .int .i64 (k)), (11, .int .i64 (max n 0))] [((.int .i64 (IntKind.i64.wrap (64 * k)) : Value) = .int .i64 (64 * k)), ((.int .i64 (IntKind.i64.wrap ((max n 0) - (64 * k))) : Value) = .int .i64 ((max n 0) - (64 * k))), ((.int .i64 (if 0 > ((max n 0) - (64 * k)) then 0 else ((max n 0) - (64 * k))) : Value) = .int .i64 (max ((max n 0) - (64 * k)) 0)), ((.int .i64 (if 64 < (max ((max n 0) - (64 * k)) 0) then 64 else (max ((max n 0) - (64 * k)) 0)) : Value) = .int .i64 (min (max ((max n 0) - (64 * k)) 0) 64))] (by kernel_rfl) ⟨(w64 (by omega) (by omega)), (w64 (by omega) (by omega)), (congrArg (Value.int .i64) (max_if _ _)), (congrArg (Value.int .i64) (min_if _ _)), trivial⟩ (fun act40 f39 => ?_)
  clear f37
  refine At.done rfl ?_
  refine t_n ?_
  refine wp_seq ?_
  refine wp_seq ?_
  refine At.start ?_
  refine At.rd f39 2 [[], []] [(18, .bool (decide ((max n 0 : Int) > 256))), (17, .int .i64 (max n 0))] [] (by kernel_rfl) trivial (fun act42 f41 => ?_)
  clear f39
  refine At.done rfl ?_
  refine t_n ?_
  refine cond_S f41 (t := decide ((max n 0 : Int) > 256)) rfl (fun h43 => ?_) (fun h43 => ?_)
  ·have q44 := of_decide_eq_true h43
   refine At.start ?_
   refine At.rd f41 1 [[]] [(5, .int .i64 (64))] [] (by kernel_rfl) trivial (fun act46 f45 => ?_)
   clear f41
   refine At.done rfl ?_
   refine t_n ?_
   refine At.start ?_
   refine At.rd f45 6 [[], [], [.as_ (.int .u64 (64))], [], [], []] [(24, .pointer (some ((⟨w1.heap.size, 0, none⟩ : Addr).add ((k : Int).toNat * 1)))), (23, .int .u64 (IntKind.u64.wrap ((IntKind.u64.wrap (1 * (2 ^ (min (64 : Int).toNat IntKind.u64.bits)))) - 1))), (22, .int .u64 (IntKind.u64.wrap (1 * (2 ^ (min (64 : Int).toNat IntKind.u64.bits))))), (21, .int .u64 (64)), (20, .int .i64 (64)), (19, .int .i64 (k))] [((.int .u64 (IntKind.u64.wrap (64)) : Value) = .int .u64 (64)), (0 ≤ (64 : Int)), (0 ≤ (k : Int)), ((k : Int) < (4 : Nat))] (by kernel_rfl) ⟨(wu64 (by omega) (by omega)), (by omega), (by omega), (by omega), trivial⟩ (fun act48 f47 => ?_)
   clear f45
   refine At.act f47 (storeArrM (f := wV) (t := 34) (b := w1.heap.size) (i := k) (x := IntKind.u64.wrap ((IntKind.u64.wrap (1 * (2 ^ (min (64 : Int).toNat IntKind.u64.bits)))) - 1)) (v := .int .u64 (IntKind.u64.wrap ((IntKind.u64.wrap (1 * (2 ^ (min (64 : Int).toNat IntKind.u64.bits)))) - 1))) (by kernel_rfl) rfl rfl (by kernel_rfl) bx29 (by omega) (by omega)) ?_
   rintro d_ v_ w49 ⟨rfl, g50, bx51⟩
   refine ⟨_, rfl, fun act54 f53 => ?_⟩
   clear f47
   have hl52 : ((xs).set (k : Int).toNat (IntKind.u64.wrap ((IntKind.u64.wrap (1 * (2 ^ (min (64 : Int).toNat IntKind.u64.bits)))) - 1))).length = (xs : List Int).length := List.length_set
   have szw49 := g50.size
   replace e25 := e25.gr g50 (fun k h => by injection h; omega)
   replace bx28 := bx28.gr g50 (fun h => by injection h; omega)
   clear bx29 g50
   refine At.done rfl ?_
   refine b_n ?_
   refine t_n ?_
   have f57 := f53.sub (r := [(8, .int .i64 (k)), (0, .int .i64 (max n 0)), (3, .pointer (some ⟨w1.heap.size, 0, none⟩)), (2, .pointer (some ⟨w.heap.size, 0, none⟩))]) ⟨rfl, rfl, rfl, rfl, trivial⟩
   clear f53
   refine At.start ?_
   refine At.rd f57 2 [[.as_ (.int .i64 (k + 1))], []] [(8, .int .i64 (k + 1)), (25, .int .i64 (k + 1))] [((.int .i64 (IntKind.i64.wrap (k + 1)) : Value) = .int .i64 (k + 1))] (by kernel_rfl) ⟨(w64 (by omega) (by omega)), trivial⟩ (fun act59 f58 => ?_)
   clear f57
   refine At.done rfl ?_
   refine t_n ?_
   have f60 := f58.sub (r := [(8, .int .i64 (k + 1)), (0, .int .i64 (max n 0)), (3, .pointer (some ⟨w1.heap.size, 0, none⟩)), (2, .pointer (some ⟨w.heap.size, 0, none⟩))]) ⟨rfl, rfl, rfl, rfl, trivial⟩
   exact ⟨_, (by omega), (k + 1), (xs).set (k : Int).toNat (IntKind.u64.wrap ((IntKind.u64.wrap (1 * (2 ^ (min (64 : Int).toNat IntKind.u64.bits)))) - 1)), rfl, f60, e25, bx28, bx51, (by omega), (by omega), (by omega), (mixW_next hmx (by omega) (by omega) ((shl_low (by omega) (by omega)).trans (congrArg lowW (by first | rw [if_pos (by omega)] | rw [if_neg (by omega)]))))⟩
  ·have q61 := of_decide_eq_false h43
   refine wp_skip ?_
   refine t_n ?_
   refine At.start ?_
   refine At.rd f41 6 [[], [], [.as_ (.int .u64 (min (max ((max n 0) - (64 * k)) 0) 64))], [], [], []] [(24, .pointer (some ((⟨w1.heap.size, 0, none⟩ : Addr).add ((k : Int).toNat * 1)))), (23, .int .u64 (IntKind.u64.wrap ((IntKind.u64.wrap (1 * (2 ^ (min (min (max ((max n 0) - (64 * k)) 0) 64 : Int).toNat IntKind.u64.bits)))) - 1))), (22, .int .u64 (IntKind.u64.wrap (1 * (2 ^ (min (min (max ((max n 0) - (64 * k)) 0) 64 : Int).toNat IntKind.u64.bits))))), (21, .int .u64 (min (max ((max n 0) - (64 * k)) 0) 64)), (20, .int .i64 (min (max ((max n 0) - (64 * k)) 0) 64)), (19, .int .i64 (k))] [((.int .u64 (IntKind.u64.wrap (min (max ((max n 0) - (64 * k)) 0) 64)) : Value) = .int .u64 (min (max ((max n 0) - (64 * k)) 0) 64)), (0 ≤ (min (max ((max n 0) - (64 * k)) 0) 64 : Int)), (0 ≤ (k : Int)), ((k : Int) < (4 : Nat))] (by kernel_rfl) ⟨(wu64 (by omega) (by omega)), (by omega), (by omega), (by omega), trivial⟩ (fun act63 f62 => ?_)
   clear f41
   refine At.act f62 (storeArrM (f := wV) (t := 34) (b := w1.heap.size) (i := k) (x := IntKind.u64.wrap ((IntKind.u64.wrap (1 * (2 ^ (min (min (max ((max n 0) - (64 * k)) 0) 64 : Int).toNat IntKind.u64.bits)))) - 1)) (v := .int .u64 (IntKind.u64.wrap ((IntKind.u64.wrap (1 * (2 ^ (min (min (max ((max n 0) - (64 * k)) 0) 64 : Int).toNat IntKind.u64.bits)))) - 1))) (by kernel_rfl) rfl rfl (by kernel_rfl) bx29 (by omega) (by omega)) ?_
   rintro d_ v_ w65 ⟨rfl, g66, bx67⟩
   refine ⟨_, rfl, fun act70 f69 => ?_⟩
   clear f62
   have hl68 : ((xs).set (k : Int).toNat (IntKind.u64.wrap ((IntKind.u64.wrap (1 * (2 ^ (min (min (max ((max n 0) - (64 * k)) 0) 64 : Int).toNat IntKind.u64.bits)))) - 1))).length = (xs : List Int).length := List.length_set
   have szw65 := g66.size
   replace e25 := e25.gr g66 (fun k h => by injection h; omega)
   replace bx28 := bx28.gr g66 (fun h => by injection h; omega)
   clear bx29 g66
   refine At.done rfl ?_
   refine b_n ?_
   refine t_n ?_
   have f73 := f69.sub (r := [(8, .int .i64 (k)), (0, .int .i64 (max n 0)), (3, .pointer (some ⟨w1.heap.size, 0, none⟩)), (2, .pointer (some ⟨w.heap.size, 0, none⟩))]) ⟨rfl, rfl, rfl, rfl, trivial⟩
   clear f69
   refine At.start ?_
   refine At.rd f73 2 [[.as_ (.int .i64 (k + 1))], []] [(8, .int .i64 (k + 1)), (25, .int .i64 (k + 1))] [((.int .i64 (IntKind.i64.wrap (k + 1)) : Value) = .int .i64 (k + 1))] (by kernel_rfl) ⟨(w64 (by omega) (by omega)), trivial⟩ (fun act75 f74 => ?_)
   clear f73
   refine At.done rfl ?_
   refine t_n ?_
   have f76 := f74.sub (r := [(8, .int .i64 (k + 1)), (0, .int .i64 (max n 0)), (3, .pointer (some ⟨w1.heap.size, 0, none⟩)), (2, .pointer (some ⟨w.heap.size, 0, none⟩))]) ⟨rfl, rfl, rfl, rfl, trivial⟩
   exact ⟨_, (by omega), (k + 1), (xs).set (k : Int).toNat (IntKind.u64.wrap ((IntKind.u64.wrap (1 * (2 ^ (min (min (max ((max n 0) - (64 * k)) 0) 64 : Int).toNat IntKind.u64.bits)))) - 1)), rfl, f76, e25, bx28, bx67, (by omega), (by omega), (by omega), (mixW_next hmx (by omega) (by omega) ((shl_low (by omega) (by omega)).trans (congrArg lowW (by first | rw [if_pos (by omega)] | rw [if_neg (by omega)]))))⟩
 ·have q77 := of_decide_eq_false h35
  refine wp_exit ?_
  refine t_e ?_
  refine t_e ?_
  refine b_e ?_
  refine t_n ?_
  refine wp_seq ?_
  refine At.start ?_
  refine At.rd f33 1 [[.cs ((xs : List Int).map wV)]] [(26, .agg ((xs : List Int).map wV).toArray)] [(((xs : List Int).map wV).length = 4), (∀ (j : Nat) (v : Value), ((xs : List Int).map wV)[j]? = some v → w24.cell? ((⟨w1.heap.size, 0, none⟩ : Addr).add j) = some v)] (by kernel_rfl) ⟨((List.length_map _).trans (by assumption)), bx29.whole, trivial⟩ (fun act79 f78 => ?_)
  clear f33
  refine At.act f78 (storeBlk (t := 47) (b := w.heap.size) (n := 4) (cs' := ((xs : List Int).map wV)) (by kernel_rfl) (by kernel_rfl) ((List.length_map _).trans (by assumption)) oneW_ ((show ((xs : List Int).map wV).length = 4 from ((List.length_map _).trans (by assumption))).trans (show ((List.replicate 4 (0 : Int) : List Int).map wV).length = 4 from (by simp only [List.length_map, List.length_set, List.length_replicate, List.length_cons, List.length_nil]; first | done | assumption | exact from_len _ | exact of_len _ | exact ofZ_len _ | exact (ofW_ok _).1 | exact (fullW_W _).1 | exact (okW_with (by assumption)).1 | exact (okW_less (by assumption)).1 | exact put_len (from_len _) | exact orD_len _ _ | exact andD_len _ _ | exact minusD_len _ _ | exact fullD_len _ | (refine okLen ?_; (repeat (first | assumption | exact ofW_ok _ | exact fullW_W _ | apply okW_with | apply okW_less | refine okW_orS ?_ ?_ | refine okW_andS ?_ ?_ | refine okW_minusS ?_ ?_)); done) | omega | rfl)).symm) bx28) ?_
  rintro d_ v_ w80 ⟨rfl, g81, bx82⟩
  refine ⟨_, rfl, fun act84 f83 => ?_⟩
  clear f78
  have szw80 := g81.size
  replace e25 := e25.gr g81 (fun k h => by injection h; omega)
  replace bx29 := bx29.gr g81 (fun h => by injection h; omega)
  clear bx28 g81
  refine At.done rfl ?_
  refine t_n ?_
  refine wp_ret ?_
  refine retB_ f83 (sl := 2) (cs := ((xs : List Int).map wV)) (m := 4) rfl (by kernel_rfl) (by kernel_rfl) ((List.length_map _).trans (by assumption)) bx82 ?_
  exact ⟨ret_map (mixW_end hmx (by omega)), e25⟩

end Go.Proofs.YtkkophhnliplhaaDoor
