/-
  A walk of a Go function, printed by a program of this repo. Conditions: what the theorems name.
-/
import Derived.Test.YtkpljmalbmcdfaaDoorPureSet3
set_option linter.unusedVariables false
set_option linter.unusedSimpArgs false
namespace Go.Proofs.YtkpljmalbmcdfaaDoor
open Go Go.RowKit

set_option maxHeartbeats 4000000 in
theorem full_any {n : Int} {w : World} (hn : -9223372036854775808 ≤ n ∧ n ≤ 9223372036854775807) :
    Calls Tryd.prog 20 #[.int .i64 (n)] w fun e w' => e = .returned (.agg (((fullW n : List Int)).map wV).toArray) ∧ Ext w w' := by
 refine enter_ (args := [.int .i64 (n)]) Tryd.func20 rfl Tryd.ntmps20 (Nat.le_of_ble_eq_true rfl) (fun act0 f0 => ?_)
 have e0 := Ext.refl w
 refine wp_seq ?_
 refine At.start ?_
 refine At.seq f0 1 [[]] [(2, .pointer (some ⟨w.heap.size, 0, none⟩))] (w.alloc (.cells ((List.replicate 4 (0 : Int) : List Int).map wV).toArray 28 (0, 0))) [] (by kernel_rfl) trivial (fun act4 w1 hw2 f3 => ?_)
 clear f0
 have g5 := gr_alloc hw2
 have szw1 := g5.size
 have e7 := e0.gr g5 no_row
 clear e0
 have bx8 : Bx w1 (w.heap.size) ((List.replicate 4 (0 : Int) : List Int).map wV) 28 := Bx.new hw2
 have := bx8.lt
 clear g5 hw2
 refine At.done rfl ?_
 refine t_n ?_
 refine wp_seq ?_
 refine At.start ?_
 refine At.seq f3 1 [[]] [(3, .pointer (some ⟨w1.heap.size, 0, none⟩))] (w1.alloc (.cells ((List.replicate 4 (0 : Int) : List Int).map wV).toArray 28 (0, 0))) [] (by kernel_rfl) trivial (fun act12 w9 hw10 f11 => ?_)
 clear f3
 have g13 := gr_alloc hw10
 have szw9 := g13.size
 have e15 := e7.gr g13 no_row
 clear e7
 have bx16 := bx8.gr g13 (by simp)
 clear bx8
 have bx17 : Bx w9 (w1.heap.size) ((List.replicate 4 (0 : Int) : List Int).map wV) 28 := Bx.new hw10
 have := bx17.lt
 clear g13 hw10
 refine At.done rfl ?_
 refine t_n ?_
 refine wp_seq ?_
 refine At.start ?_
 refine At.rd f11 3 [[], [.as_ (.int .i64 (max n 0))], []] [(0, .int .i64 (max n 0)), (7, .int .i64 (max n 0)), (6, .int .i64 (n))] [((.int .i64 (if 0 > n then 0 else n) : Value) = .int .i64 (max n 0))] (by kernel_rfl) ⟨(congrArg (Value.int .i64) (max_if _ _)), trivial⟩ (fun act19 f18 => ?_)
 clear f11
 refine At.done rfl ?_
 refine t_n ?_
 have f20 := f18.sub (r := [(0, .int .i64 (max n 0)), (3, .pointer (some ⟨w1.heap.size, 0, none⟩)), (2, .pointer (some ⟨w.heap.size, 0, none⟩))]) ⟨rfl, rfl, rfl, trivial⟩
 clear f18
 refine wp_seq ?_
 refine wp_seq ?_
 refine At.start ?_
 refine At.rd f20 1 [[]] [(8, .int .i64 (0))] [] (by kernel_rfl) trivial (fun act22 f21 => ?_)
 clear f20
 refine At.done rfl ?_
 refine t_n ?_
 refine wp_block ?_
 have f23 := f21.sub (r := [(8, .int .i64 (0)), (0, .int .i64 (max n 0)), (3, .pointer (some ⟨w1.heap.size, 0, none⟩)), (2, .pointer (some ⟨w.heap.size, 0, none⟩))]) ⟨rfl, rfl, rfl, rfl, trivial⟩
 refine loop_g (fun (m_ : Nat) a_ w_ => ∃ (k : Int) (xs : List Int), m_ = (4 - k).toNat ∧ (Frm 27 a_ [(8, .int .i64 (k)), (0, .int .i64 (max n 0)), (3, .pointer (some ⟨w1.heap.size, 0, none⟩)), (2, .pointer (some ⟨w.heap.size, 0, none⟩))]) ∧ (Ext w w_) ∧ (Bx w_ (w.heap.size) ((List.replicate 4 (0 : Int) : List Int).map wV) 28) ∧ (Bx w_ (w1.heap.size) ((xs : List Int).map wV) 28) ∧ (0 ≤ k) ∧ (k ≤ 4) ∧ (xs.length = 4) ∧ (MixW (List.replicate 4 (0 : Int)) xs (fun j => lowW (if max n 0 > 256 then 64 else min (max (max n 0 - 64 * j) 0) 64)) k)) _ ⟨0, List.replicate 4 (0 : Int), rfl, f23, e15, bx16, bx17, (by omega), (by omega), rfl, (mixW_0 rfl)⟩ ?_
 clear f23 f21
 clear bx16
 clear bx17
 clear e15
 intro m_ act24 w25 ⟨k, xs, hm27, f28, e26, bx29, bx30, i31, i32, i33, hmx⟩
 have szw25 := e26.size
 have := bx29.lt
 have := bx30.lt
 refine wp_seq ?_
 refine At.start ?_
 refine At.rd f28 1 [[]] [(9, .bool (decide ((k : Int) < 4)))] [] (by kernel_rfl) trivial (fun act35 f34 => ?_)
 clear f28
 refine At.done rfl ?_
 refine t_n ?_
 refine wp_seq ?_
 refine cond_S f34 (t := decide ((k : Int) < 4)) rfl (fun h36 => ?_) (fun h36 => ?_)
 ·have q37 := of_decide_eq_true h36
  refine wp_skip ?_
  refine t_n ?_
  have f38 := f34.sub (r := [(8, .int .i64 (k)), (0, .int .i64 (max n 0)), (3, .pointer (some ⟨w1.heap.size, 0, none⟩)), (2, .pointer (some ⟨w.heap.size, 0, none⟩))]) ⟨rfl, rfl, rfl, rfl, trivial⟩
  clear f34
  refine wp_seq ?_
  refine wp_block ?_
  refine wp_seq ?_
  refine At.start ?_
  refine At.rd f38 2 [[], []] [(4, .int .i64 (k)), (10, .int .i64 (k))] [] (by kernel_rfl) trivial (fun act40 f39 => ?_)
  clear f38
  refine At.done rfl ?_
  refine t_n ?_
  have f41 := f39.sub (r := [(4, .int .i64 (k)), (8, .int .i64 (k)), (0, .int .i64 (max n 0)), (3, .pointer (some ⟨w1.heap.size, 0, none⟩)), (2, .pointer (some ⟨w.heap.size, 0, none⟩))]) ⟨rfl, rfl, rfl, rfl, rfl, trivial⟩
  clear f39
  refine wp_seq ?_
  refine At.start ?_
  refine At.rd f41 7 [[], [], [.as_ (.int .i64 (64 * k))], [.as_ (.int .i64 ((max n 0) - (64 * k)))], [.as_ (.int .i64 (max ((max n 0) - (64 * k)) 0))], [.as_ (.int .i64 (min (max ((max n 0) - (64 * k)) 0) 64))], []] [(5, .int .i64 (min (max ((max n 0) - (64 * k)) 0) 64)), (16, .int .i64 (min (max ((max n 0) - (64 * k)) 0) 64)), (15, .int .i64 (max ((max n 0) - (64 * k)) 0)), (14, .int .i64 ((max n 0) - (64 * k))), (13, .int .i64 (64 * k)), (12, .int .i64 (k)), (11, .int .i64 (max n 0))] [((.int .i64 (IntKind.i64.wrap (64 * k)) : Value) = .int .i64 (64 * k)), ((.int .i64 (IntKind.i64.wrap ((max n 0) - (64 * k))) : Value) = .int .i64 ((max n 0) - (64 * k))), ((.int .i64 (if 0 > ((max n 0) - (64 * k)) then 0 else ((max n 0) - (64 * k))) : Value) = .int .i64 (max ((max n 0) - (64 * k)) 0)), ((.int .i64 (if 64 < (max ((max n 0) - (64 * k)) 0) then 64 else (max ((max n 0) - (64 * k)) 0)) : Value) = .int .i64 (min (max ((max n 0) - (64 * k)) 0) 64))] (by kernel_rfl) ⟨(w64 (by omega) (by omega)), (w64 (by omega) (by omega)), (congrArg (Value.int .i64) (max_if _ _)), (congrArg (Value.int .i64) (min_if _ _)), trivial⟩ (fun act43 f42 => ?_)
  clear f41
  refine At.done rfl ?_
  refine t_n ?_
  have f44 := f42.sub (r := [(5, .int .i64 (min (max ((max n 0) - (64 * k)) 0) 64)), (4, .int .i64 (k)), (8, .int .i64 (k)), (0, .int .i64 (max n 0)), (3, .pointer (some ⟨w1.heap.size, 0, none⟩)), (2, .pointer (some ⟨w.heap.size, 0, none⟩))]) ⟨rfl, rfl, rfl, rfl, rfl, rfl, trivial⟩
  clear f42
  refine wp_seq ?_
  refine wp_seq ?_
  refine At.start ?_
  refine At.rd f44 2 [[], []] [(18, .bool (decide ((max n 0 : Int) > 256))), (17, .int .i64 (max n 0))] [] (by kernel_rfl) trivial (fun act46 f45 => ?_)
  clear f44
  refine At.done rfl ?_
  refine t_n ?_
  have f47 := f45.sub (r := [(18, .bool (decide ((max n 0 : Int) > 256))), (5, .int .i64 (min (max ((max n 0) - (64 * k)) 0) 64)), (4, .int .i64 (k)), (8, .int .i64 (k)), (0, .int .i64 (max n 0)), (3, .pointer (some ⟨w1.heap.size, 0, none⟩)), (2, .pointer (some ⟨w.heap.size, 0, none⟩))]) ⟨rfl, rfl, rfl, rfl, rfl, rfl, rfl, trivial⟩
  clear f45
  refine cond_S f47 (t := decide ((max n 0 : Int) > 256)) rfl (fun h48 => ?_) (fun h48 => ?_)
  ·have q49 := of_decide_eq_true h48
   refine At.start ?_
   refine At.rd f47 1 [[]] [(5, .int .i64 (64))] [] (by kernel_rfl) trivial (fun act51 f50 => ?_)
   clear f47
   refine At.done rfl ?_
   refine t_n ?_
   have f52 := f50.sub (r := [(5, .int .i64 (64)), (4, .int .i64 (k)), (8, .int .i64 (k)), (0, .int .i64 (max n 0)), (3, .pointer (some ⟨w1.heap.size, 0, none⟩)), (2, .pointer (some ⟨w.heap.size, 0, none⟩))]) ⟨rfl, rfl, rfl, rfl, rfl, rfl, trivial⟩
   clear f50
   refine At.start ?_
   refine At.rd f52 6 [[], [], [.as_ (.int .u64 (64))], [], [], []] [(24, .pointer (some ((⟨w1.heap.size, 0, none⟩ : Addr).add ((k : Int).toNat * 1)))), (23, .int .u64 (IntKind.u64.wrap ((IntKind.u64.wrap (1 * (2 ^ (min (64 : Int).toNat IntKind.u64.bits)))) - 1))), (22, .int .u64 (IntKind.u64.wrap (1 * (2 ^ (min (64 : Int).toNat IntKind.u64.bits))))), (21, .int .u64 (64)), (20, .int .i64 (64)), (19, .int .i64 (k))] [((.int .u64 (IntKind.u64.wrap (64)) : Value) = .int .u64 (64)), (0 ≤ (64 : Int)), (0 ≤ (k : Int)), ((k : Int) < (4 : Nat))] (by kernel_rfl) ⟨(wu64 (by omega) (by omega)), (by omega), (by omega), (by omega), trivial⟩ (fun act54 f53 => ?_)
   clear f52
   refine At.act f53 (storeArrM (f := wV) (t := 26) (b := w1.heap.size) (i := k) (x := IntKind.u64.wrap ((IntKind.u64.wrap (1 * (2 ^ (min (64 : Int).toNat IntKind.u64.bits)))) - 1)) (v := .int .u64 (IntKind.u64.wrap ((IntKind.u64.wrap (1 * (2 ^ (min (64 : Int).toNat IntKind.u64.bits)))) - 1))) (by kernel_rfl) rfl rfl (by kernel_rfl) bx30 (by omega) (by omega)) ?_
   rintro d_ v_ w55 ⟨rfl, g56, bx57⟩
   refine ⟨_, rfl, fun act60 f59 => ?_⟩
   clear f53
   have hl58 : ((xs).set (k : Int).toNat (IntKind.u64.wrap ((IntKind.u64.wrap (1 * (2 ^ (min (64 : Int).toNat IntKind.u64.bits)))) - 1))).length = (xs : List Int).length := List.length_set
   have szw55 := g56.size
   have e61 := e26.gr g56 (fun k h => by injection h; omega)
   clear e26
   have bx62 := bx29.gr g56 (fun h => by injection h; omega)
   clear bx29
   clear bx30 g56
   refine At.done rfl ?_
   refine b_n ?_
   refine t_n ?_
   have f63 := f59.sub (r := [(8, .int .i64 (k)), (0, .int .i64 (max n 0)), (3, .pointer (some ⟨w1.heap.size, 0, none⟩)), (2, .pointer (some ⟨w.heap.size, 0, none⟩))]) ⟨rfl, rfl, rfl, rfl, trivial⟩
   clear f59
   refine At.start ?_
   refine At.rd f63 2 [[.as_ (.int .i64 (k + 1))], []] [(8, .int .i64 (k + 1)), (25, .int .i64 (k + 1))] [((.int .i64 (IntKind.i64.wrap (k + 1)) : Value) = .int .i64 (k + 1))] (by kernel_rfl) ⟨(w64 (by omega) (by omega)), trivial⟩ (fun act65 f64 => ?_)
   clear f63
   refine At.done rfl ?_
   refine t_n ?_
   have f66 := f64.sub (r := [(8, .int .i64 (k + 1)), (0, .int .i64 (max n 0)), (3, .pointer (some ⟨w1.heap.size, 0, none⟩)), (2, .pointer (some ⟨w.heap.size, 0, none⟩))]) ⟨rfl, rfl, rfl, rfl, trivial⟩
   exact ⟨_, (by omega), (k + 1), (xs).set (k : Int).toNat (IntKind.u64.wrap ((IntKind.u64.wrap (1 * (2 ^ (min (64 : Int).toNat IntKind.u64.bits)))) - 1)), rfl, f66, e61, bx62, bx57, (by omega), (by omega), (by omega), (mixW_next hmx (by omega) (by omega) ((shl_low (by omega) (by omega)).trans (congrArg lowW (by first | rw [if_pos (by omega)] | rw [if_neg (by omega)]))))⟩
  ·have q67 := of_decide_eq_false h48
   refine wp_skip ?_
   refine t_n ?_
   have f68 := f47.sub (r := [(5, .int .i64 (min (max ((max n 0) - (64 * k)) 0) 64)), (4, .int .i64 (k)), (8, .int .i64 (k)), (0, .int .i64 (max n 0)), (3, .pointer (some ⟨w1.heap.size, 0, none⟩)), (2, .pointer (some ⟨w.heap.size, 0, none⟩))]) ⟨rfl, rfl, rfl, rfl, rfl, rfl, trivial⟩
   clear f47
   refine At.start ?_
   refine At.rd f68 6 [[], [], [.as_ (.int .u64 (min (max ((max n 0) - (64 * k)) 0) 64))], [], [], []] [(24, .pointer (some ((⟨w1.heap.size, 0, none⟩ : Addr).add ((k : Int).toNat * 1)))), (23, .int .u64 (IntKind.u64.wrap ((IntKind.u64.wrap (1 * (2 ^ (min (min (max ((max n 0) - (64 * k)) 0) 64 : Int).toNat IntKind.u64.bits)))) - 1))), (22, .int .u64 (IntKind.u64.wrap (1 * (2 ^ (min (min (max ((max n 0) - (64 * k)) 0) 64 : Int).toNat IntKind.u64.bits))))), (21, .int .u64 (min (max ((max n 0) - (64 * k)) 0) 64)), (20, .int .i64 (min (max ((max n 0) - (64 * k)) 0) 64)), (19, .int .i64 (k))] [((.int .u64 (IntKind.u64.wrap (min (max ((max n 0) - (64 * k)) 0) 64)) : Value) = .int .u64 (min (max ((max n 0) - (64 * k)) 0) 64)), (0 ≤ (min (max ((max n 0) - (64 * k)) 0) 64 : Int)), (0 ≤ (k : Int)), ((k : Int) < (4 : Nat))] (by kernel_rfl) ⟨(wu64 (by omega) (by omega)), (by omega), (by omega), (by omega), trivial⟩ (fun act70 f69 => ?_)
   clear f68
   refine At.act f69 (storeArrM (f := wV) (t := 26) (b := w1.heap.size) (i := k) (x := IntKind.u64.wrap ((IntKind.u64.wrap (1 * (2 ^ (min (min (max ((max n 0) - (64 * k)) 0) 64 : Int).toNat IntKind.u64.bits)))) - 1)) (v := .int .u64 (IntKind.u64.wrap ((IntKind.u64.wrap (1 * (2 ^ (min (min (max ((max n 0) - (64 * k)) 0) 64 : Int).toNat IntKind.u64.bits)))) - 1))) (by kernel_rfl) rfl rfl (by kernel_rfl) bx30 (by omega) (by omega)) ?_
   rintro d_ v_ w71 ⟨rfl, g72, bx73⟩
   refine ⟨_, rfl, fun act76 f75 => ?_⟩
   clear f69
   have hl74 : ((xs).set (k : Int).toNat (IntKind.u64.wrap ((IntKind.u64.wrap (1 * (2 ^ (min (min (max ((max n 0) - (64 * k)) 0) 64 : Int).toNat IntKind.u64.bits)))) - 1))).length = (xs : List Int).length := List.length_set
   have szw71 := g72.size
   have e77 := e26.gr g72 (fun k h => by injection h; omega)
   clear e26
   have bx78 := bx29.gr g72 (fun h => by injection h; omega)
   clear bx29
   clear bx30 g72
   refine At.done rfl ?_
   refine b_n ?_
   refine t_n ?_
   have f79 := f75.sub (r := [(8, .int .i64 (k)), (0, .int .i64 (max n 0)), (3, .pointer (some ⟨w1.heap.size, 0, none⟩)), (2, .pointer (some ⟨w.heap.size, 0, none⟩))]) ⟨rfl, rfl, rfl, rfl, trivial⟩
   clear f75
   refine At.start ?_
   refine At.rd f79 2 [[.as_ (.int .i64 (k + 1))], []] [(8, .int .i64 (k + 1)), (25, .int .i64 (k + 1))] [((.int .i64 (IntKind.i64.wrap (k + 1)) : Value) = .int .i64 (k + 1))] (by kernel_rfl) ⟨(w64 (by omega) (by omega)), trivial⟩ (fun act81 f80 => ?_)
   clear f79
   refine At.done rfl ?_
   refine t_n ?_
   have f82 := f80.sub (r := [(8, .int .i64 (k + 1)), (0, .int .i64 (max n 0)), (3, .pointer (some ⟨w1.heap.size, 0, none⟩)), (2, .pointer (some ⟨w.heap.size, 0, none⟩))]) ⟨rfl, rfl, rfl, rfl, trivial⟩
   exact ⟨_, (by omega), (k + 1), (xs).set (k : Int).toNat (IntKind.u64.wrap ((IntKind.u64.wrap (1 * (2 ^ (min (min (max ((max n 0) - (64 * k)) 0) 64 : Int).toNat IntKind.u64.bits)))) - 1)), rfl, f82, e77, bx78, bx73, (by omega), (by omega), (by omega), (mixW_next hmx (by omega) (by omega) ((shl_low (by omega) (by omega)).trans (congrArg lowW (by first | rw [if_pos (by omega)] | rw [if_neg (by omega)]))))⟩
 ·have q83 := of_decide_eq_false h36
  refine wp_exit ?_
  refine t_e ?_
  refine t_e ?_
  refine b_e ?_
  refine t_n ?_
  have f84 := f34.sub (r := [(3, .pointer (some ⟨w1.heap.size, 0, none⟩)), (2, .pointer (some ⟨w.heap.size, 0, none⟩))]) ⟨rfl, rfl, trivial⟩
  clear f34
  refine wp_seq ?_
  refine At.start ?_
  refine At.rd f84 1 [[.cs ((xs : List Int).map wV)]] [(26, .agg ((xs : List Int).map wV).toArray)] [(((xs : List Int).map wV).length = 4), (∀ (j : Nat) (v : Value), ((xs : List Int).map wV)[j]? = some v → w25.cell? ((⟨w1.heap.size, 0, none⟩ : Addr).add j) = some v)] (by kernel_rfl) ⟨(by simp only [List.length_map, List.length_set, List.length_replicate, List.length_cons, List.length_nil]; first | done | assumption | exact from_len _ | exact of_len _ | exact ofZ_len _ | exact (ofW_ok _).1 | exact (fullW_W _).1 | exact (okW_with (by assumption)).1 | exact (okW_less (by assumption)).1 | exact put_len (from_len _) | exact orD_len _ _ | exact andD_len _ _ | exact minusD_len _ _ | exact fullD_len _ | (refine okLen ?_; (repeat (first | assumption | exact ofW_ok _ | exact fullW_W _ | apply okW_with | apply okW_less | refine okW_orS ?_ ?_ | refine okW_andS ?_ ?_ | refine okW_minusS ?_ ?_)); done) | omega | rfl), bx30.whole, trivial⟩ (fun act86 f85 => ?_)
  clear f84
  refine At.act f85 (storeBlk (t := 28) (b := w.heap.size) (n := 4) (cs' := ((xs : List Int).map wV)) (by kernel_rfl) (by kernel_rfl) (by simp only [List.length_map, List.length_set, List.length_replicate, List.length_cons, List.length_nil]; first | done | assumption | exact from_len _ | exact of_len _ | exact ofZ_len _ | exact (ofW_ok _).1 | exact (fullW_W _).1 | exact (okW_with (by assumption)).1 | exact (okW_less (by assumption)).1 | exact put_len (from_len _) | exact orD_len _ _ | exact andD_len _ _ | exact minusD_len _ _ | exact fullD_len _ | (refine okLen ?_; (repeat (first | assumption | exact ofW_ok _ | exact fullW_W _ | apply okW_with | apply okW_less | refine okW_orS ?_ ?_ | refine okW_andS ?_ ?_ | refine okW_minusS ?_ ?_)); done) | omega | rfl) oneW_ ((show ((xs : List Int).map wV).length = 4 from (by simp only [List.length_map, List.length_set, List.length_replicate, List.length_cons, List.length_nil]; first | done | assumption | exact from_len _ | exact of_len _ | exact ofZ_len _ | exact (ofW_ok _).1 | exact (fullW_W _).1 | exact (okW_with (by assumption)).1 | exact (okW_less (by assumption)).1 | exact put_len (from_len _) | exact orD_len _ _ | exact andD_len _ _ | exact minusD_len _ _ | exact fullD_len _ | (refine okLen ?_; (repeat (first | assumption | exact ofW_ok _ | exact fullW_W _ | apply okW_with | apply okW_less | refine okW_orS ?_ ?_ | refine okW_andS ?_ ?_ | refine okW_minusS ?_ ?_)); done) | omega | rfl)).trans (show ((List.replicate 4 (0 : Int) : List Int).map wV).length = 4 from (by simp only [List.length_map, List.length_set, List.length_replicate, List.length_cons, List.length_nil]; first | done | assumption | exact from_len _ | exact of_len _ | exact ofZ_len _ | exact (ofW_ok _).1 | exact (fullW_W _).1 | exact (okW_with (by assumption)).1 | exact (okW_less (by assumption)).1 | exact put_len (from_len _) | exact orD_len _ _ | exact andD_len _ _ | exact minusD_len _ _ | exact fullD_len _ | (refine okLen ?_; (repeat (first | assumption | exact ofW_ok _ | exact fullW_W _ | apply okW_with | apply okW_less | refine okW_orS ?_ ?_ | refine okW_andS ?_ ?_ | refine okW_minusS ?_ ?_)); done) | omega | rfl)).symm) bx29) ?_
  rintro d_ v_ w87 ⟨rfl, g88, bx89⟩
  refine ⟨_, rfl, fun act91 f90 => ?_⟩
  clear f85
  have szw87 := g88.size
  have e92 := e26.gr g88 (fun k h => by injection h; omega)
  clear e26
  have bx93 := bx30.gr g88 (fun h => by injection h; omega)
  clear bx30
  clear bx29 g88
  refine At.done rfl ?_
  refine t_n ?_
  have f94 := f90.sub (r := [(2, .pointer (some ⟨w.heap.size, 0, none⟩))]) ⟨rfl, trivial⟩
  clear f90
  refine wp_ret ?_
  refine retB_ f94 (sl := 2) (cs := ((xs : List Int).map wV)) (m := 4) rfl (by kernel_rfl) (by kernel_rfl) (by simp only [List.length_map, List.length_set, List.length_replicate, List.length_cons, List.length_nil]; first | done | assumption | exact from_len _ | exact of_len _ | exact ofZ_len _ | exact (ofW_ok _).1 | exact (fullW_W _).1 | exact (okW_with (by assumption)).1 | exact (okW_less (by assumption)).1 | exact put_len (from_len _) | exact orD_len _ _ | exact andD_len _ _ | exact minusD_len _ _ | exact fullD_len _ | (refine okLen ?_; (repeat (first | assumption | exact ofW_ok _ | exact fullW_W _ | apply okW_with | apply okW_less | refine okW_orS ?_ ?_ | refine okW_andS ?_ ?_ | refine okW_minusS ?_ ?_)); done) | omega | rfl) bx89 ?_
  exact ⟨ret_map (mixW_end hmx (by omega)), e92⟩

end Go.Proofs.YtkpljmalbmcdfaaDoor
