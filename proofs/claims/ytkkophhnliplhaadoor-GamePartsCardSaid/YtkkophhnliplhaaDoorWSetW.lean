/-
  A walk of a Go function, printed by a program of this repo. Conditions: what the theorems name.
-/
import Derived.Test.YtkkophhnliplhaaDoorPureSet
set_option linter.unusedVariables false
set_option linter.unusedSimpArgs false
namespace Go.Proofs.YtkkophhnliplhaaDoor
open Go Go.RowKit

set_option maxHeartbeats 4000000 in
theorem from_any {s : List Int} {w : World} (hs : OkW s) :
    Calls Tryd.prog 21 #[.agg ((s : List Int).map wV).toArray] w fun e w' => e = .returned (.agg (((fromW s : List Bool)).map Value.bool).toArray) ∧ Ext w w' := by
 have hls := hs.1
 refine enter_ (args := [.agg ((s : List Int).map wV).toArray]) Tryd.func21 rfl Tryd.ntmps21 (Nat.le_of_ble_eq_true rfl) (fun act0 f0 => ?_)
 have e0 : Ext w w := Ext.refl w
 refine wp_seq ?_
 refine At.start ?_
 refine At.seq f0 1 [[]] [(1, .pointer (some ⟨w.heap.size, 0, none⟩))] (w.alloc (.cells ((s : List Int).map wV).toArray 35 (0, 0))) [] (by kernel_rfl) trivial (fun act4 w1 hw2 f3 => ?_)
 clear f0
 have g5 := gr_alloc hw2
 have szw1 := g5.size
 replace e0 := e0.gr g5 no_row
 have bx8 : Bx w1 (w.heap.size) ((s : List Int).map wV) 35 := Bx.new hw2
 have := bx8.lt
 clear g5 hw2
 refine At.seq f3 1 [[]] [(2, .pointer (some ⟨w1.heap.size, 0, none⟩))] (w1.alloc (.cells ((List.replicate 256 false : List Bool).map Value.bool).toArray 37 (0, 0))) [] (by kernel_rfl) trivial (fun act12 w9 hw10 f11 => ?_)
 clear f3
 have g13 := gr_alloc hw10
 have szw9 := g13.size
 replace e0 := e0.gr g13 no_row
 replace bx8 := bx8.gr g13 (by simp)
 have bx17 : Bx w9 (w1.heap.size) ((List.replicate 256 false : List Bool).map Value.bool) 37 := Bx.new hw10
 have := bx17.lt
 clear g13 hw10
 refine At.done rfl ?_
 refine t_n ?_
 refine wp_seq ?_
 refine At.start ?_
 refine At.seq f11 1 [[]] [(3, .pointer (some ⟨w9.heap.size, 0, none⟩))] (w9.alloc (.cells ((List.replicate 256 false : List Bool).map Value.bool).toArray 37 (0, 0))) [] (by kernel_rfl) trivial (fun act21 w18 hw19 f20 => ?_)
 clear f11
 have g22 := gr_alloc hw19
 have szw18 := g22.size
 replace e0 := e0.gr g22 no_row
 replace bx8 := bx8.gr g22 (by simp)
 replace bx17 := bx17.gr g22 (by simp)
 have bx27 : Bx w18 (w9.heap.size) ((List.replicate 256 false : List Bool).map Value.bool) 37 := Bx.new hw19
 have := bx27.lt
 clear g22 hw19
 refine At.done rfl ?_
 refine t_n ?_
 refine wp_seq ?_
 refine wp_seq ?_
 refine At.start ?_
 refine At.rd f20 1 [[]] [(4, .int .i64 (0))] [] (by kernel_rfl) trivial (fun act29 f28 => ?_)
 clear f20
 refine At.done rfl ?_
 refine t_n ?_
 refine wp_block ?_
 have f30 := f28.sub (r := [(4, .int .i64 (0)), (3, .pointer (some ⟨w9.heap.size, 0, none⟩)), (2, .pointer (some ⟨w1.heap.size, 0, none⟩)), (1, .pointer (some ⟨w.heap.size, 0, none⟩))]) ⟨rfl, rfl, rfl, rfl, trivial⟩
 refine loop_g (fun (m_ : Nat) a_ w_ => ∃ (k : Int) (xs : List Bool), m_ = (256 - k).toNat ∧ (Frm 22 a_ [(4, .int .i64 (k)), (3, .pointer (some ⟨w9.heap.size, 0, none⟩)), (2, .pointer (some ⟨w1.heap.size, 0, none⟩)), (1, .pointer (some ⟨w.heap.size, 0, none⟩))]) ∧ (Ext w w_) ∧ (Bx w_ (w.heap.size) ((s : List Int).map wV) 35) ∧ (Bx w_ (w1.heap.size) ((List.replicate 256 false : List Bool).map Value.bool) 37) ∧ (Bx w_ (w9.heap.size) ((xs : List Bool).map Value.bool) 37) ∧ (0 ≤ k) ∧ (k ≤ 256) ∧ (xs.length = 256) ∧ (MixL (List.replicate 256 false) xs (fun j => bitI (gI s (j / 64)) (j % 64)) k)) _ ⟨0, List.replicate 256 false, rfl, f30, e0, bx8, bx17, bx27, (by omega), (by omega), List.length_replicate, (mix_0 List.length_replicate)⟩ ?_
 clear f30 f28
 clear bx8
 clear bx17
 clear bx27
 clear e0
 intro m_ act31 w32 ⟨k, xs, hm34, f35, e33, bx36, bx37, bx38, i39, i40, i41, hmx⟩
 have szw32 := e33.size
 have := bx36.lt
 have := bx37.lt
 have := bx38.lt
 refine wp_seq ?_
 refine wp_seq ?_
 refine At.start ?_
 refine At.rd f35 2 [[], []] [(6, .bool (decide ((k : Int) < 256))), (5, .int .i64 (k))] [] (by kernel_rfl) trivial (fun act43 f42 => ?_)
 clear f35
 refine At.done rfl ?_
 refine t_n ?_
 refine cond_S f42 (t := decide ((k : Int) < 256)) rfl (fun h44 => ?_) (fun h44 => ?_)
 ·have q45 := of_decide_eq_true h44
  refine wp_skip ?_
  refine t_n ?_
  refine wp_seq ?_
  refine wp_block ?_
  refine At.start ?_
  refine At.rd f42 12 [[], [], [.as_ (.int .i64 ((k : Int) / 64))], [], [.ld (.int .u64 (gI s ((k : Int) / 64)))], [], [.as_ (.int .i64 ((k : Int) % 64))], [.as_ (.int .u64 ((k : Int) % 64))], [], [], [], []] [(20, .pointer (some ((⟨w9.heap.size, 0, none⟩ : Addr).add ((k : Int).toNat * 1)))), (19, .bool ((((gI s ((k : Int) / 64) : Int).fdiv (2 ^ (min ((k : Int) % 64 : Int).toNat IntKind.u64.bits)) : Int).tmod 2 : Int) == 1)), (18, .int .u64 (((gI s ((k : Int) / 64) : Int).fdiv (2 ^ (min ((k : Int) % 64 : Int).toNat IntKind.u64.bits)) : Int).tmod 2)), (17, .int .u64 ((gI s ((k : Int) / 64) : Int).fdiv (2 ^ (min ((k : Int) % 64 : Int).toNat IntKind.u64.bits)))), (16, .int .u64 ((k : Int) % 64)), (15, .int .i64 ((k : Int) % 64)), (14, .int .i64 (k)), (13, .int .u64 (gI s ((k : Int) / 64))), (12, .pointer (some ((⟨w.heap.size, 0, none⟩ : Addr).add (((k : Int) / 64 : Int).toNat * 1)))), (11, .int .i64 ((k : Int) / 64)), (10, .int .i64 (k)), (9, .int .i64 (k))] [((64 : Int) ≠ 0), ((.int .i64 (IntKind.i64.wrap ((k : Int).tdiv 64)) : Value) = .int .i64 ((k : Int) / 64)), (0 ≤ ((k : Int) / 64 : Int)), (((k : Int) / 64 : Int) < (4 : Nat)), (w32.cell? ((⟨w.heap.size, 0, none⟩ : Addr).add (((k : Int) / 64 : Int).toNat * 1)) = some (.int .u64 (gI s ((k : Int) / 64)))), ((64 : Int) ≠ 0), ((.int .i64 ((k : Int).tmod 64) : Value) = .int .i64 ((k : Int) % 64)), ((.int .u64 (IntKind.u64.wrap ((k : Int) % 64)) : Value) = .int .u64 ((k : Int) % 64)), (0 ≤ ((k : Int) % 64 : Int)), ((2 : Int) ≠ 0), (0 ≤ (k : Int)), ((k : Int) < (256 : Nat))] (by kernel_rfl) ⟨(by omega), (congrArg (Value.int .i64) (w64q (by omega) (by omega) (by omega))), (by omega), (by omega), (Bx.arrM (f := wV) (0 : Int) bx36 ((k : Int) / 64) (by omega) (by omega)), (by omega), (congrArg (Value.int .i64) (tmodE (by omega) _)), (wu64 (by omega) (by omega)), (by omega), (by omega), (by omega), (by omega), trivial⟩ (fun act47 f46 => ?_)
  clear f42
  refine At.act f46 (storeArrM (f := Value.bool) (t := 4) (b := w9.heap.size) (i := k) (x := (((gI s ((k : Int) / 64) : Int).fdiv (2 ^ (min ((k : Int) % 64 : Int).toNat IntKind.u64.bits)) : Int).tmod 2 : Int) == 1) (v := .bool ((((gI s ((k : Int) / 64) : Int).fdiv (2 ^ (min ((k : Int) % 64 : Int).toNat IntKind.u64.bits)) : Int).tmod 2 : Int) == 1)) (by kernel_rfl) rfl rfl (by kernel_rfl) bx38 (by omega) (by omega)) ?_
  rintro d_ v_ w48 ⟨rfl, g49, bx50⟩
  refine ⟨_, rfl, fun act53 f52 => ?_⟩
  clear f46
  have hl51 : ((xs).set (k : Int).toNat ((((gI s ((k : Int) / 64) : Int).fdiv (2 ^ (min ((k : Int) % 64 : Int).toNat IntKind.u64.bits)) : Int).tmod 2 : Int) == 1)).length = (xs : List Bool).length := List.length_set
  have szw48 := g49.size
  replace e33 := e33.gr g49 (fun k h => by injection h; omega)
  replace bx36 := bx36.gr g49 (fun h => by injection h; omega)
  replace bx37 := bx37.gr g49 (fun h => by injection h; omega)
  clear bx38 g49
  refine At.done rfl ?_
  refine b_n ?_
  refine t_n ?_
  refine At.start ?_
  refine At.rd f52 3 [[], [.as_ (.int .i64 (k + 1))], []] [(4, .int .i64 (k + 1)), (8, .int .i64 (k + 1)), (7, .int .i64 (k))] [((.int .i64 (IntKind.i64.wrap (k + 1)) : Value) = .int .i64 (k + 1))] (by kernel_rfl) ⟨(w64 (by omega) (by omega)), trivial⟩ (fun act58 f57 => ?_)
  clear f52
  refine At.done rfl ?_
  refine t_n ?_
  have f59 := f57.sub (r := [(4, .int .i64 (k + 1)), (3, .pointer (some ⟨w9.heap.size, 0, none⟩)), (2, .pointer (some ⟨w1.heap.size, 0, none⟩)), (1, .pointer (some ⟨w.heap.size, 0, none⟩))]) ⟨rfl, rfl, rfl, rfl, trivial⟩
  exact ⟨_, (by omega), (k + 1), (xs).set (k : Int).toNat ((((gI s ((k : Int) / 64) : Int).fdiv (2 ^ (min ((k : Int) % 64 : Int).toNat IntKind.u64.bits)) : Int).tmod 2 : Int) == 1), rfl, f59, e33, bx36, bx37, bx50, (by omega), (by omega), (by omega), (mix_next hmx (by omega) (by omega) (bit_mod (hs.2 _) (by omega) (by omega)))⟩
 ·have q60 := of_decide_eq_false h44
  refine wp_exit ?_
  refine t_e ?_
  refine t_e ?_
  refine b_e ?_
  refine t_n ?_
  refine wp_seq ?_
  refine At.start ?_
  refine At.rd f42 1 [[.cs ((xs : List Bool).map Value.bool)]] [(21, .agg ((xs : List Bool).map Value.bool).toArray)] [(((xs : List Bool).map Value.bool).length = 256), (∀ (j : Nat) (v : Value), ((xs : List Bool).map Value.bool)[j]? = some v → w32.cell? ((⟨w9.heap.size, 0, none⟩ : Addr).add j) = some v)] (by kernel_rfl) ⟨((List.length_map _).trans (by assumption)), bx38.whole, trivial⟩ (fun act62 f61 => ?_)
  clear f42
  refine At.act f61 (storeBlk (t := 37) (b := w1.heap.size) (n := 256) (cs' := ((xs : List Bool).map Value.bool)) (by kernel_rfl) (by kernel_rfl) ((List.length_map _).trans (by assumption)) oneB ((show ((xs : List Bool).map Value.bool).length = 256 from ((List.length_map _).trans (by assumption))).trans (show ((List.replicate 256 false : List Bool).map Value.bool).length = 256 from (by simp only [List.length_map, List.length_set, List.length_replicate, List.length_cons, List.length_nil]; first | done | assumption | exact from_len _ | exact of_len _ | exact ofZ_len _ | exact (ofW_ok _).1 | exact (fullW_W _).1 | exact (okW_with (by assumption)).1 | exact (okW_less (by assumption)).1 | exact put_len (from_len _) | exact orD_len _ _ | exact andD_len _ _ | exact minusD_len _ _ | exact fullD_len _ | (refine okLen ?_; (repeat (first | assumption | exact ofW_ok _ | exact fullW_W _ | apply okW_with | apply okW_less | refine okW_orS ?_ ?_ | refine okW_andS ?_ ?_ | refine okW_minusS ?_ ?_)); done) | omega | rfl)).symm) bx37) ?_
  rintro d_ v_ w63 ⟨rfl, g64, bx65⟩
  refine ⟨_, rfl, fun act67 f66 => ?_⟩
  clear f61
  have szw63 := g64.size
  replace e33 := e33.gr g64 (fun k h => by injection h; omega)
  replace bx36 := bx36.gr g64 (fun h => by injection h; omega)
  replace bx38 := bx38.gr g64 (fun h => by injection h; omega)
  clear bx37 g64
  refine At.done rfl ?_
  refine t_n ?_
  refine wp_ret ?_
  refine retB_ f66 (sl := 2) (cs := ((xs : List Bool).map Value.bool)) (m := 256) rfl (by kernel_rfl) (by kernel_rfl) ((List.length_map _).trans (by assumption)) bx65 ?_
  exact ⟨ret_map (mix_end hmx (by omega)), e33⟩

set_option maxHeartbeats 4000000 in
theorem with_any {s : List Int} {n : Int} {w : World} (hs : OkW s) :
    Calls Tryd.prog 44 #[.agg ((s : List Int).map wV).toArray, .int .i64 (n)] w fun e w' => e = .returned (.agg (((withW s n : List Int)).map wV).toArray) ∧ Ext w w' := by
 have hls := hs.1
 refine enter_ (args := [.agg ((s : List Int).map wV).toArray, .int .i64 (n)]) Tryd.func44 rfl Tryd.ntmps44 (Nat.le_of_ble_eq_true rfl) (fun act0 f0 => ?_)
 have e0 : Ext w w := Ext.refl w
 refine wp_seq ?_
 refine At.start ?_
 refine At.seq f0 1 [[]] [(2, .pointer (some ⟨w.heap.size, 0, none⟩))] (w.alloc (.cells ((s : List Int).map wV).toArray 47 (0, 0))) [] (by kernel_rfl) trivial (fun act4 w1 hw2 f3 => ?_)
 clear f0
 have g5 := gr_alloc hw2
 have szw1 := g5.size
 replace e0 := e0.gr g5 no_row
 have bx8 : Bx w1 (w.heap.size) ((s : List Int).map wV) 47 := Bx.new hw2
 have := bx8.lt
 clear g5 hw2
 refine At.seq f3 1 [[]] [(4, .pointer (some ⟨w1.heap.size, 0, none⟩))] (w1.alloc (.cells ((List.replicate 4 (0 : Int) : List Int).map wV).toArray 47 (0, 0))) [] (by kernel_rfl) trivial (fun act12 w9 hw10 f11 => ?_)
 clear f3
 have g13 := gr_alloc hw10
 have szw9 := g13.size
 replace e0 := e0.gr g13 no_row
 replace bx8 := bx8.gr g13 (by simp)
 have bx17 : Bx w9 (w1.heap.size) ((List.replicate 4 (0 : Int) : List Int).map wV) 47 := Bx.new hw10
 have := bx17.lt
 clear g13 hw10
 refine At.done rfl ?_
 refine t_n ?_
 refine wp_seq ?_
 refine wp_seq ?_
 refine At.start ?_
 rcases Bool.eq_false_or_eq_true (decide ((n : Int) ≥ 0)) with h18 | h18
 ·have q19 := of_decide_eq_true h18
  refine At.rd f11 6 [[], [], [.as_ (.bool true)], [], [], []] [(10, .bool (decide ((n : Int) < 256))), (9, .bool (decide ((n : Int) < 256))), (8, .int .i64 (n)), (7, .bool true), (6, .bool (decide ((n : Int) ≥ 0))), (5, .int .i64 (n))] [((.bool (decide ((n : Int) ≥ 0)) : Value) = .bool true)] (by kernel_rfl) ⟨(congrArg Value.bool h18), trivial⟩ (fun act21 f20 => ?_)
  clear f11
  refine At.done rfl ?_
  refine t_n ?_
  refine cond_S f20 (t := decide ((n : Int) < 256)) rfl (fun h22 => ?_) (fun h22 => ?_)
  ·have q23 := of_decide_eq_true h22
   refine At.start ?_
   refine At.rd f20 10 [[], [.as_ (.int .i64 ((n : Int) / 64))], [], [.ld (.int .u64 (gI s ((n : Int) / 64)))], [], [.as_ (.int .i64 ((n : Int) % 64))], [.as_ (.int .u64 ((n : Int) % 64))], [.as_ (.int .u64 (oneW ((n : Int) % 64)))], [.as_ (.int .u64 (orW (gI s ((n : Int) / 64)) (oneW ((n : Int) % 64))))], []] [(20, .pointer (some ((⟨w.heap.size, 0, none⟩ : Addr).add (((n : Int) / 64 : Int).toNat * 1)))), (19, .int .u64 (orW (gI s ((n : Int) / 64)) (oneW ((n : Int) % 64)))), (18, .int .u64 (oneW ((n : Int) % 64))), (17, .int .u64 ((n : Int) % 64)), (16, .int .i64 ((n : Int) % 64)), (15, .int .i64 (n)), (14, .int .u64 (gI s ((n : Int) / 64))), (13, .pointer (some ((⟨w.heap.size, 0, none⟩ : Addr).add (((n : Int) / 64 : Int).toNat * 1)))), (12, .int .i64 ((n : Int) / 64)), (11, .int .i64 (n))] [(0 ≤ (6 : Int)), ((.int .i64 ((n : Int).fdiv (2 ^ (min (6 : Int).toNat IntKind.i64.bits))) : Value) = .int .i64 ((n : Int) / 64)), (0 ≤ ((n : Int) / 64 : Int)), (((n : Int) / 64 : Int) < (4 : Nat)), (w9.cell? ((⟨w.heap.size, 0, none⟩ : Addr).add (((n : Int) / 64 : Int).toNat * 1)) = some (.int .u64 (gI s ((n : Int) / 64)))), ((.int .i64 (IntKind.i64.wrap ((BitVec.ofInt 64 n &&& BitVec.ofInt 64 63).toNat : Int)) : Value) = .int .i64 ((n : Int) % 64)), ((.int .u64 (IntKind.u64.wrap ((n : Int) % 64)) : Value) = .int .u64 ((n : Int) % 64)), (0 ≤ ((n : Int) % 64 : Int)), ((.int .u64 (IntKind.u64.wrap (1 * (2 ^ (min ((n : Int) % 64 : Int).toNat IntKind.u64.bits)))) : Value) = .int .u64 (oneW ((n : Int) % 64))), ((.int .u64 (IntKind.u64.wrap ((BitVec.ofInt 64 (gI s ((n : Int) / 64)) ||| BitVec.ofInt 64 (oneW ((n : Int) % 64))).toNat : Int)) : Value) = .int .u64 (orW (gI s ((n : Int) / 64)) (oneW ((n : Int) % 64)))), (0 ≤ ((n : Int) / 64 : Int)), (((n : Int) / 64 : Int) < (4 : Nat))] (by kernel_rfl) ⟨(by omega), (congrArg (Value.int .i64) (shr6 _)), (by omega), (by omega), (Bx.arrM (f := wV) (0 : Int) bx8 ((n : Int) / 64) (by omega) (by omega)), (congrArg (Value.int .i64) (and63 (by omega) (by omega))), (wu64 (by omega) (by omega)), (by omega), (congrArg (Value.int .u64) (shl_one (by omega) (by omega))), (congrArg (Value.int .u64) (or64 (by first | exact hs.2 _ | exact ht.2 _ | exact oneW_W (by omega) (by omega) | exact mixW_W hmx (by omega) (by omega) hs) (by first | exact hs.2 _ | exact ht.2 _ | exact oneW_W (by omega) (by omega) | exact mixW_W hmx (by omega) (by omega) hs))), (by omega), (by omega), trivial⟩ (fun act25 f24 => ?_)
   clear f20
   refine At.act f24 (storeArrM (f := wV) (t := 34) (b := w.heap.size) (i := (n : Int) / 64) (x := orW (gI s ((n : Int) / 64)) (oneW ((n : Int) % 64))) (v := .int .u64 (orW (gI s ((n : Int) / 64)) (oneW ((n : Int) % 64)))) (by kernel_rfl) rfl rfl (by kernel_rfl) bx8 (by omega) (by omega)) ?_
   rintro d_ v_ w26 ⟨rfl, g27, bx28⟩
   refine ⟨_, rfl, fun act31 f30 => ?_⟩
   clear f24
   have hl29 : ((s).set ((n : Int) / 64 : Int).toNat (orW (gI s ((n : Int) / 64)) (oneW ((n : Int) % 64)))).length = (s : List Int).length := List.length_set
   have szw26 := g27.size
   replace e0 := e0.gr g27 (fun k h => by injection h; omega)
   replace bx17 := bx17.gr g27 (fun h => by injection h; omega)
   clear bx8 g27
   refine At.done rfl ?_
   refine t_n ?_
   have f34 := f30.sub (r := [(4, .pointer (some ⟨w1.heap.size, 0, none⟩)), (2, .pointer (some ⟨w.heap.size, 0, none⟩))]) ⟨rfl, rfl, trivial⟩
   clear f30
   refine wp_seq ?_
   refine At.start ?_
   refine At.rd f34 1 [[.cs (((s).set ((n : Int) / 64 : Int).toNat (orW (gI s ((n : Int) / 64)) (oneW ((n : Int) % 64))) : List Int).map wV)]] [(21, .agg (((s).set ((n : Int) / 64 : Int).toNat (orW (gI s ((n : Int) / 64)) (oneW ((n : Int) % 64))) : List Int).map wV).toArray)] [((((s).set ((n : Int) / 64 : Int).toNat (orW (gI s ((n : Int) / 64)) (oneW ((n : Int) % 64))) : List Int).map wV).length = 4), (∀ (j : Nat) (v : Value), (((s).set ((n : Int) / 64 : Int).toNat (orW (gI s ((n : Int) / 64)) (oneW ((n : Int) % 64))) : List Int).map wV)[j]? = some v → w26.cell? ((⟨w.heap.size, 0, none⟩ : Addr).add j) = some v)] (by kernel_rfl) ⟨(by simp only [List.length_map, List.length_set, List.length_replicate, List.length_cons, List.length_nil]; first | done | assumption | exact from_len _ | exact of_len _ | exact ofZ_len _ | exact (ofW_ok _).1 | exact (fullW_W _).1 | exact (okW_with (by assumption)).1 | exact (okW_less (by assumption)).1 | exact put_len (from_len _) | exact orD_len _ _ | exact andD_len _ _ | exact minusD_len _ _ | exact fullD_len _ | (refine okLen ?_; (repeat (first | assumption | exact ofW_ok _ | exact fullW_W _ | apply okW_with | apply okW_less | refine okW_orS ?_ ?_ | refine okW_andS ?_ ?_ | refine okW_minusS ?_ ?_)); done) | omega | rfl), bx28.whole, trivial⟩ (fun act36 f35 => ?_)
   clear f34
   refine At.act f35 (storeBlk (t := 47) (b := w1.heap.size) (n := 4) (cs' := (((s).set ((n : Int) / 64 : Int).toNat (orW (gI s ((n : Int) / 64)) (oneW ((n : Int) % 64))) : List Int).map wV)) (by kernel_rfl) (by kernel_rfl) (by simp only [List.length_map, List.length_set, List.length_replicate, List.length_cons, List.length_nil]; first | done | assumption | exact from_len _ | exact of_len _ | exact ofZ_len _ | exact (ofW_ok _).1 | exact (fullW_W _).1 | exact (okW_with (by assumption)).1 | exact (okW_less (by assumption)).1 | exact put_len (from_len _) | exact orD_len _ _ | exact andD_len _ _ | exact minusD_len _ _ | exact fullD_len _ | (refine okLen ?_; (repeat (first | assumption | exact ofW_ok _ | exact fullW_W _ | apply okW_with | apply okW_less | refine okW_orS ?_ ?_ | refine okW_andS ?_ ?_ | refine okW_minusS ?_ ?_)); done) | omega | rfl) oneW_ ((show (((s).set ((n : Int) / 64 : Int).toNat (orW (gI s ((n : Int) / 64)) (oneW ((n : Int) % 64))) : List Int).map wV).length = 4 from (by simp only [List.length_map, List.length_set, List.length_replicate, List.length_cons, List.length_nil]; first | done | assumption | exact from_len _ | exact of_len _ | exact ofZ_len _ | exact (ofW_ok _).1 | exact (fullW_W _).1 | exact (okW_with (by assumption)).1 | exact (okW_less (by assumption)).1 | exact put_len (from_len _) | exact orD_len _ _ | exact andD_len _ _ | exact minusD_len _ _ | exact fullD_len _ | (refine okLen ?_; (repeat (first | assumption | exact ofW_ok _ | exact fullW_W _ | apply okW_with | apply okW_less | refine okW_orS ?_ ?_ | refine okW_andS ?_ ?_ | refine okW_minusS ?_ ?_)); done) | omega | rfl)).trans (show ((List.replicate 4 (0 : Int) : List Int).map wV).length = 4 from (by simp only [List.length_map, List.length_set, List.length_replicate, List.length_cons, List.length_nil]; first | done | assumption | exact from_len _ | exact of_len _ | exact ofZ_len _ | exact (ofW_ok _).1 | exact (fullW_W _).1 | exact (okW_with (by assumption)).1 | exact (okW_less (by assumption)).1 | exact put_len (from_len _) | exact orD_len _ _ | exact andD_len _ _ | exact minusD_len _ _ | exact fullD_len _ | (refine okLen ?_; (repeat (first | assumption | exact ofW_ok _ | exact fullW_W _ | apply okW_with | apply okW_less | refine okW_orS ?_ ?_ | refine okW_andS ?_ ?_ | refine okW_minusS ?_ ?_)); done) | omega | rfl)).symm) bx17) ?_
   rintro d_ v_ w37 ⟨rfl, g38, bx39⟩
   refine ⟨_, rfl, fun act41 f40 => ?_⟩
   clear f35
   have szw37 := g38.size
   replace e0 := e0.gr g38 (fun k h => by injection h; omega)
   replace bx28 := bx28.gr g38 (fun h => by injection h; omega)
   clear bx17 g38
   refine At.done rfl ?_
   refine t_n ?_
   refine wp_ret ?_
   refine retB_ f40 (sl := 4) (cs := (((s).set ((n : Int) / 64 : Int).toNat (orW (gI s ((n : Int) / 64)) (oneW ((n : Int) % 64))) : List Int).map wV)) (m := 4) rfl (by kernel_rfl) (by kernel_rfl) (by simp only [List.length_map, List.length_set, List.length_replicate, List.length_cons, List.length_nil]; first | done | assumption | exact from_len _ | exact of_len _ | exact ofZ_len _ | exact (ofW_ok _).1 | exact (fullW_W _).1 | exact (okW_with (by assumption)).1 | exact (okW_less (by assumption)).1 | exact put_len (from_len _) | exact orD_len _ _ | exact andD_len _ _ | exact minusD_len _ _ | exact fullD_len _ | (refine okLen ?_; (repeat (first | assumption | exact ofW_ok _ | exact fullW_W _ | apply okW_with | apply okW_less | refine okW_orS ?_ ?_ | refine okW_andS ?_ ?_ | refine okW_minusS ?_ ?_)); done) | omega | rfl) bx39 ?_
   exact ⟨ret_map (by first | rw [withW, if_pos ⟨by omega, by omega⟩] | rw [withW, if_neg (by omega)]), e0⟩
  ·have q44 := of_decide_eq_false h22
   refine wp_skip ?_
   refine t_n ?_
   refine wp_seq ?_
   refine At.start ?_
   refine At.rd f20 1 [[.cs ((s : List Int).map wV)]] [(21, .agg ((s : List Int).map wV).toArray)] [(((s : List Int).map wV).length = 4), (∀ (j : Nat) (v : Value), ((s : List Int).map wV)[j]? = some v → w9.cell? ((⟨w.heap.size, 0, none⟩ : Addr).add j) = some v)] (by kernel_rfl) ⟨((List.length_map _).trans (by assumption)), bx8.whole, trivial⟩ (fun act46 f45 => ?_)
   clear f20
   refine At.act f45 (storeBlk (t := 47) (b := w1.heap.size) (n := 4) (cs' := ((s : List Int).map wV)) (by kernel_rfl) (by kernel_rfl) ((List.length_map _).trans (by assumption)) oneW_ ((show ((s : List Int).map wV).length = 4 from ((List.length_map _).trans (by assumption))).trans (show ((List.replicate 4 (0 : Int) : List Int).map wV).length = 4 from (by simp only [List.length_map, List.length_set, List.length_replicate, List.length_cons, List.length_nil]; first | done | assumption | exact from_len _ | exact of_len _ | exact ofZ_len _ | exact (ofW_ok _).1 | exact (fullW_W _).1 | exact (okW_with (by assumption)).1 | exact (okW_less (by assumption)).1 | exact put_len (from_len _) | exact orD_len _ _ | exact andD_len _ _ | exact minusD_len _ _ | exact fullD_len _ | (refine okLen ?_; (repeat (first | assumption | exact ofW_ok _ | exact fullW_W _ | apply okW_with | apply okW_less | refine okW_orS ?_ ?_ | refine okW_andS ?_ ?_ | refine okW_minusS ?_ ?_)); done) | omega | rfl)).symm) bx17) ?_
   rintro d_ v_ w47 ⟨rfl, g48, bx49⟩
   refine ⟨_, rfl, fun act51 f50 => ?_⟩
   clear f45
   have szw47 := g48.size
   replace e0 := e0.gr g48 (fun k h => by injection h; omega)
   replace bx8 := bx8.gr g48 (fun h => by injection h; omega)
   clear bx17 g48
   refine At.done rfl ?_
   refine t_n ?_
   refine wp_ret ?_
   refine retB_ f50 (sl := 4) (cs := ((s : List Int).map wV)) (m := 4) rfl (by kernel_rfl) (by kernel_rfl) ((List.length_map _).trans (by assumption)) bx49 ?_
   exact ⟨ret_map (by first | rw [withW, if_pos ⟨by omega, by omega⟩] | rw [withW, if_neg (by omega)]), e0⟩
 ·have q54 := of_decide_eq_false h18
  refine At.rd f11 6 [[], [], [.as_ (.bool false)], [], [], []] [(10, .bool false), (9, undef), (8, undef), (7, .bool false), (6, .bool (decide ((n : Int) ≥ 0))), (5, .int .i64 (n))] [((.bool (decide ((n : Int) ≥ 0)) : Value) = .bool false)] (by kernel_rfl) ⟨(congrArg Value.bool h18), trivial⟩ (fun act56 f55 => ?_)
  clear f11
  refine At.done rfl ?_
  refine t_n ?_
  refine cond_F f55 rfl ?_
  refine wp_skip ?_
  refine t_n ?_
  refine wp_seq ?_
  refine At.start ?_
  refine At.rd f55 1 [[.cs ((s : List Int).map wV)]] [(21, .agg ((s : List Int).map wV).toArray)] [(((s : List Int).map wV).length = 4), (∀ (j : Nat) (v : Value), ((s : List Int).map wV)[j]? = some v → w9.cell? ((⟨w.heap.size, 0, none⟩ : Addr).add j) = some v)] (by kernel_rfl) ⟨((List.length_map _).trans (by assumption)), bx8.whole, trivial⟩ (fun act58 f57 => ?_)
  clear f55
  refine At.act f57 (storeBlk (t := 47) (b := w1.heap.size) (n := 4) (cs' := ((s : List Int).map wV)) (by kernel_rfl) (by kernel_rfl) ((List.length_map _).trans (by assumption)) oneW_ ((show ((s : List Int).map wV).length = 4 from ((List.length_map _).trans (by assumption))).trans (show ((List.replicate 4 (0 : Int) : List Int).map wV).length = 4 from (by simp only [List.length_map, List.length_set, List.length_replicate, List.length_cons, List.length_nil]; first | done | assumption | exact from_len _ | exact of_len _ | exact ofZ_len _ | exact (ofW_ok _).1 | exact (fullW_W _).1 | exact (okW_with (by assumption)).1 | exact (okW_less (by assumption)).1 | exact put_len (from_len _) | exact orD_len _ _ | exact andD_len _ _ | exact minusD_len _ _ | exact fullD_len _ | (refine okLen ?_; (repeat (first | assumption | exact ofW_ok _ | exact fullW_W _ | apply okW_with | apply okW_less | refine okW_orS ?_ ?_ | refine okW_andS ?_ ?_ | refine okW_minusS ?_ ?_)); done) | omega | rfl)).symm) bx17) ?_
  rintro d_ v_ w59 ⟨rfl, g60, bx61⟩
  refine ⟨_, rfl, fun act63 f62 => ?_⟩
  clear f57
  have szw59 := g60.size
  replace e0 := e0.gr g60 (fun k h => by injection h; omega)
  replace bx8 := bx8.gr g60 (fun h => by injection h; omega)
  clear bx17 g60
  refine At.done rfl ?_
  refine t_n ?_
  refine wp_ret ?_
  refine retB_ f62 (sl := 4) (cs := ((s : List Int).map wV)) (m := 4) rfl (by kernel_rfl) (by kernel_rfl) ((List.length_map _).trans (by assumption)) bx61 ?_
  exact ⟨ret_map (by first | rw [withW, if_pos ⟨by omega, by omega⟩] | rw [withW, if_neg (by omega)]), e0⟩

set_option maxHeartbeats 4000000 in
theorem or_any {s : List Int} {t : List Int} {w : World} (hs : OkW s) (ht : OkW t) :
    Calls Tryd.prog 32 #[.agg ((s : List Int).map wV).toArray, .agg ((t : List Int).map wV).toArray] w fun e w' => e = .returned (.agg (((ofZW (fun j => orW (gI s j) (gI t j)) : List Int)).map wV).toArray) ∧ Ext w w' := by
 have hls := hs.1
 have hlt := ht.1
 refine enter_ (args := [.agg ((s : List Int).map wV).toArray, .agg ((t : List Int).map wV).toArray]) Tryd.func32 rfl Tryd.ntmps32 (Nat.le_of_ble_eq_true rfl) (fun act0 f0 => ?_)
 have e0 : Ext w w := Ext.refl w
 refine wp_seq ?_
 refine At.start ?_
 refine At.seq f0 1 [[]] [(2, .pointer (some ⟨w.heap.size, 0, none⟩))] (w.alloc (.cells ((s : List Int).map wV).toArray 47 (0, 0))) [] (by kernel_rfl) trivial (fun act4 w1 hw2 f3 => ?_)
 clear f0
 have g5 := gr_alloc hw2
 have szw1 := g5.size
 replace e0 := e0.gr g5 no_row
 have bx8 : Bx w1 (w.heap.size) ((s : List Int).map wV) 47 := Bx.new hw2
 have := bx8.lt
 clear g5 hw2
 refine At.seq f3 1 [[]] [(3, .pointer (some ⟨w1.heap.size, 0, none⟩))] (w1.alloc (.cells ((t : List Int).map wV).toArray 47 (0, 0))) [] (by kernel_rfl) trivial (fun act12 w9 hw10 f11 => ?_)
 clear f3
 have g13 := gr_alloc hw10
 have szw9 := g13.size
 replace e0 := e0.gr g13 no_row
 replace bx8 := bx8.gr g13 (by simp)
 have bx17 : Bx w9 (w1.heap.size) ((t : List Int).map wV) 47 := Bx.new hw10
 have := bx17.lt
 clear g13 hw10
 refine At.seq f11 1 [[]] [(4, .pointer (some ⟨w9.heap.size, 0, none⟩))] (w9.alloc (.cells ((List.replicate 4 (0 : Int) : List Int).map wV).toArray 47 (0, 0))) [] (by kernel_rfl) trivial (fun act21 w18 hw19 f20 => ?_)
 clear f11
 have g22 := gr_alloc hw19
 have szw18 := g22.size
 replace e0 := e0.gr g22 no_row
 replace bx8 := bx8.gr g22 (by simp)
 replace bx17 := bx17.gr g22 (by simp)
 have bx27 : Bx w18 (w9.heap.size) ((List.replicate 4 (0 : Int) : List Int).map wV) 47 := Bx.new hw19
 have := bx27.lt
 clear g22 hw19
 refine At.done rfl ?_
 refine t_n ?_
 refine wp_seq ?_
 refine wp_seq ?_
 refine At.start ?_
 refine At.rd f20 1 [[]] [(6, .int .i64 (0))] [] (by kernel_rfl) trivial (fun act29 f28 => ?_)
 clear f20
 refine At.done rfl ?_
 refine t_n ?_
 refine wp_block ?_
 have f30 := f28.sub (r := [(6, .int .i64 (0)), (4, .pointer (some ⟨w9.heap.size, 0, none⟩)), (3, .pointer (some ⟨w1.heap.size, 0, none⟩)), (2, .pointer (some ⟨w.heap.size, 0, none⟩))]) ⟨rfl, rfl, rfl, rfl, trivial⟩
 refine loop_g (fun (m_ : Nat) a_ w_ => ∃ (k : Int) (xs : List Int), m_ = (4 - k).toNat ∧ (Frm 19 a_ [(6, .int .i64 (k)), (4, .pointer (some ⟨w9.heap.size, 0, none⟩)), (3, .pointer (some ⟨w1.heap.size, 0, none⟩)), (2, .pointer (some ⟨w.heap.size, 0, none⟩))]) ∧ (Ext w w_) ∧ (Bx w_ (w.heap.size) ((xs : List Int).map wV) 47) ∧ (Bx w_ (w1.heap.size) ((t : List Int).map wV) 47) ∧ (Bx w_ (w9.heap.size) ((List.replicate 4 (0 : Int) : List Int).map wV) 47) ∧ (0 ≤ k) ∧ (k ≤ 4) ∧ (xs.length = 4) ∧ (MixW s xs (fun j => orW (gI s j) (gI t j)) k)) _ ⟨0, s, rfl, f30, e0, bx8, bx17, bx27, (by omega), (by omega), (by omega), (mixW_0 hls)⟩ ?_
 clear f30 f28
 clear bx8
 clear bx17
 clear bx27
 clear e0
 intro m_ act31 w32 ⟨k, xs, hm34, f35, e33, bx36, bx37, bx38, i39, i40, i41, hmx⟩
 have szw32 := e33.size
 have := bx36.lt
 have := bx37.lt
 have := bx38.lt
 refine wp_seq ?_
 refine At.start ?_
 refine At.rd f35 1 [[]] [(7, .bool (decide ((k : Int) < 4)))] [] (by kernel_rfl) trivial (fun act43 f42 => ?_)
 clear f35
 refine At.done rfl ?_
 refine t_n ?_
 refine wp_seq ?_
 refine cond_S f42 (t := decide ((k : Int) < 4)) rfl (fun h44 => ?_) (fun h44 => ?_)
 ·have q45 := of_decide_eq_true h44
  refine wp_skip ?_
  refine t_n ?_
  refine wp_seq ?_
  refine wp_block ?_
  refine wp_seq ?_
  refine At.start ?_
  refine At.rd f42 2 [[], []] [(5, .int .i64 (k)), (8, .int .i64 (k))] [] (by kernel_rfl) trivial (fun act47 f46 => ?_)
  clear f42
  refine At.done rfl ?_
  refine t_n ?_
  obtain ⟨Cs48, hCs49⟩ : ∃ c : List (Addr × Value), c = [(((⟨w1.heap.size, 0, none⟩ : Addr).add ((k : Int).toNat * 1)), (.int .u64 (gI t k)))] := ⟨_, rfl⟩
  have hS50 : HoldsC Cs48 w32 := by rw [hCs49]; exact ⟨(Bx.arrM (f := wV) (0 : Int) bx37 k (by omega) (by omega)), trivial⟩
  refine AtH.start Cs48 9 #[false, false, false, false, false, false, false, false, false] (by kernel_rfl) rfl rfl (fun w52 hw53 => ?_)
  have g51 := gr_drew hw53
  have hS54 := hS50.gr g51
  have szw52 := g51.size
  replace e33 := e33.gr g51 no_row
  replace bx36 := bx36.gr g51 (by simp)
  replace bx37 := bx37.gr g51 (by simp)
  replace bx38 := bx38.gr g51 (by simp)
  clear g51 hw53 hS50
  refine AtH.rd (by kernel_rfl) (fun d v c a w h => by cases d <;> exact h) hS54 [0, 1, 3, 4, 5] [[], [], [], [], [.ld (.int .u64 (gI t k))]] [(14, .int .u64 (gI t k)), (13, .pointer (some ((⟨w1.heap.size, 0, none⟩ : Addr).add ((k : Int).toNat * 1)))), (12, .int .i64 (k)), (10, .pointer (some ((⟨w.heap.size, 0, none⟩ : Addr).add ((k : Int).toNat * 1)))), (9, .int .i64 (k))] #[true, true, false, true, true, true, false, false, false] [(0 ≤ (k : Int)), ((k : Int) < (4 : Nat)), (0 ≤ (k : Int)), ((k : Int) < (4 : Nat)), (∃ j_ : Nat, Cs48[j_]? = some (((⟨w1.heap.size, 0, none⟩ : Addr).add ((k : Int).toNat * 1)), (.int .u64 (gI t k))))] 4 f46 (by kernel_rfl) ⟨(by omega), (by omega), (by omega), (by omega), ⟨0, by rw [hCs49]; rfl⟩, trivial⟩ (fun act60 f59 => ?_)
  clear f46
  refine AtH.all [2] 3 (by kernel_rfl) (by simp) ⟨?_, trivial⟩
  refine OneH.seq f59 [[.ld (.int .u64 (gI xs k))]] [(11, .int .u64 (gI xs k))] w52 [(w52.cell? ((⟨w.heap.size, 0, none⟩ : Addr).add ((k : Int).toNat * 1)) = some (.int .u64 (gI xs k)))] #[true, true, true, true, true, true, false, false, false] (by kernel_rfl) (by kernel_rfl) (by kernel_rfl) ⟨(Bx.arrM (f := wV) (0 : Int) bx36 k (by omega) (by omega)), trivial⟩ (fun act62 w63 hw64 f61 => ?_)
  obtain rfl : w52 = w63 := hw64.symm
  clear f59
  refine ⟨hS54, ?_⟩
  refine AtH.rd (by kernel_rfl) (fun d v c a w h => by cases d <;> exact h) hS54 [6] [[.as_ (.int .u64 (orW (gI xs k) (gI t k)))]] [(15, .int .u64 (orW (gI xs k) (gI t k)))] #[true, true, true, true, true, true, true, false, false] [((.int .u64 (IntKind.u64.wrap ((BitVec.ofInt 64 (gI xs k) ||| BitVec.ofInt 64 (gI t k)).toNat : Int)) : Value) = .int .u64 (orW (gI xs k) (gI t k)))] 2 f61 (by kernel_rfl) ⟨(congrArg (Value.int .u64) (or64 (by first | exact hs.2 _ | exact ht.2 _ | exact oneW_W (by omega) (by omega) | exact mixW_W hmx (by omega) (by omega) hs) (by first | exact hs.2 _ | exact ht.2 _ | exact oneW_W (by omega) (by omega) | exact mixW_W hmx (by omega) (by omega) hs))), trivial⟩ (fun act66 f65 => ?_)
  clear f61
  refine AtH.rd (by kernel_rfl) (fun d v c a w h => by cases d <;> exact h) hS54 [7] [[]] [(16, .pointer (some ((⟨w.heap.size, 0, none⟩ : Addr).add ((k : Int).toNat * 1))))] #[true, true, true, true, true, true, true, true, false] [(0 ≤ (k : Int)), ((k : Int) < (4 : Nat))] 1 f65 (by kernel_rfl) ⟨(by omega), (by omega), trivial⟩ (fun act68 f67 => ?_)
  clear f65
  refine AtH.all [8] 0 (by kernel_rfl) (by simp) ⟨?_, trivial⟩
  refine OneH.act f67 #[true, true, true, true, true, true, true, true, true] (by kernel_rfl) (storeArrM (f := wV) (t := 34) (b := w.heap.size) (i := k) (x := orW (gI xs k) (gI t k)) (v := .int .u64 (orW (gI xs k) (gI t k))) (by kernel_rfl) rfl rfl (by kernel_rfl) bx36 (by omega) (by omega)) ?_
  rintro d_ v_ w70 ⟨rfl, g71, bx72⟩
  have hS76 := hS54.gr' g71 (by rw [hCs49]; exact ⟨(by simp only [add_block]; omega), trivial⟩)
  refine ⟨_, rfl, fun act75 f74 => ⟨hS76, ?_⟩⟩
  clear f67
  have hl73 : ((xs).set (k : Int).toNat (orW (gI xs k) (gI t k))).length = (xs : List Int).length := List.length_set
  have szw70 := g71.size
  replace e33 := e33.gr g71 (fun k h => by injection h; omega)
  replace bx37 := bx37.gr g71 (fun h => by injection h; omega)
  replace bx38 := bx38.gr g71 (fun h => by injection h; omega)
  clear bx36 g71
  refine AtH.done (by kernel_rfl) ?_
  clear hS76
  refine b_n ?_
  refine t_n ?_
  refine At.start ?_
  refine At.rd f74 2 [[.as_ (.int .i64 (k + 1))], []] [(6, .int .i64 (k + 1)), (17, .int .i64 (k + 1))] [((.int .i64 (IntKind.i64.wrap (k + 1)) : Value) = .int .i64 (k + 1))] (by kernel_rfl) ⟨(w64 (by omega) (by omega)), trivial⟩ (fun act81 f80 => ?_)
  clear f74
  refine At.done rfl ?_
  refine t_n ?_
  have f82 := f80.sub (r := [(6, .int .i64 (k + 1)), (4, .pointer (some ⟨w9.heap.size, 0, none⟩)), (3, .pointer (some ⟨w1.heap.size, 0, none⟩)), (2, .pointer (some ⟨w.heap.size, 0, none⟩))]) ⟨rfl, rfl, rfl, rfl, trivial⟩
  exact ⟨_, (by omega), (k + 1), (xs).set (k : Int).toNat (orW (gI xs k) (gI t k)), rfl, f82, e33, bx72, bx37, bx38, (by omega), (by omega), (by omega), (mixW_next hmx (by omega) (by omega) (by rw [mixW_at hmx (by omega) (by omega)]))⟩
 ·have q83 := of_decide_eq_false h44
  refine wp_exit ?_
  refine t_e ?_
  refine t_e ?_
  refine b_e ?_
  refine t_n ?_
  refine wp_seq ?_
  refine At.start ?_
  refine At.rd f42 1 [[.cs ((xs : List Int).map wV)]] [(18, .agg ((xs : List Int).map wV).toArray)] [(((xs : List Int).map wV).length = 4), (∀ (j : Nat) (v : Value), ((xs : List Int).map wV)[j]? = some v → w32.cell? ((⟨w.heap.size, 0, none⟩ : Addr).add j) = some v)] (by kernel_rfl) ⟨((List.length_map _).trans (by assumption)), bx36.whole, trivial⟩ (fun act85 f84 => ?_)
  clear f42
  refine At.act f84 (storeBlk (t := 47) (b := w9.heap.size) (n := 4) (cs' := ((xs : List Int).map wV)) (by kernel_rfl) (by kernel_rfl) ((List.length_map _).trans (by assumption)) oneW_ ((show ((xs : List Int).map wV).length = 4 from ((List.length_map _).trans (by assumption))).trans (show ((List.replicate 4 (0 : Int) : List Int).map wV).length = 4 from (by simp only [List.length_map, List.length_set, List.length_replicate, List.length_cons, List.length_nil]; first | done | assumption | exact from_len _ | exact of_len _ | exact ofZ_len _ | exact (ofW_ok _).1 | exact (fullW_W _).1 | exact (okW_with (by assumption)).1 | exact (okW_less (by assumption)).1 | exact put_len (from_len _) | exact orD_len _ _ | exact andD_len _ _ | exact minusD_len _ _ | exact fullD_len _ | (refine okLen ?_; (repeat (first | assumption | exact ofW_ok _ | exact fullW_W _ | apply okW_with | apply okW_less | refine okW_orS ?_ ?_ | refine okW_andS ?_ ?_ | refine okW_minusS ?_ ?_)); done) | omega | rfl)).symm) bx38) ?_
  rintro d_ v_ w86 ⟨rfl, g87, bx88⟩
  refine ⟨_, rfl, fun act90 f89 => ?_⟩
  clear f84
  have szw86 := g87.size
  replace e33 := e33.gr g87 (fun k h => by injection h; omega)
  replace bx36 := bx36.gr g87 (fun h => by injection h; omega)
  replace bx37 := bx37.gr g87 (fun h => by injection h; omega)
  clear bx38 g87
  refine At.done rfl ?_
  refine t_n ?_
  refine wp_ret ?_
  refine retB_ f89 (sl := 4) (cs := ((xs : List Int).map wV)) (m := 4) rfl (by kernel_rfl) (by kernel_rfl) ((List.length_map _).trans (by assumption)) bx88 ?_
  exact ⟨ret_map (mixW_end hmx (by omega)), e33⟩

set_option maxHeartbeats 4000000 in
theorem and_any {s : List Int} {t : List Int} {w : World} (hs : OkW s) (ht : OkW t) :
    Calls Tryd.prog 31 #[.agg ((s : List Int).map wV).toArray, .agg ((t : List Int).map wV).toArray] w fun e w' => e = .returned (.agg (((ofZW (fun j => andW (gI s j) (gI t j)) : List Int)).map wV).toArray) ∧ Ext w w' := by
 have hls := hs.1
 have hlt := ht.1
 refine enter_ (args := [.agg ((s : List Int).map wV).toArray, .agg ((t : List Int).map wV).toArray]) Tryd.func31 rfl Tryd.ntmps31 (Nat.le_of_ble_eq_true rfl) (fun act0 f0 => ?_)
 have e0 : Ext w w := Ext.refl w
 refine wp_seq ?_
 refine At.start ?_
 refine At.seq f0 1 [[]] [(2, .pointer (some ⟨w.heap.size, 0, none⟩))] (w.alloc (.cells ((s : List Int).map wV).toArray 47 (0, 0))) [] (by kernel_rfl) trivial (fun act4 w1 hw2 f3 => ?_)
 clear f0
 have g5 := gr_alloc hw2
 have szw1 := g5.size
 replace e0 := e0.gr g5 no_row
 have bx8 : Bx w1 (w.heap.size) ((s : List Int).map wV) 47 := Bx.new hw2
 have := bx8.lt
 clear g5 hw2
 refine At.seq f3 1 [[]] [(3, .pointer (some ⟨w1.heap.size, 0, none⟩))] (w1.alloc (.cells ((t : List Int).map wV).toArray 47 (0, 0))) [] (by kernel_rfl) trivial (fun act12 w9 hw10 f11 => ?_)
 clear f3
 have g13 := gr_alloc hw10
 have szw9 := g13.size
 replace e0 := e0.gr g13 no_row
 replace bx8 := bx8.gr g13 (by simp)
 have bx17 : Bx w9 (w1.heap.size) ((t : List Int).map wV) 47 := Bx.new hw10
 have := bx17.lt
 clear g13 hw10
 refine At.seq f11 1 [[]] [(4, .pointer (some ⟨w9.heap.size, 0, none⟩))] (w9.alloc (.cells ((List.replicate 4 (0 : Int) : List Int).map wV).toArray 47 (0, 0))) [] (by kernel_rfl) trivial (fun act21 w18 hw19 f20 => ?_)
 clear f11
 have g22 := gr_alloc hw19
 have szw18 := g22.size
 replace e0 := e0.gr g22 no_row
 replace bx8 := bx8.gr g22 (by simp)
 replace bx17 := bx17.gr g22 (by simp)
 have bx27 : Bx w18 (w9.heap.size) ((List.replicate 4 (0 : Int) : List Int).map wV) 47 := Bx.new hw19
 have := bx27.lt
 clear g22 hw19
 refine At.done rfl ?_
 refine t_n ?_
 refine wp_seq ?_
 refine wp_seq ?_
 refine At.start ?_
 refine At.rd f20 1 [[]] [(6, .int .i64 (0))] [] (by kernel_rfl) trivial (fun act29 f28 => ?_)
 clear f20
 refine At.done rfl ?_
 refine t_n ?_
 refine wp_block ?_
 have f30 := f28.sub (r := [(6, .int .i64 (0)), (4, .pointer (some ⟨w9.heap.size, 0, none⟩)), (3, .pointer (some ⟨w1.heap.size, 0, none⟩)), (2, .pointer (some ⟨w.heap.size, 0, none⟩))]) ⟨rfl, rfl, rfl, rfl, trivial⟩
 refine loop_g (fun (m_ : Nat) a_ w_ => ∃ (k : Int) (xs : List Int), m_ = (4 - k).toNat ∧ (Frm 19 a_ [(6, .int .i64 (k)), (4, .pointer (some ⟨w9.heap.size, 0, none⟩)), (3, .pointer (some ⟨w1.heap.size, 0, none⟩)), (2, .pointer (some ⟨w.heap.size, 0, none⟩))]) ∧ (Ext w w_) ∧ (Bx w_ (w.heap.size) ((xs : List Int).map wV) 47) ∧ (Bx w_ (w1.heap.size) ((t : List Int).map wV) 47) ∧ (Bx w_ (w9.heap.size) ((List.replicate 4 (0 : Int) : List Int).map wV) 47) ∧ (0 ≤ k) ∧ (k ≤ 4) ∧ (xs.length = 4) ∧ (MixW s xs (fun j => andW (gI s j) (gI t j)) k)) _ ⟨0, s, rfl, f30, e0, bx8, bx17, bx27, (by omega), (by omega), (by omega), (mixW_0 hls)⟩ ?_
 clear f30 f28
 clear bx8
 clear bx17
 clear bx27
 clear e0
 intro m_ act31 w32 ⟨k, xs, hm34, f35, e33, bx36, bx37, bx38, i39, i40, i41, hmx⟩
 have szw32 := e33.size
 have := bx36.lt
 have := bx37.lt
 have := bx38.lt
 refine wp_seq ?_
 refine At.start ?_
 refine At.rd f35 1 [[]] [(7, .bool (decide ((k : Int) < 4)))] [] (by kernel_rfl) trivial (fun act43 f42 => ?_)
 clear f35
 refine At.done rfl ?_
 refine t_n ?_
 refine wp_seq ?_
 refine cond_S f42 (t := decide ((k : Int) < 4)) rfl (fun h44 => ?_) (fun h44 => ?_)
 ·have q45 := of_decide_eq_true h44
  refine wp_skip ?_
  refine t_n ?_
  refine wp_seq ?_
  refine wp_block ?_
  refine wp_seq ?_
  refine At.start ?_
  refine At.rd f42 2 [[], []] [(5, .int .i64 (k)), (8, .int .i64 (k))] [] (by kernel_rfl) trivial (fun act47 f46 => ?_)
  clear f42
  refine At.done rfl ?_
  refine t_n ?_
  obtain ⟨Cs48, hCs49⟩ : ∃ c : List (Addr × Value), c = [(((⟨w1.heap.size, 0, none⟩ : Addr).add ((k : Int).toNat * 1)), (.int .u64 (gI t k)))] := ⟨_, rfl⟩
  have hS50 : HoldsC Cs48 w32 := by rw [hCs49]; exact ⟨(Bx.arrM (f := wV) (0 : Int) bx37 k (by omega) (by omega)), trivial⟩
  refine AtH.start Cs48 9 #[false, false, false, false, false, false, false, false, false] (by kernel_rfl) rfl rfl (fun w52 hw53 => ?_)
  have g51 := gr_drew hw53
  have hS54 := hS50.gr g51
  have szw52 := g51.size
  replace e33 := e33.gr g51 no_row
  replace bx36 := bx36.gr g51 (by simp)
  replace bx37 := bx37.gr g51 (by simp)
  replace bx38 := bx38.gr g51 (by simp)
  clear g51 hw53 hS50
  refine AtH.rd (by kernel_rfl) (fun d v c a w h => by cases d <;> exact h) hS54 [0, 1, 3, 4, 5] [[], [], [], [], [.ld (.int .u64 (gI t k))]] [(14, .int .u64 (gI t k)), (13, .pointer (some ((⟨w1.heap.size, 0, none⟩ : Addr).add ((k : Int).toNat * 1)))), (12, .int .i64 (k)), (10, .pointer (some ((⟨w.heap.size, 0, none⟩ : Addr).add ((k : Int).toNat * 1)))), (9, .int .i64 (k))] #[true, true, false, true, true, true, false, false, false] [(0 ≤ (k : Int)), ((k : Int) < (4 : Nat)), (0 ≤ (k : Int)), ((k : Int) < (4 : Nat)), (∃ j_ : Nat, Cs48[j_]? = some (((⟨w1.heap.size, 0, none⟩ : Addr).add ((k : Int).toNat * 1)), (.int .u64 (gI t k))))] 4 f46 (by kernel_rfl) ⟨(by omega), (by omega), (by omega), (by omega), ⟨0, by rw [hCs49]; rfl⟩, trivial⟩ (fun act60 f59 => ?_)
  clear f46
  refine AtH.all [2] 3 (by kernel_rfl) (by simp) ⟨?_, trivial⟩
  refine OneH.seq f59 [[.ld (.int .u64 (gI xs k))]] [(11, .int .u64 (gI xs k))] w52 [(w52.cell? ((⟨w.heap.size, 0, none⟩ : Addr).add ((k : Int).toNat * 1)) = some (.int .u64 (gI xs k)))] #[true, true, true, true, true, true, false, false, false] (by kernel_rfl) (by kernel_rfl) (by kernel_rfl) ⟨(Bx.arrM (f := wV) (0 : Int) bx36 k (by omega) (by omega)), trivial⟩ (fun act62 w63 hw64 f61 => ?_)
  obtain rfl : w52 = w63 := hw64.symm
  clear f59
  refine ⟨hS54, ?_⟩
  refine AtH.rd (by kernel_rfl) (fun d v c a w h => by cases d <;> exact h) hS54 [6] [[.as_ (.int .u64 (andW (gI xs k) (gI t k)))]] [(15, .int .u64 (andW (gI xs k) (gI t k)))] #[true, true, true, true, true, true, true, false, false] [((.int .u64 (IntKind.u64.wrap ((BitVec.ofInt 64 (gI xs k) &&& BitVec.ofInt 64 (gI t k)).toNat : Int)) : Value) = .int .u64 (andW (gI xs k) (gI t k)))] 2 f61 (by kernel_rfl) ⟨(congrArg (Value.int .u64) (and64 (by first | exact hs.2 _ | exact ht.2 _ | exact oneW_W (by omega) (by omega) | exact mixW_W hmx (by omega) (by omega) hs) (by first | exact hs.2 _ | exact ht.2 _ | exact oneW_W (by omega) (by omega) | exact mixW_W hmx (by omega) (by omega) hs))), trivial⟩ (fun act66 f65 => ?_)
  clear f61
  refine AtH.rd (by kernel_rfl) (fun d v c a w h => by cases d <;> exact h) hS54 [7] [[]] [(16, .pointer (some ((⟨w.heap.size, 0, none⟩ : Addr).add ((k : Int).toNat * 1))))] #[true, true, true, true, true, true, true, true, false] [(0 ≤ (k : Int)), ((k : Int) < (4 : Nat))] 1 f65 (by kernel_rfl) ⟨(by omega), (by omega), trivial⟩ (fun act68 f67 => ?_)
  clear f65
  refine AtH.all [8] 0 (by kernel_rfl) (by simp) ⟨?_, trivial⟩
  refine OneH.act f67 #[true, true, true, true, true, true, true, true, true] (by kernel_rfl) (storeArrM (f := wV) (t := 34) (b := w.heap.size) (i := k) (x := andW (gI xs k) (gI t k)) (v := .int .u64 (andW (gI xs k) (gI t k))) (by kernel_rfl) rfl rfl (by kernel_rfl) bx36 (by omega) (by omega)) ?_
  rintro d_ v_ w70 ⟨rfl, g71, bx72⟩
  have hS76 := hS54.gr' g71 (by rw [hCs49]; exact ⟨(by simp only [add_block]; omega), trivial⟩)
  refine ⟨_, rfl, fun act75 f74 => ⟨hS76, ?_⟩⟩
  clear f67
  have hl73 : ((xs).set (k : Int).toNat (andW (gI xs k) (gI t k))).length = (xs : List Int).length := List.length_set
  have szw70 := g71.size
  replace e33 := e33.gr g71 (fun k h => by injection h; omega)
  replace bx37 := bx37.gr g71 (fun h => by injection h; omega)
  replace bx38 := bx38.gr g71 (fun h => by injection h; omega)
  clear bx36 g71
  refine AtH.done (by kernel_rfl) ?_
  clear hS76
  refine b_n ?_
  refine t_n ?_
  refine At.start ?_
  refine At.rd f74 2 [[.as_ (.int .i64 (k + 1))], []] [(6, .int .i64 (k + 1)), (17, .int .i64 (k + 1))] [((.int .i64 (IntKind.i64.wrap (k + 1)) : Value) = .int .i64 (k + 1))] (by kernel_rfl) ⟨(w64 (by omega) (by omega)), trivial⟩ (fun act81 f80 => ?_)
  clear f74
  refine At.done rfl ?_
  refine t_n ?_
  have f82 := f80.sub (r := [(6, .int .i64 (k + 1)), (4, .pointer (some ⟨w9.heap.size, 0, none⟩)), (3, .pointer (some ⟨w1.heap.size, 0, none⟩)), (2, .pointer (some ⟨w.heap.size, 0, none⟩))]) ⟨rfl, rfl, rfl, rfl, trivial⟩
  exact ⟨_, (by omega), (k + 1), (xs).set (k : Int).toNat (andW (gI xs k) (gI t k)), rfl, f82, e33, bx72, bx37, bx38, (by omega), (by omega), (by omega), (mixW_next hmx (by omega) (by omega) (by rw [mixW_at hmx (by omega) (by omega)]))⟩
 ·have q83 := of_decide_eq_false h44
  refine wp_exit ?_
  refine t_e ?_
  refine t_e ?_
  refine b_e ?_
  refine t_n ?_
  refine wp_seq ?_
  refine At.start ?_
  refine At.rd f42 1 [[.cs ((xs : List Int).map wV)]] [(18, .agg ((xs : List Int).map wV).toArray)] [(((xs : List Int).map wV).length = 4), (∀ (j : Nat) (v : Value), ((xs : List Int).map wV)[j]? = some v → w32.cell? ((⟨w.heap.size, 0, none⟩ : Addr).add j) = some v)] (by kernel_rfl) ⟨((List.length_map _).trans (by assumption)), bx36.whole, trivial⟩ (fun act85 f84 => ?_)
  clear f42
  refine At.act f84 (storeBlk (t := 47) (b := w9.heap.size) (n := 4) (cs' := ((xs : List Int).map wV)) (by kernel_rfl) (by kernel_rfl) ((List.length_map _).trans (by assumption)) oneW_ ((show ((xs : List Int).map wV).length = 4 from ((List.length_map _).trans (by assumption))).trans (show ((List.replicate 4 (0 : Int) : List Int).map wV).length = 4 from (by simp only [List.length_map, List.length_set, List.length_replicate, List.length_cons, List.length_nil]; first | done | assumption | exact from_len _ | exact of_len _ | exact ofZ_len _ | exact (ofW_ok _).1 | exact (fullW_W _).1 | exact (okW_with (by assumption)).1 | exact (okW_less (by assumption)).1 | exact put_len (from_len _) | exact orD_len _ _ | exact andD_len _ _ | exact minusD_len _ _ | exact fullD_len _ | (refine okLen ?_; (repeat (first | assumption | exact ofW_ok _ | exact fullW_W _ | apply okW_with | apply okW_less | refine okW_orS ?_ ?_ | refine okW_andS ?_ ?_ | refine okW_minusS ?_ ?_)); done) | omega | rfl)).symm) bx38) ?_
  rintro d_ v_ w86 ⟨rfl, g87, bx88⟩
  refine ⟨_, rfl, fun act90 f89 => ?_⟩
  clear f84
  have szw86 := g87.size
  replace e33 := e33.gr g87 (fun k h => by injection h; omega)
  replace bx36 := bx36.gr g87 (fun h => by injection h; omega)
  replace bx37 := bx37.gr g87 (fun h => by injection h; omega)
  clear bx38 g87
  refine At.done rfl ?_
  refine t_n ?_
  refine wp_ret ?_
  refine retB_ f89 (sl := 4) (cs := ((xs : List Int).map wV)) (m := 4) rfl (by kernel_rfl) (by kernel_rfl) ((List.length_map _).trans (by assumption)) bx88 ?_
  exact ⟨ret_map (mixW_end hmx (by omega)), e33⟩

set_option maxHeartbeats 4000000 in
theorem has_any {s : List Int} {n : Int} {w : World} (hs : OkW s) :
    Calls Tryd.prog 33 #[.agg ((s : List Int).map wV).toArray, .int .i64 (n)] w fun e w' => e = .returned (.bool (hasW s n)) ∧ Ext w w' := by
 have hls := hs.1
 refine enter_ (args := [.agg ((s : List Int).map wV).toArray, .int .i64 (n)]) Tryd.func33 rfl Tryd.ntmps33 (Nat.le_of_ble_eq_true rfl) (fun act0 f0 => ?_)
 have e0 : Ext w w := Ext.refl w
 refine wp_seq ?_
 refine At.start ?_
 refine At.seq f0 1 [[]] [(2, .pointer (some ⟨w.heap.size, 0, none⟩))] (w.alloc (.cells ((s : List Int).map wV).toArray 47 (0, 0))) [] (by kernel_rfl) trivial (fun act4 w1 hw2 f3 => ?_)
 clear f0
 have g5 := gr_alloc hw2
 have szw1 := g5.size
 replace e0 := e0.gr g5 no_row
 have bx8 : Bx w1 (w.heap.size) ((s : List Int).map wV) 47 := Bx.new hw2
 have := bx8.lt
 clear g5 hw2
 refine At.rd f3 1 [[]] [(4, .bool false)] [] (by kernel_rfl) trivial (fun act10 f9 => ?_)
 clear f3
 refine At.done rfl ?_
 refine t_n ?_
 refine wp_seq ?_
 refine At.start ?_
 rcases Bool.eq_false_or_eq_true (decide ((n : Int) ≥ 0)) with h11 | h11
 ·have q12 := of_decide_eq_true h11
  rcases Bool.eq_false_or_eq_true (decide ((n : Int) < 256)) with h13 | h13
  ·have q14 := of_decide_eq_true h13
   refine At.rd f9 19 [[], [], [.as_ (.bool true)], [], [], [], [.as_ (.bool true)], [], [.as_ (.int .i64 ((n : Int) / 64))], [], [.ld (.int .u64 (gI s ((n : Int) / 64)))], [], [.as_ (.int .i64 ((n : Int) % 64))], [.as_ (.int .u64 ((n : Int) % 64))], [], [], [], [], []] [(4, .bool ((IntKind.u64.wrap ((BitVec.ofInt 64 ((gI s ((n : Int) / 64) : Int).fdiv (2 ^ (min ((n : Int) % 64 : Int).toNat IntKind.u64.bits))) &&& BitVec.ofInt 64 1).toNat : Int) : Int) == 1)), (22, .bool ((IntKind.u64.wrap ((BitVec.ofInt 64 ((gI s ((n : Int) / 64) : Int).fdiv (2 ^ (min ((n : Int) % 64 : Int).toNat IntKind.u64.bits))) &&& BitVec.ofInt 64 1).toNat : Int) : Int) == 1)), (21, .bool ((IntKind.u64.wrap ((BitVec.ofInt 64 ((gI s ((n : Int) / 64) : Int).fdiv (2 ^ (min ((n : Int) % 64 : Int).toNat IntKind.u64.bits))) &&& BitVec.ofInt 64 1).toNat : Int) : Int) == 1)), (20, .int .u64 (IntKind.u64.wrap ((BitVec.ofInt 64 ((gI s ((n : Int) / 64) : Int).fdiv (2 ^ (min ((n : Int) % 64 : Int).toNat IntKind.u64.bits))) &&& BitVec.ofInt 64 1).toNat : Int))), (19, .int .u64 ((gI s ((n : Int) / 64) : Int).fdiv (2 ^ (min ((n : Int) % 64 : Int).toNat IntKind.u64.bits)))), (18, .int .u64 ((n : Int) % 64)), (17, .int .i64 ((n : Int) % 64)), (16, .int .i64 (n)), (15, .int .u64 (gI s ((n : Int) / 64))), (14, .pointer (some ((⟨w.heap.size, 0, none⟩ : Addr).add (((n : Int) / 64 : Int).toNat * 1)))), (13, .int .i64 ((n : Int) / 64)), (12, .int .i64 (n)), (11, .bool true), (10, .bool (decide ((n : Int) < 256))), (9, .bool (decide ((n : Int) < 256))), (8, .int .i64 (n)), (7, .bool true), (6, .bool (decide ((n : Int) ≥ 0))), (5, .int .i64 (n))] [((.bool (decide ((n : Int) ≥ 0)) : Value) = .bool true), ((.bool (decide ((n : Int) < 256)) : Value) = .bool true), (0 ≤ (6 : Int)), ((.int .i64 ((n : Int).fdiv (2 ^ (min (6 : Int).toNat IntKind.i64.bits))) : Value) = .int .i64 ((n : Int) / 64)), (0 ≤ ((n : Int) / 64 : Int)), (((n : Int) / 64 : Int) < (4 : Nat)), (w1.cell? ((⟨w.heap.size, 0, none⟩ : Addr).add (((n : Int) / 64 : Int).toNat * 1)) = some (.int .u64 (gI s ((n : Int) / 64)))), ((.int .i64 (IntKind.i64.wrap ((BitVec.ofInt 64 n &&& BitVec.ofInt 64 63).toNat : Int)) : Value) = .int .i64 ((n : Int) % 64)), ((.int .u64 (IntKind.u64.wrap ((n : Int) % 64)) : Value) = .int .u64 ((n : Int) % 64)), (0 ≤ ((n : Int) % 64 : Int))] (by kernel_rfl) ⟨(congrArg Value.bool h11), (congrArg Value.bool h13), (by omega), (congrArg (Value.int .i64) (shr6 _)), (by omega), (by omega), (Bx.arrM (f := wV) (0 : Int) bx8 ((n : Int) / 64) (by omega) (by omega)), (congrArg (Value.int .i64) (and63 (by omega) (by omega))), (wu64 (by omega) (by omega)), (by omega), trivial⟩ (fun act16 f15 => ?_)
   clear f9
   refine At.done rfl ?_
   refine t_n ?_
   have f17 := f15.sub (r := [(4, .bool ((IntKind.u64.wrap ((BitVec.ofInt 64 ((gI s ((n : Int) / 64) : Int).fdiv (2 ^ (min ((n : Int) % 64 : Int).toNat IntKind.u64.bits))) &&& BitVec.ofInt 64 1).toNat : Int) : Int) == 1))]) ⟨rfl, trivial⟩
   clear f15
   refine wp_ret ?_
   refine ret_ f17 [] [.bool ((IntKind.u64.wrap ((BitVec.ofInt 64 ((gI s ((n : Int) / 64) : Int).fdiv (2 ^ (min ((n : Int) % 64 : Int).toNat IntKind.u64.bits))) &&& BitVec.ofInt 64 1).toNat : Int) : Int) == 1)] [] (by kernel_rfl) trivial ?_
   exact ⟨ret_eq (congrArg Value.bool (by first | exact hasW_yes hs (by omega) (by omega) | exact hasW_no (by omega))), e0⟩
  ·have q18 := of_decide_eq_false h13
   refine At.rd f9 19 [[], [], [.as_ (.bool true)], [], [], [], [.as_ (.bool false)], [], [], [], [], [], [], [], [], [], [], [], []] [(4, .bool false), (22, .bool false), (21, undef), (20, undef), (19, undef), (18, undef), (17, undef), (16, undef), (15, undef), (14, undef), (13, undef), (12, undef), (11, .bool false), (10, .bool (decide ((n : Int) < 256))), (9, .bool (decide ((n : Int) < 256))), (8, .int .i64 (n)), (7, .bool true), (6, .bool (decide ((n : Int) ≥ 0))), (5, .int .i64 (n))] [((.bool (decide ((n : Int) ≥ 0)) : Value) = .bool true), ((.bool (decide ((n : Int) < 256)) : Value) = .bool false)] (by kernel_rfl) ⟨(congrArg Value.bool h11), (congrArg Value.bool h13), trivial⟩ (fun act20 f19 => ?_)
   clear f9
   refine At.done rfl ?_
   refine t_n ?_
   have f21 := f19.sub (r := [(4, .bool false)]) ⟨rfl, trivial⟩
   clear f19
   refine wp_ret ?_
   refine ret_ f21 [] [.bool false] [] (by kernel_rfl) trivial ?_
   exact ⟨ret_eq (congrArg Value.bool (by first | exact hasW_yes hs (by omega) (by omega) | exact hasW_no (by omega))), e0⟩
 ·have q22 := of_decide_eq_false h11
  refine At.rd f9 19 [[], [], [.as_ (.bool false)], [], [], [], [], [], [], [], [], [], [], [], [], [], [], [], []] [(4, .bool false), (22, .bool false), (21, undef), (20, undef), (19, undef), (18, undef), (17, undef), (16, undef), (15, undef), (14, undef), (13, undef), (12, undef), (11, .bool false), (10, .bool false), (9, undef), (8, undef), (7, .bool false), (6, .bool (decide ((n : Int) ≥ 0))), (5, .int .i64 (n))] [((.bool (decide ((n : Int) ≥ 0)) : Value) = .bool false)] (by kernel_rfl) ⟨(congrArg Value.bool h11), trivial⟩ (fun act24 f23 => ?_)
  clear f9
  refine At.done rfl ?_
  refine t_n ?_
  have f25 := f23.sub (r := [(4, .bool false)]) ⟨rfl, trivial⟩
  clear f23
  refine wp_ret ?_
  refine ret_ f25 [] [.bool false] [] (by kernel_rfl) trivial ?_
  exact ⟨ret_eq (congrArg Value.bool (by first | exact hasW_yes hs (by omega) (by omega) | exact hasW_no (by omega))), e0⟩

end Go.Proofs.YtkkophhnliplhaaDoor
