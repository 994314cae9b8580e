/-
  A walk of a Go function, printed by a program of this repo. Conditions: what the theorems name.
-/
import Derived.Test.YtkpljmalbmcdfaaDoorPureSet
set_option linter.unusedVariables false
set_option linter.unusedSimpArgs false
namespace Go.Proofs.YtkpljmalbmcdfaaDoor
open Go Go.RowKit

set_option maxHeartbeats 4000000 in
theorem with_any {s : List Int} {n : Int} {w : World} (hs : OkW s) :
    Calls Tryd.prog 27 #[.agg ((s : List Int).map wV).toArray, .int .i64 (n)] w fun e w' => e = .returned (.agg (((withW s n : List Int)).map wV).toArray) ∧ Ext w w' := by
 have hls := hs.1
 refine enter_ (args := [.agg ((s : List Int).map wV).toArray, .int .i64 (n)]) Tryd.func27 rfl Tryd.ntmps27 (Nat.le_of_ble_eq_true rfl) (fun act0 f0 => ?_)
 have e0 := Ext.refl w
 refine wp_seq ?_
 refine At.start ?_
 refine At.seq f0 1 [[]] [(2, .pointer (some ⟨w.heap.size, 0, none⟩))] (w.alloc (.cells ((s : List Int).map wV).toArray 28 (0, 0))) [] (by kernel_rfl) trivial (fun act4 w1 hw2 f3 => ?_)
 clear f0
 have g5 := gr_alloc hw2
 have szw1 := g5.size
 have e7 := e0.gr g5 no_row
 clear e0
 have bx8 : Bx w1 (w.heap.size) ((s : List Int).map wV) 28 := Bx.new hw2
 have := bx8.lt
 clear g5 hw2
 refine At.seq f3 1 [[]] [(4, .pointer (some ⟨w1.heap.size, 0, none⟩))] (w1.alloc (.cells ((List.replicate 4 (0 : Int) : List Int).map wV).toArray 28 (0, 0))) [] (by kernel_rfl) trivial (fun act12 w9 hw10 f11 => ?_)
 clear f3
 have g13 := gr_alloc hw10
 have szw9 := g13.size
 have e15 := e7.gr g13 no_row
 clear e7
 have bx16 := bx8.gr g13 (by simp)
 clear bx8
 have bx17 : Bx w9 (w1.heap.size) ((List.replicate 4 (0 : Int) : List Int).map wV) 28 := Bx.new hw10
 have := bx17.lt
 clear g13 hw10
 refine At.done rfl ?_
 refine t_n ?_
 have f18 := f11.sub (r := [(4, .pointer (some ⟨w1.heap.size, 0, none⟩)), (2, .pointer (some ⟨w.heap.size, 0, none⟩)), (1, .int .i64 (n))]) ⟨rfl, rfl, rfl, trivial⟩
 clear f11
 refine wp_seq ?_
 refine wp_seq ?_
 refine At.start ?_
 rcases Bool.eq_false_or_eq_true (decide ((n : Int) ≥ 0)) with h19 | h19
 ·have q20 := of_decide_eq_true h19
  refine At.rd f18 6 [[], [], [.as_ (.bool true)], [], [], []] [(10, .bool (decide ((n : Int) < 256))), (9, .bool (decide ((n : Int) < 256))), (8, .int .i64 (n)), (7, .bool true), (6, .bool (decide ((n : Int) ≥ 0))), (5, .int .i64 (n))] [((.bool (decide ((n : Int) ≥ 0)) : Value) = .bool true)] (by kernel_rfl) ⟨(congrArg Value.bool h19), trivial⟩ (fun act22 f21 => ?_)
  clear f18
  refine At.done rfl ?_
  refine t_n ?_
  have f23 := f21.sub (r := [(10, .bool (decide ((n : Int) < 256))), (4, .pointer (some ⟨w1.heap.size, 0, none⟩)), (2, .pointer (some ⟨w.heap.size, 0, none⟩)), (1, .int .i64 (n))]) ⟨rfl, rfl, rfl, rfl, trivial⟩
  clear f21
  refine cond_S f23 (t := decide ((n : Int) < 256)) rfl (fun h24 => ?_) (fun h24 => ?_)
  ·have q25 := of_decide_eq_true h24
   refine At.start ?_
   refine At.rd f23 10 [[], [.as_ (.int .i64 ((n : Int) / 64))], [], [.ld (.int .u64 (gI s ((n : Int) / 64)))], [], [.as_ (.int .i64 ((n : Int) % 64))], [.as_ (.int .u64 ((n : Int) % 64))], [.as_ (.int .u64 (oneW ((n : Int) % 64)))], [.as_ (.int .u64 (orW (gI s ((n : Int) / 64)) (oneW ((n : Int) % 64))))], []] [(20, .pointer (some ((⟨w.heap.size, 0, none⟩ : Addr).add (((n : Int) / 64 : Int).toNat * 1)))), (19, .int .u64 (orW (gI s ((n : Int) / 64)) (oneW ((n : Int) % 64)))), (18, .int .u64 (oneW ((n : Int) % 64))), (17, .int .u64 ((n : Int) % 64)), (16, .int .i64 ((n : Int) % 64)), (15, .int .i64 (n)), (14, .int .u64 (gI s ((n : Int) / 64))), (13, .pointer (some ((⟨w.heap.size, 0, none⟩ : Addr).add (((n : Int) / 64 : Int).toNat * 1)))), (12, .int .i64 ((n : Int) / 64)), (11, .int .i64 (n))] [(0 ≤ (6 : Int)), ((.int .i64 ((n : Int).fdiv (2 ^ (min (6 : Int).toNat IntKind.i64.bits))) : Value) = .int .i64 ((n : Int) / 64)), (0 ≤ ((n : Int) / 64 : Int)), (((n : Int) / 64 : Int) < (4 : Nat)), (w9.cell? ((⟨w.heap.size, 0, none⟩ : Addr).add (((n : Int) / 64 : Int).toNat * 1)) = some (.int .u64 (gI s ((n : Int) / 64)))), ((.int .i64 (IntKind.i64.wrap ((BitVec.ofInt 64 n &&& BitVec.ofInt 64 63).toNat : Int)) : Value) = .int .i64 ((n : Int) % 64)), ((.int .u64 (IntKind.u64.wrap ((n : Int) % 64)) : Value) = .int .u64 ((n : Int) % 64)), (0 ≤ ((n : Int) % 64 : Int)), ((.int .u64 (IntKind.u64.wrap (1 * (2 ^ (min ((n : Int) % 64 : Int).toNat IntKind.u64.bits)))) : Value) = .int .u64 (oneW ((n : Int) % 64))), ((.int .u64 (IntKind.u64.wrap ((BitVec.ofInt 64 (gI s ((n : Int) / 64)) ||| BitVec.ofInt 64 (oneW ((n : Int) % 64))).toNat : Int)) : Value) = .int .u64 (orW (gI s ((n : Int) / 64)) (oneW ((n : Int) % 64)))), (0 ≤ ((n : Int) / 64 : Int)), (((n : Int) / 64 : Int) < (4 : Nat))] (by kernel_rfl) ⟨(by omega), (congrArg (Value.int .i64) (shr6 _)), (by omega), (by omega), (Bx.arrM (f := wV) (0 : Int) bx16 ((n : Int) / 64) (by omega) (by omega)), (congrArg (Value.int .i64) (and63 (by omega) (by omega))), (wu64 (by omega) (by omega)), (by omega), (congrArg (Value.int .u64) (shl_one (by omega) (by omega))), (congrArg (Value.int .u64) (or64 (by first | exact hs.2 _ | exact ht.2 _ | exact oneW_W (by omega) (by omega) | exact mixW_W hmx (by omega) (by omega) hs) (by first | exact hs.2 _ | exact ht.2 _ | exact oneW_W (by omega) (by omega) | exact mixW_W hmx (by omega) (by omega) hs))), (by omega), (by omega), trivial⟩ (fun act27 f26 => ?_)
   clear f23
   refine At.act f26 (storeArrM (f := wV) (t := 26) (b := w.heap.size) (i := (n : Int) / 64) (x := orW (gI s ((n : Int) / 64)) (oneW ((n : Int) % 64))) (v := .int .u64 (orW (gI s ((n : Int) / 64)) (oneW ((n : Int) % 64)))) (by kernel_rfl) rfl rfl (by kernel_rfl) bx16 (by omega) (by omega)) ?_
   rintro d_ v_ w28 ⟨rfl, g29, bx30⟩
   refine ⟨_, rfl, fun act33 f32 => ?_⟩
   clear f26
   have hl31 : ((s).set ((n : Int) / 64 : Int).toNat (orW (gI s ((n : Int) / 64)) (oneW ((n : Int) % 64)))).length = (s : List Int).length := List.length_set
   have szw28 := g29.size
   have e34 := e15.gr g29 (fun k h => by injection h; omega)
   clear e15
   have bx35 := bx17.gr g29 (fun h => by injection h; omega)
   clear bx17
   clear bx16 g29
   refine At.done rfl ?_
   refine t_n ?_
   have f36 := f32.sub (r := [(4, .pointer (some ⟨w1.heap.size, 0, none⟩)), (2, .pointer (some ⟨w.heap.size, 0, none⟩))]) ⟨rfl, rfl, trivial⟩
   clear f32
   refine wp_seq ?_
   refine At.start ?_
   refine At.rd f36 1 [[.cs (((s).set ((n : Int) / 64 : Int).toNat (orW (gI s ((n : Int) / 64)) (oneW ((n : Int) % 64))) : List Int).map wV)]] [(21, .agg (((s).set ((n : Int) / 64 : Int).toNat (orW (gI s ((n : Int) / 64)) (oneW ((n : Int) % 64))) : List Int).map wV).toArray)] [((((s).set ((n : Int) / 64 : Int).toNat (orW (gI s ((n : Int) / 64)) (oneW ((n : Int) % 64))) : List Int).map wV).length = 4), (∀ (j : Nat) (v : Value), (((s).set ((n : Int) / 64 : Int).toNat (orW (gI s ((n : Int) / 64)) (oneW ((n : Int) % 64))) : List Int).map wV)[j]? = some v → w28.cell? ((⟨w.heap.size, 0, none⟩ : Addr).add j) = some v)] (by kernel_rfl) ⟨(by simp only [List.length_map, List.length_set, List.length_replicate, List.length_cons, List.length_nil]; first | done | assumption | exact from_len _ | exact of_len _ | exact ofZ_len _ | exact (ofW_ok _).1 | exact (fullW_W _).1 | exact (okW_with (by assumption)).1 | exact (okW_less (by assumption)).1 | exact put_len (from_len _) | exact orD_len _ _ | exact andD_len _ _ | exact minusD_len _ _ | exact fullD_len _ | (refine okLen ?_; (repeat (first | assumption | exact ofW_ok _ | exact fullW_W _ | apply okW_with | apply okW_less | refine okW_orS ?_ ?_ | refine okW_andS ?_ ?_ | refine okW_minusS ?_ ?_)); done) | omega | rfl), bx30.whole, trivial⟩ (fun act38 f37 => ?_)
   clear f36
   refine At.act f37 (storeBlk (t := 28) (b := w1.heap.size) (n := 4) (cs' := (((s).set ((n : Int) / 64 : Int).toNat (orW (gI s ((n : Int) / 64)) (oneW ((n : Int) % 64))) : List Int).map wV)) (by kernel_rfl) (by kernel_rfl) (by simp only [List.length_map, List.length_set, List.length_replicate, List.length_cons, List.length_nil]; first | done | assumption | exact from_len _ | exact of_len _ | exact ofZ_len _ | exact (ofW_ok _).1 | exact (fullW_W _).1 | exact (okW_with (by assumption)).1 | exact (okW_less (by assumption)).1 | exact put_len (from_len _) | exact orD_len _ _ | exact andD_len _ _ | exact minusD_len _ _ | exact fullD_len _ | (refine okLen ?_; (repeat (first | assumption | exact ofW_ok _ | exact fullW_W _ | apply okW_with | apply okW_less | refine okW_orS ?_ ?_ | refine okW_andS ?_ ?_ | refine okW_minusS ?_ ?_)); done) | omega | rfl) oneW_ ((show (((s).set ((n : Int) / 64 : Int).toNat (orW (gI s ((n : Int) / 64)) (oneW ((n : Int) % 64))) : List Int).map wV).length = 4 from (by simp only [List.length_map, List.length_set, List.length_replicate, List.length_cons, List.length_nil]; first | done | assumption | exact from_len _ | exact of_len _ | exact ofZ_len _ | exact (ofW_ok _).1 | exact (fullW_W _).1 | exact (okW_with (by assumption)).1 | exact (okW_less (by assumption)).1 | exact put_len (from_len _) | exact orD_len _ _ | exact andD_len _ _ | exact minusD_len _ _ | exact fullD_len _ | (refine okLen ?_; (repeat (first | assumption | exact ofW_ok _ | exact fullW_W _ | apply okW_with | apply okW_less | refine okW_orS ?_ ?_ | refine okW_andS ?_ ?_ | refine okW_minusS ?_ ?_)); done) | omega | rfl)).trans (show ((List.replicate 4 (0 : Int) : List Int).map wV).length = 4 from (by simp only [List.length_map, List.length_set, List.length_replicate, List.length_cons, List.length_nil]; first | done | assumption | exact from_len _ | exact of_len _ | exact ofZ_len _ | exact (ofW_ok _).1 | exact (fullW_W _).1 | exact (okW_with (by assumption)).1 | exact (okW_less (by assumption)).1 | exact put_len (from_len _) | exact orD_len _ _ | exact andD_len _ _ | exact minusD_len _ _ | exact fullD_len _ | (refine okLen ?_; (repeat (first | assumption | exact ofW_ok _ | exact fullW_W _ | apply okW_with | apply okW_less | refine okW_orS ?_ ?_ | refine okW_andS ?_ ?_ | refine okW_minusS ?_ ?_)); done) | omega | rfl)).symm) bx35) ?_
   rintro d_ v_ w39 ⟨rfl, g40, bx41⟩
   refine ⟨_, rfl, fun act43 f42 => ?_⟩
   clear f37
   have szw39 := g40.size
   have e44 := e34.gr g40 (fun k h => by injection h; omega)
   clear e34
   have bx45 := bx30.gr g40 (fun h => by injection h; omega)
   clear bx30
   clear bx35 g40
   refine At.done rfl ?_
   refine t_n ?_
   have f46 := f42.sub (r := [(4, .pointer (some ⟨w1.heap.size, 0, none⟩))]) ⟨rfl, trivial⟩
   clear f42
   refine wp_ret ?_
   refine retB_ f46 (sl := 4) (cs := (((s).set ((n : Int) / 64 : Int).toNat (orW (gI s ((n : Int) / 64)) (oneW ((n : Int) % 64))) : List Int).map wV)) (m := 4) rfl (by kernel_rfl) (by kernel_rfl) (by simp only [List.length_map, List.length_set, List.length_replicate, List.length_cons, List.length_nil]; first | done | assumption | exact from_len _ | exact of_len _ | exact ofZ_len _ | exact (ofW_ok _).1 | exact (fullW_W _).1 | exact (okW_with (by assumption)).1 | exact (okW_less (by assumption)).1 | exact put_len (from_len _) | exact orD_len _ _ | exact andD_len _ _ | exact minusD_len _ _ | exact fullD_len _ | (refine okLen ?_; (repeat (first | assumption | exact ofW_ok _ | exact fullW_W _ | apply okW_with | apply okW_less | refine okW_orS ?_ ?_ | refine okW_andS ?_ ?_ | refine okW_minusS ?_ ?_)); done) | omega | rfl) bx41 ?_
   exact ⟨ret_map (by first | rw [withW, if_pos ⟨by omega, by omega⟩] | rw [withW, if_neg (by omega)]), e44⟩
  ·have q47 := of_decide_eq_false h24
   refine wp_skip ?_
   refine t_n ?_
   have f48 := f23.sub (r := [(4, .pointer (some ⟨w1.heap.size, 0, none⟩)), (2, .pointer (some ⟨w.heap.size, 0, none⟩))]) ⟨rfl, rfl, trivial⟩
   clear f23
   refine wp_seq ?_
   refine At.start ?_
   refine At.rd f48 1 [[.cs ((s : List Int).map wV)]] [(21, .agg ((s : List Int).map wV).toArray)] [(((s : List Int).map wV).length = 4), (∀ (j : Nat) (v : Value), ((s : List Int).map wV)[j]? = some v → w9.cell? ((⟨w.heap.size, 0, none⟩ : Addr).add j) = some v)] (by kernel_rfl) ⟨(by simp only [List.length_map, List.length_set, List.length_replicate, List.length_cons, List.length_nil]; first | done | assumption | exact from_len _ | exact of_len _ | exact ofZ_len _ | exact (ofW_ok _).1 | exact (fullW_W _).1 | exact (okW_with (by assumption)).1 | exact (okW_less (by assumption)).1 | exact put_len (from_len _) | exact orD_len _ _ | exact andD_len _ _ | exact minusD_len _ _ | exact fullD_len _ | (refine okLen ?_; (repeat (first | assumption | exact ofW_ok _ | exact fullW_W _ | apply okW_with | apply okW_less | refine okW_orS ?_ ?_ | refine okW_andS ?_ ?_ | refine okW_minusS ?_ ?_)); done) | omega | rfl), bx16.whole, trivial⟩ (fun act50 f49 => ?_)
   clear f48
   refine At.act f49 (storeBlk (t := 28) (b := w1.heap.size) (n := 4) (cs' := ((s : List Int).map wV)) (by kernel_rfl) (by kernel_rfl) (by simp only [List.length_map, List.length_set, List.length_replicate, List.length_cons, List.length_nil]; first | done | assumption | exact from_len _ | exact of_len _ | exact ofZ_len _ | exact (ofW_ok _).1 | exact (fullW_W _).1 | exact (okW_with (by assumption)).1 | exact (okW_less (by assumption)).1 | exact put_len (from_len _) | exact orD_len _ _ | exact andD_len _ _ | exact minusD_len _ _ | exact fullD_len _ | (refine okLen ?_; (repeat (first | assumption | exact ofW_ok _ | exact fullW_W _ | apply okW_with | apply okW_less | refine okW_orS ?_ ?_ | refine okW_andS ?_ ?_ | refine okW_minusS ?_ ?_)); done) | omega | rfl) oneW_ ((show ((s : List Int).map wV).length = 4 from (by simp only [List.length_map, List.length_set, List.length_replicate, List.length_cons, List.length_nil]; first | done | assumption | exact from_len _ | exact of_len _ | exact ofZ_len _ | exact (ofW_ok _).1 | exact (fullW_W _).1 | exact (okW_with (by assumption)).1 | exact (okW_less (by assumption)).1 | exact put_len (from_len _) | exact orD_len _ _ | exact andD_len _ _ | exact minusD_len _ _ | exact fullD_len _ | (refine okLen ?_; (repeat (first | assumption | exact ofW_ok _ | exact fullW_W _ | apply okW_with | apply okW_less | refine okW_orS ?_ ?_ | refine okW_andS ?_ ?_ | refine okW_minusS ?_ ?_)); done) | omega | rfl)).trans (show ((List.replicate 4 (0 : Int) : List Int).map wV).length = 4 from (by simp only [List.length_map, List.length_set, List.length_replicate, List.length_cons, List.length_nil]; first | done | assumption | exact from_len _ | exact of_len _ | exact ofZ_len _ | exact (ofW_ok _).1 | exact (fullW_W _).1 | exact (okW_with (by assumption)).1 | exact (okW_less (by assumption)).1 | exact put_len (from_len _) | exact orD_len _ _ | exact andD_len _ _ | exact minusD_len _ _ | exact fullD_len _ | (refine okLen ?_; (repeat (first | assumption | exact ofW_ok _ | exact fullW_W _ | apply okW_with | apply okW_less | refine okW_orS ?_ ?_ | refine okW_andS ?_ ?_ | refine okW_minusS ?_ ?_)); done) | omega | rfl)).symm) bx17) ?_
   rintro d_ v_ w51 ⟨rfl, g52, bx53⟩
   refine ⟨_, rfl, fun act55 f54 => ?_⟩
   clear f49
   have szw51 := g52.size
   have e56 := e15.gr g52 (fun k h => by injection h; omega)
   clear e15
   have bx57 := bx16.gr g52 (fun h => by injection h; omega)
   clear bx16
   clear bx17 g52
   refine At.done rfl ?_
   refine t_n ?_
   have f58 := f54.sub (r := [(4, .pointer (some ⟨w1.heap.size, 0, none⟩))]) ⟨rfl, trivial⟩
   clear f54
   refine wp_ret ?_
   refine retB_ f58 (sl := 4) (cs := ((s : List Int).map wV)) (m := 4) rfl (by kernel_rfl) (by kernel_rfl) (by simp only [List.length_map, List.length_set, List.length_replicate, List.length_cons, List.length_nil]; first | done | assumption | exact from_len _ | exact of_len _ | exact ofZ_len _ | exact (ofW_ok _).1 | exact (fullW_W _).1 | exact (okW_with (by assumption)).1 | exact (okW_less (by assumption)).1 | exact put_len (from_len _) | exact orD_len _ _ | exact andD_len _ _ | exact minusD_len _ _ | exact fullD_len _ | (refine okLen ?_; (repeat (first | assumption | exact ofW_ok _ | exact fullW_W _ | apply okW_with | apply okW_less | refine okW_orS ?_ ?_ | refine okW_andS ?_ ?_ | refine okW_minusS ?_ ?_)); done) | omega | rfl) bx53 ?_
   exact ⟨ret_map (by first | rw [withW, if_pos ⟨by omega, by omega⟩] | rw [withW, if_neg (by omega)]), e56⟩
 ·have q59 := of_decide_eq_false h19
  refine At.rd f18 6 [[], [], [.as_ (.bool false)], [], [], []] [(10, .bool false), (9, undef), (8, undef), (7, .bool false), (6, .bool (decide ((n : Int) ≥ 0))), (5, .int .i64 (n))] [((.bool (decide ((n : Int) ≥ 0)) : Value) = .bool false)] (by kernel_rfl) ⟨(congrArg Value.bool h19), trivial⟩ (fun act61 f60 => ?_)
  clear f18
  refine At.done rfl ?_
  refine t_n ?_
  have f62 := f60.sub (r := [(10, .bool false), (4, .pointer (some ⟨w1.heap.size, 0, none⟩)), (2, .pointer (some ⟨w.heap.size, 0, none⟩)), (1, .int .i64 (n))]) ⟨rfl, rfl, rfl, rfl, trivial⟩
  clear f60
  refine cond_F f62 rfl ?_
  refine wp_skip ?_
  refine t_n ?_
  have f63 := f62.sub (r := [(4, .pointer (some ⟨w1.heap.size, 0, none⟩)), (2, .pointer (some ⟨w.heap.size, 0, none⟩))]) ⟨rfl, rfl, trivial⟩
  clear f62
  refine wp_seq ?_
  refine At.start ?_
  refine At.rd f63 1 [[.cs ((s : List Int).map wV)]] [(21, .agg ((s : List Int).map wV).toArray)] [(((s : List Int).map wV).length = 4), (∀ (j : Nat) (v : Value), ((s : List Int).map wV)[j]? = some v → w9.cell? ((⟨w.heap.size, 0, none⟩ : Addr).add j) = some v)] (by kernel_rfl) ⟨(by simp only [List.length_map, List.length_set, List.length_replicate, List.length_cons, List.length_nil]; first | done | assumption | exact from_len _ | exact of_len _ | exact ofZ_len _ | exact (ofW_ok _).1 | exact (fullW_W _).1 | exact (okW_with (by assumption)).1 | exact (okW_less (by assumption)).1 | exact put_len (from_len _) | exact orD_len _ _ | exact andD_len _ _ | exact minusD_len _ _ | exact fullD_len _ | (refine okLen ?_; (repeat (first | assumption | exact ofW_ok _ | exact fullW_W _ | apply okW_with | apply okW_less | refine okW_orS ?_ ?_ | refine okW_andS ?_ ?_ | refine okW_minusS ?_ ?_)); done) | omega | rfl), bx16.whole, trivial⟩ (fun act65 f64 => ?_)
  clear f63
  refine At.act f64 (storeBlk (t := 28) (b := w1.heap.size) (n := 4) (cs' := ((s : List Int).map wV)) (by kernel_rfl) (by kernel_rfl) (by simp only [List.length_map, List.length_set, List.length_replicate, List.length_cons, List.length_nil]; first | done | assumption | exact from_len _ | exact of_len _ | exact ofZ_len _ | exact (ofW_ok _).1 | exact (fullW_W _).1 | exact (okW_with (by assumption)).1 | exact (okW_less (by assumption)).1 | exact put_len (from_len _) | exact orD_len _ _ | exact andD_len _ _ | exact minusD_len _ _ | exact fullD_len _ | (refine okLen ?_; (repeat (first | assumption | exact ofW_ok _ | exact fullW_W _ | apply okW_with | apply okW_less | refine okW_orS ?_ ?_ | refine okW_andS ?_ ?_ | refine okW_minusS ?_ ?_)); done) | omega | rfl) oneW_ ((show ((s : List Int).map wV).length = 4 from (by simp only [List.length_map, List.length_set, List.length_replicate, List.length_cons, List.length_nil]; first | done | assumption | exact from_len _ | exact of_len _ | exact ofZ_len _ | exact (ofW_ok _).1 | exact (fullW_W _).1 | exact (okW_with (by assumption)).1 | exact (okW_less (by assumption)).1 | exact put_len (from_len _) | exact orD_len _ _ | exact andD_len _ _ | exact minusD_len _ _ | exact fullD_len _ | (refine okLen ?_; (repeat (first | assumption | exact ofW_ok _ | exact fullW_W _ | apply okW_with | apply okW_less | refine okW_orS ?_ ?_ | refine okW_andS ?_ ?_ | refine okW_minusS ?_ ?_)); done) | omega | rfl)).trans (show ((List.replicate 4 (0 : Int) : List Int).map wV).length = 4 from (by simp only [List.length_map, List.length_set, List.length_replicate, List.length_cons, List.length_nil]; first | done | assumption | exact from_len _ | exact of_len _ | exact ofZ_len _ | exact (ofW_ok _).1 | exact (fullW_W _).1 | exact (okW_with (by assumption)).1 | exact (okW_less (by assumption)).1 | exact put_len (from_len _) | exact orD_len _ _ | exact andD_len _ _ | exact minusD_len _ _ | exact fullD_len _ | (refine okLen ?_; (repeat (first | assumption | exact ofW_ok _ | exact fullW_W _ | apply okW_with | apply okW_less | refine okW_orS ?_ ?_ | refine okW_andS ?_ ?_ | refine okW_minusS ?_ ?_)); done) | omega | rfl)).symm) bx17) ?_
  rintro d_ v_ w66 ⟨rfl, g67, bx68⟩
  refine ⟨_, rfl, fun act70 f69 => ?_⟩
  clear f64
  have szw66 := g67.size
  have e71 := e15.gr g67 (fun k h => by injection h; omega)
  clear e15
  have bx72 := bx16.gr g67 (fun h => by injection h; omega)
  clear bx16
  clear bx17 g67
  refine At.done rfl ?_
  refine t_n ?_
  have f73 := f69.sub (r := [(4, .pointer (some ⟨w1.heap.size, 0, none⟩))]) ⟨rfl, trivial⟩
  clear f69
  refine wp_ret ?_
  refine retB_ f73 (sl := 4) (cs := ((s : List Int).map wV)) (m := 4) rfl (by kernel_rfl) (by kernel_rfl) (by simp only [List.length_map, List.length_set, List.length_replicate, List.length_cons, List.length_nil]; first | done | assumption | exact from_len _ | exact of_len _ | exact ofZ_len _ | exact (ofW_ok _).1 | exact (fullW_W _).1 | exact (okW_with (by assumption)).1 | exact (okW_less (by assumption)).1 | exact put_len (from_len _) | exact orD_len _ _ | exact andD_len _ _ | exact minusD_len _ _ | exact fullD_len _ | (refine okLen ?_; (repeat (first | assumption | exact ofW_ok _ | exact fullW_W _ | apply okW_with | apply okW_less | refine okW_orS ?_ ?_ | refine okW_andS ?_ ?_ | refine okW_minusS ?_ ?_)); done) | omega | rfl) bx68 ?_
  exact ⟨ret_map (by first | rw [withW, if_pos ⟨by omega, by omega⟩] | rw [withW, if_neg (by omega)]), e71⟩

set_option maxHeartbeats 4000000 in
theorem less_any {s : List Int} {n : Int} {w : World} (hs : OkW s) :
    Calls Tryd.prog 28 #[.agg ((s : List Int).map wV).toArray, .int .i64 (n)] w fun e w' => e = .returned (.agg (((lessW s n : List Int)).map wV).toArray) ∧ Ext w w' := by
 have hls := hs.1
 refine enter_ (args := [.agg ((s : List Int).map wV).toArray, .int .i64 (n)]) Tryd.func28 rfl Tryd.ntmps28 (Nat.le_of_ble_eq_true rfl) (fun act0 f0 => ?_)
 have e0 := Ext.refl w
 refine wp_seq ?_
 refine At.start ?_
 refine At.seq f0 1 [[]] [(2, .pointer (some ⟨w.heap.size, 0, none⟩))] (w.alloc (.cells ((s : List Int).map wV).toArray 28 (0, 0))) [] (by kernel_rfl) trivial (fun act4 w1 hw2 f3 => ?_)
 clear f0
 have g5 := gr_alloc hw2
 have szw1 := g5.size
 have e7 := e0.gr g5 no_row
 clear e0
 have bx8 : Bx w1 (w.heap.size) ((s : List Int).map wV) 28 := Bx.new hw2
 have := bx8.lt
 clear g5 hw2
 refine At.seq f3 1 [[]] [(4, .pointer (some ⟨w1.heap.size, 0, none⟩))] (w1.alloc (.cells ((List.replicate 4 (0 : Int) : List Int).map wV).toArray 28 (0, 0))) [] (by kernel_rfl) trivial (fun act12 w9 hw10 f11 => ?_)
 clear f3
 have g13 := gr_alloc hw10
 have szw9 := g13.size
 have e15 := e7.gr g13 no_row
 clear e7
 have bx16 := bx8.gr g13 (by simp)
 clear bx8
 have bx17 : Bx w9 (w1.heap.size) ((List.replicate 4 (0 : Int) : List Int).map wV) 28 := Bx.new hw10
 have := bx17.lt
 clear g13 hw10
 refine At.done rfl ?_
 refine t_n ?_
 have f18 := f11.sub (r := [(4, .pointer (some ⟨w1.heap.size, 0, none⟩)), (2, .pointer (some ⟨w.heap.size, 0, none⟩)), (1, .int .i64 (n))]) ⟨rfl, rfl, rfl, trivial⟩
 clear f11
 refine wp_seq ?_
 refine wp_seq ?_
 refine At.start ?_
 rcases Bool.eq_false_or_eq_true (decide ((n : Int) ≥ 0)) with h19 | h19
 ·have q20 := of_decide_eq_true h19
  refine At.rd f18 6 [[], [], [.as_ (.bool true)], [], [], []] [(10, .bool (decide ((n : Int) < 256))), (9, .bool (decide ((n : Int) < 256))), (8, .int .i64 (n)), (7, .bool true), (6, .bool (decide ((n : Int) ≥ 0))), (5, .int .i64 (n))] [((.bool (decide ((n : Int) ≥ 0)) : Value) = .bool true)] (by kernel_rfl) ⟨(congrArg Value.bool h19), trivial⟩ (fun act22 f21 => ?_)
  clear f18
  refine At.done rfl ?_
  refine t_n ?_
  have f23 := f21.sub (r := [(10, .bool (decide ((n : Int) < 256))), (4, .pointer (some ⟨w1.heap.size, 0, none⟩)), (2, .pointer (some ⟨w.heap.size, 0, none⟩)), (1, .int .i64 (n))]) ⟨rfl, rfl, rfl, rfl, trivial⟩
  clear f21
  refine cond_S f23 (t := decide ((n : Int) < 256)) rfl (fun h24 => ?_) (fun h24 => ?_)
  ·have q25 := of_decide_eq_true h24
   refine At.start ?_
   refine At.rd f23 10 [[], [.as_ (.int .i64 ((n : Int) / 64))], [], [.ld (.int .u64 (gI s ((n : Int) / 64)))], [], [.as_ (.int .i64 ((n : Int) % 64))], [.as_ (.int .u64 ((n : Int) % 64))], [.as_ (.int .u64 (oneW ((n : Int) % 64)))], [.as_ (.int .u64 (notW (gI s ((n : Int) / 64)) (oneW ((n : Int) % 64))))], []] [(20, .pointer (some ((⟨w.heap.size, 0, none⟩ : Addr).add (((n : Int) / 64 : Int).toNat * 1)))), (19, .int .u64 (notW (gI s ((n : Int) / 64)) (oneW ((n : Int) % 64)))), (18, .int .u64 (oneW ((n : Int) % 64))), (17, .int .u64 ((n : Int) % 64)), (16, .int .i64 ((n : Int) % 64)), (15, .int .i64 (n)), (14, .int .u64 (gI s ((n : Int) / 64))), (13, .pointer (some ((⟨w.heap.size, 0, none⟩ : Addr).add (((n : Int) / 64 : Int).toNat * 1)))), (12, .int .i64 ((n : Int) / 64)), (11, .int .i64 (n))] [(0 ≤ (6 : Int)), ((.int .i64 ((n : Int).fdiv (2 ^ (min (6 : Int).toNat IntKind.i64.bits))) : Value) = .int .i64 ((n : Int) / 64)), (0 ≤ ((n : Int) / 64 : Int)), (((n : Int) / 64 : Int) < (4 : Nat)), (w9.cell? ((⟨w.heap.size, 0, none⟩ : Addr).add (((n : Int) / 64 : Int).toNat * 1)) = some (.int .u64 (gI s ((n : Int) / 64)))), ((.int .i64 (IntKind.i64.wrap ((BitVec.ofInt 64 n &&& BitVec.ofInt 64 63).toNat : Int)) : Value) = .int .i64 ((n : Int) % 64)), ((.int .u64 (IntKind.u64.wrap ((n : Int) % 64)) : Value) = .int .u64 ((n : Int) % 64)), (0 ≤ ((n : Int) % 64 : Int)), ((.int .u64 (IntKind.u64.wrap (1 * (2 ^ (min ((n : Int) % 64 : Int).toNat IntKind.u64.bits)))) : Value) = .int .u64 (oneW ((n : Int) % 64))), ((.int .u64 (IntKind.u64.wrap ((BitVec.ofInt 64 (gI s ((n : Int) / 64)) &&& ~~~ (BitVec.ofInt 64 (oneW ((n : Int) % 64)))).toNat : Int)) : Value) = .int .u64 (notW (gI s ((n : Int) / 64)) (oneW ((n : Int) % 64)))), (0 ≤ ((n : Int) / 64 : Int)), (((n : Int) / 64 : Int) < (4 : Nat))] (by kernel_rfl) ⟨(by omega), (congrArg (Value.int .i64) (shr6 _)), (by omega), (by omega), (Bx.arrM (f := wV) (0 : Int) bx16 ((n : Int) / 64) (by omega) (by omega)), (congrArg (Value.int .i64) (and63 (by omega) (by omega))), (wu64 (by omega) (by omega)), (by omega), (congrArg (Value.int .u64) (shl_one (by omega) (by omega))), (congrArg (Value.int .u64) (andNot64 (by first | exact hs.2 _ | exact ht.2 _ | exact oneW_W (by omega) (by omega) | exact mixW_W hmx (by omega) (by omega) hs) (by first | exact hs.2 _ | exact ht.2 _ | exact oneW_W (by omega) (by omega) | exact mixW_W hmx (by omega) (by omega) hs))), (by omega), (by omega), trivial⟩ (fun act27 f26 => ?_)
   clear f23
   refine At.act f26 (storeArrM (f := wV) (t := 26) (b := w.heap.size) (i := (n : Int) / 64) (x := notW (gI s ((n : Int) / 64)) (oneW ((n : Int) % 64))) (v := .int .u64 (notW (gI s ((n : Int) / 64)) (oneW ((n : Int) % 64)))) (by kernel_rfl) rfl rfl (by kernel_rfl) bx16 (by omega) (by omega)) ?_
   rintro d_ v_ w28 ⟨rfl, g29, bx30⟩
   refine ⟨_, rfl, fun act33 f32 => ?_⟩
   clear f26
   have hl31 : ((s).set ((n : Int) / 64 : Int).toNat (notW (gI s ((n : Int) / 64)) (oneW ((n : Int) % 64)))).length = (s : List Int).length := List.length_set
   have szw28 := g29.size
   have e34 := e15.gr g29 (fun k h => by injection h; omega)
   clear e15
   have bx35 := bx17.gr g29 (fun h => by injection h; omega)
   clear bx17
   clear bx16 g29
   refine At.done rfl ?_
   refine t_n ?_
   have f36 := f32.sub (r := [(4, .pointer (some ⟨w1.heap.size, 0, none⟩)), (2, .pointer (some ⟨w.heap.size, 0, none⟩))]) ⟨rfl, rfl, trivial⟩
   clear f32
   refine wp_seq ?_
   refine At.start ?_
   refine At.rd f36 1 [[.cs (((s).set ((n : Int) / 64 : Int).toNat (notW (gI s ((n : Int) / 64)) (oneW ((n : Int) % 64))) : List Int).map wV)]] [(21, .agg (((s).set ((n : Int) / 64 : Int).toNat (notW (gI s ((n : Int) / 64)) (oneW ((n : Int) % 64))) : List Int).map wV).toArray)] [((((s).set ((n : Int) / 64 : Int).toNat (notW (gI s ((n : Int) / 64)) (oneW ((n : Int) % 64))) : List Int).map wV).length = 4), (∀ (j : Nat) (v : Value), (((s).set ((n : Int) / 64 : Int).toNat (notW (gI s ((n : Int) / 64)) (oneW ((n : Int) % 64))) : List Int).map wV)[j]? = some v → w28.cell? ((⟨w.heap.size, 0, none⟩ : Addr).add j) = some v)] (by kernel_rfl) ⟨(by simp only [List.length_map, List.length_set, List.length_replicate, List.length_cons, List.length_nil]; first | done | assumption | exact from_len _ | exact of_len _ | exact ofZ_len _ | exact (ofW_ok _).1 | exact (fullW_W _).1 | exact (okW_with (by assumption)).1 | exact (okW_less (by assumption)).1 | exact put_len (from_len _) | exact orD_len _ _ | exact andD_len _ _ | exact minusD_len _ _ | exact fullD_len _ | (refine okLen ?_; (repeat (first | assumption | exact ofW_ok _ | exact fullW_W _ | apply okW_with | apply okW_less | refine okW_orS ?_ ?_ | refine okW_andS ?_ ?_ | refine okW_minusS ?_ ?_)); done) | omega | rfl), bx30.whole, trivial⟩ (fun act38 f37 => ?_)
   clear f36
   refine At.act f37 (storeBlk (t := 28) (b := w1.heap.size) (n := 4) (cs' := (((s).set ((n : Int) / 64 : Int).toNat (notW (gI s ((n : Int) / 64)) (oneW ((n : Int) % 64))) : List Int).map wV)) (by kernel_rfl) (by kernel_rfl) (by simp only [List.length_map, List.length_set, List.length_replicate, List.length_cons, List.length_nil]; first | done | assumption | exact from_len _ | exact of_len _ | exact ofZ_len _ | exact (ofW_ok _).1 | exact (fullW_W _).1 | exact (okW_with (by assumption)).1 | exact (okW_less (by assumption)).1 | exact put_len (from_len _) | exact orD_len _ _ | exact andD_len _ _ | exact minusD_len _ _ | exact fullD_len _ | (refine okLen ?_; (repeat (first | assumption | exact ofW_ok _ | exact fullW_W _ | apply okW_with | apply okW_less | refine okW_orS ?_ ?_ | refine okW_andS ?_ ?_ | refine okW_minusS ?_ ?_)); done) | omega | rfl) oneW_ ((show (((s).set ((n : Int) / 64 : Int).toNat (notW (gI s ((n : Int) / 64)) (oneW ((n : Int) % 64))) : List Int).map wV).length = 4 from (by simp only [List.length_map, List.length_set, List.length_replicate, List.length_cons, List.length_nil]; first | done | assumption | exact from_len _ | exact of_len _ | exact ofZ_len _ | exact (ofW_ok _).1 | exact (fullW_W _).1 | exact (okW_with (by assumption)).1 | exact (okW_less (by assumption)).1 | exact put_len (from_len _) | exact orD_len _ _ | exact andD_len _ _ | exact minusD_len _ _ | exact fullD_len _ | (refine okLen ?_; (repeat (first | assumption | exact ofW_ok _ | exact fullW_W _ | apply okW_with | apply okW_less | refine okW_orS ?_ ?_ | refine okW_andS ?_ ?_ | refine okW_minusS ?_ ?_)); done) | omega | rfl)).trans (show ((List.replicate 4 (0 : Int) : List Int).map wV).length = 4 from (by simp only [List.length_map, List.length_set, List.length_replicate, List.length_cons, List.length_nil]; first | done | assumption | exact from_len _ | exact of_len _ | exact ofZ_len _ | exact (ofW_ok _).1 | exact (fullW_W _).1 | exact (okW_with (by assumption)).1 | exact (okW_less (by assumption)).1 | exact put_len (from_len _) | exact orD_len _ _ | exact andD_len _ _ | exact minusD_len _ _ | exact fullD_len _ | (refine okLen ?_; (repeat (first | assumption | exact ofW_ok _ | exact fullW_W _ | apply okW_with | apply okW_less | refine okW_orS ?_ ?_ | refine okW_andS ?_ ?_ | refine okW_minusS ?_ ?_)); done) | omega | rfl)).symm) bx35) ?_
   rintro d_ v_ w39 ⟨rfl, g40, bx41⟩
   refine ⟨_, rfl, fun act43 f42 => ?_⟩
   clear f37
   have szw39 := g40.size
   have e44 := e34.gr g40 (fun k h => by injection h; omega)
   clear e34
   have bx45 := bx30.gr g40 (fun h => by injection h; omega)
   clear bx30
   clear bx35 g40
   refine At.done rfl ?_
   refine t_n ?_
   have f46 := f42.sub (r := [(4, .pointer (some ⟨w1.heap.size, 0, none⟩))]) ⟨rfl, trivial⟩
   clear f42
   refine wp_ret ?_
   refine retB_ f46 (sl := 4) (cs := (((s).set ((n : Int) / 64 : Int).toNat (notW (gI s ((n : Int) / 64)) (oneW ((n : Int) % 64))) : List Int).map wV)) (m := 4) rfl (by kernel_rfl) (by kernel_rfl) (by simp only [List.length_map, List.length_set, List.length_replicate, List.length_cons, List.length_nil]; first | done | assumption | exact from_len _ | exact of_len _ | exact ofZ_len _ | exact (ofW_ok _).1 | exact (fullW_W _).1 | exact (okW_with (by assumption)).1 | exact (okW_less (by assumption)).1 | exact put_len (from_len _) | exact orD_len _ _ | exact andD_len _ _ | exact minusD_len _ _ | exact fullD_len _ | (refine okLen ?_; (repeat (first | assumption | exact ofW_ok _ | exact fullW_W _ | apply okW_with | apply okW_less | refine okW_orS ?_ ?_ | refine okW_andS ?_ ?_ | refine okW_minusS ?_ ?_)); done) | omega | rfl) bx41 ?_
   exact ⟨ret_map (by first | rw [lessW, if_pos ⟨by omega, by omega⟩] | rw [lessW, if_neg (by omega)]), e44⟩
  ·have q47 := of_decide_eq_false h24
   refine wp_skip ?_
   refine t_n ?_
   have f48 := f23.sub (r := [(4, .pointer (some ⟨w1.heap.size, 0, none⟩)), (2, .pointer (some ⟨w.heap.size, 0, none⟩))]) ⟨rfl, rfl, trivial⟩
   clear f23
   refine wp_seq ?_
   refine At.start ?_
   refine At.rd f48 1 [[.cs ((s : List Int).map wV)]] [(21, .agg ((s : List Int).map wV).toArray)] [(((s : List Int).map wV).length = 4), (∀ (j : Nat) (v : Value), ((s : List Int).map wV)[j]? = some v → w9.cell? ((⟨w.heap.size, 0, none⟩ : Addr).add j) = some v)] (by kernel_rfl) ⟨(by simp only [List.length_map, List.length_set, List.length_replicate, List.length_cons, List.length_nil]; first | done | assumption | exact from_len _ | exact of_len _ | exact ofZ_len _ | exact (ofW_ok _).1 | exact (fullW_W _).1 | exact (okW_with (by assumption)).1 | exact (okW_less (by assumption)).1 | exact put_len (from_len _) | exact orD_len _ _ | exact andD_len _ _ | exact minusD_len _ _ | exact fullD_len _ | (refine okLen ?_; (repeat (first | assumption | exact ofW_ok _ | exact fullW_W _ | apply okW_with | apply okW_less | refine okW_orS ?_ ?_ | refine okW_andS ?_ ?_ | refine okW_minusS ?_ ?_)); done) | omega | rfl), bx16.whole, trivial⟩ (fun act50 f49 => ?_)
   clear f48
   refine At.act f49 (storeBlk (t := 28) (b := w1.heap.size) (n := 4) (cs' := ((s : List Int).map wV)) (by kernel_rfl) (by kernel_rfl) (by simp only [List.length_map, List.length_set, List.length_replicate, List.length_cons, List.length_nil]; first | done | assumption | exact from_len _ | exact of_len _ | exact ofZ_len _ | exact (ofW_ok _).1 | exact (fullW_W _).1 | exact (okW_with (by assumption)).1 | exact (okW_less (by assumption)).1 | exact put_len (from_len _) | exact orD_len _ _ | exact andD_len _ _ | exact minusD_len _ _ | exact fullD_len _ | (refine okLen ?_; (repeat (first | assumption | exact ofW_ok _ | exact fullW_W _ | apply okW_with | apply okW_less | refine okW_orS ?_ ?_ | refine okW_andS ?_ ?_ | refine okW_minusS ?_ ?_)); done) | omega | rfl) oneW_ ((show ((s : List Int).map wV).length = 4 from (by simp only [List.length_map, List.length_set, List.length_replicate, List.length_cons, List.length_nil]; first | done | assumption | exact from_len _ | exact of_len _ | exact ofZ_len _ | exact (ofW_ok _).1 | exact (fullW_W _).1 | exact (okW_with (by assumption)).1 | exact (okW_less (by assumption)).1 | exact put_len (from_len _) | exact orD_len _ _ | exact andD_len _ _ | exact minusD_len _ _ | exact fullD_len _ | (refine okLen ?_; (repeat (first | assumption | exact ofW_ok _ | exact fullW_W _ | apply okW_with | apply okW_less | refine okW_orS ?_ ?_ | refine okW_andS ?_ ?_ | refine okW_minusS ?_ ?_)); done) | omega | rfl)).trans (show ((List.replicate 4 (0 : Int) : List Int).map wV).length = 4 from (by simp only [List.length_map, List.length_set, List.length_replicate, List.length_cons, List.length_nil]; first | done | assumption | exact from_len _ | exact of_len _ | exact ofZ_len _ | exact (ofW_ok _).1 | exact (fullW_W _).1 | exact (okW_with (by assumption)).1 | exact (okW_less (by assumption)).1 | exact put_len (from_len _) | exact orD_len _ _ | exact andD_len _ _ | exact minusD_len _ _ | exact fullD_len _ | (refine okLen ?_; (repeat (first | assumption | exact ofW_ok _ | exact fullW_W _ | apply okW_with | apply okW_less | refine okW_orS ?_ ?_ | refine okW_andS ?_ ?_ | refine okW_minusS ?_ ?_)); done) | omega | rfl)).symm) bx17) ?_
   rintro d_ v_ w51 ⟨rfl, g52, bx53⟩
   refine ⟨_, rfl, fun act55 f54 => ?_⟩
   clear f49
   have szw51 := g52.size
   have e56 := e15.gr g52 (fun k h => by injection h; omega)
   clear e15
   have bx57 := bx16.gr g52 (fun h => by injection h; omega)
   clear bx16
   clear bx17 g52
   refine At.done rfl ?_
   refine t_n ?_
   have f58 := f54.sub (r := [(4, .pointer (some ⟨w1.heap.size, 0, none⟩))]) ⟨rfl, trivial⟩
   clear f54
   refine wp_ret ?_
   refine retB_ f58 (sl := 4) (cs := ((s : List Int).map wV)) (m := 4) rfl (by kernel_rfl) (by kernel_rfl) (by simp only [List.length_map, List.length_set, List.length_replicate, List.length_cons, List.length_nil]; first | done | assumption | exact from_len _ | exact of_len _ | exact ofZ_len _ | exact (ofW_ok _).1 | exact (fullW_W _).1 | exact (okW_with (by assumption)).1 | exact (okW_less (by assumption)).1 | exact put_len (from_len _) | exact orD_len _ _ | exact andD_len _ _ | exact minusD_len _ _ | exact fullD_len _ | (refine okLen ?_; (repeat (first | assumption | exact ofW_ok _ | exact fullW_W _ | apply okW_with | apply okW_less | refine okW_orS ?_ ?_ | refine okW_andS ?_ ?_ | refine okW_minusS ?_ ?_)); done) | omega | rfl) bx53 ?_
   exact ⟨ret_map (by first | rw [lessW, if_pos ⟨by omega, by omega⟩] | rw [lessW, if_neg (by omega)]), e56⟩
 ·have q59 := of_decide_eq_false h19
  refine At.rd f18 6 [[], [], [.as_ (.bool false)], [], [], []] [(10, .bool false), (9, undef), (8, undef), (7, .bool false), (6, .bool (decide ((n : Int) ≥ 0))), (5, .int .i64 (n))] [((.bool (decide ((n : Int) ≥ 0)) : Value) = .bool false)] (by kernel_rfl) ⟨(congrArg Value.bool h19), trivial⟩ (fun act61 f60 => ?_)
  clear f18
  refine At.done rfl ?_
  refine t_n ?_
  have f62 := f60.sub (r := [(10, .bool false), (4, .pointer (some ⟨w1.heap.size, 0, none⟩)), (2, .pointer (some ⟨w.heap.size, 0, none⟩)), (1, .int .i64 (n))]) ⟨rfl, rfl, rfl, rfl, trivial⟩
  clear f60
  refine cond_F f62 rfl ?_
  refine wp_skip ?_
  refine t_n ?_
  have f63 := f62.sub (r := [(4, .pointer (some ⟨w1.heap.size, 0, none⟩)), (2, .pointer (some ⟨w.heap.size, 0, none⟩))]) ⟨rfl, rfl, trivial⟩
  clear f62
  refine wp_seq ?_
  refine At.start ?_
  refine At.rd f63 1 [[.cs ((s : List Int).map wV)]] [(21, .agg ((s : List Int).map wV).toArray)] [(((s : List Int).map wV).length = 4), (∀ (j : Nat) (v : Value), ((s : List Int).map wV)[j]? = some v → w9.cell? ((⟨w.heap.size, 0, none⟩ : Addr).add j) = some v)] (by kernel_rfl) ⟨(by simp only [List.length_map, List.length_set, List.length_replicate, List.length_cons, List.length_nil]; first | done | assumption | exact from_len _ | exact of_len _ | exact ofZ_len _ | exact (ofW_ok _).1 | exact (fullW_W _).1 | exact (okW_with (by assumption)).1 | exact (okW_less (by assumption)).1 | exact put_len (from_len _) | exact orD_len _ _ | exact andD_len _ _ | exact minusD_len _ _ | exact fullD_len _ | (refine okLen ?_; (repeat (first | assumption | exact ofW_ok _ | exact fullW_W _ | apply okW_with | apply okW_less | refine okW_orS ?_ ?_ | refine okW_andS ?_ ?_ | refine okW_minusS ?_ ?_)); done) | omega | rfl), bx16.whole, trivial⟩ (fun act65 f64 => ?_)
  clear f63
  refine At.act f64 (storeBlk (t := 28) (b := w1.heap.size) (n := 4) (cs' := ((s : List Int).map wV)) (by kernel_rfl) (by kernel_rfl) (by simp only [List.length_map, List.length_set, List.length_replicate, List.length_cons, List.length_nil]; first | done | assumption | exact from_len _ | exact of_len _ | exact ofZ_len _ | exact (ofW_ok _).1 | exact (fullW_W _).1 | exact (okW_with (by assumption)).1 | exact (okW_less (by assumption)).1 | exact put_len (from_len _) | exact orD_len _ _ | exact andD_len _ _ | exact minusD_len _ _ | exact fullD_len _ | (refine okLen ?_; (repeat (first | assumption | exact ofW_ok _ | exact fullW_W _ | apply okW_with | apply okW_less | refine okW_orS ?_ ?_ | refine okW_andS ?_ ?_ | refine okW_minusS ?_ ?_)); done) | omega | rfl) oneW_ ((show ((s : List Int).map wV).length = 4 from (by simp only [List.length_map, List.length_set, List.length_replicate, List.length_cons, List.length_nil]; first | done | assumption | exact from_len _ | exact of_len _ | exact ofZ_len _ | exact (ofW_ok _).1 | exact (fullW_W _).1 | exact (okW_with (by assumption)).1 | exact (okW_less (by assumption)).1 | exact put_len (from_len _) | exact orD_len _ _ | exact andD_len _ _ | exact minusD_len _ _ | exact fullD_len _ | (refine okLen ?_; (repeat (first | assumption | exact ofW_ok _ | exact fullW_W _ | apply okW_with | apply okW_less | refine okW_orS ?_ ?_ | refine okW_andS ?_ ?_ | refine okW_minusS ?_ ?_)); done) | omega | rfl)).trans (show ((List.replicate 4 (0 : Int) : List Int).map wV).length = 4 from (by simp only [List.length_map, List.length_set, List.length_replicate, List.length_cons, List.length_nil]; first | done | assumption | exact from_len _ | exact of_len _ | exact ofZ_len _ | exact (ofW_ok _).1 | exact (fullW_W _).1 | exact (okW_with (by assumption)).1 | exact (okW_less (by assumption)).1 | exact put_len (from_len _) | exact orD_len _ _ | exact andD_len _ _ | exact minusD_len _ _ | exact fullD_len _ | (refine okLen ?_; (repeat (first | assumption | exact ofW_ok _ | exact fullW_W _ | apply okW_with | apply okW_less | refine okW_orS ?_ ?_ | refine okW_andS ?_ ?_ | refine okW_minusS ?_ ?_)); done) | omega | rfl)).symm) bx17) ?_
  rintro d_ v_ w66 ⟨rfl, g67, bx68⟩
  refine ⟨_, rfl, fun act70 f69 => ?_⟩
  clear f64
  have szw66 := g67.size
  have e71 := e15.gr g67 (fun k h => by injection h; omega)
  clear e15
  have bx72 := bx16.gr g67 (fun h => by injection h; omega)
  clear bx16
  clear bx17 g67
  refine At.done rfl ?_
  refine t_n ?_
  have f73 := f69.sub (r := [(4, .pointer (some ⟨w1.heap.size, 0, none⟩))]) ⟨rfl, trivial⟩
  clear f69
  refine wp_ret ?_
  refine retB_ f73 (sl := 4) (cs := ((s : List Int).map wV)) (m := 4) rfl (by kernel_rfl) (by kernel_rfl) (by simp only [List.length_map, List.length_set, List.length_replicate, List.length_cons, List.length_nil]; first | done | assumption | exact from_len _ | exact of_len _ | exact ofZ_len _ | exact (ofW_ok _).1 | exact (fullW_W _).1 | exact (okW_with (by assumption)).1 | exact (okW_less (by assumption)).1 | exact put_len (from_len _) | exact orD_len _ _ | exact andD_len _ _ | exact minusD_len _ _ | exact fullD_len _ | (refine okLen ?_; (repeat (first | assumption | exact ofW_ok _ | exact fullW_W _ | apply okW_with | apply okW_less | refine okW_orS ?_ ?_ | refine okW_andS ?_ ?_ | refine okW_minusS ?_ ?_)); done) | omega | rfl) bx68 ?_
  exact ⟨ret_map (by first | rw [lessW, if_pos ⟨by omega, by omega⟩] | rw [lessW, if_neg (by omega)]), e71⟩

set_option maxHeartbeats 4000000 in
theorem or_any {s : List Int} {t : List Int} {w : World} (hs : OkW s) (ht : OkW t) :
    Calls Tryd.prog 25 #[.agg ((s : List Int).map wV).toArray, .agg ((t : List Int).map wV).toArray] w fun e w' => e = .returned (.agg (((ofZW (fun j => orW (gI s j) (gI t j)) : List Int)).map wV).toArray) ∧ Ext w w' := by
 have hls := hs.1
 have hlt := ht.1
 refine enter_ (args := [.agg ((s : List Int).map wV).toArray, .agg ((t : List Int).map wV).toArray]) Tryd.func25 rfl Tryd.ntmps25 (Nat.le_of_ble_eq_true rfl) (fun act0 f0 => ?_)
 have e0 := Ext.refl w
 refine wp_seq ?_
 refine At.start ?_
 refine At.seq f0 1 [[]] [(2, .pointer (some ⟨w.heap.size, 0, none⟩))] (w.alloc (.cells ((s : List Int).map wV).toArray 28 (0, 0))) [] (by kernel_rfl) trivial (fun act4 w1 hw2 f3 => ?_)
 clear f0
 have g5 := gr_alloc hw2
 have szw1 := g5.size
 have e7 := e0.gr g5 no_row
 clear e0
 have bx8 : Bx w1 (w.heap.size) ((s : List Int).map wV) 28 := Bx.new hw2
 have := bx8.lt
 clear g5 hw2
 refine At.seq f3 1 [[]] [(3, .pointer (some ⟨w1.heap.size, 0, none⟩))] (w1.alloc (.cells ((t : List Int).map wV).toArray 28 (0, 0))) [] (by kernel_rfl) trivial (fun act12 w9 hw10 f11 => ?_)
 clear f3
 have g13 := gr_alloc hw10
 have szw9 := g13.size
 have e15 := e7.gr g13 no_row
 clear e7
 have bx16 := bx8.gr g13 (by simp)
 clear bx8
 have bx17 : Bx w9 (w1.heap.size) ((t : List Int).map wV) 28 := Bx.new hw10
 have := bx17.lt
 clear g13 hw10
 refine At.seq f11 1 [[]] [(4, .pointer (some ⟨w9.heap.size, 0, none⟩))] (w9.alloc (.cells ((List.replicate 4 (0 : Int) : List Int).map wV).toArray 28 (0, 0))) [] (by kernel_rfl) trivial (fun act21 w18 hw19 f20 => ?_)
 clear f11
 have g22 := gr_alloc hw19
 have szw18 := g22.size
 have e24 := e15.gr g22 no_row
 clear e15
 have bx25 := bx16.gr g22 (by simp)
 clear bx16
 have bx26 := bx17.gr g22 (by simp)
 clear bx17
 have bx27 : Bx w18 (w9.heap.size) ((List.replicate 4 (0 : Int) : List Int).map wV) 28 := Bx.new hw19
 have := bx27.lt
 clear g22 hw19
 refine At.done rfl ?_
 refine t_n ?_
 have f28 := f20.sub (r := [(4, .pointer (some ⟨w9.heap.size, 0, none⟩)), (3, .pointer (some ⟨w1.heap.size, 0, none⟩)), (2, .pointer (some ⟨w.heap.size, 0, none⟩))]) ⟨rfl, rfl, rfl, trivial⟩
 clear f20
 refine wp_seq ?_
 refine wp_seq ?_
 refine At.start ?_
 refine At.rd f28 1 [[]] [(6, .int .i64 (0))] [] (by kernel_rfl) trivial (fun act30 f29 => ?_)
 clear f28
 refine At.done rfl ?_
 refine t_n ?_
 refine wp_block ?_
 have f31 := f29.sub (r := [(6, .int .i64 (0)), (4, .pointer (some ⟨w9.heap.size, 0, none⟩)), (3, .pointer (some ⟨w1.heap.size, 0, none⟩)), (2, .pointer (some ⟨w.heap.size, 0, none⟩))]) ⟨rfl, rfl, rfl, rfl, trivial⟩
 refine loop_g (fun (m_ : Nat) a_ w_ => ∃ (k : Int) (xs : List Int), m_ = (4 - k).toNat ∧ (Frm 19 a_ [(6, .int .i64 (k)), (4, .pointer (some ⟨w9.heap.size, 0, none⟩)), (3, .pointer (some ⟨w1.heap.size, 0, none⟩)), (2, .pointer (some ⟨w.heap.size, 0, none⟩))]) ∧ (Ext w w_) ∧ (Bx w_ (w.heap.size) ((xs : List Int).map wV) 28) ∧ (Bx w_ (w1.heap.size) ((t : List Int).map wV) 28) ∧ (Bx w_ (w9.heap.size) ((List.replicate 4 (0 : Int) : List Int).map wV) 28) ∧ (0 ≤ k) ∧ (k ≤ 4) ∧ (xs.length = 4) ∧ (MixW s xs (fun j => orW (gI s j) (gI t j)) k)) _ ⟨0, s, rfl, f31, e24, bx25, bx26, bx27, (by omega), (by omega), (by omega), (mixW_0 hls)⟩ ?_
 clear f31 f29
 clear bx25
 clear bx26
 clear bx27
 clear e24
 intro m_ act32 w33 ⟨k, xs, hm35, f36, e34, bx37, bx38, bx39, i40, i41, i42, hmx⟩
 have szw33 := e34.size
 have := bx37.lt
 have := bx38.lt
 have := bx39.lt
 refine wp_seq ?_
 refine At.start ?_
 refine At.rd f36 1 [[]] [(7, .bool (decide ((k : Int) < 4)))] [] (by kernel_rfl) trivial (fun act44 f43 => ?_)
 clear f36
 refine At.done rfl ?_
 refine t_n ?_
 refine wp_seq ?_
 refine cond_S f43 (t := decide ((k : Int) < 4)) rfl (fun h45 => ?_) (fun h45 => ?_)
 ·have q46 := of_decide_eq_true h45
  refine wp_skip ?_
  refine t_n ?_
  have f47 := f43.sub (r := [(6, .int .i64 (k)), (4, .pointer (some ⟨w9.heap.size, 0, none⟩)), (3, .pointer (some ⟨w1.heap.size, 0, none⟩)), (2, .pointer (some ⟨w.heap.size, 0, none⟩))]) ⟨rfl, rfl, rfl, rfl, trivial⟩
  clear f43
  refine wp_seq ?_
  refine wp_block ?_
  refine wp_seq ?_
  refine At.start ?_
  refine At.rd f47 2 [[], []] [(5, .int .i64 (k)), (8, .int .i64 (k))] [] (by kernel_rfl) trivial (fun act49 f48 => ?_)
  clear f47
  refine At.done rfl ?_
  refine t_n ?_
  have f50 := f48.sub (r := [(5, .int .i64 (k)), (6, .int .i64 (k)), (4, .pointer (some ⟨w9.heap.size, 0, none⟩)), (3, .pointer (some ⟨w1.heap.size, 0, none⟩)), (2, .pointer (some ⟨w.heap.size, 0, none⟩))]) ⟨rfl, rfl, rfl, rfl, rfl, trivial⟩
  clear f48
  obtain ⟨Cs51, hCs52⟩ : ∃ c : List (Addr × Value), c = [(((⟨w1.heap.size, 0, none⟩ : Addr).add ((k : Int).toNat * 1)), (.int .u64 (gI t k)))] := ⟨_, rfl⟩
  have hS53 : HoldsC Cs51 w33 := by rw [hCs52]; exact ⟨(Bx.arrM (f := wV) (0 : Int) bx38 k (by omega) (by omega)), trivial⟩
  refine AtH.start Cs51 9 #[false, false, false, false, false, false, false, false, false] (by kernel_rfl) rfl rfl (fun w55 hw56 => ?_)
  have g54 := gr_drew hw56
  have hS57 := hS53.gr g54
  have szw55 := g54.size
  have e58 := e34.gr g54 no_row
  clear e34
  have bx59 := bx37.gr g54 (by simp)
  clear bx37
  have bx60 := bx38.gr g54 (by simp)
  clear bx38
  have bx61 := bx39.gr g54 (by simp)
  clear bx39
  clear g54 hw56 hS53
  refine AtH.rd (by kernel_rfl) (fun d v c a w h => by cases d <;> exact h) hS57 [0, 1, 3, 4, 5] [[], [], [], [], [.ld (.int .u64 (gI t k))]] [(14, .int .u64 (gI t k)), (13, .pointer (some ((⟨w1.heap.size, 0, none⟩ : Addr).add ((k : Int).toNat * 1)))), (12, .int .i64 (k)), (10, .pointer (some ((⟨w.heap.size, 0, none⟩ : Addr).add ((k : Int).toNat * 1)))), (9, .int .i64 (k))] #[true, true, false, true, true, true, false, false, false] [(0 ≤ (k : Int)), ((k : Int) < (4 : Nat)), (0 ≤ (k : Int)), ((k : Int) < (4 : Nat)), (∃ j_ : Nat, Cs51[j_]? = some (((⟨w1.heap.size, 0, none⟩ : Addr).add ((k : Int).toNat * 1)), (.int .u64 (gI t k))))] 4 f50 (by kernel_rfl) ⟨(by omega), (by omega), (by omega), (by omega), ⟨0, by rw [hCs52]; rfl⟩, trivial⟩ (fun act63 f62 => ?_)
  clear f50
  refine AtH.all [2] 3 (by kernel_rfl) (by simp) ⟨?_, trivial⟩
  refine OneH.seq f62 [[.ld (.int .u64 (gI xs k))]] [(11, .int .u64 (gI xs k))] w55 [(w55.cell? ((⟨w.heap.size, 0, none⟩ : Addr).add ((k : Int).toNat * 1)) = some (.int .u64 (gI xs k)))] #[true, true, true, true, true, true, false, false, false] (by kernel_rfl) (by kernel_rfl) (by kernel_rfl) ⟨(Bx.arrM (f := wV) (0 : Int) bx59 k (by omega) (by omega)), trivial⟩ (fun act65 w66 hw67 f64 => ?_)
  obtain rfl : w55 = w66 := hw67.symm
  clear f62
  refine ⟨hS57, ?_⟩
  refine AtH.rd (by kernel_rfl) (fun d v c a w h => by cases d <;> exact h) hS57 [6] [[.as_ (.int .u64 (orW (gI xs k) (gI t k)))]] [(15, .int .u64 (orW (gI xs k) (gI t k)))] #[true, true, true, true, true, true, true, false, false] [((.int .u64 (IntKind.u64.wrap ((BitVec.ofInt 64 (gI xs k) ||| BitVec.ofInt 64 (gI t k)).toNat : Int)) : Value) = .int .u64 (orW (gI xs k) (gI t k)))] 2 f64 (by kernel_rfl) ⟨(congrArg (Value.int .u64) (or64 (by first | exact hs.2 _ | exact ht.2 _ | exact oneW_W (by omega) (by omega) | exact mixW_W hmx (by omega) (by omega) hs) (by first | exact hs.2 _ | exact ht.2 _ | exact oneW_W (by omega) (by omega) | exact mixW_W hmx (by omega) (by omega) hs))), trivial⟩ (fun act69 f68 => ?_)
  clear f64
  refine AtH.rd (by kernel_rfl) (fun d v c a w h => by cases d <;> exact h) hS57 [7] [[]] [(16, .pointer (some ((⟨w.heap.size, 0, none⟩ : Addr).add ((k : Int).toNat * 1))))] #[true, true, true, true, true, true, true, true, false] [(0 ≤ (k : Int)), ((k : Int) < (4 : Nat))] 1 f68 (by kernel_rfl) ⟨(by omega), (by omega), trivial⟩ (fun act71 f70 => ?_)
  clear f68
  refine AtH.all [8] 0 (by kernel_rfl) (by simp) ⟨?_, trivial⟩
  refine OneH.act f70 #[true, true, true, true, true, true, true, true, true] (by kernel_rfl) (storeArrM (f := wV) (t := 26) (b := w.heap.size) (i := k) (x := orW (gI xs k) (gI t k)) (v := .int .u64 (orW (gI xs k) (gI t k))) (by kernel_rfl) rfl rfl (by kernel_rfl) bx59 (by omega) (by omega)) ?_
  rintro d_ v_ w73 ⟨rfl, g74, bx75⟩
  have hS79 := hS57.gr' g74 (by rw [hCs52]; exact ⟨(by simp only [add_block]; omega), trivial⟩)
  refine ⟨_, rfl, fun act78 f77 => ⟨hS79, ?_⟩⟩
  clear f70
  have hl76 : ((xs).set (k : Int).toNat (orW (gI xs k) (gI t k))).length = (xs : List Int).length := List.length_set
  have szw73 := g74.size
  have e80 := e58.gr g74 (fun k h => by injection h; omega)
  clear e58
  have bx81 := bx60.gr g74 (fun h => by injection h; omega)
  clear bx60
  have bx82 := bx61.gr g74 (fun h => by injection h; omega)
  clear bx61
  clear bx59 g74
  refine AtH.done (by kernel_rfl) ?_
  clear hS79
  refine b_n ?_
  refine t_n ?_
  have f83 := f77.sub (r := [(6, .int .i64 (k)), (4, .pointer (some ⟨w9.heap.size, 0, none⟩)), (3, .pointer (some ⟨w1.heap.size, 0, none⟩)), (2, .pointer (some ⟨w.heap.size, 0, none⟩))]) ⟨rfl, rfl, rfl, rfl, trivial⟩
  clear f77
  refine At.start ?_
  refine At.rd f83 2 [[.as_ (.int .i64 (k + 1))], []] [(6, .int .i64 (k + 1)), (17, .int .i64 (k + 1))] [((.int .i64 (IntKind.i64.wrap (k + 1)) : Value) = .int .i64 (k + 1))] (by kernel_rfl) ⟨(w64 (by omega) (by omega)), trivial⟩ (fun act85 f84 => ?_)
  clear f83
  refine At.done rfl ?_
  refine t_n ?_
  have f86 := f84.sub (r := [(6, .int .i64 (k + 1)), (4, .pointer (some ⟨w9.heap.size, 0, none⟩)), (3, .pointer (some ⟨w1.heap.size, 0, none⟩)), (2, .pointer (some ⟨w.heap.size, 0, none⟩))]) ⟨rfl, rfl, rfl, rfl, trivial⟩
  exact ⟨_, (by omega), (k + 1), (xs).set (k : Int).toNat (orW (gI xs k) (gI t k)), rfl, f86, e80, bx75, bx81, bx82, (by omega), (by omega), (by omega), (mixW_next hmx (by omega) (by omega) (by rw [mixW_at hmx (by omega) (by omega)]))⟩
 ·have q87 := of_decide_eq_false h45
  refine wp_exit ?_
  refine t_e ?_
  refine t_e ?_
  refine b_e ?_
  refine t_n ?_
  have f88 := f43.sub (r := [(4, .pointer (some ⟨w9.heap.size, 0, none⟩)), (2, .pointer (some ⟨w.heap.size, 0, none⟩))]) ⟨rfl, rfl, trivial⟩
  clear f43
  refine wp_seq ?_
  refine At.start ?_
  refine At.rd f88 1 [[.cs ((xs : List Int).map wV)]] [(18, .agg ((xs : List Int).map wV).toArray)] [(((xs : List Int).map wV).length = 4), (∀ (j : Nat) (v : Value), ((xs : List Int).map wV)[j]? = some v → w33.cell? ((⟨w.heap.size, 0, none⟩ : Addr).add j) = some v)] (by kernel_rfl) ⟨(by simp only [List.length_map, List.length_set, List.length_replicate, List.length_cons, List.length_nil]; first | done | assumption | exact from_len _ | exact of_len _ | exact ofZ_len _ | exact (ofW_ok _).1 | exact (fullW_W _).1 | exact (okW_with (by assumption)).1 | exact (okW_less (by assumption)).1 | exact put_len (from_len _) | exact orD_len _ _ | exact andD_len _ _ | exact minusD_len _ _ | exact fullD_len _ | (refine okLen ?_; (repeat (first | assumption | exact ofW_ok _ | exact fullW_W _ | apply okW_with | apply okW_less | refine okW_orS ?_ ?_ | refine okW_andS ?_ ?_ | refine okW_minusS ?_ ?_)); done) | omega | rfl), bx37.whole, trivial⟩ (fun act90 f89 => ?_)
  clear f88
  refine At.act f89 (storeBlk (t := 28) (b := w9.heap.size) (n := 4) (cs' := ((xs : List Int).map wV)) (by kernel_rfl) (by kernel_rfl) (by simp only [List.length_map, List.length_set, List.length_replicate, List.length_cons, List.length_nil]; first | done | assumption | exact from_len _ | exact of_len _ | exact ofZ_len _ | exact (ofW_ok _).1 | exact (fullW_W _).1 | exact (okW_with (by assumption)).1 | exact (okW_less (by assumption)).1 | exact put_len (from_len _) | exact orD_len _ _ | exact andD_len _ _ | exact minusD_len _ _ | exact fullD_len _ | (refine okLen ?_; (repeat (first | assumption | exact ofW_ok _ | exact fullW_W _ | apply okW_with | apply okW_less | refine okW_orS ?_ ?_ | refine okW_andS ?_ ?_ | refine okW_minusS ?_ ?_)); done) | omega | rfl) oneW_ ((show ((xs : List Int).map wV).length = 4 from (by simp only [List.length_map, List.length_set, List.length_replicate, List.length_cons, List.length_nil]; first | done | assumption | exact from_len _ | exact of_len _ | exact ofZ_len _ | exact (ofW_ok _).1 | exact (fullW_W _).1 | exact (okW_with (by assumption)).1 | exact (okW_less (by assumption)).1 | exact put_len (from_len _) | exact orD_len _ _ | exact andD_len _ _ | exact minusD_len _ _ | exact fullD_len _ | (refine okLen ?_; (repeat (first | assumption | exact ofW_ok _ | exact fullW_W _ | apply okW_with | apply okW_less | refine okW_orS ?_ ?_ | refine okW_andS ?_ ?_ | refine okW_minusS ?_ ?_)); done) | omega | rfl)).trans (show ((List.replicate 4 (0 : Int) : List Int).map wV).length = 4 from (by simp only [List.length_map, List.length_set, List.length_replicate, List.length_cons, List.length_nil]; first | done | assumption | exact from_len _ | exact of_len _ | exact ofZ_len _ | exact (ofW_ok _).1 | exact (fullW_W _).1 | exact (okW_with (by assumption)).1 | exact (okW_less (by assumption)).1 | exact put_len (from_len _) | exact orD_len _ _ | exact andD_len _ _ | exact minusD_len _ _ | exact fullD_len _ | (refine okLen ?_; (repeat (first | assumption | exact ofW_ok _ | exact fullW_W _ | apply okW_with | apply okW_less | refine okW_orS ?_ ?_ | refine okW_andS ?_ ?_ | refine okW_minusS ?_ ?_)); done) | omega | rfl)).symm) bx39) ?_
  rintro d_ v_ w91 ⟨rfl, g92, bx93⟩
  refine ⟨_, rfl, fun act95 f94 => ?_⟩
  clear f89
  have szw91 := g92.size
  have e96 := e34.gr g92 (fun k h => by injection h; omega)
  clear e34
  have bx97 := bx37.gr g92 (fun h => by injection h; omega)
  clear bx37
  have bx98 := bx38.gr g92 (fun h => by injection h; omega)
  clear bx38
  clear bx39 g92
  refine At.done rfl ?_
  refine t_n ?_
  have f99 := f94.sub (r := [(4, .pointer (some ⟨w9.heap.size, 0, none⟩))]) ⟨rfl, trivial⟩
  clear f94
  refine wp_ret ?_
  refine retB_ f99 (sl := 4) (cs := ((xs : List Int).map wV)) (m := 4) rfl (by kernel_rfl) (by kernel_rfl) (by simp only [List.length_map, List.length_set, List.length_replicate, List.length_cons, List.length_nil]; first | done | assumption | exact from_len _ | exact of_len _ | exact ofZ_len _ | exact (ofW_ok _).1 | exact (fullW_W _).1 | exact (okW_with (by assumption)).1 | exact (okW_less (by assumption)).1 | exact put_len (from_len _) | exact orD_len _ _ | exact andD_len _ _ | exact minusD_len _ _ | exact fullD_len _ | (refine okLen ?_; (repeat (first | assumption | exact ofW_ok _ | exact fullW_W _ | apply okW_with | apply okW_less | refine okW_orS ?_ ?_ | refine okW_andS ?_ ?_ | refine okW_minusS ?_ ?_)); done) | omega | rfl) bx93 ?_
  exact ⟨ret_map (mixW_end hmx (by omega)), e96⟩

set_option maxHeartbeats 4000000 in
theorem and_any {s : List Int} {t : List Int} {w : World} (hs : OkW s) (ht : OkW t) :
    Calls Tryd.prog 19 #[.agg ((s : List Int).map wV).toArray, .agg ((t : List Int).map wV).toArray] w fun e w' => e = .returned (.agg (((ofZW (fun j => andW (gI s j) (gI t j)) : List Int)).map wV).toArray) ∧ Ext w w' := by
 have hls := hs.1
 have hlt := ht.1
 refine enter_ (args := [.agg ((s : List Int).map wV).toArray, .agg ((t : List Int).map wV).toArray]) Tryd.func19 rfl Tryd.ntmps19 (Nat.le_of_ble_eq_true rfl) (fun act0 f0 => ?_)
 have e0 := Ext.refl w
 refine wp_seq ?_
 refine At.start ?_
 refine At.seq f0 1 [[]] [(2, .pointer (some ⟨w.heap.size, 0, none⟩))] (w.alloc (.cells ((s : List Int).map wV).toArray 28 (0, 0))) [] (by kernel_rfl) trivial (fun act4 w1 hw2 f3 => ?_)
 clear f0
 have g5 := gr_alloc hw2
 have szw1 := g5.size
 have e7 := e0.gr g5 no_row
 clear e0
 have bx8 : Bx w1 (w.heap.size) ((s : List Int).map wV) 28 := Bx.new hw2
 have := bx8.lt
 clear g5 hw2
 refine At.seq f3 1 [[]] [(3, .pointer (some ⟨w1.heap.size, 0, none⟩))] (w1.alloc (.cells ((t : List Int).map wV).toArray 28 (0, 0))) [] (by kernel_rfl) trivial (fun act12 w9 hw10 f11 => ?_)
 clear f3
 have g13 := gr_alloc hw10
 have szw9 := g13.size
 have e15 := e7.gr g13 no_row
 clear e7
 have bx16 := bx8.gr g13 (by simp)
 clear bx8
 have bx17 : Bx w9 (w1.heap.size) ((t : List Int).map wV) 28 := Bx.new hw10
 have := bx17.lt
 clear g13 hw10
 refine At.seq f11 1 [[]] [(4, .pointer (some ⟨w9.heap.size, 0, none⟩))] (w9.alloc (.cells ((List.replicate 4 (0 : Int) : List Int).map wV).toArray 28 (0, 0))) [] (by kernel_rfl) trivial (fun act21 w18 hw19 f20 => ?_)
 clear f11
 have g22 := gr_alloc hw19
 have szw18 := g22.size
 have e24 := e15.gr g22 no_row
 clear e15
 have bx25 := bx16.gr g22 (by simp)
 clear bx16
 have bx26 := bx17.gr g22 (by simp)
 clear bx17
 have bx27 : Bx w18 (w9.heap.size) ((List.replicate 4 (0 : Int) : List Int).map wV) 28 := Bx.new hw19
 have := bx27.lt
 clear g22 hw19
 refine At.done rfl ?_
 refine t_n ?_
 have f28 := f20.sub (r := [(4, .pointer (some ⟨w9.heap.size, 0, none⟩)), (3, .pointer (some ⟨w1.heap.size, 0, none⟩)), (2, .pointer (some ⟨w.heap.size, 0, none⟩))]) ⟨rfl, rfl, rfl, trivial⟩
 clear f20
 refine wp_seq ?_
 refine wp_seq ?_
 refine At.start ?_
 refine At.rd f28 1 [[]] [(6, .int .i64 (0))] [] (by kernel_rfl) trivial (fun act30 f29 => ?_)
 clear f28
 refine At.done rfl ?_
 refine t_n ?_
 refine wp_block ?_
 have f31 := f29.sub (r := [(6, .int .i64 (0)), (4, .pointer (some ⟨w9.heap.size, 0, none⟩)), (3, .pointer (some ⟨w1.heap.size, 0, none⟩)), (2, .pointer (some ⟨w.heap.size, 0, none⟩))]) ⟨rfl, rfl, rfl, rfl, trivial⟩
 refine loop_g (fun (m_ : Nat) a_ w_ => ∃ (k : Int) (xs : List Int), m_ = (4 - k).toNat ∧ (Frm 19 a_ [(6, .int .i64 (k)), (4, .pointer (some ⟨w9.heap.size, 0, none⟩)), (3, .pointer (some ⟨w1.heap.size, 0, none⟩)), (2, .pointer (some ⟨w.heap.size, 0, none⟩))]) ∧ (Ext w w_) ∧ (Bx w_ (w.heap.size) ((xs : List Int).map wV) 28) ∧ (Bx w_ (w1.heap.size) ((t : List Int).map wV) 28) ∧ (Bx w_ (w9.heap.size) ((List.replicate 4 (0 : Int) : List Int).map wV) 28) ∧ (0 ≤ k) ∧ (k ≤ 4) ∧ (xs.length = 4) ∧ (MixW s xs (fun j => andW (gI s j) (gI t j)) k)) _ ⟨0, s, rfl, f31, e24, bx25, bx26, bx27, (by omega), (by omega), (by omega), (mixW_0 hls)⟩ ?_
 clear f31 f29
 clear bx25
 clear bx26
 clear bx27
 clear e24
 intro m_ act32 w33 ⟨k, xs, hm35, f36, e34, bx37, bx38, bx39, i40, i41, i42, hmx⟩
 have szw33 := e34.size
 have := bx37.lt
 have := bx38.lt
 have := bx39.lt
 refine wp_seq ?_
 refine At.start ?_
 refine At.rd f36 1 [[]] [(7, .bool (decide ((k : Int) < 4)))] [] (by kernel_rfl) trivial (fun act44 f43 => ?_)
 clear f36
 refine At.done rfl ?_
 refine t_n ?_
 refine wp_seq ?_
 refine cond_S f43 (t := decide ((k : Int) < 4)) rfl (fun h45 => ?_) (fun h45 => ?_)
 ·have q46 := of_decide_eq_true h45
  refine wp_skip ?_
  refine t_n ?_
  have f47 := f43.sub (r := [(6, .int .i64 (k)), (4, .pointer (some ⟨w9.heap.size, 0, none⟩)), (3, .pointer (some ⟨w1.heap.size, 0, none⟩)), (2, .pointer (some ⟨w.heap.size, 0, none⟩))]) ⟨rfl, rfl, rfl, rfl, trivial⟩
  clear f43
  refine wp_seq ?_
  refine wp_block ?_
  refine wp_seq ?_
  refine At.start ?_
  refine At.rd f47 2 [[], []] [(5, .int .i64 (k)), (8, .int .i64 (k))] [] (by kernel_rfl) trivial (fun act49 f48 => ?_)
  clear f47
  refine At.done rfl ?_
  refine t_n ?_
  have f50 := f48.sub (r := [(5, .int .i64 (k)), (6, .int .i64 (k)), (4, .pointer (some ⟨w9.heap.size, 0, none⟩)), (3, .pointer (some ⟨w1.heap.size, 0, none⟩)), (2, .pointer (some ⟨w.heap.size, 0, none⟩))]) ⟨rfl, rfl, rfl, rfl, rfl, trivial⟩
  clear f48
  obtain ⟨Cs51, hCs52⟩ : ∃ c : List (Addr × Value), c = [(((⟨w1.heap.size, 0, none⟩ : Addr).add ((k : Int).toNat * 1)), (.int .u64 (gI t k)))] := ⟨_, rfl⟩
  have hS53 : HoldsC Cs51 w33 := by rw [hCs52]; exact ⟨(Bx.arrM (f := wV) (0 : Int) bx38 k (by omega) (by omega)), trivial⟩
  refine AtH.start Cs51 9 #[false, false, false, false, false, false, false, false, false] (by kernel_rfl) rfl rfl (fun w55 hw56 => ?_)
  have g54 := gr_drew hw56
  have hS57 := hS53.gr g54
  have szw55 := g54.size
  have e58 := e34.gr g54 no_row
  clear e34
  have bx59 := bx37.gr g54 (by simp)
  clear bx37
  have bx60 := bx38.gr g54 (by simp)
  clear bx38
  have bx61 := bx39.gr g54 (by simp)
  clear bx39
  clear g54 hw56 hS53
  refine AtH.rd (by kernel_rfl) (fun d v c a w h => by cases d <;> exact h) hS57 [0, 1, 3, 4, 5] [[], [], [], [], [.ld (.int .u64 (gI t k))]] [(14, .int .u64 (gI t k)), (13, .pointer (some ((⟨w1.heap.size, 0, none⟩ : Addr).add ((k : Int).toNat * 1)))), (12, .int .i64 (k)), (10, .pointer (some ((⟨w.heap.size, 0, none⟩ : Addr).add ((k : Int).toNat * 1)))), (9, .int .i64 (k))] #[true, true, false, true, true, true, false, false, false] [(0 ≤ (k : Int)), ((k : Int) < (4 : Nat)), (0 ≤ (k : Int)), ((k : Int) < (4 : Nat)), (∃ j_ : Nat, Cs51[j_]? = some (((⟨w1.heap.size, 0, none⟩ : Addr).add ((k : Int).toNat * 1)), (.int .u64 (gI t k))))] 4 f50 (by kernel_rfl) ⟨(by omega), (by omega), (by omega), (by omega), ⟨0, by rw [hCs52]; rfl⟩, trivial⟩ (fun act63 f62 => ?_)
  clear f50
  refine AtH.all [2] 3 (by kernel_rfl) (by simp) ⟨?_, trivial⟩
  refine OneH.seq f62 [[.ld (.int .u64 (gI xs k))]] [(11, .int .u64 (gI xs k))] w55 [(w55.cell? ((⟨w.heap.size, 0, none⟩ : Addr).add ((k : Int).toNat * 1)) = some (.int .u64 (gI xs k)))] #[true, true, true, true, true, true, false, false, false] (by kernel_rfl) (by kernel_rfl) (by kernel_rfl) ⟨(Bx.arrM (f := wV) (0 : Int) bx59 k (by omega) (by omega)), trivial⟩ (fun act65 w66 hw67 f64 => ?_)
  obtain rfl : w55 = w66 := hw67.symm
  clear f62
  refine ⟨hS57, ?_⟩
  refine AtH.rd (by kernel_rfl) (fun d v c a w h => by cases d <;> exact h) hS57 [6] [[.as_ (.int .u64 (andW (gI xs k) (gI t k)))]] [(15, .int .u64 (andW (gI xs k) (gI t k)))] #[true, true, true, true, true, true, true, false, false] [((.int .u64 (IntKind.u64.wrap ((BitVec.ofInt 64 (gI xs k) &&& BitVec.ofInt 64 (gI t k)).toNat : Int)) : Value) = .int .u64 (andW (gI xs k) (gI t k)))] 2 f64 (by kernel_rfl) ⟨(congrArg (Value.int .u64) (and64 (by first | exact hs.2 _ | exact ht.2 _ | exact oneW_W (by omega) (by omega) | exact mixW_W hmx (by omega) (by omega) hs) (by first | exact hs.2 _ | exact ht.2 _ | exact oneW_W (by omega) (by omega) | exact mixW_W hmx (by omega) (by omega) hs))), trivial⟩ (fun act69 f68 => ?_)
  clear f64
  refine AtH.rd (by kernel_rfl) (fun d v c a w h => by cases d <;> exact h) hS57 [7] [[]] [(16, .pointer (some ((⟨w.heap.size, 0, none⟩ : Addr).add ((k : Int).toNat * 1))))] #[true, true, true, true, true, true, true, true, false] [(0 ≤ (k : Int)), ((k : Int) < (4 : Nat))] 1 f68 (by kernel_rfl) ⟨(by omega), (by omega), trivial⟩ (fun act71 f70 => ?_)
  clear f68
  refine AtH.all [8] 0 (by kernel_rfl) (by simp) ⟨?_, trivial⟩
  refine OneH.act f70 #[true, true, true, true, true, true, true, true, true] (by kernel_rfl) (storeArrM (f := wV) (t := 26) (b := w.heap.size) (i := k) (x := andW (gI xs k) (gI t k)) (v := .int .u64 (andW (gI xs k) (gI t k))) (by kernel_rfl) rfl rfl (by kernel_rfl) bx59 (by omega) (by omega)) ?_
  rintro d_ v_ w73 ⟨rfl, g74, bx75⟩
  have hS79 := hS57.gr' g74 (by rw [hCs52]; exact ⟨(by simp only [add_block]; omega), trivial⟩)
  refine ⟨_, rfl, fun act78 f77 => ⟨hS79, ?_⟩⟩
  clear f70
  have hl76 : ((xs).set (k : Int).toNat (andW (gI xs k) (gI t k))).length = (xs : List Int).length := List.length_set
  have szw73 := g74.size
  have e80 := e58.gr g74 (fun k h => by injection h; omega)
  clear e58
  have bx81 := bx60.gr g74 (fun h => by injection h; omega)
  clear bx60
  have bx82 := bx61.gr g74 (fun h => by injection h; omega)
  clear bx61
  clear bx59 g74
  refine AtH.done (by kernel_rfl) ?_
  clear hS79
  refine b_n ?_
  refine t_n ?_
  have f83 := f77.sub (r := [(6, .int .i64 (k)), (4, .pointer (some ⟨w9.heap.size, 0, none⟩)), (3, .pointer (some ⟨w1.heap.size, 0, none⟩)), (2, .pointer (some ⟨w.heap.size, 0, none⟩))]) ⟨rfl, rfl, rfl, rfl, trivial⟩
  clear f77
  refine At.start ?_
  refine At.rd f83 2 [[.as_ (.int .i64 (k + 1))], []] [(6, .int .i64 (k + 1)), (17, .int .i64 (k + 1))] [((.int .i64 (IntKind.i64.wrap (k + 1)) : Value) = .int .i64 (k + 1))] (by kernel_rfl) ⟨(w64 (by omega) (by omega)), trivial⟩ (fun act85 f84 => ?_)
  clear f83
  refine At.done rfl ?_
  refine t_n ?_
  have f86 := f84.sub (r := [(6, .int .i64 (k + 1)), (4, .pointer (some ⟨w9.heap.size, 0, none⟩)), (3, .pointer (some ⟨w1.heap.size, 0, none⟩)), (2, .pointer (some ⟨w.heap.size, 0, none⟩))]) ⟨rfl, rfl, rfl, rfl, trivial⟩
  exact ⟨_, (by omega), (k + 1), (xs).set (k : Int).toNat (andW (gI xs k) (gI t k)), rfl, f86, e80, bx75, bx81, bx82, (by omega), (by omega), (by omega), (mixW_next hmx (by omega) (by omega) (by rw [mixW_at hmx (by omega) (by omega)]))⟩
 ·have q87 := of_decide_eq_false h45
  refine wp_exit ?_
  refine t_e ?_
  refine t_e ?_
  refine b_e ?_
  refine t_n ?_
  have f88 := f43.sub (r := [(4, .pointer (some ⟨w9.heap.size, 0, none⟩)), (2, .pointer (some ⟨w.heap.size, 0, none⟩))]) ⟨rfl, rfl, trivial⟩
  clear f43
  refine wp_seq ?_
  refine At.start ?_
  refine At.rd f88 1 [[.cs ((xs : List Int).map wV)]] [(18, .agg ((xs : List Int).map wV).toArray)] [(((xs : List Int).map wV).length = 4), (∀ (j : Nat) (v : Value), ((xs : List Int).map wV)[j]? = some v → w33.cell? ((⟨w.heap.size, 0, none⟩ : Addr).add j) = some v)] (by kernel_rfl) ⟨(by simp only [List.length_map, List.length_set, List.length_replicate, List.length_cons, List.length_nil]; first | done | assumption | exact from_len _ | exact of_len _ | exact ofZ_len _ | exact (ofW_ok _).1 | exact (fullW_W _).1 | exact (okW_with (by assumption)).1 | exact (okW_less (by assumption)).1 | exact put_len (from_len _) | exact orD_len _ _ | exact andD_len _ _ | exact minusD_len _ _ | exact fullD_len _ | (refine okLen ?_; (repeat (first | assumption | exact ofW_ok _ | exact fullW_W _ | apply okW_with | apply okW_less | refine okW_orS ?_ ?_ | refine okW_andS ?_ ?_ | refine okW_minusS ?_ ?_)); done) | omega | rfl), bx37.whole, trivial⟩ (fun act90 f89 => ?_)
  clear f88
  refine At.act f89 (storeBlk (t := 28) (b := w9.heap.size) (n := 4) (cs' := ((xs : List Int).map wV)) (by kernel_rfl) (by kernel_rfl) (by simp only [List.length_map, List.length_set, List.length_replicate, List.length_cons, List.length_nil]; first | done | assumption | exact from_len _ | exact of_len _ | exact ofZ_len _ | exact (ofW_ok _).1 | exact (fullW_W _).1 | exact (okW_with (by assumption)).1 | exact (okW_less (by assumption)).1 | exact put_len (from_len _) | exact orD_len _ _ | exact andD_len _ _ | exact minusD_len _ _ | exact fullD_len _ | (refine okLen ?_; (repeat (first | assumption | exact ofW_ok _ | exact fullW_W _ | apply okW_with | apply okW_less | refine okW_orS ?_ ?_ | refine okW_andS ?_ ?_ | refine okW_minusS ?_ ?_)); done) | omega | rfl) oneW_ ((show ((xs : List Int).map wV).length = 4 from (by simp only [List.length_map, List.length_set, List.length_replicate, List.length_cons, List.length_nil]; first | done | assumption | exact from_len _ | exact of_len _ | exact ofZ_len _ | exact (ofW_ok _).1 | exact (fullW_W _).1 | exact (okW_with (by assumption)).1 | exact (okW_less (by assumption)).1 | exact put_len (from_len _) | exact orD_len _ _ | exact andD_len _ _ | exact minusD_len _ _ | exact fullD_len _ | (refine okLen ?_; (repeat (first | assumption | exact ofW_ok _ | exact fullW_W _ | apply okW_with | apply okW_less | refine okW_orS ?_ ?_ | refine okW_andS ?_ ?_ | refine okW_minusS ?_ ?_)); done) | omega | rfl)).trans (show ((List.replicate 4 (0 : Int) : List Int).map wV).length = 4 from (by simp only [List.length_map, List.length_set, List.length_replicate, List.length_cons, List.length_nil]; first | done | assumption | exact from_len _ | exact of_len _ | exact ofZ_len _ | exact (ofW_ok _).1 | exact (fullW_W _).1 | exact (okW_with (by assumption)).1 | exact (okW_less (by assumption)).1 | exact put_len (from_len _) | exact orD_len _ _ | exact andD_len _ _ | exact minusD_len _ _ | exact fullD_len _ | (refine okLen ?_; (repeat (first | assumption | exact ofW_ok _ | exact fullW_W _ | apply okW_with | apply okW_less | refine okW_orS ?_ ?_ | refine okW_andS ?_ ?_ | refine okW_minusS ?_ ?_)); done) | omega | rfl)).symm) bx39) ?_
  rintro d_ v_ w91 ⟨rfl, g92, bx93⟩
  refine ⟨_, rfl, fun act95 f94 => ?_⟩
  clear f89
  have szw91 := g92.size
  have e96 := e34.gr g92 (fun k h => by injection h; omega)
  clear e34
  have bx97 := bx37.gr g92 (fun h => by injection h; omega)
  clear bx37
  have bx98 := bx38.gr g92 (fun h => by injection h; omega)
  clear bx38
  clear bx39 g92
  refine At.done rfl ?_
  refine t_n ?_
  have f99 := f94.sub (r := [(4, .pointer (some ⟨w9.heap.size, 0, none⟩))]) ⟨rfl, trivial⟩
  clear f94
  refine wp_ret ?_
  refine retB_ f99 (sl := 4) (cs := ((xs : List Int).map wV)) (m := 4) rfl (by kernel_rfl) (by kernel_rfl) (by simp only [List.length_map, List.length_set, List.length_replicate, List.length_cons, List.length_nil]; first | done | assumption | exact from_len _ | exact of_len _ | exact ofZ_len _ | exact (ofW_ok _).1 | exact (fullW_W _).1 | exact (okW_with (by assumption)).1 | exact (okW_less (by assumption)).1 | exact put_len (from_len _) | exact orD_len _ _ | exact andD_len _ _ | exact minusD_len _ _ | exact fullD_len _ | (refine okLen ?_; (repeat (first | assumption | exact ofW_ok _ | exact fullW_W _ | apply okW_with | apply okW_less | refine okW_orS ?_ ?_ | refine okW_andS ?_ ?_ | refine okW_minusS ?_ ?_)); done) | omega | rfl) bx93 ?_
  exact ⟨ret_map (mixW_end hmx (by omega)), e96⟩

set_option maxHeartbeats 4000000 in
theorem minus_any {s : List Int} {t : List Int} {w : World} (hs : OkW s) (ht : OkW t) :
    Calls Tryd.prog 22 #[.agg ((s : List Int).map wV).toArray, .agg ((t : List Int).map wV).toArray] w fun e w' => e = .returned (.agg (((ofZW (fun j => notW (gI s j) (gI t j)) : List Int)).map wV).toArray) ∧ Ext w w' := by
 have hls := hs.1
 have hlt := ht.1
 refine enter_ (args := [.agg ((s : List Int).map wV).toArray, .agg ((t : List Int).map wV).toArray]) Tryd.func22 rfl Tryd.ntmps22 (Nat.le_of_ble_eq_true rfl) (fun act0 f0 => ?_)
 have e0 := Ext.refl w
 refine wp_seq ?_
 refine At.start ?_
 refine At.seq f0 1 [[]] [(2, .pointer (some ⟨w.heap.size, 0, none⟩))] (w.alloc (.cells ((s : List Int).map wV).toArray 28 (0, 0))) [] (by kernel_rfl) trivial (fun act4 w1 hw2 f3 => ?_)
 clear f0
 have g5 := gr_alloc hw2
 have szw1 := g5.size
 have e7 := e0.gr g5 no_row
 clear e0
 have bx8 : Bx w1 (w.heap.size) ((s : List Int).map wV) 28 := Bx.new hw2
 have := bx8.lt
 clear g5 hw2
 refine At.seq f3 1 [[]] [(3, .pointer (some ⟨w1.heap.size, 0, none⟩))] (w1.alloc (.cells ((t : List Int).map wV).toArray 28 (0, 0))) [] (by kernel_rfl) trivial (fun act12 w9 hw10 f11 => ?_)
 clear f3
 have g13 := gr_alloc hw10
 have szw9 := g13.size
 have e15 := e7.gr g13 no_row
 clear e7
 have bx16 := bx8.gr g13 (by simp)
 clear bx8
 have bx17 : Bx w9 (w1.heap.size) ((t : List Int).map wV) 28 := Bx.new hw10
 have := bx17.lt
 clear g13 hw10
 refine At.seq f11 1 [[]] [(4, .pointer (some ⟨w9.heap.size, 0, none⟩))] (w9.alloc (.cells ((List.replicate 4 (0 : Int) : List Int).map wV).toArray 28 (0, 0))) [] (by kernel_rfl) trivial (fun act21 w18 hw19 f20 => ?_)
 clear f11
 have g22 := gr_alloc hw19
 have szw18 := g22.size
 have e24 := e15.gr g22 no_row
 clear e15
 have bx25 := bx16.gr g22 (by simp)
 clear bx16
 have bx26 := bx17.gr g22 (by simp)
 clear bx17
 have bx27 : Bx w18 (w9.heap.size) ((List.replicate 4 (0 : Int) : List Int).map wV) 28 := Bx.new hw19
 have := bx27.lt
 clear g22 hw19
 refine At.done rfl ?_
 refine t_n ?_
 have f28 := f20.sub (r := [(4, .pointer (some ⟨w9.heap.size, 0, none⟩)), (3, .pointer (some ⟨w1.heap.size, 0, none⟩)), (2, .pointer (some ⟨w.heap.size, 0, none⟩))]) ⟨rfl, rfl, rfl, trivial⟩
 clear f20
 refine wp_seq ?_
 refine wp_seq ?_
 refine At.start ?_
 refine At.rd f28 1 [[]] [(6, .int .i64 (0))] [] (by kernel_rfl) trivial (fun act30 f29 => ?_)
 clear f28
 refine At.done rfl ?_
 refine t_n ?_
 refine wp_block ?_
 have f31 := f29.sub (r := [(6, .int .i64 (0)), (4, .pointer (some ⟨w9.heap.size, 0, none⟩)), (3, .pointer (some ⟨w1.heap.size, 0, none⟩)), (2, .pointer (some ⟨w.heap.size, 0, none⟩))]) ⟨rfl, rfl, rfl, rfl, trivial⟩
 refine loop_g (fun (m_ : Nat) a_ w_ => ∃ (k : Int) (xs : List Int), m_ = (4 - k).toNat ∧ (Frm 19 a_ [(6, .int .i64 (k)), (4, .pointer (some ⟨w9.heap.size, 0, none⟩)), (3, .pointer (some ⟨w1.heap.size, 0, none⟩)), (2, .pointer (some ⟨w.heap.size, 0, none⟩))]) ∧ (Ext w w_) ∧ (Bx w_ (w.heap.size) ((xs : List Int).map wV) 28) ∧ (Bx w_ (w1.heap.size) ((t : List Int).map wV) 28) ∧ (Bx w_ (w9.heap.size) ((List.replicate 4 (0 : Int) : List Int).map wV) 28) ∧ (0 ≤ k) ∧ (k ≤ 4) ∧ (xs.length = 4) ∧ (MixW s xs (fun j => notW (gI s j) (gI t j)) k)) _ ⟨0, s, rfl, f31, e24, bx25, bx26, bx27, (by omega), (by omega), (by omega), (mixW_0 hls)⟩ ?_
 clear f31 f29
 clear bx25
 clear bx26
 clear bx27
 clear e24
 intro m_ act32 w33 ⟨k, xs, hm35, f36, e34, bx37, bx38, bx39, i40, i41, i42, hmx⟩
 have szw33 := e34.size
 have := bx37.lt
 have := bx38.lt
 have := bx39.lt
 refine wp_seq ?_
 refine At.start ?_
 refine At.rd f36 1 [[]] [(7, .bool (decide ((k : Int) < 4)))] [] (by kernel_rfl) trivial (fun act44 f43 => ?_)
 clear f36
 refine At.done rfl ?_
 refine t_n ?_
 refine wp_seq ?_
 refine cond_S f43 (t := decide ((k : Int) < 4)) rfl (fun h45 => ?_) (fun h45 => ?_)
 ·have q46 := of_decide_eq_true h45
  refine wp_skip ?_
  refine t_n ?_
  have f47 := f43.sub (r := [(6, .int .i64 (k)), (4, .pointer (some ⟨w9.heap.size, 0, none⟩)), (3, .pointer (some ⟨w1.heap.size, 0, none⟩)), (2, .pointer (some ⟨w.heap.size, 0, none⟩))]) ⟨rfl, rfl, rfl, rfl, trivial⟩
  clear f43
  refine wp_seq ?_
  refine wp_block ?_
  refine wp_seq ?_
  refine At.start ?_
  refine At.rd f47 2 [[], []] [(5, .int .i64 (k)), (8, .int .i64 (k))] [] (by kernel_rfl) trivial (fun act49 f48 => ?_)
  clear f47
  refine At.done rfl ?_
  refine t_n ?_
  have f50 := f48.sub (r := [(5, .int .i64 (k)), (6, .int .i64 (k)), (4, .pointer (some ⟨w9.heap.size, 0, none⟩)), (3, .pointer (some ⟨w1.heap.size, 0, none⟩)), (2, .pointer (some ⟨w.heap.size, 0, none⟩))]) ⟨rfl, rfl, rfl, rfl, rfl, trivial⟩
  clear f48
  obtain ⟨Cs51, hCs52⟩ : ∃ c : List (Addr × Value), c = [(((⟨w1.heap.size, 0, none⟩ : Addr).add ((k : Int).toNat * 1)), (.int .u64 (gI t k)))] := ⟨_, rfl⟩
  have hS53 : HoldsC Cs51 w33 := by rw [hCs52]; exact ⟨(Bx.arrM (f := wV) (0 : Int) bx38 k (by omega) (by omega)), trivial⟩
  refine AtH.start Cs51 9 #[false, false, false, false, false, false, false, false, false] (by kernel_rfl) rfl rfl (fun w55 hw56 => ?_)
  have g54 := gr_drew hw56
  have hS57 := hS53.gr g54
  have szw55 := g54.size
  have e58 := e34.gr g54 no_row
  clear e34
  have bx59 := bx37.gr g54 (by simp)
  clear bx37
  have bx60 := bx38.gr g54 (by simp)
  clear bx38
  have bx61 := bx39.gr g54 (by simp)
  clear bx39
  clear g54 hw56 hS53
  refine AtH.rd (by kernel_rfl) (fun d v c a w h => by cases d <;> exact h) hS57 [0, 1, 3, 4, 5] [[], [], [], [], [.ld (.int .u64 (gI t k))]] [(14, .int .u64 (gI t k)), (13, .pointer (some ((⟨w1.heap.size, 0, none⟩ : Addr).add ((k : Int).toNat * 1)))), (12, .int .i64 (k)), (10, .pointer (some ((⟨w.heap.size, 0, none⟩ : Addr).add ((k : Int).toNat * 1)))), (9, .int .i64 (k))] #[true, true, false, true, true, true, false, false, false] [(0 ≤ (k : Int)), ((k : Int) < (4 : Nat)), (0 ≤ (k : Int)), ((k : Int) < (4 : Nat)), (∃ j_ : Nat, Cs51[j_]? = some (((⟨w1.heap.size, 0, none⟩ : Addr).add ((k : Int).toNat * 1)), (.int .u64 (gI t k))))] 4 f50 (by kernel_rfl) ⟨(by omega), (by omega), (by omega), (by omega), ⟨0, by rw [hCs52]; rfl⟩, trivial⟩ (fun act63 f62 => ?_)
  clear f50
  refine AtH.all [2] 3 (by kernel_rfl) (by simp) ⟨?_, trivial⟩
  refine OneH.seq f62 [[.ld (.int .u64 (gI xs k))]] [(11, .int .u64 (gI xs k))] w55 [(w55.cell? ((⟨w.heap.size, 0, none⟩ : Addr).add ((k : Int).toNat * 1)) = some (.int .u64 (gI xs k)))] #[true, true, true, true, true, true, false, false, false] (by kernel_rfl) (by kernel_rfl) (by kernel_rfl) ⟨(Bx.arrM (f := wV) (0 : Int) bx59 k (by omega) (by omega)), trivial⟩ (fun act65 w66 hw67 f64 => ?_)
  obtain rfl : w55 = w66 := hw67.symm
  clear f62
  refine ⟨hS57, ?_⟩
  refine AtH.rd (by kernel_rfl) (fun d v c a w h => by cases d <;> exact h) hS57 [6] [[.as_ (.int .u64 (notW (gI xs k) (gI t k)))]] [(15, .int .u64 (notW (gI xs k) (gI t k)))] #[true, true, true, true, true, true, true, false, false] [((.int .u64 (IntKind.u64.wrap ((BitVec.ofInt 64 (gI xs k) &&& ~~~ (BitVec.ofInt 64 (gI t k))).toNat : Int)) : Value) = .int .u64 (notW (gI xs k) (gI t k)))] 2 f64 (by kernel_rfl) ⟨(congrArg (Value.int .u64) (andNot64 (by first | exact hs.2 _ | exact ht.2 _ | exact oneW_W (by omega) (by omega) | exact mixW_W hmx (by omega) (by omega) hs) (by first | exact hs.2 _ | exact ht.2 _ | exact oneW_W (by omega) (by omega) | exact mixW_W hmx (by omega) (by omega) hs))), trivial⟩ (fun act69 f68 => ?_)
  clear f64
  refine AtH.rd (by kernel_rfl) (fun d v c a w h => by cases d <;> exact h) hS57 [7] [[]] [(16, .pointer (some ((⟨w.heap.size, 0, none⟩ : Addr).add ((k : Int).toNat * 1))))] #[true, true, true, true, true, true, true, true, false] [(0 ≤ (k : Int)), ((k : Int) < (4 : Nat))] 1 f68 (by kernel_rfl) ⟨(by omega), (by omega), trivial⟩ (fun act71 f70 => ?_)
  clear f68
  refine AtH.all [8] 0 (by kernel_rfl) (by simp) ⟨?_, trivial⟩
  refine OneH.act f70 #[true, true, true, true, true, true, true, true, true] (by kernel_rfl) (storeArrM (f := wV) (t := 26) (b := w.heap.size) (i := k) (x := notW (gI xs k) (gI t k)) (v := .int .u64 (notW (gI xs k) (gI t k))) (by kernel_rfl) rfl rfl (by kernel_rfl) bx59 (by omega) (by omega)) ?_
  rintro d_ v_ w73 ⟨rfl, g74, bx75⟩
  have hS79 := hS57.gr' g74 (by rw [hCs52]; exact ⟨(by simp only [add_block]; omega), trivial⟩)
  refine ⟨_, rfl, fun act78 f77 => ⟨hS79, ?_⟩⟩
  clear f70
  have hl76 : ((xs).set (k : Int).toNat (notW (gI xs k) (gI t k))).length = (xs : List Int).length := List.length_set
  have szw73 := g74.size
  have e80 := e58.gr g74 (fun k h => by injection h; omega)
  clear e58
  have bx81 := bx60.gr g74 (fun h => by injection h; omega)
  clear bx60
  have bx82 := bx61.gr g74 (fun h => by injection h; omega)
  clear bx61
  clear bx59 g74
  refine AtH.done (by kernel_rfl) ?_
  clear hS79
  refine b_n ?_
  refine t_n ?_
  have f83 := f77.sub (r := [(6, .int .i64 (k)), (4, .pointer (some ⟨w9.heap.size, 0, none⟩)), (3, .pointer (some ⟨w1.heap.size, 0, none⟩)), (2, .pointer (some ⟨w.heap.size, 0, none⟩))]) ⟨rfl, rfl, rfl, rfl, trivial⟩
  clear f77
  refine At.start ?_
  refine At.rd f83 2 [[.as_ (.int .i64 (k + 1))], []] [(6, .int .i64 (k + 1)), (17, .int .i64 (k + 1))] [((.int .i64 (IntKind.i64.wrap (k + 1)) : Value) = .int .i64 (k + 1))] (by kernel_rfl) ⟨(w64 (by omega) (by omega)), trivial⟩ (fun act85 f84 => ?_)
  clear f83
  refine At.done rfl ?_
  refine t_n ?_
  have f86 := f84.sub (r := [(6, .int .i64 (k + 1)), (4, .pointer (some ⟨w9.heap.size, 0, none⟩)), (3, .pointer (some ⟨w1.heap.size, 0, none⟩)), (2, .pointer (some ⟨w.heap.size, 0, none⟩))]) ⟨rfl, rfl, rfl, rfl, trivial⟩
  exact ⟨_, (by omega), (k + 1), (xs).set (k : Int).toNat (notW (gI xs k) (gI t k)), rfl, f86, e80, bx75, bx81, bx82, (by omega), (by omega), (by omega), (mixW_next hmx (by omega) (by omega) (by rw [mixW_at hmx (by omega) (by omega)]))⟩
 ·have q87 := of_decide_eq_false h45
  refine wp_exit ?_
  refine t_e ?_
  refine t_e ?_
  refine b_e ?_
  refine t_n ?_
  have f88 := f43.sub (r := [(4, .pointer (some ⟨w9.heap.size, 0, none⟩)), (2, .pointer (some ⟨w.heap.size, 0, none⟩))]) ⟨rfl, rfl, trivial⟩
  clear f43
  refine wp_seq ?_
  refine At.start ?_
  refine At.rd f88 1 [[.cs ((xs : List Int).map wV)]] [(18, .agg ((xs : List Int).map wV).toArray)] [(((xs : List Int).map wV).length = 4), (∀ (j : Nat) (v : Value), ((xs : List Int).map wV)[j]? = some v → w33.cell? ((⟨w.heap.size, 0, none⟩ : Addr).add j) = some v)] (by kernel_rfl) ⟨(by simp only [List.length_map, List.length_set, List.length_replicate, List.length_cons, List.length_nil]; first | done | assumption | exact from_len _ | exact of_len _ | exact ofZ_len _ | exact (ofW_ok _).1 | exact (fullW_W _).1 | exact (okW_with (by assumption)).1 | exact (okW_less (by assumption)).1 | exact put_len (from_len _) | exact orD_len _ _ | exact andD_len _ _ | exact minusD_len _ _ | exact fullD_len _ | (refine okLen ?_; (repeat (first | assumption | exact ofW_ok _ | exact fullW_W _ | apply okW_with | apply okW_less | refine okW_orS ?_ ?_ | refine okW_andS ?_ ?_ | refine okW_minusS ?_ ?_)); done) | omega | rfl), bx37.whole, trivial⟩ (fun act90 f89 => ?_)
  clear f88
  refine At.act f89 (storeBlk (t := 28) (b := w9.heap.size) (n := 4) (cs' := ((xs : List Int).map wV)) (by kernel_rfl) (by kernel_rfl) (by simp only [List.length_map, List.length_set, List.length_replicate, List.length_cons, List.length_nil]; first | done | assumption | exact from_len _ | exact of_len _ | exact ofZ_len _ | exact (ofW_ok _).1 | exact (fullW_W _).1 | exact (okW_with (by assumption)).1 | exact (okW_less (by assumption)).1 | exact put_len (from_len _) | exact orD_len _ _ | exact andD_len _ _ | exact minusD_len _ _ | exact fullD_len _ | (refine okLen ?_; (repeat (first | assumption | exact ofW_ok _ | exact fullW_W _ | apply okW_with | apply okW_less | refine okW_orS ?_ ?_ | refine okW_andS ?_ ?_ | refine okW_minusS ?_ ?_)); done) | omega | rfl) oneW_ ((show ((xs : List Int).map wV).length = 4 from (by simp only [List.length_map, List.length_set, List.length_replicate, List.length_cons, List.length_nil]; first | done | assumption | exact from_len _ | exact of_len _ | exact ofZ_len _ | exact (ofW_ok _).1 | exact (fullW_W _).1 | exact (okW_with (by assumption)).1 | exact (okW_less (by assumption)).1 | exact put_len (from_len _) | exact orD_len _ _ | exact andD_len _ _ | exact minusD_len _ _ | exact fullD_len _ | (refine okLen ?_; (repeat (first | assumption | exact ofW_ok _ | exact fullW_W _ | apply okW_with | apply okW_less | refine okW_orS ?_ ?_ | refine okW_andS ?_ ?_ | refine okW_minusS ?_ ?_)); done) | omega | rfl)).trans (show ((List.replicate 4 (0 : Int) : List Int).map wV).length = 4 from (by simp only [List.length_map, List.length_set, List.length_replicate, List.length_cons, List.length_nil]; first | done | assumption | exact from_len _ | exact of_len _ | exact ofZ_len _ | exact (ofW_ok _).1 | exact (fullW_W _).1 | exact (okW_with (by assumption)).1 | exact (okW_less (by assumption)).1 | exact put_len (from_len _) | exact orD_len _ _ | exact andD_len _ _ | exact minusD_len _ _ | exact fullD_len _ | (refine okLen ?_; (repeat (first | assumption | exact ofW_ok _ | exact fullW_W _ | apply okW_with | apply okW_less | refine okW_orS ?_ ?_ | refine okW_andS ?_ ?_ | refine okW_minusS ?_ ?_)); done) | omega | rfl)).symm) bx39) ?_
  rintro d_ v_ w91 ⟨rfl, g92, bx93⟩
  refine ⟨_, rfl, fun act95 f94 => ?_⟩
  clear f89
  have szw91 := g92.size
  have e96 := e34.gr g92 (fun k h => by injection h; omega)
  clear e34
  have bx97 := bx37.gr g92 (fun h => by injection h; omega)
  clear bx37
  have bx98 := bx38.gr g92 (fun h => by injection h; omega)
  clear bx38
  clear bx39 g92
  refine At.done rfl ?_
  refine t_n ?_
  have f99 := f94.sub (r := [(4, .pointer (some ⟨w9.heap.size, 0, none⟩))]) ⟨rfl, trivial⟩
  clear f94
  refine wp_ret ?_
  refine retB_ f99 (sl := 4) (cs := ((xs : List Int).map wV)) (m := 4) rfl (by kernel_rfl) (by kernel_rfl) (by simp only [List.length_map, List.length_set, List.length_replicate, List.length_cons, List.length_nil]; first | done | assumption | exact from_len _ | exact of_len _ | exact ofZ_len _ | exact (ofW_ok _).1 | exact (fullW_W _).1 | exact (okW_with (by assumption)).1 | exact (okW_less (by assumption)).1 | exact put_len (from_len _) | exact orD_len _ _ | exact andD_len _ _ | exact minusD_len _ _ | exact fullD_len _ | (refine okLen ?_; (repeat (first | assumption | exact ofW_ok _ | exact fullW_W _ | apply okW_with | apply okW_less | refine okW_orS ?_ ?_ | refine okW_andS ?_ ?_ | refine okW_minusS ?_ ?_)); done) | omega | rfl) bx93 ?_
  exact ⟨ret_map (mixW_end hmx (by omega)), e96⟩

set_option maxHeartbeats 4000000 in
theorem has_any {s : List Int} {n : Int} {w : World} (hs : OkW s) :
    Calls Tryd.prog 23 #[.agg ((s : List Int).map wV).toArray, .int .i64 (n)] w fun e w' => e = .returned (.bool (hasW s n)) ∧ Ext w w' := by
 have hls := hs.1
 refine enter_ (args := [.agg ((s : List Int).map wV).toArray, .int .i64 (n)]) Tryd.func23 rfl Tryd.ntmps23 (Nat.le_of_ble_eq_true rfl) (fun act0 f0 => ?_)
 have e0 := Ext.refl w
 refine wp_seq ?_
 refine At.start ?_
 refine At.seq f0 1 [[]] [(2, .pointer (some ⟨w.heap.size, 0, none⟩))] (w.alloc (.cells ((s : List Int).map wV).toArray 28 (0, 0))) [] (by kernel_rfl) trivial (fun act4 w1 hw2 f3 => ?_)
 clear f0
 have g5 := gr_alloc hw2
 have szw1 := g5.size
 have e7 := e0.gr g5 no_row
 clear e0
 have bx8 : Bx w1 (w.heap.size) ((s : List Int).map wV) 28 := Bx.new hw2
 have := bx8.lt
 clear g5 hw2
 refine At.rd f3 1 [[]] [(4, .bool false)] [] (by kernel_rfl) trivial (fun act10 f9 => ?_)
 clear f3
 refine At.done rfl ?_
 refine t_n ?_
 have f11 := f9.sub (r := [(2, .pointer (some ⟨w.heap.size, 0, none⟩)), (1, .int .i64 (n))]) ⟨rfl, rfl, trivial⟩
 clear f9
 refine wp_seq ?_
 refine At.start ?_
 rcases Bool.eq_false_or_eq_true (decide ((n : Int) ≥ 0)) with h12 | h12
 ·have q13 := of_decide_eq_true h12
  rcases Bool.eq_false_or_eq_true (decide ((n : Int) < 256)) with h14 | h14
  ·have q15 := of_decide_eq_true h14
   refine At.rd f11 19 [[], [], [.as_ (.bool true)], [], [], [], [.as_ (.bool true)], [], [.as_ (.int .i64 ((n : Int) / 64))], [], [.ld (.int .u64 (gI s ((n : Int) / 64)))], [], [.as_ (.int .i64 ((n : Int) % 64))], [.as_ (.int .u64 ((n : Int) % 64))], [], [], [], [], []] [(4, .bool ((IntKind.u64.wrap ((BitVec.ofInt 64 ((gI s ((n : Int) / 64) : Int).fdiv (2 ^ (min ((n : Int) % 64 : Int).toNat IntKind.u64.bits))) &&& BitVec.ofInt 64 1).toNat : Int) : Int) == 1)), (22, .bool ((IntKind.u64.wrap ((BitVec.ofInt 64 ((gI s ((n : Int) / 64) : Int).fdiv (2 ^ (min ((n : Int) % 64 : Int).toNat IntKind.u64.bits))) &&& BitVec.ofInt 64 1).toNat : Int) : Int) == 1)), (21, .bool ((IntKind.u64.wrap ((BitVec.ofInt 64 ((gI s ((n : Int) / 64) : Int).fdiv (2 ^ (min ((n : Int) % 64 : Int).toNat IntKind.u64.bits))) &&& BitVec.ofInt 64 1).toNat : Int) : Int) == 1)), (20, .int .u64 (IntKind.u64.wrap ((BitVec.ofInt 64 ((gI s ((n : Int) / 64) : Int).fdiv (2 ^ (min ((n : Int) % 64 : Int).toNat IntKind.u64.bits))) &&& BitVec.ofInt 64 1).toNat : Int))), (19, .int .u64 ((gI s ((n : Int) / 64) : Int).fdiv (2 ^ (min ((n : Int) % 64 : Int).toNat IntKind.u64.bits)))), (18, .int .u64 ((n : Int) % 64)), (17, .int .i64 ((n : Int) % 64)), (16, .int .i64 (n)), (15, .int .u64 (gI s ((n : Int) / 64))), (14, .pointer (some ((⟨w.heap.size, 0, none⟩ : Addr).add (((n : Int) / 64 : Int).toNat * 1)))), (13, .int .i64 ((n : Int) / 64)), (12, .int .i64 (n)), (11, .bool true), (10, .bool (decide ((n : Int) < 256))), (9, .bool (decide ((n : Int) < 256))), (8, .int .i64 (n)), (7, .bool true), (6, .bool (decide ((n : Int) ≥ 0))), (5, .int .i64 (n))] [((.bool (decide ((n : Int) ≥ 0)) : Value) = .bool true), ((.bool (decide ((n : Int) < 256)) : Value) = .bool true), (0 ≤ (6 : Int)), ((.int .i64 ((n : Int).fdiv (2 ^ (min (6 : Int).toNat IntKind.i64.bits))) : Value) = .int .i64 ((n : Int) / 64)), (0 ≤ ((n : Int) / 64 : Int)), (((n : Int) / 64 : Int) < (4 : Nat)), (w1.cell? ((⟨w.heap.size, 0, none⟩ : Addr).add (((n : Int) / 64 : Int).toNat * 1)) = some (.int .u64 (gI s ((n : Int) / 64)))), ((.int .i64 (IntKind.i64.wrap ((BitVec.ofInt 64 n &&& BitVec.ofInt 64 63).toNat : Int)) : Value) = .int .i64 ((n : Int) % 64)), ((.int .u64 (IntKind.u64.wrap ((n : Int) % 64)) : Value) = .int .u64 ((n : Int) % 64)), (0 ≤ ((n : Int) % 64 : Int))] (by kernel_rfl) ⟨(congrArg Value.bool h12), (congrArg Value.bool h14), (by omega), (congrArg (Value.int .i64) (shr6 _)), (by omega), (by omega), (Bx.arrM (f := wV) (0 : Int) bx8 ((n : Int) / 64) (by omega) (by omega)), (congrArg (Value.int .i64) (and63 (by omega) (by omega))), (wu64 (by omega) (by omega)), (by omega), trivial⟩ (fun act17 f16 => ?_)
   clear f11
   refine At.done rfl ?_
   refine t_n ?_
   have f18 := f16.sub (r := [(4, .bool ((IntKind.u64.wrap ((BitVec.ofInt 64 ((gI s ((n : Int) / 64) : Int).fdiv (2 ^ (min ((n : Int) % 64 : Int).toNat IntKind.u64.bits))) &&& BitVec.ofInt 64 1).toNat : Int) : Int) == 1))]) ⟨rfl, trivial⟩
   clear f16
   refine wp_ret ?_
   refine ret_ f18 [] [.bool ((IntKind.u64.wrap ((BitVec.ofInt 64 ((gI s ((n : Int) / 64) : Int).fdiv (2 ^ (min ((n : Int) % 64 : Int).toNat IntKind.u64.bits))) &&& BitVec.ofInt 64 1).toNat : Int) : Int) == 1)] [] (by kernel_rfl) trivial ?_
   exact ⟨ret_eq (congrArg Value.bool (by first | exact hasW_yes hs (by omega) (by omega) | exact hasW_no (by omega))), e7⟩
  ·have q19 := of_decide_eq_false h14
   refine At.rd f11 19 [[], [], [.as_ (.bool true)], [], [], [], [.as_ (.bool false)], [], [], [], [], [], [], [], [], [], [], [], []] [(4, .bool false), (22, .bool false), (21, undef), (20, undef), (19, undef), (18, undef), (17, undef), (16, undef), (15, undef), (14, undef), (13, undef), (12, undef), (11, .bool false), (10, .bool (decide ((n : Int) < 256))), (9, .bool (decide ((n : Int) < 256))), (8, .int .i64 (n)), (7, .bool true), (6, .bool (decide ((n : Int) ≥ 0))), (5, .int .i64 (n))] [((.bool (decide ((n : Int) ≥ 0)) : Value) = .bool true), ((.bool (decide ((n : Int) < 256)) : Value) = .bool false)] (by kernel_rfl) ⟨(congrArg Value.bool h12), (congrArg Value.bool h14), trivial⟩ (fun act21 f20 => ?_)
   clear f11
   refine At.done rfl ?_
   refine t_n ?_
   have f22 := f20.sub (r := [(4, .bool false)]) ⟨rfl, trivial⟩
   clear f20
   refine wp_ret ?_
   refine ret_ f22 [] [.bool false] [] (by kernel_rfl) trivial ?_
   exact ⟨ret_eq (congrArg Value.bool (by first | exact hasW_yes hs (by omega) (by omega) | exact hasW_no (by omega))), e7⟩
 ·have q23 := of_decide_eq_false h12
  refine At.rd f11 19 [[], [], [.as_ (.bool false)], [], [], [], [], [], [], [], [], [], [], [], [], [], [], [], []] [(4, .bool false), (22, .bool false), (21, undef), (20, undef), (19, undef), (18, undef), (17, undef), (16, undef), (15, undef), (14, undef), (13, undef), (12, undef), (11, .bool false), (10, .bool false), (9, undef), (8, undef), (7, .bool false), (6, .bool (decide ((n : Int) ≥ 0))), (5, .int .i64 (n))] [((.bool (decide ((n : Int) ≥ 0)) : Value) = .bool false)] (by kernel_rfl) ⟨(congrArg Value.bool h12), trivial⟩ (fun act25 f24 => ?_)
  clear f11
  refine At.done rfl ?_
  refine t_n ?_
  have f26 := f24.sub (r := [(4, .bool false)]) ⟨rfl, trivial⟩
  clear f24
  refine wp_ret ?_
  refine ret_ f26 [] [.bool false] [] (by kernel_rfl) trivial ?_
  exact ⟨ret_eq (congrArg Value.bool (by first | exact hasW_yes hs (by omega) (by omega) | exact hasW_no (by omega))), e7⟩

end Go.Proofs.YtkpljmalbmcdfaaDoor
