/-
  A walk of a Go function, printed by a program of this repo. Conditions: what the theorems name.
-/
import Derived.Test.YtepekncgknlcjaaDoorPureSet
set_option linter.unusedVariables false
set_option linter.unusedSimpArgs false
namespace Go.Proofs.YtepekncgknlcjaaDoor
open Go Go.RowKit

set_option maxHeartbeats 4000000 in
theorem put_any {l : List Bool} {n : Int} {vv : Bool} {w : World} (hl : l.length = 256) :
    Calls Tryd.prog 33 #[.agg ((l : List Bool).map Value.bool).toArray, .int .i64 (n), .bool (vv)] w fun e w' => e = .returned (.agg (((putD l n vv : List Bool)).map Value.bool).toArray) ∧ Ext w w' := by
 refine enter_ (args := [.agg ((l : List Bool).map Value.bool).toArray, .int .i64 (n), .bool (vv)]) Tryd.func33 rfl Tryd.ntmps33 (Nat.le_of_ble_eq_true rfl) (fun act0 f0 => ?_)
 have e0 := Ext.refl w
 refine wp_seq ?_
 refine At.start ?_
 refine At.seq f0 1 [[]] [(3, .pointer (some ⟨w.heap.size, 0, none⟩))] (w.alloc (.cells ((l : List Bool).map Value.bool).toArray 32 (0, 0))) [] (by kernel_rfl) trivial (fun act4 w1 hw2 f3 => ?_)
 clear f0
 have g5 := gr_alloc hw2
 have szw1 := g5.size
 have e7 := e0.gr g5 no_row
 clear e0
 have bx8 : Bx w1 (w.heap.size) ((l : List Bool).map Value.bool) 32 := Bx.new hw2
 have := bx8.lt
 clear g5 hw2
 refine At.seq f3 1 [[]] [(6, .pointer (some ⟨w1.heap.size, 0, none⟩))] (w1.alloc (.cells ((List.replicate 256 false : List Bool).map Value.bool).toArray 32 (0, 0))) [] (by kernel_rfl) trivial (fun act12 w9 hw10 f11 => ?_)
 clear f3
 have g13 := gr_alloc hw10
 have szw9 := g13.size
 have e15 := e7.gr g13 no_row
 clear e7
 have bx16 := bx8.gr g13 (by simp)
 clear bx8
 have bx17 : Bx w9 (w1.heap.size) ((List.replicate 256 false : List Bool).map Value.bool) 32 := Bx.new hw10
 have := bx17.lt
 clear g13 hw10
 refine At.done rfl ?_
 refine t_n ?_
 have f18 := f11.sub (r := [(6, .pointer (some ⟨w1.heap.size, 0, none⟩)), (3, .pointer (some ⟨w.heap.size, 0, none⟩)), (1, .int .i64 (n)), (2, .bool (vv))]) ⟨rfl, rfl, rfl, rfl, trivial⟩
 clear f11
 refine wp_seq ?_
 refine wp_seq ?_
 refine At.start ?_
 rcases Bool.eq_false_or_eq_true (decide ((n : Int) ≥ 0)) with h19 | h19
 ·have q20 := of_decide_eq_true h19
  refine At.rd f18 6 [[], [], [.as_ (.bool true)], [], [], []] [(12, .bool (decide ((n : Int) < 256))), (11, .bool (decide ((n : Int) < 256))), (10, .int .i64 (n)), (9, .bool true), (8, .bool (decide ((n : Int) ≥ 0))), (7, .int .i64 (n))] [((.bool (decide ((n : Int) ≥ 0)) : Value) = .bool true)] (by kernel_rfl) ⟨(congrArg Value.bool h19), trivial⟩ (fun act22 f21 => ?_)
  clear f18
  refine At.done rfl ?_
  refine t_n ?_
  have f23 := f21.sub (r := [(12, .bool (decide ((n : Int) < 256))), (6, .pointer (some ⟨w1.heap.size, 0, none⟩)), (3, .pointer (some ⟨w.heap.size, 0, none⟩)), (1, .int .i64 (n)), (2, .bool (vv))]) ⟨rfl, rfl, rfl, rfl, rfl, trivial⟩
  clear f21
  refine cond_S f23 (t := decide ((n : Int) < 256)) rfl (fun h24 => ?_) (fun h24 => ?_)
  ·have q25 := of_decide_eq_true h24
   refine At.start ?_
   refine At.rd f23 3 [[], [], []] [(15, .pointer (some ((⟨w.heap.size, 0, none⟩ : Addr).add ((n : Int).toNat * 1)))), (14, .bool (vv)), (13, .int .i64 (n))] [(0 ≤ (n : Int)), ((n : Int) < (256 : Nat))] (by kernel_rfl) ⟨(by omega), (by omega), trivial⟩ (fun act27 f26 => ?_)
   clear f23
   refine At.act f26 (storeArrM (f := Value.bool) (t := 4) (b := w.heap.size) (i := n) (x := vv) (v := .bool (vv)) (by kernel_rfl) rfl rfl (by kernel_rfl) bx16 (by omega) (by omega)) ?_
   rintro d_ v_ w28 ⟨rfl, g29, bx30⟩
   refine ⟨_, rfl, fun act33 f32 => ?_⟩
   clear f26
   have hl31 : ((l).set (n : Int).toNat vv).length = (l : List Bool).length := List.length_set
   have szw28 := g29.size
   have e34 := e15.gr g29 (fun k h => by injection h; omega)
   clear e15
   have bx35 := bx17.gr g29 (fun h => by injection h; omega)
   clear bx17
   clear bx16 g29
   refine At.done rfl ?_
   refine t_n ?_
   have f36 := f32.sub (r := [(6, .pointer (some ⟨w1.heap.size, 0, none⟩)), (3, .pointer (some ⟨w.heap.size, 0, none⟩))]) ⟨rfl, rfl, trivial⟩
   clear f32
   refine wp_seq ?_
   refine At.start ?_
   refine At.rd f36 1 [[.cs (((l).set (n : Int).toNat vv : List Bool).map Value.bool)]] [(16, .agg (((l).set (n : Int).toNat vv : List Bool).map Value.bool).toArray)] [((((l).set (n : Int).toNat vv : List Bool).map Value.bool).length = 256), (∀ (j : Nat) (v : Value), (((l).set (n : Int).toNat vv : List Bool).map Value.bool)[j]? = some v → w28.cell? ((⟨w.heap.size, 0, none⟩ : Addr).add j) = some v)] (by kernel_rfl) ⟨(by simp only [List.length_map, List.length_set, List.length_replicate, List.length_cons, List.length_nil]; first | done | assumption | exact from_len _ | exact of_len _ | exact ofZ_len _ | exact (ofW_ok _).1 | exact (fullW_W _).1 | exact (okW_with (by assumption)).1 | exact (okW_less (by assumption)).1 | exact put_len (from_len _) | exact orD_len _ _ | exact andD_len _ _ | exact minusD_len _ _ | exact fullD_len _ | (refine okLen ?_; (repeat (first | assumption | exact ofW_ok _ | exact fullW_W _ | apply okW_with | apply okW_less | refine okW_orS ?_ ?_ | refine okW_andS ?_ ?_ | refine okW_minusS ?_ ?_)); done) | omega | rfl), bx30.whole, trivial⟩ (fun act38 f37 => ?_)
   clear f36
   refine At.act f37 (storeBlk (t := 32) (b := w1.heap.size) (n := 256) (cs' := (((l).set (n : Int).toNat vv : List Bool).map Value.bool)) (by kernel_rfl) (by kernel_rfl) (by simp only [List.length_map, List.length_set, List.length_replicate, List.length_cons, List.length_nil]; first | done | assumption | exact from_len _ | exact of_len _ | exact ofZ_len _ | exact (ofW_ok _).1 | exact (fullW_W _).1 | exact (okW_with (by assumption)).1 | exact (okW_less (by assumption)).1 | exact put_len (from_len _) | exact orD_len _ _ | exact andD_len _ _ | exact minusD_len _ _ | exact fullD_len _ | (refine okLen ?_; (repeat (first | assumption | exact ofW_ok _ | exact fullW_W _ | apply okW_with | apply okW_less | refine okW_orS ?_ ?_ | refine okW_andS ?_ ?_ | refine okW_minusS ?_ ?_)); done) | omega | rfl) oneB ((show (((l).set (n : Int).toNat vv : List Bool).map Value.bool).length = 256 from (by simp only [List.length_map, List.length_set, List.length_replicate, List.length_cons, List.length_nil]; first | done | assumption | exact from_len _ | exact of_len _ | exact ofZ_len _ | exact (ofW_ok _).1 | exact (fullW_W _).1 | exact (okW_with (by assumption)).1 | exact (okW_less (by assumption)).1 | exact put_len (from_len _) | exact orD_len _ _ | exact andD_len _ _ | exact minusD_len _ _ | exact fullD_len _ | (refine okLen ?_; (repeat (first | assumption | exact ofW_ok _ | exact fullW_W _ | apply okW_with | apply okW_less | refine okW_orS ?_ ?_ | refine okW_andS ?_ ?_ | refine okW_minusS ?_ ?_)); done) | omega | rfl)).trans (show ((List.replicate 256 false : List Bool).map Value.bool).length = 256 from (by simp only [List.length_map, List.length_set, List.length_replicate, List.length_cons, List.length_nil]; first | done | assumption | exact from_len _ | exact of_len _ | exact ofZ_len _ | exact (ofW_ok _).1 | exact (fullW_W _).1 | exact (okW_with (by assumption)).1 | exact (okW_less (by assumption)).1 | exact put_len (from_len _) | exact orD_len _ _ | exact andD_len _ _ | exact minusD_len _ _ | exact fullD_len _ | (refine okLen ?_; (repeat (first | assumption | exact ofW_ok _ | exact fullW_W _ | apply okW_with | apply okW_less | refine okW_orS ?_ ?_ | refine okW_andS ?_ ?_ | refine okW_minusS ?_ ?_)); done) | omega | rfl)).symm) bx35) ?_
   rintro d_ v_ w39 ⟨rfl, g40, bx41⟩
   refine ⟨_, rfl, fun act43 f42 => ?_⟩
   clear f37
   have szw39 := g40.size
   have e44 := e34.gr g40 (fun k h => by injection h; omega)
   clear e34
   have bx45 := bx30.gr g40 (fun h => by injection h; omega)
   clear bx30
   clear bx35 g40
   refine At.done rfl ?_
   refine t_n ?_
   have f46 := f42.sub (r := [(6, .pointer (some ⟨w1.heap.size, 0, none⟩))]) ⟨rfl, trivial⟩
   clear f42
   refine wp_ret ?_
   refine retB_ f46 (sl := 6) (cs := (((l).set (n : Int).toNat vv : List Bool).map Value.bool)) (m := 256) rfl (by kernel_rfl) (by kernel_rfl) (by simp only [List.length_map, List.length_set, List.length_replicate, List.length_cons, List.length_nil]; first | done | assumption | exact from_len _ | exact of_len _ | exact ofZ_len _ | exact (ofW_ok _).1 | exact (fullW_W _).1 | exact (okW_with (by assumption)).1 | exact (okW_less (by assumption)).1 | exact put_len (from_len _) | exact orD_len _ _ | exact andD_len _ _ | exact minusD_len _ _ | exact fullD_len _ | (refine okLen ?_; (repeat (first | assumption | exact ofW_ok _ | exact fullW_W _ | apply okW_with | apply okW_less | refine okW_orS ?_ ?_ | refine okW_andS ?_ ?_ | refine okW_minusS ?_ ?_)); done) | omega | rfl) bx41 ?_
   exact ⟨ret_map (by first | rw [putD, if_pos ⟨by omega, by omega⟩] | rw [putD, if_neg (by omega)]), e44⟩
  ·have q47 := of_decide_eq_false h24
   refine wp_skip ?_
   refine t_n ?_
   have f48 := f23.sub (r := [(6, .pointer (some ⟨w1.heap.size, 0, none⟩)), (3, .pointer (some ⟨w.heap.size, 0, none⟩))]) ⟨rfl, rfl, trivial⟩
   clear f23
   refine wp_seq ?_
   refine At.start ?_
   refine At.rd f48 1 [[.cs ((l : List Bool).map Value.bool)]] [(16, .agg ((l : List Bool).map Value.bool).toArray)] [(((l : List Bool).map Value.bool).length = 256), (∀ (j : Nat) (v : Value), ((l : List Bool).map Value.bool)[j]? = some v → w9.cell? ((⟨w.heap.size, 0, none⟩ : Addr).add j) = some v)] (by kernel_rfl) ⟨(by simp only [List.length_map, List.length_set, List.length_replicate, List.length_cons, List.length_nil]; first | done | assumption | exact from_len _ | exact of_len _ | exact ofZ_len _ | exact (ofW_ok _).1 | exact (fullW_W _).1 | exact (okW_with (by assumption)).1 | exact (okW_less (by assumption)).1 | exact put_len (from_len _) | exact orD_len _ _ | exact andD_len _ _ | exact minusD_len _ _ | exact fullD_len _ | (refine okLen ?_; (repeat (first | assumption | exact ofW_ok _ | exact fullW_W _ | apply okW_with | apply okW_less | refine okW_orS ?_ ?_ | refine okW_andS ?_ ?_ | refine okW_minusS ?_ ?_)); done) | omega | rfl), bx16.whole, trivial⟩ (fun act50 f49 => ?_)
   clear f48
   refine At.act f49 (storeBlk (t := 32) (b := w1.heap.size) (n := 256) (cs' := ((l : List Bool).map Value.bool)) (by kernel_rfl) (by kernel_rfl) (by simp only [List.length_map, List.length_set, List.length_replicate, List.length_cons, List.length_nil]; first | done | assumption | exact from_len _ | exact of_len _ | exact ofZ_len _ | exact (ofW_ok _).1 | exact (fullW_W _).1 | exact (okW_with (by assumption)).1 | exact (okW_less (by assumption)).1 | exact put_len (from_len _) | exact orD_len _ _ | exact andD_len _ _ | exact minusD_len _ _ | exact fullD_len _ | (refine okLen ?_; (repeat (first | assumption | exact ofW_ok _ | exact fullW_W _ | apply okW_with | apply okW_less | refine okW_orS ?_ ?_ | refine okW_andS ?_ ?_ | refine okW_minusS ?_ ?_)); done) | omega | rfl) oneB ((show ((l : List Bool).map Value.bool).length = 256 from (by simp only [List.length_map, List.length_set, List.length_replicate, List.length_cons, List.length_nil]; first | done | assumption | exact from_len _ | exact of_len _ | exact ofZ_len _ | exact (ofW_ok _).1 | exact (fullW_W _).1 | exact (okW_with (by assumption)).1 | exact (okW_less (by assumption)).1 | exact put_len (from_len _) | exact orD_len _ _ | exact andD_len _ _ | exact minusD_len _ _ | exact fullD_len _ | (refine okLen ?_; (repeat (first | assumption | exact ofW_ok _ | exact fullW_W _ | apply okW_with | apply okW_less | refine okW_orS ?_ ?_ | refine okW_andS ?_ ?_ | refine okW_minusS ?_ ?_)); done) | omega | rfl)).trans (show ((List.replicate 256 false : List Bool).map Value.bool).length = 256 from (by simp only [List.length_map, List.length_set, List.length_replicate, List.length_cons, List.length_nil]; first | done | assumption | exact from_len _ | exact of_len _ | exact ofZ_len _ | exact (ofW_ok _).1 | exact (fullW_W _).1 | exact (okW_with (by assumption)).1 | exact (okW_less (by assumption)).1 | exact put_len (from_len _) | exact orD_len _ _ | exact andD_len _ _ | exact minusD_len _ _ | exact fullD_len _ | (refine okLen ?_; (repeat (first | assumption | exact ofW_ok _ | exact fullW_W _ | apply okW_with | apply okW_less | refine okW_orS ?_ ?_ | refine okW_andS ?_ ?_ | refine okW_minusS ?_ ?_)); done) | omega | rfl)).symm) bx17) ?_
   rintro d_ v_ w51 ⟨rfl, g52, bx53⟩
   refine ⟨_, rfl, fun act55 f54 => ?_⟩
   clear f49
   have szw51 := g52.size
   have e56 := e15.gr g52 (fun k h => by injection h; omega)
   clear e15
   have bx57 := bx16.gr g52 (fun h => by injection h; omega)
   clear bx16
   clear bx17 g52
   refine At.done rfl ?_
   refine t_n ?_
   have f58 := f54.sub (r := [(6, .pointer (some ⟨w1.heap.size, 0, none⟩))]) ⟨rfl, trivial⟩
   clear f54
   refine wp_ret ?_
   refine retB_ f58 (sl := 6) (cs := ((l : List Bool).map Value.bool)) (m := 256) rfl (by kernel_rfl) (by kernel_rfl) (by simp only [List.length_map, List.length_set, List.length_replicate, List.length_cons, List.length_nil]; first | done | assumption | exact from_len _ | exact of_len _ | exact ofZ_len _ | exact (ofW_ok _).1 | exact (fullW_W _).1 | exact (okW_with (by assumption)).1 | exact (okW_less (by assumption)).1 | exact put_len (from_len _) | exact orD_len _ _ | exact andD_len _ _ | exact minusD_len _ _ | exact fullD_len _ | (refine okLen ?_; (repeat (first | assumption | exact ofW_ok _ | exact fullW_W _ | apply okW_with | apply okW_less | refine okW_orS ?_ ?_ | refine okW_andS ?_ ?_ | refine okW_minusS ?_ ?_)); done) | omega | rfl) bx53 ?_
   exact ⟨ret_map (by first | rw [putD, if_pos ⟨by omega, by omega⟩] | rw [putD, if_neg (by omega)]), e56⟩
 ·have q59 := of_decide_eq_false h19
  refine At.rd f18 6 [[], [], [.as_ (.bool false)], [], [], []] [(12, .bool false), (11, undef), (10, undef), (9, .bool false), (8, .bool (decide ((n : Int) ≥ 0))), (7, .int .i64 (n))] [((.bool (decide ((n : Int) ≥ 0)) : Value) = .bool false)] (by kernel_rfl) ⟨(congrArg Value.bool h19), trivial⟩ (fun act61 f60 => ?_)
  clear f18
  refine At.done rfl ?_
  refine t_n ?_
  have f62 := f60.sub (r := [(12, .bool false), (6, .pointer (some ⟨w1.heap.size, 0, none⟩)), (3, .pointer (some ⟨w.heap.size, 0, none⟩)), (1, .int .i64 (n)), (2, .bool (vv))]) ⟨rfl, rfl, rfl, rfl, rfl, trivial⟩
  clear f60
  refine cond_F f62 rfl ?_
  refine wp_skip ?_
  refine t_n ?_
  have f63 := f62.sub (r := [(6, .pointer (some ⟨w1.heap.size, 0, none⟩)), (3, .pointer (some ⟨w.heap.size, 0, none⟩))]) ⟨rfl, rfl, trivial⟩
  clear f62
  refine wp_seq ?_
  refine At.start ?_
  refine At.rd f63 1 [[.cs ((l : List Bool).map Value.bool)]] [(16, .agg ((l : List Bool).map Value.bool).toArray)] [(((l : List Bool).map Value.bool).length = 256), (∀ (j : Nat) (v : Value), ((l : List Bool).map Value.bool)[j]? = some v → w9.cell? ((⟨w.heap.size, 0, none⟩ : Addr).add j) = some v)] (by kernel_rfl) ⟨(by simp only [List.length_map, List.length_set, List.length_replicate, List.length_cons, List.length_nil]; first | done | assumption | exact from_len _ | exact of_len _ | exact ofZ_len _ | exact (ofW_ok _).1 | exact (fullW_W _).1 | exact (okW_with (by assumption)).1 | exact (okW_less (by assumption)).1 | exact put_len (from_len _) | exact orD_len _ _ | exact andD_len _ _ | exact minusD_len _ _ | exact fullD_len _ | (refine okLen ?_; (repeat (first | assumption | exact ofW_ok _ | exact fullW_W _ | apply okW_with | apply okW_less | refine okW_orS ?_ ?_ | refine okW_andS ?_ ?_ | refine okW_minusS ?_ ?_)); done) | omega | rfl), bx16.whole, trivial⟩ (fun act65 f64 => ?_)
  clear f63
  refine At.act f64 (storeBlk (t := 32) (b := w1.heap.size) (n := 256) (cs' := ((l : List Bool).map Value.bool)) (by kernel_rfl) (by kernel_rfl) (by simp only [List.length_map, List.length_set, List.length_replicate, List.length_cons, List.length_nil]; first | done | assumption | exact from_len _ | exact of_len _ | exact ofZ_len _ | exact (ofW_ok _).1 | exact (fullW_W _).1 | exact (okW_with (by assumption)).1 | exact (okW_less (by assumption)).1 | exact put_len (from_len _) | exact orD_len _ _ | exact andD_len _ _ | exact minusD_len _ _ | exact fullD_len _ | (refine okLen ?_; (repeat (first | assumption | exact ofW_ok _ | exact fullW_W _ | apply okW_with | apply okW_less | refine okW_orS ?_ ?_ | refine okW_andS ?_ ?_ | refine okW_minusS ?_ ?_)); done) | omega | rfl) oneB ((show ((l : List Bool).map Value.bool).length = 256 from (by simp only [List.length_map, List.length_set, List.length_replicate, List.length_cons, List.length_nil]; first | done | assumption | exact from_len _ | exact of_len _ | exact ofZ_len _ | exact (ofW_ok _).1 | exact (fullW_W _).1 | exact (okW_with (by assumption)).1 | exact (okW_less (by assumption)).1 | exact put_len (from_len _) | exact orD_len _ _ | exact andD_len _ _ | exact minusD_len _ _ | exact fullD_len _ | (refine okLen ?_; (repeat (first | assumption | exact ofW_ok _ | exact fullW_W _ | apply okW_with | apply okW_less | refine okW_orS ?_ ?_ | refine okW_andS ?_ ?_ | refine okW_minusS ?_ ?_)); done) | omega | rfl)).trans (show ((List.replicate 256 false : List Bool).map Value.bool).length = 256 from (by simp only [List.length_map, List.length_set, List.length_replicate, List.length_cons, List.length_nil]; first | done | assumption | exact from_len _ | exact of_len _ | exact ofZ_len _ | exact (ofW_ok _).1 | exact (fullW_W _).1 | exact (okW_with (by assumption)).1 | exact (okW_less (by assumption)).1 | exact put_len (from_len _) | exact orD_len _ _ | exact andD_len _ _ | exact minusD_len _ _ | exact fullD_len _ | (refine okLen ?_; (repeat (first | assumption | exact ofW_ok _ | exact fullW_W _ | apply okW_with | apply okW_less | refine okW_orS ?_ ?_ | refine okW_andS ?_ ?_ | refine okW_minusS ?_ ?_)); done) | omega | rfl)).symm) bx17) ?_
  rintro d_ v_ w66 ⟨rfl, g67, bx68⟩
  refine ⟨_, rfl, fun act70 f69 => ?_⟩
  clear f64
  have szw66 := g67.size
  have e71 := e15.gr g67 (fun k h => by injection h; omega)
  clear e15
  have bx72 := bx16.gr g67 (fun h => by injection h; omega)
  clear bx16
  clear bx17 g67
  refine At.done rfl ?_
  refine t_n ?_
  have f73 := f69.sub (r := [(6, .pointer (some ⟨w1.heap.size, 0, none⟩))]) ⟨rfl, trivial⟩
  clear f69
  refine wp_ret ?_
  refine retB_ f73 (sl := 6) (cs := ((l : List Bool).map Value.bool)) (m := 256) rfl (by kernel_rfl) (by kernel_rfl) (by simp only [List.length_map, List.length_set, List.length_replicate, List.length_cons, List.length_nil]; first | done | assumption | exact from_len _ | exact of_len _ | exact ofZ_len _ | exact (ofW_ok _).1 | exact (fullW_W _).1 | exact (okW_with (by assumption)).1 | exact (okW_less (by assumption)).1 | exact put_len (from_len _) | exact orD_len _ _ | exact andD_len _ _ | exact minusD_len _ _ | exact fullD_len _ | (refine okLen ?_; (repeat (first | assumption | exact ofW_ok _ | exact fullW_W _ | apply okW_with | apply okW_less | refine okW_orS ?_ ?_ | refine okW_andS ?_ ?_ | refine okW_minusS ?_ ?_)); done) | omega | rfl) bx68 ?_
  exact ⟨ret_map (by first | rw [putD, if_pos ⟨by omega, by omega⟩] | rw [putD, if_neg (by omega)]), e71⟩

set_option maxHeartbeats 4000000 in
theorem orR_any {l : List Bool} {r : List Bool} {w : World} (hl : l.length = 256) (hr : r.length = 256) :
    Calls Tryd.prog 34 #[.agg ((l : List Bool).map Value.bool).toArray, .agg ((r : List Bool).map Value.bool).toArray] w fun e w' => e = .returned (.agg (((ofZ (fun j => gB l j || gB r j) : List Bool)).map Value.bool).toArray) ∧ Ext w w' := by
 refine enter_ (args := [.agg ((l : List Bool).map Value.bool).toArray, .agg ((r : List Bool).map Value.bool).toArray]) Tryd.func34 rfl Tryd.ntmps34 (Nat.le_of_ble_eq_true rfl) (fun act0 f0 => ?_)
 have e0 := Ext.refl w
 refine wp_seq ?_
 refine At.start ?_
 refine At.seq f0 1 [[]] [(2, .pointer (some ⟨w.heap.size, 0, none⟩))] (w.alloc (.cells ((l : List Bool).map Value.bool).toArray 32 (0, 0))) [] (by kernel_rfl) trivial (fun act4 w1 hw2 f3 => ?_)
 clear f0
 have g5 := gr_alloc hw2
 have szw1 := g5.size
 have e7 := e0.gr g5 no_row
 clear e0
 have bx8 : Bx w1 (w.heap.size) ((l : List Bool).map Value.bool) 32 := Bx.new hw2
 have := bx8.lt
 clear g5 hw2
 refine At.seq f3 1 [[]] [(3, .pointer (some ⟨w1.heap.size, 0, none⟩))] (w1.alloc (.cells ((r : List Bool).map Value.bool).toArray 32 (0, 0))) [] (by kernel_rfl) trivial (fun act12 w9 hw10 f11 => ?_)
 clear f3
 have g13 := gr_alloc hw10
 have szw9 := g13.size
 have e15 := e7.gr g13 no_row
 clear e7
 have bx16 := bx8.gr g13 (by simp)
 clear bx8
 have bx17 : Bx w9 (w1.heap.size) ((r : List Bool).map Value.bool) 32 := Bx.new hw10
 have := bx17.lt
 clear g13 hw10
 refine At.seq f11 1 [[]] [(4, .pointer (some ⟨w9.heap.size, 0, none⟩))] (w9.alloc (.cells ((List.replicate 256 false : List Bool).map Value.bool).toArray 32 (0, 0))) [] (by kernel_rfl) trivial (fun act21 w18 hw19 f20 => ?_)
 clear f11
 have g22 := gr_alloc hw19
 have szw18 := g22.size
 have e24 := e15.gr g22 no_row
 clear e15
 have bx25 := bx16.gr g22 (by simp)
 clear bx16
 have bx26 := bx17.gr g22 (by simp)
 clear bx17
 have bx27 : Bx w18 (w9.heap.size) ((List.replicate 256 false : List Bool).map Value.bool) 32 := Bx.new hw19
 have := bx27.lt
 clear g22 hw19
 refine At.done rfl ?_
 refine t_n ?_
 have f28 := f20.sub (r := [(4, .pointer (some ⟨w9.heap.size, 0, none⟩)), (3, .pointer (some ⟨w1.heap.size, 0, none⟩)), (2, .pointer (some ⟨w.heap.size, 0, none⟩))]) ⟨rfl, rfl, rfl, trivial⟩
 clear f20
 refine wp_seq ?_
 refine wp_seq ?_
 refine At.start ?_
 refine At.rd f28 1 [[]] [(5, .int .i64 (0))] [] (by kernel_rfl) trivial (fun act30 f29 => ?_)
 clear f28
 refine At.done rfl ?_
 refine t_n ?_
 refine wp_block ?_
 have f31 := f29.sub (r := [(5, .int .i64 (0)), (4, .pointer (some ⟨w9.heap.size, 0, none⟩)), (3, .pointer (some ⟨w1.heap.size, 0, none⟩)), (2, .pointer (some ⟨w.heap.size, 0, none⟩))]) ⟨rfl, rfl, rfl, rfl, trivial⟩
 refine loop_g (fun (m_ : Nat) a_ w_ => ∃ (k : Int) (xs : List Bool), m_ = (256 - k).toNat ∧ (Frm 21 a_ [(5, .int .i64 (k)), (4, .pointer (some ⟨w9.heap.size, 0, none⟩)), (3, .pointer (some ⟨w1.heap.size, 0, none⟩)), (2, .pointer (some ⟨w.heap.size, 0, none⟩))]) ∧ (Ext w w_) ∧ (Bx w_ (w.heap.size) ((xs : List Bool).map Value.bool) 32) ∧ (Bx w_ (w1.heap.size) ((r : List Bool).map Value.bool) 32) ∧ (Bx w_ (w9.heap.size) ((List.replicate 256 false : List Bool).map Value.bool) 32) ∧ (0 ≤ k) ∧ (k ≤ 256) ∧ (xs.length = 256) ∧ (MixL l xs (fun j => gB l j || gB r j) k)) _ ⟨0, l, rfl, f31, e24, bx25, bx26, bx27, (by omega), (by omega), (by omega), (mix_0 hl)⟩ ?_
 clear f31 f29
 clear bx25
 clear bx26
 clear bx27
 clear e24
 intro m_ act32 w33 ⟨k, xs, hm35, f36, e34, bx37, bx38, bx39, i40, i41, i42, hmx⟩
 have szw33 := e34.size
 have := bx37.lt
 have := bx38.lt
 have := bx39.lt
 refine wp_seq ?_
 refine wp_seq ?_
 refine At.start ?_
 refine At.rd f36 2 [[], []] [(7, .bool (decide ((k : Int) < 256))), (6, .int .i64 (k))] [] (by kernel_rfl) trivial (fun act44 f43 => ?_)
 clear f36
 refine At.done rfl ?_
 refine t_n ?_
 have f45 := f43.sub (r := [(7, .bool (decide ((k : Int) < 256))), (5, .int .i64 (k)), (4, .pointer (some ⟨w9.heap.size, 0, none⟩)), (3, .pointer (some ⟨w1.heap.size, 0, none⟩)), (2, .pointer (some ⟨w.heap.size, 0, none⟩))]) ⟨rfl, rfl, rfl, rfl, rfl, trivial⟩
 clear f43
 refine cond_S f45 (t := decide ((k : Int) < 256)) rfl (fun h46 => ?_) (fun h46 => ?_)
 ·have q47 := of_decide_eq_true h46
  refine wp_skip ?_
  refine t_n ?_
  have f48 := f45.sub (r := [(5, .int .i64 (k)), (4, .pointer (some ⟨w9.heap.size, 0, none⟩)), (3, .pointer (some ⟨w1.heap.size, 0, none⟩)), (2, .pointer (some ⟨w.heap.size, 0, none⟩))]) ⟨rfl, rfl, rfl, rfl, trivial⟩
  clear f45
  refine wp_seq ?_
  refine wp_block ?_
  refine At.start ?_
  rcases Bool.eq_false_or_eq_true (gB xs k) with h49 | h49
  ·refine At.rd f48 10 [[], [], [], [.ld (.bool (gB xs k))], [.as_ (.bool true)], [], [], [], [], []] [(19, .pointer (some ((⟨w.heap.size, 0, none⟩ : Addr).add ((k : Int).toNat * 1)))), (18, .bool true), (17, undef), (16, undef), (15, undef), (14, .bool true), (13, .bool (gB xs k)), (12, .pointer (some ((⟨w.heap.size, 0, none⟩ : Addr).add ((k : Int).toNat * 1)))), (11, .int .i64 (k)), (10, .int .i64 (k))] [(0 ≤ (k : Int)), ((k : Int) < (256 : Nat)), (w33.cell? ((⟨w.heap.size, 0, none⟩ : Addr).add ((k : Int).toNat * 1)) = some (.bool (gB xs k))), ((.bool (gB xs k) : Value) = .bool true), (0 ≤ (k : Int)), ((k : Int) < (256 : Nat))] (by kernel_rfl) ⟨(by omega), (by omega), (Bx.arrM (f := Value.bool) false bx37 k (by omega) (by omega)), (congrArg Value.bool h49), (by omega), (by omega), trivial⟩ (fun act52 f51 => ?_)
   clear f48
   refine At.act f51 (storeArrM (f := Value.bool) (t := 4) (b := w.heap.size) (i := k) (x := true) (v := .bool true) (by kernel_rfl) rfl rfl (by kernel_rfl) bx37 (by omega) (by omega)) ?_
   rintro d_ v_ w53 ⟨rfl, g54, bx55⟩
   refine ⟨_, rfl, fun act58 f57 => ?_⟩
   clear f51
   have hl56 : ((xs).set (k : Int).toNat true).length = (xs : List Bool).length := List.length_set
   have szw53 := g54.size
   have e59 := e34.gr g54 (fun k h => by injection h; omega)
   clear e34
   have bx60 := bx38.gr g54 (fun h => by injection h; omega)
   clear bx38
   have bx61 := bx39.gr g54 (fun h => by injection h; omega)
   clear bx39
   clear bx37 g54
   refine At.done rfl ?_
   refine b_n ?_
   refine t_n ?_
   have f62 := f57.sub (r := [(5, .int .i64 (k)), (4, .pointer (some ⟨w9.heap.size, 0, none⟩)), (3, .pointer (some ⟨w1.heap.size, 0, none⟩)), (2, .pointer (some ⟨w.heap.size, 0, none⟩))]) ⟨rfl, rfl, rfl, rfl, trivial⟩
   clear f57
   refine At.start ?_
   refine At.rd f62 3 [[], [.as_ (.int .i64 (k + 1))], []] [(5, .int .i64 (k + 1)), (9, .int .i64 (k + 1)), (8, .int .i64 (k))] [((.int .i64 (IntKind.i64.wrap (k + 1)) : Value) = .int .i64 (k + 1))] (by kernel_rfl) ⟨(w64 (by omega) (by omega)), trivial⟩ (fun act64 f63 => ?_)
   clear f62
   refine At.done rfl ?_
   refine t_n ?_
   have f65 := f63.sub (r := [(5, .int .i64 (k + 1)), (4, .pointer (some ⟨w9.heap.size, 0, none⟩)), (3, .pointer (some ⟨w1.heap.size, 0, none⟩)), (2, .pointer (some ⟨w.heap.size, 0, none⟩))]) ⟨rfl, rfl, rfl, rfl, trivial⟩
   exact ⟨_, (by omega), (k + 1), (xs).set (k : Int).toNat true, rfl, f65, e59, bx55, bx60, bx61, (by omega), (by omega), (by omega), (mix_next hmx (by omega) (by omega) (by show _ = (gB l k || gB r k); rw [← mix_at hmx (k := k) (by omega) (by omega)]; first | (rw [show gB xs k = true from by assumption]; simp; done) | (rw [show gB xs k = false from by assumption]; simp; done)))⟩
  ·refine At.rd f48 10 [[], [], [], [.ld (.bool (gB xs k))], [.as_ (.bool false)], [], [], [.ld (.bool (gB r k))], [], []] [(19, .pointer (some ((⟨w.heap.size, 0, none⟩ : Addr).add ((k : Int).toNat * 1)))), (18, .bool (gB r k)), (17, .bool (gB r k)), (16, .pointer (some ((⟨w1.heap.size, 0, none⟩ : Addr).add ((k : Int).toNat * 1)))), (15, .int .i64 (k)), (14, .bool false), (13, .bool (gB xs k)), (12, .pointer (some ((⟨w.heap.size, 0, none⟩ : Addr).add ((k : Int).toNat * 1)))), (11, .int .i64 (k)), (10, .int .i64 (k))] [(0 ≤ (k : Int)), ((k : Int) < (256 : Nat)), (w33.cell? ((⟨w.heap.size, 0, none⟩ : Addr).add ((k : Int).toNat * 1)) = some (.bool (gB xs k))), ((.bool (gB xs k) : Value) = .bool false), (0 ≤ (k : Int)), ((k : Int) < (256 : Nat)), (w33.cell? ((⟨w1.heap.size, 0, none⟩ : Addr).add ((k : Int).toNat * 1)) = some (.bool (gB r k))), (0 ≤ (k : Int)), ((k : Int) < (256 : Nat))] (by kernel_rfl) ⟨(by omega), (by omega), (Bx.arrM (f := Value.bool) false bx37 k (by omega) (by omega)), (congrArg Value.bool h49), (by omega), (by omega), (Bx.arrM (f := Value.bool) false bx38 k (by omega) (by omega)), (by omega), (by omega), trivial⟩ (fun act68 f67 => ?_)
   clear f48
   refine At.act f67 (storeArrM (f := Value.bool) (t := 4) (b := w.heap.size) (i := k) (x := gB r k) (v := .bool (gB r k)) (by kernel_rfl) rfl rfl (by kernel_rfl) bx37 (by omega) (by omega)) ?_
   rintro d_ v_ w69 ⟨rfl, g70, bx71⟩
   refine ⟨_, rfl, fun act74 f73 => ?_⟩
   clear f67
   have hl72 : ((xs).set (k : Int).toNat (gB r k)).length = (xs : List Bool).length := List.length_set
   have szw69 := g70.size
   have e75 := e34.gr g70 (fun k h => by injection h; omega)
   clear e34
   have bx76 := bx38.gr g70 (fun h => by injection h; omega)
   clear bx38
   have bx77 := bx39.gr g70 (fun h => by injection h; omega)
   clear bx39
   clear bx37 g70
   refine At.done rfl ?_
   refine b_n ?_
   refine t_n ?_
   have f78 := f73.sub (r := [(17, .bool (gB r k)), (16, .pointer (some ((⟨w1.heap.size, 0, none⟩ : Addr).add ((k : Int).toNat * 1)))), (15, .int .i64 (k)), (5, .int .i64 (k)), (4, .pointer (some ⟨w9.heap.size, 0, none⟩)), (3, .pointer (some ⟨w1.heap.size, 0, none⟩)), (2, .pointer (some ⟨w.heap.size, 0, none⟩))]) ⟨rfl, rfl, rfl, rfl, rfl, rfl, rfl, trivial⟩
   clear f73
   refine At.start ?_
   refine At.rd f78 3 [[], [.as_ (.int .i64 (k + 1))], []] [(5, .int .i64 (k + 1)), (9, .int .i64 (k + 1)), (8, .int .i64 (k))] [((.int .i64 (IntKind.i64.wrap (k + 1)) : Value) = .int .i64 (k + 1))] (by kernel_rfl) ⟨(w64 (by omega) (by omega)), trivial⟩ (fun act80 f79 => ?_)
   clear f78
   refine At.done rfl ?_
   refine t_n ?_
   have f81 := f79.sub (r := [(5, .int .i64 (k + 1)), (4, .pointer (some ⟨w9.heap.size, 0, none⟩)), (3, .pointer (some ⟨w1.heap.size, 0, none⟩)), (2, .pointer (some ⟨w.heap.size, 0, none⟩))]) ⟨rfl, rfl, rfl, rfl, trivial⟩
   exact ⟨_, (by omega), (k + 1), (xs).set (k : Int).toNat (gB r k), rfl, f81, e75, bx71, bx76, bx77, (by omega), (by omega), (by omega), (mix_next hmx (by omega) (by omega) (by show _ = (gB l k || gB r k); rw [← mix_at hmx (k := k) (by omega) (by omega)]; first | (rw [show gB xs k = true from by assumption]; simp; done) | (rw [show gB xs k = false from by assumption]; simp; done)))⟩
 ·have q82 := of_decide_eq_false h46
  refine wp_exit ?_
  refine t_e ?_
  refine t_e ?_
  refine b_e ?_
  refine t_n ?_
  have f83 := f45.sub (r := [(4, .pointer (some ⟨w9.heap.size, 0, none⟩)), (2, .pointer (some ⟨w.heap.size, 0, none⟩))]) ⟨rfl, rfl, trivial⟩
  clear f45
  refine wp_seq ?_
  refine At.start ?_
  refine At.rd f83 1 [[.cs ((xs : List Bool).map Value.bool)]] [(20, .agg ((xs : List Bool).map Value.bool).toArray)] [(((xs : List Bool).map Value.bool).length = 256), (∀ (j : Nat) (v : Value), ((xs : List Bool).map Value.bool)[j]? = some v → w33.cell? ((⟨w.heap.size, 0, none⟩ : Addr).add j) = some v)] (by kernel_rfl) ⟨(by simp only [List.length_map, List.length_set, List.length_replicate, List.length_cons, List.length_nil]; first | done | assumption | exact from_len _ | exact of_len _ | exact ofZ_len _ | exact (ofW_ok _).1 | exact (fullW_W _).1 | exact (okW_with (by assumption)).1 | exact (okW_less (by assumption)).1 | exact put_len (from_len _) | exact orD_len _ _ | exact andD_len _ _ | exact minusD_len _ _ | exact fullD_len _ | (refine okLen ?_; (repeat (first | assumption | exact ofW_ok _ | exact fullW_W _ | apply okW_with | apply okW_less | refine okW_orS ?_ ?_ | refine okW_andS ?_ ?_ | refine okW_minusS ?_ ?_)); done) | omega | rfl), bx37.whole, trivial⟩ (fun act85 f84 => ?_)
  clear f83
  refine At.act f84 (storeBlk (t := 32) (b := w9.heap.size) (n := 256) (cs' := ((xs : List Bool).map Value.bool)) (by kernel_rfl) (by kernel_rfl) (by simp only [List.length_map, List.length_set, List.length_replicate, List.length_cons, List.length_nil]; first | done | assumption | exact from_len _ | exact of_len _ | exact ofZ_len _ | exact (ofW_ok _).1 | exact (fullW_W _).1 | exact (okW_with (by assumption)).1 | exact (okW_less (by assumption)).1 | exact put_len (from_len _) | exact orD_len _ _ | exact andD_len _ _ | exact minusD_len _ _ | exact fullD_len _ | (refine okLen ?_; (repeat (first | assumption | exact ofW_ok _ | exact fullW_W _ | apply okW_with | apply okW_less | refine okW_orS ?_ ?_ | refine okW_andS ?_ ?_ | refine okW_minusS ?_ ?_)); done) | omega | rfl) oneB ((show ((xs : List Bool).map Value.bool).length = 256 from (by simp only [List.length_map, List.length_set, List.length_replicate, List.length_cons, List.length_nil]; first | done | assumption | exact from_len _ | exact of_len _ | exact ofZ_len _ | exact (ofW_ok _).1 | exact (fullW_W _).1 | exact (okW_with (by assumption)).1 | exact (okW_less (by assumption)).1 | exact put_len (from_len _) | exact orD_len _ _ | exact andD_len _ _ | exact minusD_len _ _ | exact fullD_len _ | (refine okLen ?_; (repeat (first | assumption | exact ofW_ok _ | exact fullW_W _ | apply okW_with | apply okW_less | refine okW_orS ?_ ?_ | refine okW_andS ?_ ?_ | refine okW_minusS ?_ ?_)); done) | omega | rfl)).trans (show ((List.replicate 256 false : List Bool).map Value.bool).length = 256 from (by simp only [List.length_map, List.length_set, List.length_replicate, List.length_cons, List.length_nil]; first | done | assumption | exact from_len _ | exact of_len _ | exact ofZ_len _ | exact (ofW_ok _).1 | exact (fullW_W _).1 | exact (okW_with (by assumption)).1 | exact (okW_less (by assumption)).1 | exact put_len (from_len _) | exact orD_len _ _ | exact andD_len _ _ | exact minusD_len _ _ | exact fullD_len _ | (refine okLen ?_; (repeat (first | assumption | exact ofW_ok _ | exact fullW_W _ | apply okW_with | apply okW_less | refine okW_orS ?_ ?_ | refine okW_andS ?_ ?_ | refine okW_minusS ?_ ?_)); done) | omega | rfl)).symm) bx39) ?_
  rintro d_ v_ w86 ⟨rfl, g87, bx88⟩
  refine ⟨_, rfl, fun act90 f89 => ?_⟩
  clear f84
  have szw86 := g87.size
  have e91 := e34.gr g87 (fun k h => by injection h; omega)
  clear e34
  have bx92 := bx37.gr g87 (fun h => by injection h; omega)
  clear bx37
  have bx93 := bx38.gr g87 (fun h => by injection h; omega)
  clear bx38
  clear bx39 g87
  refine At.done rfl ?_
  refine t_n ?_
  have f94 := f89.sub (r := [(4, .pointer (some ⟨w9.heap.size, 0, none⟩))]) ⟨rfl, trivial⟩
  clear f89
  refine wp_ret ?_
  refine retB_ f94 (sl := 4) (cs := ((xs : List Bool).map Value.bool)) (m := 256) rfl (by kernel_rfl) (by kernel_rfl) (by simp only [List.length_map, List.length_set, List.length_replicate, List.length_cons, List.length_nil]; first | done | assumption | exact from_len _ | exact of_len _ | exact ofZ_len _ | exact (ofW_ok _).1 | exact (fullW_W _).1 | exact (okW_with (by assumption)).1 | exact (okW_less (by assumption)).1 | exact put_len (from_len _) | exact orD_len _ _ | exact andD_len _ _ | exact minusD_len _ _ | exact fullD_len _ | (refine okLen ?_; (repeat (first | assumption | exact ofW_ok _ | exact fullW_W _ | apply okW_with | apply okW_less | refine okW_orS ?_ ?_ | refine okW_andS ?_ ?_ | refine okW_minusS ?_ ?_)); done) | omega | rfl) bx88 ?_
  exact ⟨ret_map (mix_end hmx (by omega)), e91⟩

set_option maxHeartbeats 4000000 in
theorem andR_any {l : List Bool} {r : List Bool} {w : World} (hl : l.length = 256) (hr : r.length = 256) :
    Calls Tryd.prog 36 #[.agg ((l : List Bool).map Value.bool).toArray, .agg ((r : List Bool).map Value.bool).toArray] w fun e w' => e = .returned (.agg (((ofZ (fun j => gB l j && gB r j) : List Bool)).map Value.bool).toArray) ∧ Ext w w' := by
 refine enter_ (args := [.agg ((l : List Bool).map Value.bool).toArray, .agg ((r : List Bool).map Value.bool).toArray]) Tryd.func36 rfl Tryd.ntmps36 (Nat.le_of_ble_eq_true rfl) (fun act0 f0 => ?_)
 have e0 := Ext.refl w
 refine wp_seq ?_
 refine At.start ?_
 refine At.seq f0 1 [[]] [(2, .pointer (some ⟨w.heap.size, 0, none⟩))] (w.alloc (.cells ((l : List Bool).map Value.bool).toArray 32 (0, 0))) [] (by kernel_rfl) trivial (fun act4 w1 hw2 f3 => ?_)
 clear f0
 have g5 := gr_alloc hw2
 have szw1 := g5.size
 have e7 := e0.gr g5 no_row
 clear e0
 have bx8 : Bx w1 (w.heap.size) ((l : List Bool).map Value.bool) 32 := Bx.new hw2
 have := bx8.lt
 clear g5 hw2
 refine At.seq f3 1 [[]] [(3, .pointer (some ⟨w1.heap.size, 0, none⟩))] (w1.alloc (.cells ((r : List Bool).map Value.bool).toArray 32 (0, 0))) [] (by kernel_rfl) trivial (fun act12 w9 hw10 f11 => ?_)
 clear f3
 have g13 := gr_alloc hw10
 have szw9 := g13.size
 have e15 := e7.gr g13 no_row
 clear e7
 have bx16 := bx8.gr g13 (by simp)
 clear bx8
 have bx17 : Bx w9 (w1.heap.size) ((r : List Bool).map Value.bool) 32 := Bx.new hw10
 have := bx17.lt
 clear g13 hw10
 refine At.seq f11 1 [[]] [(4, .pointer (some ⟨w9.heap.size, 0, none⟩))] (w9.alloc (.cells ((List.replicate 256 false : List Bool).map Value.bool).toArray 32 (0, 0))) [] (by kernel_rfl) trivial (fun act21 w18 hw19 f20 => ?_)
 clear f11
 have g22 := gr_alloc hw19
 have szw18 := g22.size
 have e24 := e15.gr g22 no_row
 clear e15
 have bx25 := bx16.gr g22 (by simp)
 clear bx16
 have bx26 := bx17.gr g22 (by simp)
 clear bx17
 have bx27 : Bx w18 (w9.heap.size) ((List.replicate 256 false : List Bool).map Value.bool) 32 := Bx.new hw19
 have := bx27.lt
 clear g22 hw19
 refine At.done rfl ?_
 refine t_n ?_
 have f28 := f20.sub (r := [(4, .pointer (some ⟨w9.heap.size, 0, none⟩)), (3, .pointer (some ⟨w1.heap.size, 0, none⟩)), (2, .pointer (some ⟨w.heap.size, 0, none⟩))]) ⟨rfl, rfl, rfl, trivial⟩
 clear f20
 refine wp_seq ?_
 refine wp_seq ?_
 refine At.start ?_
 refine At.rd f28 1 [[]] [(5, .int .i64 (0))] [] (by kernel_rfl) trivial (fun act30 f29 => ?_)
 clear f28
 refine At.done rfl ?_
 refine t_n ?_
 refine wp_block ?_
 have f31 := f29.sub (r := [(5, .int .i64 (0)), (4, .pointer (some ⟨w9.heap.size, 0, none⟩)), (3, .pointer (some ⟨w1.heap.size, 0, none⟩)), (2, .pointer (some ⟨w.heap.size, 0, none⟩))]) ⟨rfl, rfl, rfl, rfl, trivial⟩
 refine loop_g (fun (m_ : Nat) a_ w_ => ∃ (k : Int) (xs : List Bool), m_ = (256 - k).toNat ∧ (Frm 21 a_ [(5, .int .i64 (k)), (4, .pointer (some ⟨w9.heap.size, 0, none⟩)), (3, .pointer (some ⟨w1.heap.size, 0, none⟩)), (2, .pointer (some ⟨w.heap.size, 0, none⟩))]) ∧ (Ext w w_) ∧ (Bx w_ (w.heap.size) ((xs : List Bool).map Value.bool) 32) ∧ (Bx w_ (w1.heap.size) ((r : List Bool).map Value.bool) 32) ∧ (Bx w_ (w9.heap.size) ((List.replicate 256 false : List Bool).map Value.bool) 32) ∧ (0 ≤ k) ∧ (k ≤ 256) ∧ (xs.length = 256) ∧ (MixL l xs (fun j => gB l j && gB r j) k)) _ ⟨0, l, rfl, f31, e24, bx25, bx26, bx27, (by omega), (by omega), (by omega), (mix_0 hl)⟩ ?_
 clear f31 f29
 clear bx25
 clear bx26
 clear bx27
 clear e24
 intro m_ act32 w33 ⟨k, xs, hm35, f36, e34, bx37, bx38, bx39, i40, i41, i42, hmx⟩
 have szw33 := e34.size
 have := bx37.lt
 have := bx38.lt
 have := bx39.lt
 refine wp_seq ?_
 refine wp_seq ?_
 refine At.start ?_
 refine At.rd f36 2 [[], []] [(7, .bool (decide ((k : Int) < 256))), (6, .int .i64 (k))] [] (by kernel_rfl) trivial (fun act44 f43 => ?_)
 clear f36
 refine At.done rfl ?_
 refine t_n ?_
 have f45 := f43.sub (r := [(7, .bool (decide ((k : Int) < 256))), (5, .int .i64 (k)), (4, .pointer (some ⟨w9.heap.size, 0, none⟩)), (3, .pointer (some ⟨w1.heap.size, 0, none⟩)), (2, .pointer (some ⟨w.heap.size, 0, none⟩))]) ⟨rfl, rfl, rfl, rfl, rfl, trivial⟩
 clear f43
 refine cond_S f45 (t := decide ((k : Int) < 256)) rfl (fun h46 => ?_) (fun h46 => ?_)
 ·have q47 := of_decide_eq_true h46
  refine wp_skip ?_
  refine t_n ?_
  have f48 := f45.sub (r := [(5, .int .i64 (k)), (4, .pointer (some ⟨w9.heap.size, 0, none⟩)), (3, .pointer (some ⟨w1.heap.size, 0, none⟩)), (2, .pointer (some ⟨w.heap.size, 0, none⟩))]) ⟨rfl, rfl, rfl, rfl, trivial⟩
  clear f45
  refine wp_seq ?_
  refine wp_block ?_
  refine At.start ?_
  rcases Bool.eq_false_or_eq_true (gB xs k) with h49 | h49
  ·refine At.rd f48 10 [[], [], [], [.ld (.bool (gB xs k))], [.as_ (.bool true)], [], [], [.ld (.bool (gB r k))], [], []] [(19, .pointer (some ((⟨w.heap.size, 0, none⟩ : Addr).add ((k : Int).toNat * 1)))), (18, .bool (gB r k)), (17, .bool (gB r k)), (16, .pointer (some ((⟨w1.heap.size, 0, none⟩ : Addr).add ((k : Int).toNat * 1)))), (15, .int .i64 (k)), (14, .bool true), (13, .bool (gB xs k)), (12, .pointer (some ((⟨w.heap.size, 0, none⟩ : Addr).add ((k : Int).toNat * 1)))), (11, .int .i64 (k)), (10, .int .i64 (k))] [(0 ≤ (k : Int)), ((k : Int) < (256 : Nat)), (w33.cell? ((⟨w.heap.size, 0, none⟩ : Addr).add ((k : Int).toNat * 1)) = some (.bool (gB xs k))), ((.bool (gB xs k) : Value) = .bool true), (0 ≤ (k : Int)), ((k : Int) < (256 : Nat)), (w33.cell? ((⟨w1.heap.size, 0, none⟩ : Addr).add ((k : Int).toNat * 1)) = some (.bool (gB r k))), (0 ≤ (k : Int)), ((k : Int) < (256 : Nat))] (by kernel_rfl) ⟨(by omega), (by omega), (Bx.arrM (f := Value.bool) false bx37 k (by omega) (by omega)), (congrArg Value.bool h49), (by omega), (by omega), (Bx.arrM (f := Value.bool) false bx38 k (by omega) (by omega)), (by omega), (by omega), trivial⟩ (fun act52 f51 => ?_)
   clear f48
   refine At.act f51 (storeArrM (f := Value.bool) (t := 4) (b := w.heap.size) (i := k) (x := gB r k) (v := .bool (gB r k)) (by kernel_rfl) rfl rfl (by kernel_rfl) bx37 (by omega) (by omega)) ?_
   rintro d_ v_ w53 ⟨rfl, g54, bx55⟩
   refine ⟨_, rfl, fun act58 f57 => ?_⟩
   clear f51
   have hl56 : ((xs).set (k : Int).toNat (gB r k)).length = (xs : List Bool).length := List.length_set
   have szw53 := g54.size
   have e59 := e34.gr g54 (fun k h => by injection h; omega)
   clear e34
   have bx60 := bx38.gr g54 (fun h => by injection h; omega)
   clear bx38
   have bx61 := bx39.gr g54 (fun h => by injection h; omega)
   clear bx39
   clear bx37 g54
   refine At.done rfl ?_
   refine b_n ?_
   refine t_n ?_
   have f62 := f57.sub (r := [(17, .bool (gB r k)), (16, .pointer (some ((⟨w1.heap.size, 0, none⟩ : Addr).add ((k : Int).toNat * 1)))), (15, .int .i64 (k)), (5, .int .i64 (k)), (4, .pointer (some ⟨w9.heap.size, 0, none⟩)), (3, .pointer (some ⟨w1.heap.size, 0, none⟩)), (2, .pointer (some ⟨w.heap.size, 0, none⟩))]) ⟨rfl, rfl, rfl, rfl, rfl, rfl, rfl, trivial⟩
   clear f57
   refine At.start ?_
   refine At.rd f62 3 [[], [.as_ (.int .i64 (k + 1))], []] [(5, .int .i64 (k + 1)), (9, .int .i64 (k + 1)), (8, .int .i64 (k))] [((.int .i64 (IntKind.i64.wrap (k + 1)) : Value) = .int .i64 (k + 1))] (by kernel_rfl) ⟨(w64 (by omega) (by omega)), trivial⟩ (fun act64 f63 => ?_)
   clear f62
   refine At.done rfl ?_
   refine t_n ?_
   have f65 := f63.sub (r := [(5, .int .i64 (k + 1)), (4, .pointer (some ⟨w9.heap.size, 0, none⟩)), (3, .pointer (some ⟨w1.heap.size, 0, none⟩)), (2, .pointer (some ⟨w.heap.size, 0, none⟩))]) ⟨rfl, rfl, rfl, rfl, trivial⟩
   exact ⟨_, (by omega), (k + 1), (xs).set (k : Int).toNat (gB r k), rfl, f65, e59, bx55, bx60, bx61, (by omega), (by omega), (by omega), (mix_next hmx (by omega) (by omega) (by show _ = (gB l k && gB r k); rw [← mix_at hmx (k := k) (by omega) (by omega)]; first | (rw [show gB xs k = true from by assumption]; simp; done) | (rw [show gB xs k = false from by assumption]; simp; done)))⟩
  ·refine At.rd f48 10 [[], [], [], [.ld (.bool (gB xs k))], [.as_ (.bool false)], [], [], [], [], []] [(19, .pointer (some ((⟨w.heap.size, 0, none⟩ : Addr).add ((k : Int).toNat * 1)))), (18, .bool false), (17, undef), (16, undef), (15, undef), (14, .bool false), (13, .bool (gB xs k)), (12, .pointer (some ((⟨w.heap.size, 0, none⟩ : Addr).add ((k : Int).toNat * 1)))), (11, .int .i64 (k)), (10, .int .i64 (k))] [(0 ≤ (k : Int)), ((k : Int) < (256 : Nat)), (w33.cell? ((⟨w.heap.size, 0, none⟩ : Addr).add ((k : Int).toNat * 1)) = some (.bool (gB xs k))), ((.bool (gB xs k) : Value) = .bool false), (0 ≤ (k : Int)), ((k : Int) < (256 : Nat))] (by kernel_rfl) ⟨(by omega), (by omega), (Bx.arrM (f := Value.bool) false bx37 k (by omega) (by omega)), (congrArg Value.bool h49), (by omega), (by omega), trivial⟩ (fun act68 f67 => ?_)
   clear f48
   refine At.act f67 (storeArrM (f := Value.bool) (t := 4) (b := w.heap.size) (i := k) (x := false) (v := .bool false) (by kernel_rfl) rfl rfl (by kernel_rfl) bx37 (by omega) (by omega)) ?_
   rintro d_ v_ w69 ⟨rfl, g70, bx71⟩
   refine ⟨_, rfl, fun act74 f73 => ?_⟩
   clear f67
   have hl72 : ((xs).set (k : Int).toNat false).length = (xs : List Bool).length := List.length_set
   have szw69 := g70.size
   have e75 := e34.gr g70 (fun k h => by injection h; omega)
   clear e34
   have bx76 := bx38.gr g70 (fun h => by injection h; omega)
   clear bx38
   have bx77 := bx39.gr g70 (fun h => by injection h; omega)
   clear bx39
   clear bx37 g70
   refine At.done rfl ?_
   refine b_n ?_
   refine t_n ?_
   have f78 := f73.sub (r := [(5, .int .i64 (k)), (4, .pointer (some ⟨w9.heap.size, 0, none⟩)), (3, .pointer (some ⟨w1.heap.size, 0, none⟩)), (2, .pointer (some ⟨w.heap.size, 0, none⟩))]) ⟨rfl, rfl, rfl, rfl, trivial⟩
   clear f73
   refine At.start ?_
   refine At.rd f78 3 [[], [.as_ (.int .i64 (k + 1))], []] [(5, .int .i64 (k + 1)), (9, .int .i64 (k + 1)), (8, .int .i64 (k))] [((.int .i64 (IntKind.i64.wrap (k + 1)) : Value) = .int .i64 (k + 1))] (by kernel_rfl) ⟨(w64 (by omega) (by omega)), trivial⟩ (fun act80 f79 => ?_)
   clear f78
   refine At.done rfl ?_
   refine t_n ?_
   have f81 := f79.sub (r := [(5, .int .i64 (k + 1)), (4, .pointer (some ⟨w9.heap.size, 0, none⟩)), (3, .pointer (some ⟨w1.heap.size, 0, none⟩)), (2, .pointer (some ⟨w.heap.size, 0, none⟩))]) ⟨rfl, rfl, rfl, rfl, trivial⟩
   exact ⟨_, (by omega), (k + 1), (xs).set (k : Int).toNat false, rfl, f81, e75, bx71, bx76, bx77, (by omega), (by omega), (by omega), (mix_next hmx (by omega) (by omega) (by show _ = (gB l k && gB r k); rw [← mix_at hmx (k := k) (by omega) (by omega)]; first | (rw [show gB xs k = true from by assumption]; simp; done) | (rw [show gB xs k = false from by assumption]; simp; done)))⟩
 ·have q82 := of_decide_eq_false h46
  refine wp_exit ?_
  refine t_e ?_
  refine t_e ?_
  refine b_e ?_
  refine t_n ?_
  have f83 := f45.sub (r := [(4, .pointer (some ⟨w9.heap.size, 0, none⟩)), (2, .pointer (some ⟨w.heap.size, 0, none⟩))]) ⟨rfl, rfl, trivial⟩
  clear f45
  refine wp_seq ?_
  refine At.start ?_
  refine At.rd f83 1 [[.cs ((xs : List Bool).map Value.bool)]] [(20, .agg ((xs : List Bool).map Value.bool).toArray)] [(((xs : List Bool).map Value.bool).length = 256), (∀ (j : Nat) (v : Value), ((xs : List Bool).map Value.bool)[j]? = some v → w33.cell? ((⟨w.heap.size, 0, none⟩ : Addr).add j) = some v)] (by kernel_rfl) ⟨(by simp only [List.length_map, List.length_set, List.length_replicate, List.length_cons, List.length_nil]; first | done | assumption | exact from_len _ | exact of_len _ | exact ofZ_len _ | exact (ofW_ok _).1 | exact (fullW_W _).1 | exact (okW_with (by assumption)).1 | exact (okW_less (by assumption)).1 | exact put_len (from_len _) | exact orD_len _ _ | exact andD_len _ _ | exact minusD_len _ _ | exact fullD_len _ | (refine okLen ?_; (repeat (first | assumption | exact ofW_ok _ | exact fullW_W _ | apply okW_with | apply okW_less | refine okW_orS ?_ ?_ | refine okW_andS ?_ ?_ | refine okW_minusS ?_ ?_)); done) | omega | rfl), bx37.whole, trivial⟩ (fun act85 f84 => ?_)
  clear f83
  refine At.act f84 (storeBlk (t := 32) (b := w9.heap.size) (n := 256) (cs' := ((xs : List Bool).map Value.bool)) (by kernel_rfl) (by kernel_rfl) (by simp only [List.length_map, List.length_set, List.length_replicate, List.length_cons, List.length_nil]; first | done | assumption | exact from_len _ | exact of_len _ | exact ofZ_len _ | exact (ofW_ok _).1 | exact (fullW_W _).1 | exact (okW_with (by assumption)).1 | exact (okW_less (by assumption)).1 | exact put_len (from_len _) | exact orD_len _ _ | exact andD_len _ _ | exact minusD_len _ _ | exact fullD_len _ | (refine okLen ?_; (repeat (first | assumption | exact ofW_ok _ | exact fullW_W _ | apply okW_with | apply okW_less | refine okW_orS ?_ ?_ | refine okW_andS ?_ ?_ | refine okW_minusS ?_ ?_)); done) | omega | rfl) oneB ((show ((xs : List Bool).map Value.bool).length = 256 from (by simp only [List.length_map, List.length_set, List.length_replicate, List.length_cons, List.length_nil]; first | done | assumption | exact from_len _ | exact of_len _ | exact ofZ_len _ | exact (ofW_ok _).1 | exact (fullW_W _).1 | exact (okW_with (by assumption)).1 | exact (okW_less (by assumption)).1 | exact put_len (from_len _) | exact orD_len _ _ | exact andD_len _ _ | exact minusD_len _ _ | exact fullD_len _ | (refine okLen ?_; (repeat (first | assumption | exact ofW_ok _ | exact fullW_W _ | apply okW_with | apply okW_less | refine okW_orS ?_ ?_ | refine okW_andS ?_ ?_ | refine okW_minusS ?_ ?_)); done) | omega | rfl)).trans (show ((List.replicate 256 false : List Bool).map Value.bool).length = 256 from (by simp only [List.length_map, List.length_set, List.length_replicate, List.length_cons, List.length_nil]; first | done | assumption | exact from_len _ | exact of_len _ | exact ofZ_len _ | exact (ofW_ok _).1 | exact (fullW_W _).1 | exact (okW_with (by assumption)).1 | exact (okW_less (by assumption)).1 | exact put_len (from_len _) | exact orD_len _ _ | exact andD_len _ _ | exact minusD_len _ _ | exact fullD_len _ | (refine okLen ?_; (repeat (first | assumption | exact ofW_ok _ | exact fullW_W _ | apply okW_with | apply okW_less | refine okW_orS ?_ ?_ | refine okW_andS ?_ ?_ | refine okW_minusS ?_ ?_)); done) | omega | rfl)).symm) bx39) ?_
  rintro d_ v_ w86 ⟨rfl, g87, bx88⟩
  refine ⟨_, rfl, fun act90 f89 => ?_⟩
  clear f84
  have szw86 := g87.size
  have e91 := e34.gr g87 (fun k h => by injection h; omega)
  clear e34
  have bx92 := bx37.gr g87 (fun h => by injection h; omega)
  clear bx37
  have bx93 := bx38.gr g87 (fun h => by injection h; omega)
  clear bx38
  clear bx39 g87
  refine At.done rfl ?_
  refine t_n ?_
  have f94 := f89.sub (r := [(4, .pointer (some ⟨w9.heap.size, 0, none⟩))]) ⟨rfl, trivial⟩
  clear f89
  refine wp_ret ?_
  refine retB_ f94 (sl := 4) (cs := ((xs : List Bool).map Value.bool)) (m := 256) rfl (by kernel_rfl) (by kernel_rfl) (by simp only [List.length_map, List.length_set, List.length_replicate, List.length_cons, List.length_nil]; first | done | assumption | exact from_len _ | exact of_len _ | exact ofZ_len _ | exact (ofW_ok _).1 | exact (fullW_W _).1 | exact (okW_with (by assumption)).1 | exact (okW_less (by assumption)).1 | exact put_len (from_len _) | exact orD_len _ _ | exact andD_len _ _ | exact minusD_len _ _ | exact fullD_len _ | (refine okLen ?_; (repeat (first | assumption | exact ofW_ok _ | exact fullW_W _ | apply okW_with | apply okW_less | refine okW_orS ?_ ?_ | refine okW_andS ?_ ?_ | refine okW_minusS ?_ ?_)); done) | omega | rfl) bx88 ?_
  exact ⟨ret_map (mix_end hmx (by omega)), e91⟩

set_option maxHeartbeats 4000000 in
theorem minusR_any {l : List Bool} {r : List Bool} {w : World} (hl : l.length = 256) (hr : r.length = 256) :
    Calls Tryd.prog 38 #[.agg ((l : List Bool).map Value.bool).toArray, .agg ((r : List Bool).map Value.bool).toArray] w fun e w' => e = .returned (.agg (((ofZ (fun j => gB l j && !gB r j) : List Bool)).map Value.bool).toArray) ∧ Ext w w' := by
 refine enter_ (args := [.agg ((l : List Bool).map Value.bool).toArray, .agg ((r : List Bool).map Value.bool).toArray]) Tryd.func38 rfl Tryd.ntmps38 (Nat.le_of_ble_eq_true rfl) (fun act0 f0 => ?_)
 have e0 := Ext.refl w
 refine wp_seq ?_
 refine At.start ?_
 refine At.seq f0 1 [[]] [(2, .pointer (some ⟨w.heap.size, 0, none⟩))] (w.alloc (.cells ((l : List Bool).map Value.bool).toArray 32 (0, 0))) [] (by kernel_rfl) trivial (fun act4 w1 hw2 f3 => ?_)
 clear f0
 have g5 := gr_alloc hw2
 have szw1 := g5.size
 have e7 := e0.gr g5 no_row
 clear e0
 have bx8 : Bx w1 (w.heap.size) ((l : List Bool).map Value.bool) 32 := Bx.new hw2
 have := bx8.lt
 clear g5 hw2
 refine At.seq f3 1 [[]] [(3, .pointer (some ⟨w1.heap.size, 0, none⟩))] (w1.alloc (.cells ((r : List Bool).map Value.bool).toArray 32 (0, 0))) [] (by kernel_rfl) trivial (fun act12 w9 hw10 f11 => ?_)
 clear f3
 have g13 := gr_alloc hw10
 have szw9 := g13.size
 have e15 := e7.gr g13 no_row
 clear e7
 have bx16 := bx8.gr g13 (by simp)
 clear bx8
 have bx17 : Bx w9 (w1.heap.size) ((r : List Bool).map Value.bool) 32 := Bx.new hw10
 have := bx17.lt
 clear g13 hw10
 refine At.seq f11 1 [[]] [(4, .pointer (some ⟨w9.heap.size, 0, none⟩))] (w9.alloc (.cells ((List.replicate 256 false : List Bool).map Value.bool).toArray 32 (0, 0))) [] (by kernel_rfl) trivial (fun act21 w18 hw19 f20 => ?_)
 clear f11
 have g22 := gr_alloc hw19
 have szw18 := g22.size
 have e24 := e15.gr g22 no_row
 clear e15
 have bx25 := bx16.gr g22 (by simp)
 clear bx16
 have bx26 := bx17.gr g22 (by simp)
 clear bx17
 have bx27 : Bx w18 (w9.heap.size) ((List.replicate 256 false : List Bool).map Value.bool) 32 := Bx.new hw19
 have := bx27.lt
 clear g22 hw19
 refine At.done rfl ?_
 refine t_n ?_
 have f28 := f20.sub (r := [(4, .pointer (some ⟨w9.heap.size, 0, none⟩)), (3, .pointer (some ⟨w1.heap.size, 0, none⟩)), (2, .pointer (some ⟨w.heap.size, 0, none⟩))]) ⟨rfl, rfl, rfl, trivial⟩
 clear f20
 refine wp_seq ?_
 refine wp_seq ?_
 refine At.start ?_
 refine At.rd f28 1 [[]] [(5, .int .i64 (0))] [] (by kernel_rfl) trivial (fun act30 f29 => ?_)
 clear f28
 refine At.done rfl ?_
 refine t_n ?_
 refine wp_block ?_
 have f31 := f29.sub (r := [(5, .int .i64 (0)), (4, .pointer (some ⟨w9.heap.size, 0, none⟩)), (3, .pointer (some ⟨w1.heap.size, 0, none⟩)), (2, .pointer (some ⟨w.heap.size, 0, none⟩))]) ⟨rfl, rfl, rfl, rfl, trivial⟩
 refine loop_g (fun (m_ : Nat) a_ w_ => ∃ (k : Int) (xs : List Bool), m_ = (256 - k).toNat ∧ (Frm 22 a_ [(5, .int .i64 (k)), (4, .pointer (some ⟨w9.heap.size, 0, none⟩)), (3, .pointer (some ⟨w1.heap.size, 0, none⟩)), (2, .pointer (some ⟨w.heap.size, 0, none⟩))]) ∧ (Ext w w_) ∧ (Bx w_ (w.heap.size) ((xs : List Bool).map Value.bool) 32) ∧ (Bx w_ (w1.heap.size) ((r : List Bool).map Value.bool) 32) ∧ (Bx w_ (w9.heap.size) ((List.replicate 256 false : List Bool).map Value.bool) 32) ∧ (0 ≤ k) ∧ (k ≤ 256) ∧ (xs.length = 256) ∧ (MixL l xs (fun j => gB l j && !gB r j) k)) _ ⟨0, l, rfl, f31, e24, bx25, bx26, bx27, (by omega), (by omega), (by omega), (mix_0 hl)⟩ ?_
 clear f31 f29
 clear bx25
 clear bx26
 clear bx27
 clear e24
 intro m_ act32 w33 ⟨k, xs, hm35, f36, e34, bx37, bx38, bx39, i40, i41, i42, hmx⟩
 have szw33 := e34.size
 have := bx37.lt
 have := bx38.lt
 have := bx39.lt
 refine wp_seq ?_
 refine wp_seq ?_
 refine At.start ?_
 refine At.rd f36 2 [[], []] [(7, .bool (decide ((k : Int) < 256))), (6, .int .i64 (k))] [] (by kernel_rfl) trivial (fun act44 f43 => ?_)
 clear f36
 refine At.done rfl ?_
 refine t_n ?_
 have f45 := f43.sub (r := [(7, .bool (decide ((k : Int) < 256))), (5, .int .i64 (k)), (4, .pointer (some ⟨w9.heap.size, 0, none⟩)), (3, .pointer (some ⟨w1.heap.size, 0, none⟩)), (2, .pointer (some ⟨w.heap.size, 0, none⟩))]) ⟨rfl, rfl, rfl, rfl, rfl, trivial⟩
 clear f43
 refine cond_S f45 (t := decide ((k : Int) < 256)) rfl (fun h46 => ?_) (fun h46 => ?_)
 ·have q47 := of_decide_eq_true h46
  refine wp_skip ?_
  refine t_n ?_
  have f48 := f45.sub (r := [(5, .int .i64 (k)), (4, .pointer (some ⟨w9.heap.size, 0, none⟩)), (3, .pointer (some ⟨w1.heap.size, 0, none⟩)), (2, .pointer (some ⟨w.heap.size, 0, none⟩))]) ⟨rfl, rfl, rfl, rfl, trivial⟩
  clear f45
  refine wp_seq ?_
  refine wp_block ?_
  refine At.start ?_
  rcases Bool.eq_false_or_eq_true (gB xs k) with h49 | h49
  ·refine At.rd f48 11 [[], [], [], [.ld (.bool (gB xs k))], [.as_ (.bool true)], [], [], [.ld (.bool (gB r k))], [], [], []] [(20, .pointer (some ((⟨w.heap.size, 0, none⟩ : Addr).add ((k : Int).toNat * 1)))), (19, .bool (!(gB r k))), (18, .bool (!(gB r k))), (17, .bool (gB r k)), (16, .pointer (some ((⟨w1.heap.size, 0, none⟩ : Addr).add ((k : Int).toNat * 1)))), (15, .int .i64 (k)), (14, .bool true), (13, .bool (gB xs k)), (12, .pointer (some ((⟨w.heap.size, 0, none⟩ : Addr).add ((k : Int).toNat * 1)))), (11, .int .i64 (k)), (10, .int .i64 (k))] [(0 ≤ (k : Int)), ((k : Int) < (256 : Nat)), (w33.cell? ((⟨w.heap.size, 0, none⟩ : Addr).add ((k : Int).toNat * 1)) = some (.bool (gB xs k))), ((.bool (gB xs k) : Value) = .bool true), (0 ≤ (k : Int)), ((k : Int) < (256 : Nat)), (w33.cell? ((⟨w1.heap.size, 0, none⟩ : Addr).add ((k : Int).toNat * 1)) = some (.bool (gB r k))), (0 ≤ (k : Int)), ((k : Int) < (256 : Nat))] (by kernel_rfl) ⟨(by omega), (by omega), (Bx.arrM (f := Value.bool) false bx37 k (by omega) (by omega)), (congrArg Value.bool h49), (by omega), (by omega), (Bx.arrM (f := Value.bool) false bx38 k (by omega) (by omega)), (by omega), (by omega), trivial⟩ (fun act52 f51 => ?_)
   clear f48
   refine At.act f51 (storeArrM (f := Value.bool) (t := 4) (b := w.heap.size) (i := k) (x := !(gB r k)) (v := .bool (!(gB r k))) (by kernel_rfl) rfl rfl (by kernel_rfl) bx37 (by omega) (by omega)) ?_
   rintro d_ v_ w53 ⟨rfl, g54, bx55⟩
   refine ⟨_, rfl, fun act58 f57 => ?_⟩
   clear f51
   have hl56 : ((xs).set (k : Int).toNat (!(gB r k))).length = (xs : List Bool).length := List.length_set
   have szw53 := g54.size
   have e59 := e34.gr g54 (fun k h => by injection h; omega)
   clear e34
   have bx60 := bx38.gr g54 (fun h => by injection h; omega)
   clear bx38
   have bx61 := bx39.gr g54 (fun h => by injection h; omega)
   clear bx39
   clear bx37 g54
   refine At.done rfl ?_
   refine b_n ?_
   refine t_n ?_
   have f62 := f57.sub (r := [(18, .bool (!(gB r k))), (17, .bool (gB r k)), (16, .pointer (some ((⟨w1.heap.size, 0, none⟩ : Addr).add ((k : Int).toNat * 1)))), (15, .int .i64 (k)), (5, .int .i64 (k)), (4, .pointer (some ⟨w9.heap.size, 0, none⟩)), (3, .pointer (some ⟨w1.heap.size, 0, none⟩)), (2, .pointer (some ⟨w.heap.size, 0, none⟩))]) ⟨rfl, rfl, rfl, rfl, rfl, rfl, rfl, rfl, trivial⟩
   clear f57
   refine At.start ?_
   refine At.rd f62 3 [[], [.as_ (.int .i64 (k + 1))], []] [(5, .int .i64 (k + 1)), (9, .int .i64 (k + 1)), (8, .int .i64 (k))] [((.int .i64 (IntKind.i64.wrap (k + 1)) : Value) = .int .i64 (k + 1))] (by kernel_rfl) ⟨(w64 (by omega) (by omega)), trivial⟩ (fun act64 f63 => ?_)
   clear f62
   refine At.done rfl ?_
   refine t_n ?_
   have f65 := f63.sub (r := [(5, .int .i64 (k + 1)), (4, .pointer (some ⟨w9.heap.size, 0, none⟩)), (3, .pointer (some ⟨w1.heap.size, 0, none⟩)), (2, .pointer (some ⟨w.heap.size, 0, none⟩))]) ⟨rfl, rfl, rfl, rfl, trivial⟩
   exact ⟨_, (by omega), (k + 1), (xs).set (k : Int).toNat (!(gB r k)), rfl, f65, e59, bx55, bx60, bx61, (by omega), (by omega), (by omega), (mix_next hmx (by omega) (by omega) (by show _ = (gB l k && !gB r k); rw [← mix_at hmx (k := k) (by omega) (by omega)]; first | (rw [show gB xs k = true from by assumption]; simp; done) | (rw [show gB xs k = false from by assumption]; simp; done)))⟩
  ·refine At.rd f48 11 [[], [], [], [.ld (.bool (gB xs k))], [.as_ (.bool false)], [], [], [], [], [], []] [(20, .pointer (some ((⟨w.heap.size, 0, none⟩ : Addr).add ((k : Int).toNat * 1)))), (19, .bool false), (18, undef), (17, undef), (16, undef), (15, undef), (14, .bool false), (13, .bool (gB xs k)), (12, .pointer (some ((⟨w.heap.size, 0, none⟩ : Addr).add ((k : Int).toNat * 1)))), (11, .int .i64 (k)), (10, .int .i64 (k))] [(0 ≤ (k : Int)), ((k : Int) < (256 : Nat)), (w33.cell? ((⟨w.heap.size, 0, none⟩ : Addr).add ((k : Int).toNat * 1)) = some (.bool (gB xs k))), ((.bool (gB xs k) : Value) = .bool false), (0 ≤ (k : Int)), ((k : Int) < (256 : Nat))] (by kernel_rfl) ⟨(by omega), (by omega), (Bx.arrM (f := Value.bool) false bx37 k (by omega) (by omega)), (congrArg Value.bool h49), (by omega), (by omega), trivial⟩ (fun act68 f67 => ?_)
   clear f48
   refine At.act f67 (storeArrM (f := Value.bool) (t := 4) (b := w.heap.size) (i := k) (x := false) (v := .bool false) (by kernel_rfl) rfl rfl (by kernel_rfl) bx37 (by omega) (by omega)) ?_
   rintro d_ v_ w69 ⟨rfl, g70, bx71⟩
   refine ⟨_, rfl, fun act74 f73 => ?_⟩
   clear f67
   have hl72 : ((xs).set (k : Int).toNat false).length = (xs : List Bool).length := List.length_set
   have szw69 := g70.size
   have e75 := e34.gr g70 (fun k h => by injection h; omega)
   clear e34
   have bx76 := bx38.gr g70 (fun h => by injection h; omega)
   clear bx38
   have bx77 := bx39.gr g70 (fun h => by injection h; omega)
   clear bx39
   clear bx37 g70
   refine At.done rfl ?_
   refine b_n ?_
   refine t_n ?_
   have f78 := f73.sub (r := [(5, .int .i64 (k)), (4, .pointer (some ⟨w9.heap.size, 0, none⟩)), (3, .pointer (some ⟨w1.heap.size, 0, none⟩)), (2, .pointer (some ⟨w.heap.size, 0, none⟩))]) ⟨rfl, rfl, rfl, rfl, trivial⟩
   clear f73
   refine At.start ?_
   refine At.rd f78 3 [[], [.as_ (.int .i64 (k + 1))], []] [(5, .int .i64 (k + 1)), (9, .int .i64 (k + 1)), (8, .int .i64 (k))] [((.int .i64 (IntKind.i64.wrap (k + 1)) : Value) = .int .i64 (k + 1))] (by kernel_rfl) ⟨(w64 (by omega) (by omega)), trivial⟩ (fun act80 f79 => ?_)
   clear f78
   refine At.done rfl ?_
   refine t_n ?_
   have f81 := f79.sub (r := [(5, .int .i64 (k + 1)), (4, .pointer (some ⟨w9.heap.size, 0, none⟩)), (3, .pointer (some ⟨w1.heap.size, 0, none⟩)), (2, .pointer (some ⟨w.heap.size, 0, none⟩))]) ⟨rfl, rfl, rfl, rfl, trivial⟩
   exact ⟨_, (by omega), (k + 1), (xs).set (k : Int).toNat false, rfl, f81, e75, bx71, bx76, bx77, (by omega), (by omega), (by omega), (mix_next hmx (by omega) (by omega) (by show _ = (gB l k && !gB r k); rw [← mix_at hmx (k := k) (by omega) (by omega)]; first | (rw [show gB xs k = true from by assumption]; simp; done) | (rw [show gB xs k = false from by assumption]; simp; done)))⟩
 ·have q82 := of_decide_eq_false h46
  refine wp_exit ?_
  refine t_e ?_
  refine t_e ?_
  refine b_e ?_
  refine t_n ?_
  have f83 := f45.sub (r := [(4, .pointer (some ⟨w9.heap.size, 0, none⟩)), (2, .pointer (some ⟨w.heap.size, 0, none⟩))]) ⟨rfl, rfl, trivial⟩
  clear f45
  refine wp_seq ?_
  refine At.start ?_
  refine At.rd f83 1 [[.cs ((xs : List Bool).map Value.bool)]] [(21, .agg ((xs : List Bool).map Value.bool).toArray)] [(((xs : List Bool).map Value.bool).length = 256), (∀ (j : Nat) (v : Value), ((xs : List Bool).map Value.bool)[j]? = some v → w33.cell? ((⟨w.heap.size, 0, none⟩ : Addr).add j) = some v)] (by kernel_rfl) ⟨(by simp only [List.length_map, List.length_set, List.length_replicate, List.length_cons, List.length_nil]; first | done | assumption | exact from_len _ | exact of_len _ | exact ofZ_len _ | exact (ofW_ok _).1 | exact (fullW_W _).1 | exact (okW_with (by assumption)).1 | exact (okW_less (by assumption)).1 | exact put_len (from_len _) | exact orD_len _ _ | exact andD_len _ _ | exact minusD_len _ _ | exact fullD_len _ | (refine okLen ?_; (repeat (first | assumption | exact ofW_ok _ | exact fullW_W _ | apply okW_with | apply okW_less | refine okW_orS ?_ ?_ | refine okW_andS ?_ ?_ | refine okW_minusS ?_ ?_)); done) | omega | rfl), bx37.whole, trivial⟩ (fun act85 f84 => ?_)
  clear f83
  refine At.act f84 (storeBlk (t := 32) (b := w9.heap.size) (n := 256) (cs' := ((xs : List Bool).map Value.bool)) (by kernel_rfl) (by kernel_rfl) (by simp only [List.length_map, List.length_set, List.length_replicate, List.length_cons, List.length_nil]; first | done | assumption | exact from_len _ | exact of_len _ | exact ofZ_len _ | exact (ofW_ok _).1 | exact (fullW_W _).1 | exact (okW_with (by assumption)).1 | exact (okW_less (by assumption)).1 | exact put_len (from_len _) | exact orD_len _ _ | exact andD_len _ _ | exact minusD_len _ _ | exact fullD_len _ | (refine okLen ?_; (repeat (first | assumption | exact ofW_ok _ | exact fullW_W _ | apply okW_with | apply okW_less | refine okW_orS ?_ ?_ | refine okW_andS ?_ ?_ | refine okW_minusS ?_ ?_)); done) | omega | rfl) oneB ((show ((xs : List Bool).map Value.bool).length = 256 from (by simp only [List.length_map, List.length_set, List.length_replicate, List.length_cons, List.length_nil]; first | done | assumption | exact from_len _ | exact of_len _ | exact ofZ_len _ | exact (ofW_ok _).1 | exact (fullW_W _).1 | exact (okW_with (by assumption)).1 | exact (okW_less (by assumption)).1 | exact put_len (from_len _) | exact orD_len _ _ | exact andD_len _ _ | exact minusD_len _ _ | exact fullD_len _ | (refine okLen ?_; (repeat (first | assumption | exact ofW_ok _ | exact fullW_W _ | apply okW_with | apply okW_less | refine okW_orS ?_ ?_ | refine okW_andS ?_ ?_ | refine okW_minusS ?_ ?_)); done) | omega | rfl)).trans (show ((List.replicate 256 false : List Bool).map Value.bool).length = 256 from (by simp only [List.length_map, List.length_set, List.length_replicate, List.length_cons, List.length_nil]; first | done | assumption | exact from_len _ | exact of_len _ | exact ofZ_len _ | exact (ofW_ok _).1 | exact (fullW_W _).1 | exact (okW_with (by assumption)).1 | exact (okW_less (by assumption)).1 | exact put_len (from_len _) | exact orD_len _ _ | exact andD_len _ _ | exact minusD_len _ _ | exact fullD_len _ | (refine okLen ?_; (repeat (first | assumption | exact ofW_ok _ | exact fullW_W _ | apply okW_with | apply okW_less | refine okW_orS ?_ ?_ | refine okW_andS ?_ ?_ | refine okW_minusS ?_ ?_)); done) | omega | rfl)).symm) bx39) ?_
  rintro d_ v_ w86 ⟨rfl, g87, bx88⟩
  refine ⟨_, rfl, fun act90 f89 => ?_⟩
  clear f84
  have szw86 := g87.size
  have e91 := e34.gr g87 (fun k h => by injection h; omega)
  clear e34
  have bx92 := bx37.gr g87 (fun h => by injection h; omega)
  clear bx37
  have bx93 := bx38.gr g87 (fun h => by injection h; omega)
  clear bx38
  clear bx39 g87
  refine At.done rfl ?_
  refine t_n ?_
  have f94 := f89.sub (r := [(4, .pointer (some ⟨w9.heap.size, 0, none⟩))]) ⟨rfl, trivial⟩
  clear f89
  refine wp_ret ?_
  refine retB_ f94 (sl := 4) (cs := ((xs : List Bool).map Value.bool)) (m := 256) rfl (by kernel_rfl) (by kernel_rfl) (by simp only [List.length_map, List.length_set, List.length_replicate, List.length_cons, List.length_nil]; first | done | assumption | exact from_len _ | exact of_len _ | exact ofZ_len _ | exact (ofW_ok _).1 | exact (fullW_W _).1 | exact (okW_with (by assumption)).1 | exact (okW_less (by assumption)).1 | exact put_len (from_len _) | exact orD_len _ _ | exact andD_len _ _ | exact minusD_len _ _ | exact fullD_len _ | (refine okLen ?_; (repeat (first | assumption | exact ofW_ok _ | exact fullW_W _ | apply okW_with | apply okW_less | refine okW_orS ?_ ?_ | refine okW_andS ?_ ?_ | refine okW_minusS ?_ ?_)); done) | omega | rfl) bx88 ?_
  exact ⟨ret_map (mix_end hmx (by omega)), e91⟩

end Go.Proofs.YtepekncgknlcjaaDoor
