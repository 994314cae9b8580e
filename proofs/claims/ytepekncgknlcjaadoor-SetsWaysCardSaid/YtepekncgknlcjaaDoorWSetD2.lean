/-
  A walk of a Go function, printed by a program of this repo. Conditions: what the theorems name.
-/
import Derived.Test.YtepekncgknlcjaaDoorPureSet
set_option linter.unusedVariables false
set_option linter.unusedSimpArgs false
namespace Go.Proofs.YtepekncgknlcjaaDoor
open Go Go.RowKit

set_option maxHeartbeats 4000000 in
theorem hasR_any {l : List Bool} {n : Int} {w : World} (hl : l.length = 256) :
    Calls Tryd.prog 25 #[.agg ((l : List Bool).map Value.bool).toArray, .int .i64 (n)] w fun e w' => e = .returned (.bool (hasD l n)) ∧ Ext w w' := by
 refine enter_ (args := [.agg ((l : List Bool).map Value.bool).toArray, .int .i64 (n)]) Tryd.func25 rfl Tryd.ntmps25 (Nat.le_of_ble_eq_true rfl) (fun act0 f0 => ?_)
 have e0 := Ext.refl w
 refine wp_seq ?_
 refine At.start ?_
 refine At.seq f0 1 [[]] [(2, .pointer (some ⟨w.heap.size, 0, none⟩))] (w.alloc (.cells ((l : List Bool).map Value.bool).toArray 32 (0, 0))) [] (by kernel_rfl) trivial (fun act4 w1 hw2 f3 => ?_)
 clear f0
 have g5 := gr_alloc hw2
 have szw1 := g5.size
 have e7 := e0.gr g5 no_row
 clear e0
 have bx8 : Bx w1 (w.heap.size) ((l : List Bool).map Value.bool) 32 := Bx.new hw2
 have := bx8.lt
 clear g5 hw2
 refine At.rd f3 1 [[]] [(4, .bool false)] [] (by kernel_rfl) trivial (fun act10 f9 => ?_)
 clear f3
 refine At.done rfl ?_
 refine t_n ?_
 have f11 := f9.sub (r := [(2, .pointer (some ⟨w.heap.size, 0, none⟩)), (1, .int .i64 (n))]) ⟨rfl, rfl, trivial⟩
 clear f9
 refine wp_seq ?_
 refine At.start ?_
 rcases Bool.eq_false_or_eq_true (decide ((n : Int) ≥ 0)) with h12 | h12
 ·have q13 := of_decide_eq_true h12
  rcases Bool.eq_false_or_eq_true (decide ((n : Int) < 256)) with h14 | h14
  ·have q15 := of_decide_eq_true h14
   refine At.rd f11 12 [[], [], [.as_ (.bool true)], [], [], [], [.as_ (.bool true)], [], [], [.ld (.bool (gB l n))], [], []] [(4, .bool (gB l n)), (15, .bool (gB l n)), (14, .bool (gB l n)), (13, .pointer (some ((⟨w.heap.size, 0, none⟩ : Addr).add ((n : Int).toNat * 1)))), (12, .int .i64 (n)), (11, .bool true), (10, .bool (decide ((n : Int) < 256))), (9, .bool (decide ((n : Int) < 256))), (8, .int .i64 (n)), (7, .bool true), (6, .bool (decide ((n : Int) ≥ 0))), (5, .int .i64 (n))] [((.bool (decide ((n : Int) ≥ 0)) : Value) = .bool true), ((.bool (decide ((n : Int) < 256)) : Value) = .bool true), (0 ≤ (n : Int)), ((n : Int) < (256 : Nat)), (w1.cell? ((⟨w.heap.size, 0, none⟩ : Addr).add ((n : Int).toNat * 1)) = some (.bool (gB l n)))] (by kernel_rfl) ⟨(congrArg Value.bool h12), (congrArg Value.bool h14), (by omega), (by omega), (Bx.arrM (f := Value.bool) false bx8 n (by omega) (by omega)), trivial⟩ (fun act17 f16 => ?_)
   clear f11
   refine At.done rfl ?_
   refine t_n ?_
   have f18 := f16.sub (r := [(4, .bool (gB l n))]) ⟨rfl, trivial⟩
   clear f16
   refine wp_ret ?_
   refine ret_ f18 [] [.bool (gB l n)] [] (by kernel_rfl) trivial ?_
   exact ⟨ret_eq (congrArg Value.bool (by first | exact has_yes (by omega) (by omega) | exact has_no (by omega))), e7⟩
  ·have q19 := of_decide_eq_false h14
   refine At.rd f11 12 [[], [], [.as_ (.bool true)], [], [], [], [.as_ (.bool false)], [], [], [], [], []] [(4, .bool false), (15, .bool false), (14, undef), (13, undef), (12, undef), (11, .bool false), (10, .bool (decide ((n : Int) < 256))), (9, .bool (decide ((n : Int) < 256))), (8, .int .i64 (n)), (7, .bool true), (6, .bool (decide ((n : Int) ≥ 0))), (5, .int .i64 (n))] [((.bool (decide ((n : Int) ≥ 0)) : Value) = .bool true), ((.bool (decide ((n : Int) < 256)) : Value) = .bool false)] (by kernel_rfl) ⟨(congrArg Value.bool h12), (congrArg Value.bool h14), trivial⟩ (fun act21 f20 => ?_)
   clear f11
   refine At.done rfl ?_
   refine t_n ?_
   have f22 := f20.sub (r := [(4, .bool false)]) ⟨rfl, trivial⟩
   clear f20
   refine wp_ret ?_
   refine ret_ f22 [] [.bool false] [] (by kernel_rfl) trivial ?_
   exact ⟨ret_eq (congrArg Value.bool (by first | exact has_yes (by omega) (by omega) | exact has_no (by omega))), e7⟩
 ·have q23 := of_decide_eq_false h12
  refine At.rd f11 12 [[], [], [.as_ (.bool false)], [], [], [], [], [], [], [], [], []] [(4, .bool false), (15, .bool false), (14, undef), (13, undef), (12, undef), (11, .bool false), (10, .bool false), (9, undef), (8, undef), (7, .bool false), (6, .bool (decide ((n : Int) ≥ 0))), (5, .int .i64 (n))] [((.bool (decide ((n : Int) ≥ 0)) : Value) = .bool false)] (by kernel_rfl) ⟨(congrArg Value.bool h12), trivial⟩ (fun act25 f24 => ?_)
  clear f11
  refine At.done rfl ?_
  refine t_n ?_
  have f26 := f24.sub (r := [(4, .bool false)]) ⟨rfl, trivial⟩
  clear f24
  refine wp_ret ?_
  refine ret_ f26 [] [.bool false] [] (by kernel_rfl) trivial ?_
  exact ⟨ret_eq (congrArg Value.bool (by first | exact has_yes (by omega) (by omega) | exact has_no (by omega))), e7⟩

set_option maxHeartbeats 4000000 in
theorem fullR_any {n : Int} {w : World} :
    Calls Tryd.prog 17 #[.int .i64 (n)] w fun e w' => e = .returned (.agg (((ofZ (fun j => decide (j < n)) : List Bool)).map Value.bool).toArray) ∧ Ext w w' := by
 refine enter_ (args := [.int .i64 (n)]) Tryd.func17 rfl Tryd.ntmps17 (Nat.le_of_ble_eq_true rfl) (fun act0 f0 => ?_)
 have e0 := Ext.refl w
 refine wp_seq ?_
 refine At.start ?_
 refine At.seq f0 1 [[]] [(2, .pointer (some ⟨w.heap.size, 0, none⟩))] (w.alloc (.cells ((List.replicate 256 false : List Bool).map Value.bool).toArray 32 (0, 0))) [] (by kernel_rfl) trivial (fun act4 w1 hw2 f3 => ?_)
 clear f0
 have g5 := gr_alloc hw2
 have szw1 := g5.size
 have e7 := e0.gr g5 no_row
 clear e0
 have bx8 : Bx w1 (w.heap.size) ((List.replicate 256 false : List Bool).map Value.bool) 32 := Bx.new hw2
 have := bx8.lt
 clear g5 hw2
 refine At.done rfl ?_
 refine t_n ?_
 refine wp_seq ?_
 refine At.start ?_
 refine At.seq f3 1 [[]] [(3, .pointer (some ⟨w1.heap.size, 0, none⟩))] (w1.alloc (.cells ((List.replicate 256 false : List Bool).map Value.bool).toArray 32 (0, 0))) [] (by kernel_rfl) trivial (fun act12 w9 hw10 f11 => ?_)
 clear f3
 have g13 := gr_alloc hw10
 have szw9 := g13.size
 have e15 := e7.gr g13 no_row
 clear e7
 have bx16 := bx8.gr g13 (by simp)
 clear bx8
 have bx17 : Bx w9 (w1.heap.size) ((List.replicate 256 false : List Bool).map Value.bool) 32 := Bx.new hw10
 have := bx17.lt
 clear g13 hw10
 refine At.done rfl ?_
 refine t_n ?_
 refine wp_seq ?_
 refine wp_seq ?_
 refine At.start ?_
 refine At.rd f11 1 [[]] [(4, .int .i64 (0))] [] (by kernel_rfl) trivial (fun act19 f18 => ?_)
 clear f11
 refine At.done rfl ?_
 refine t_n ?_
 refine wp_block ?_
 have f20 := f18.sub (r := [(4, .int .i64 (0)), (3, .pointer (some ⟨w1.heap.size, 0, none⟩)), (2, .pointer (some ⟨w.heap.size, 0, none⟩)), (0, .int .i64 (n))]) ⟨rfl, rfl, rfl, rfl, trivial⟩
 refine loop_g (fun (m_ : Nat) a_ w_ => ∃ (k : Int) (xs : List Bool), m_ = (256 - k).toNat ∧ (Frm 17 a_ [(4, .int .i64 (k)), (3, .pointer (some ⟨w1.heap.size, 0, none⟩)), (2, .pointer (some ⟨w.heap.size, 0, none⟩)), (0, .int .i64 (n))]) ∧ (Ext w w_) ∧ (Bx w_ (w.heap.size) ((List.replicate 256 false : List Bool).map Value.bool) 32) ∧ (Bx w_ (w1.heap.size) ((xs : List Bool).map Value.bool) 32) ∧ (0 ≤ k) ∧ (k ≤ 256) ∧ (xs.length = 256) ∧ (MixL (List.replicate 256 false) xs (fun j => decide (j < n)) k)) _ ⟨0, List.replicate 256 false, rfl, f20, e15, bx16, bx17, (by omega), (by omega), List.length_replicate, (mix_0 List.length_replicate)⟩ ?_
 clear f20 f18
 clear bx16
 clear bx17
 clear e15
 intro m_ act21 w22 ⟨k, xs, hm24, f25, e23, bx26, bx27, i28, i29, i30, hmx⟩
 have szw22 := e23.size
 have := bx26.lt
 have := bx27.lt
 refine wp_seq ?_
 refine wp_seq ?_
 refine At.start ?_
 rcases Bool.eq_false_or_eq_true (decide ((k : Int) < 256)) with h31 | h31
 ·have q32 := of_decide_eq_true h31
  refine At.rd f25 7 [[], [], [.as_ (.bool true)], [], [], [], []] [(11, .bool (decide ((k : Int) < n))), (10, .bool (decide ((k : Int) < n))), (9, .int .i64 (n)), (8, .int .i64 (k)), (7, .bool true), (6, .bool (decide ((k : Int) < 256))), (5, .int .i64 (k))] [((.bool (decide ((k : Int) < 256)) : Value) = .bool true)] (by kernel_rfl) ⟨(congrArg Value.bool h31), trivial⟩ (fun act34 f33 => ?_)
  clear f25
  refine At.done rfl ?_
  refine t_n ?_
  have f35 := f33.sub (r := [(11, .bool (decide ((k : Int) < n))), (10, .bool (decide ((k : Int) < n))), (9, .int .i64 (n)), (8, .int .i64 (k)), (4, .int .i64 (k)), (3, .pointer (some ⟨w1.heap.size, 0, none⟩)), (2, .pointer (some ⟨w.heap.size, 0, none⟩)), (0, .int .i64 (n))]) ⟨rfl, rfl, rfl, rfl, rfl, rfl, rfl, rfl, trivial⟩
  clear f33
  refine cond_S f35 (t := decide ((k : Int) < n)) rfl (fun h36 => ?_) (fun h36 => ?_)
  ·have q37 := of_decide_eq_true h36
   refine wp_skip ?_
   refine t_n ?_
   have f38 := f35.sub (r := [(10, .bool (decide ((k : Int) < n))), (9, .int .i64 (n)), (8, .int .i64 (k)), (4, .int .i64 (k)), (3, .pointer (some ⟨w1.heap.size, 0, none⟩)), (2, .pointer (some ⟨w.heap.size, 0, none⟩)), (0, .int .i64 (n))]) ⟨rfl, rfl, rfl, rfl, rfl, rfl, rfl, trivial⟩
   clear f35
   refine wp_seq ?_
   refine wp_block ?_
   refine At.start ?_
   refine At.rd f38 2 [[], []] [(15, .pointer (some ((⟨w1.heap.size, 0, none⟩ : Addr).add ((k : Int).toNat * 1)))), (14, .int .i64 (k))] [(0 ≤ (k : Int)), ((k : Int) < (256 : Nat))] (by kernel_rfl) ⟨(by omega), (by omega), trivial⟩ (fun act40 f39 => ?_)
   clear f38
   refine At.act f39 (storeArrM (f := Value.bool) (t := 4) (b := w1.heap.size) (i := k) (x := true) (v := .bool true) (by kernel_rfl) rfl rfl (by kernel_rfl) bx27 (by omega) (by omega)) ?_
   rintro d_ v_ w41 ⟨rfl, g42, bx43⟩
   refine ⟨_, rfl, fun act46 f45 => ?_⟩
   clear f39
   have hl44 : ((xs).set (k : Int).toNat true).length = (xs : List Bool).length := List.length_set
   have szw41 := g42.size
   have e47 := e23.gr g42 (fun k h => by injection h; omega)
   clear e23
   have bx48 := bx26.gr g42 (fun h => by injection h; omega)
   clear bx26
   clear bx27 g42
   refine At.done rfl ?_
   refine b_n ?_
   refine t_n ?_
   have f49 := f45.sub (r := [(10, .bool (decide ((k : Int) < n))), (9, .int .i64 (n)), (8, .int .i64 (k)), (4, .int .i64 (k)), (3, .pointer (some ⟨w1.heap.size, 0, none⟩)), (2, .pointer (some ⟨w.heap.size, 0, none⟩)), (0, .int .i64 (n))]) ⟨rfl, rfl, rfl, rfl, rfl, rfl, rfl, trivial⟩
   clear f45
   refine At.start ?_
   refine At.rd f49 3 [[], [.as_ (.int .i64 (k + 1))], []] [(4, .int .i64 (k + 1)), (13, .int .i64 (k + 1)), (12, .int .i64 (k))] [((.int .i64 (IntKind.i64.wrap (k + 1)) : Value) = .int .i64 (k + 1))] (by kernel_rfl) ⟨(w64 (by omega) (by omega)), trivial⟩ (fun act51 f50 => ?_)
   clear f49
   refine At.done rfl ?_
   refine t_n ?_
   have f52 := f50.sub (r := [(4, .int .i64 (k + 1)), (3, .pointer (some ⟨w1.heap.size, 0, none⟩)), (2, .pointer (some ⟨w.heap.size, 0, none⟩)), (0, .int .i64 (n))]) ⟨rfl, rfl, rfl, rfl, trivial⟩
   exact ⟨_, (by omega), (k + 1), (xs).set (k : Int).toNat true, rfl, f52, e47, bx48, bx43, (by omega), (by omega), (by omega), (mix_next hmx (by omega) (by omega) (decide_eq_true (by omega)).symm)⟩
  ·have q53 := of_decide_eq_false h36
   refine wp_exit ?_
   refine t_e ?_
   refine t_e ?_
   refine b_e ?_
   refine t_n ?_
   have f54 := f35.sub (r := [(3, .pointer (some ⟨w1.heap.size, 0, none⟩)), (2, .pointer (some ⟨w.heap.size, 0, none⟩))]) ⟨rfl, rfl, trivial⟩
   clear f35
   refine wp_seq ?_
   refine At.start ?_
   refine At.rd f54 1 [[.cs ((xs : List Bool).map Value.bool)]] [(16, .agg ((xs : List Bool).map Value.bool).toArray)] [(((xs : List Bool).map Value.bool).length = 256), (∀ (j : Nat) (v : Value), ((xs : List Bool).map Value.bool)[j]? = some v → w22.cell? ((⟨w1.heap.size, 0, none⟩ : Addr).add j) = some v)] (by kernel_rfl) ⟨(by simp only [List.length_map, List.length_set, List.length_replicate, List.length_cons, List.length_nil]; first | done | assumption | exact from_len _ | exact of_len _ | exact ofZ_len _ | exact (ofW_ok _).1 | exact (fullW_W _).1 | exact (okW_with (by assumption)).1 | exact (okW_less (by assumption)).1 | exact put_len (from_len _) | exact orD_len _ _ | exact andD_len _ _ | exact minusD_len _ _ | exact fullD_len _ | (refine okLen ?_; (repeat (first | assumption | exact ofW_ok _ | exact fullW_W _ | apply okW_with | apply okW_less | refine okW_orS ?_ ?_ | refine okW_andS ?_ ?_ | refine okW_minusS ?_ ?_)); done) | omega | rfl), bx27.whole, trivial⟩ (fun act56 f55 => ?_)
   clear f54
   refine At.act f55 (storeBlk (t := 32) (b := w.heap.size) (n := 256) (cs' := ((xs : List Bool).map Value.bool)) (by kernel_rfl) (by kernel_rfl) (by simp only [List.length_map, List.length_set, List.length_replicate, List.length_cons, List.length_nil]; first | done | assumption | exact from_len _ | exact of_len _ | exact ofZ_len _ | exact (ofW_ok _).1 | exact (fullW_W _).1 | exact (okW_with (by assumption)).1 | exact (okW_less (by assumption)).1 | exact put_len (from_len _) | exact orD_len _ _ | exact andD_len _ _ | exact minusD_len _ _ | exact fullD_len _ | (refine okLen ?_; (repeat (first | assumption | exact ofW_ok _ | exact fullW_W _ | apply okW_with | apply okW_less | refine okW_orS ?_ ?_ | refine okW_andS ?_ ?_ | refine okW_minusS ?_ ?_)); done) | omega | rfl) oneB ((show ((xs : List Bool).map Value.bool).length = 256 from (by simp only [List.length_map, List.length_set, List.length_replicate, List.length_cons, List.length_nil]; first | done | assumption | exact from_len _ | exact of_len _ | exact ofZ_len _ | exact (ofW_ok _).1 | exact (fullW_W _).1 | exact (okW_with (by assumption)).1 | exact (okW_less (by assumption)).1 | exact put_len (from_len _) | exact orD_len _ _ | exact andD_len _ _ | exact minusD_len _ _ | exact fullD_len _ | (refine okLen ?_; (repeat (first | assumption | exact ofW_ok _ | exact fullW_W _ | apply okW_with | apply okW_less | refine okW_orS ?_ ?_ | refine okW_andS ?_ ?_ | refine okW_minusS ?_ ?_)); done) | omega | rfl)).trans (show ((List.replicate 256 false : List Bool).map Value.bool).length = 256 from (by simp only [List.length_map, List.length_set, List.length_replicate, List.length_cons, List.length_nil]; first | done | assumption | exact from_len _ | exact of_len _ | exact ofZ_len _ | exact (ofW_ok _).1 | exact (fullW_W _).1 | exact (okW_with (by assumption)).1 | exact (okW_less (by assumption)).1 | exact put_len (from_len _) | exact orD_len _ _ | exact andD_len _ _ | exact minusD_len _ _ | exact fullD_len _ | (refine okLen ?_; (repeat (first | assumption | exact ofW_ok _ | exact fullW_W _ | apply okW_with | apply okW_less | refine okW_orS ?_ ?_ | refine okW_andS ?_ ?_ | refine okW_minusS ?_ ?_)); done) | omega | rfl)).symm) bx26) ?_
   rintro d_ v_ w57 ⟨rfl, g58, bx59⟩
   refine ⟨_, rfl, fun act61 f60 => ?_⟩
   clear f55
   have szw57 := g58.size
   have e62 := e23.gr g58 (fun k h => by injection h; omega)
   clear e23
   have bx63 := bx27.gr g58 (fun h => by injection h; omega)
   clear bx27
   clear bx26 g58
   refine At.done rfl ?_
   refine t_n ?_
   have f64 := f60.sub (r := [(2, .pointer (some ⟨w.heap.size, 0, none⟩))]) ⟨rfl, trivial⟩
   clear f60
   refine wp_ret ?_
   refine retB_ f64 (sl := 2) (cs := ((xs : List Bool).map Value.bool)) (m := 256) rfl (by kernel_rfl) (by kernel_rfl) (by simp only [List.length_map, List.length_set, List.length_replicate, List.length_cons, List.length_nil]; first | done | assumption | exact from_len _ | exact of_len _ | exact ofZ_len _ | exact (ofW_ok _).1 | exact (fullW_W _).1 | exact (okW_with (by assumption)).1 | exact (okW_less (by assumption)).1 | exact put_len (from_len _) | exact orD_len _ _ | exact andD_len _ _ | exact minusD_len _ _ | exact fullD_len _ | (refine okLen ?_; (repeat (first | assumption | exact ofW_ok _ | exact fullW_W _ | apply okW_with | apply okW_less | refine okW_orS ?_ ?_ | refine okW_andS ?_ ?_ | refine okW_minusS ?_ ?_)); done) | omega | rfl) bx59 ?_
   exact ⟨ret_map (full_end hmx (by omega)), e62⟩
 ·have q65 := of_decide_eq_false h31
  refine At.rd f25 7 [[], [], [.as_ (.bool false)], [], [], [], []] [(11, .bool false), (10, undef), (9, undef), (8, undef), (7, .bool false), (6, .bool (decide ((k : Int) < 256))), (5, .int .i64 (k))] [((.bool (decide ((k : Int) < 256)) : Value) = .bool false)] (by kernel_rfl) ⟨(congrArg Value.bool h31), trivial⟩ (fun act67 f66 => ?_)
  clear f25
  refine At.done rfl ?_
  refine t_n ?_
  have f68 := f66.sub (r := [(11, .bool false), (4, .int .i64 (k)), (3, .pointer (some ⟨w1.heap.size, 0, none⟩)), (2, .pointer (some ⟨w.heap.size, 0, none⟩)), (0, .int .i64 (n))]) ⟨rfl, rfl, rfl, rfl, rfl, trivial⟩
  clear f66
  refine cond_F f68 rfl ?_
  refine wp_exit ?_
  refine t_e ?_
  refine t_e ?_
  refine b_e ?_
  refine t_n ?_
  have f69 := f68.sub (r := [(3, .pointer (some ⟨w1.heap.size, 0, none⟩)), (2, .pointer (some ⟨w.heap.size, 0, none⟩))]) ⟨rfl, rfl, trivial⟩
  clear f68
  refine wp_seq ?_
  refine At.start ?_
  refine At.rd f69 1 [[.cs ((xs : List Bool).map Value.bool)]] [(16, .agg ((xs : List Bool).map Value.bool).toArray)] [(((xs : List Bool).map Value.bool).length = 256), (∀ (j : Nat) (v : Value), ((xs : List Bool).map Value.bool)[j]? = some v → w22.cell? ((⟨w1.heap.size, 0, none⟩ : Addr).add j) = some v)] (by kernel_rfl) ⟨(by simp only [List.length_map, List.length_set, List.length_replicate, List.length_cons, List.length_nil]; first | done | assumption | exact from_len _ | exact of_len _ | exact ofZ_len _ | exact (ofW_ok _).1 | exact (fullW_W _).1 | exact (okW_with (by assumption)).1 | exact (okW_less (by assumption)).1 | exact put_len (from_len _) | exact orD_len _ _ | exact andD_len _ _ | exact minusD_len _ _ | exact fullD_len _ | (refine okLen ?_; (repeat (first | assumption | exact ofW_ok _ | exact fullW_W _ | apply okW_with | apply okW_less | refine okW_orS ?_ ?_ | refine okW_andS ?_ ?_ | refine okW_minusS ?_ ?_)); done) | omega | rfl), bx27.whole, trivial⟩ (fun act71 f70 => ?_)
  clear f69
  refine At.act f70 (storeBlk (t := 32) (b := w.heap.size) (n := 256) (cs' := ((xs : List Bool).map Value.bool)) (by kernel_rfl) (by kernel_rfl) (by simp only [List.length_map, List.length_set, List.length_replicate, List.length_cons, List.length_nil]; first | done | assumption | exact from_len _ | exact of_len _ | exact ofZ_len _ | exact (ofW_ok _).1 | exact (fullW_W _).1 | exact (okW_with (by assumption)).1 | exact (okW_less (by assumption)).1 | exact put_len (from_len _) | exact orD_len _ _ | exact andD_len _ _ | exact minusD_len _ _ | exact fullD_len _ | (refine okLen ?_; (repeat (first | assumption | exact ofW_ok _ | exact fullW_W _ | apply okW_with | apply okW_less | refine okW_orS ?_ ?_ | refine okW_andS ?_ ?_ | refine okW_minusS ?_ ?_)); done) | omega | rfl) oneB ((show ((xs : List Bool).map Value.bool).length = 256 from (by simp only [List.length_map, List.length_set, List.length_replicate, List.length_cons, List.length_nil]; first | done | assumption | exact from_len _ | exact of_len _ | exact ofZ_len _ | exact (ofW_ok _).1 | exact (fullW_W _).1 | exact (okW_with (by assumption)).1 | exact (okW_less (by assumption)).1 | exact put_len (from_len _) | exact orD_len _ _ | exact andD_len _ _ | exact minusD_len _ _ | exact fullD_len _ | (refine okLen ?_; (repeat (first | assumption | exact ofW_ok _ | exact fullW_W _ | apply okW_with | apply okW_less | refine okW_orS ?_ ?_ | refine okW_andS ?_ ?_ | refine okW_minusS ?_ ?_)); done) | omega | rfl)).trans (show ((List.replicate 256 false : List Bool).map Value.bool).length = 256 from (by simp only [List.length_map, List.length_set, List.length_replicate, List.length_cons, List.length_nil]; first | done | assumption | exact from_len _ | exact of_len _ | exact ofZ_len _ | exact (ofW_ok _).1 | exact (fullW_W _).1 | exact (okW_with (by assumption)).1 | exact (okW_less (by assumption)).1 | exact put_len (from_len _) | exact orD_len _ _ | exact andD_len _ _ | exact minusD_len _ _ | exact fullD_len _ | (refine okLen ?_; (repeat (first | assumption | exact ofW_ok _ | exact fullW_W _ | apply okW_with | apply okW_less | refine okW_orS ?_ ?_ | refine okW_andS ?_ ?_ | refine okW_minusS ?_ ?_)); done) | omega | rfl)).symm) bx26) ?_
  rintro d_ v_ w72 ⟨rfl, g73, bx74⟩
  refine ⟨_, rfl, fun act76 f75 => ?_⟩
  clear f70
  have szw72 := g73.size
  have e77 := e23.gr g73 (fun k h => by injection h; omega)
  clear e23
  have bx78 := bx27.gr g73 (fun h => by injection h; omega)
  clear bx27
  clear bx26 g73
  refine At.done rfl ?_
  refine t_n ?_
  have f79 := f75.sub (r := [(2, .pointer (some ⟨w.heap.size, 0, none⟩))]) ⟨rfl, trivial⟩
  clear f75
  refine wp_ret ?_
  refine retB_ f79 (sl := 2) (cs := ((xs : List Bool).map Value.bool)) (m := 256) rfl (by kernel_rfl) (by kernel_rfl) (by simp only [List.length_map, List.length_set, List.length_replicate, List.length_cons, List.length_nil]; first | done | assumption | exact from_len _ | exact of_len _ | exact ofZ_len _ | exact (ofW_ok _).1 | exact (fullW_W _).1 | exact (okW_with (by assumption)).1 | exact (okW_less (by assumption)).1 | exact put_len (from_len _) | exact orD_len _ _ | exact andD_len _ _ | exact minusD_len _ _ | exact fullD_len _ | (refine okLen ?_; (repeat (first | assumption | exact ofW_ok _ | exact fullW_W _ | apply okW_with | apply okW_less | refine okW_orS ?_ ?_ | refine okW_andS ?_ ?_ | refine okW_minusS ?_ ?_)); done) | omega | rfl) bx74 ?_
  exact ⟨ret_map (full_end hmx (by omega)), e77⟩

set_option maxHeartbeats 4000000 in
theorem ofR_any {Aa : Option Addr} {ca : Nat} {la : List Int} {w : World} (ra : RdI w 0 w.heap.size Aa la) :
    Calls Tryd.prog 18 #[.slice Aa la.length ca] w fun e w' => e = .returned (.agg (((ofD la : List Bool)).map Value.bool).toArray) ∧ Ext w w' := by
 have hla := ra.len
 refine enter_ (args := [.slice Aa la.length ca]) Tryd.func18 rfl Tryd.ntmps18 (Nat.le_of_ble_eq_true rfl) (fun act0 f0 => ?_)
 have e0 := Ext.refl w
 refine wp_seq ?_
 refine At.start ?_
 refine At.seq f0 1 [[]] [(2, .pointer (some ⟨w.heap.size, 0, none⟩))] (w.alloc (.cells ((List.replicate 256 false : List Bool).map Value.bool).toArray 32 (0, 0))) [] (by kernel_rfl) trivial (fun act4 w1 hw2 f3 => ?_)
 clear f0
 have g5 := gr_alloc hw2
 have szw1 := g5.size
 have e7 := e0.gr g5 no_row
 clear e0
 have r8 := ra.gr g5 (fun _ h => by cases h)
 clear ra
 have bx9 : Bx w1 (w.heap.size) ((List.replicate 256 false : List Bool).map Value.bool) 32 := Bx.new hw2
 have := bx9.lt
 clear g5 hw2
 refine At.done rfl ?_
 refine t_n ?_
 refine wp_seq ?_
 refine At.start ?_
 refine At.seq f3 1 [[]] [(3, .pointer (some ⟨w1.heap.size, 0, none⟩))] (w1.alloc (.cells ((List.replicate 256 false : List Bool).map Value.bool).toArray 32 (0, 0))) [] (by kernel_rfl) trivial (fun act13 w10 hw11 f12 => ?_)
 clear f3
 have g14 := gr_alloc hw11
 have szw10 := g14.size
 have e16 := e7.gr g14 no_row
 clear e7
 have r17 := r8.gr g14 (fun _ h => by cases h)
 clear r8
 have bx18 := bx9.gr g14 (by simp)
 clear bx9
 have bx19 : Bx w10 (w1.heap.size) ((List.replicate 256 false : List Bool).map Value.bool) 32 := Bx.new hw11
 have := bx19.lt
 clear g14 hw11
 refine At.done rfl ?_
 refine t_n ?_
 refine wp_seq ?_
 refine wp_seq ?_
 refine At.start ?_
 refine At.rd f12 1 [[]] [(4, .int .i64 (0))] [] (by kernel_rfl) trivial (fun act21 f20 => ?_)
 clear f12
 refine At.done rfl ?_
 refine t_n ?_
 refine wp_block ?_
 have f22 := f20.sub (r := [(4, .int .i64 (0)), (3, .pointer (some ⟨w1.heap.size, 0, none⟩)), (2, .pointer (some ⟨w.heap.size, 0, none⟩)), (0, .slice Aa la.length ca)]) ⟨rfl, rfl, rfl, rfl, trivial⟩
 refine loop_g (fun (m_ : Nat) a_ w_ => ∃ (k : Int) (xs : List Bool), m_ = ((la.length : Int) - k).toNat ∧ (Frm 29 a_ [(4, .int .i64 (k)), (3, .pointer (some ⟨w1.heap.size, 0, none⟩)), (2, .pointer (some ⟨w.heap.size, 0, none⟩)), (0, .slice Aa la.length ca)]) ∧ (Ext w w_) ∧ (RdI w_ 0 w.heap.size Aa la) ∧ (Bx w_ (w.heap.size) ((List.replicate 256 false : List Bool).map Value.bool) 32) ∧ (Bx w_ (w1.heap.size) ((xs : List Bool).map Value.bool) 32) ∧ (0 ≤ k) ∧ (k ≤ (la.length : Int)) ∧ (xs.length = 256) ∧ (xs = ofD (la.take k.toNat))) _ ⟨0, List.replicate 256 false, rfl, f22, e16, r17, bx18, bx19, (by omega), (by omega), List.length_replicate, rfl⟩ ?_
 clear f22 f20
 clear r17
 clear bx18
 clear bx19
 clear e16
 intro m_ act23 w24 ⟨k, xs, hm26, f27, e25, r28, bx29, bx30, i31, i32, i33, hxs⟩
 have szw24 := e25.size
 have := bx29.lt
 have := bx30.lt
 refine wp_seq ?_
 refine wp_seq ?_
 refine At.start ?_
 refine At.rd f27 4 [[], [], [], []] [(8, .bool (decide ((k : Int) < ((la.length : Nat) : Int)))), (7, .int .i64 (((la.length : Nat) : Int))), (6, .slice Aa la.length ca), (5, .int .i64 (k))] [] (by kernel_rfl) trivial (fun act35 f34 => ?_)
 clear f27
 refine At.done rfl ?_
 refine t_n ?_
 have f36 := f34.sub (r := [(8, .bool (decide ((k : Int) < ((la.length : Nat) : Int)))), (4, .int .i64 (k)), (3, .pointer (some ⟨w1.heap.size, 0, none⟩)), (2, .pointer (some ⟨w.heap.size, 0, none⟩)), (0, .slice Aa la.length ca)]) ⟨rfl, rfl, rfl, rfl, rfl, trivial⟩
 clear f34
 refine cond_S f36 (t := decide ((k : Int) < ((la.length : Nat) : Int))) rfl (fun h37 => ?_) (fun h37 => ?_)
 ·have q38 := of_decide_eq_true h37
  refine wp_skip ?_
  refine t_n ?_
  have f39 := f36.sub (r := [(4, .int .i64 (k)), (3, .pointer (some ⟨w1.heap.size, 0, none⟩)), (2, .pointer (some ⟨w.heap.size, 0, none⟩)), (0, .slice Aa la.length ca)]) ⟨rfl, rfl, rfl, rfl, trivial⟩
  clear f36
  refine wp_seq ?_
  refine wp_block ?_
  refine wp_seq ?_
  refine At.start ?_
  obtain ⟨ad40, hA41, _, _, hc42⟩ := RdI.get r28 (k) (by omega) (by omega)
  rcases Bool.eq_false_or_eq_true (decide ((gI la (k) : Int) ≥ 0)) with h43 | h43
  ·have q44 := of_decide_eq_true h43
   obtain ⟨ad45, hA46, _, _, hc47⟩ := RdI.get r28 (k) (by omega) (by omega)
   refine At.rd f39 12 [[], [], [.ad ad40], [.ld (.int .i64 (gI la (k)))], [], [.as_ (.bool true)], [], [], [.ad ad45], [.ld (.int .i64 (gI la (k)))], [], []] [(22, .bool (decide ((gI la (k) : Int) < 256))), (21, .bool (decide ((gI la (k) : Int) < 256))), (20, .int .i64 (gI la (k))), (19, .pointer (some (ad45.add ((k : Int).toNat * 1)))), (18, .int .i64 (k)), (17, .slice Aa la.length ca), (16, .bool true), (15, .bool (decide ((gI la (k) : Int) ≥ 0))), (14, .int .i64 (gI la (k))), (13, .pointer (some (ad40.add ((k : Int).toNat * 1)))), (12, .int .i64 (k)), (11, .slice Aa la.length ca)] [(Aa = some ad40), (0 ≤ (k : Int)), ((k : Int) < (la.length : Nat)), (w24.cell? (ad40.add ((k : Int).toNat * 1)) = some (.int .i64 (gI la (k)))), ((.bool (decide ((gI la (k) : Int) ≥ 0)) : Value) = .bool true), (Aa = some ad45), (0 ≤ (k : Int)), ((k : Int) < (la.length : Nat)), (w24.cell? (ad45.add ((k : Int).toNat * 1)) = some (.int .i64 (gI la (k))))] (by kernel_rfl) ⟨hA41, (by omega), (by omega), hc42, (congrArg Value.bool h43), hA46, (by omega), (by omega), hc47, trivial⟩ (fun act49 f48 => ?_)
   clear f39
   refine At.done rfl ?_
   refine t_n ?_
   have f50 := f48.sub (r := [(22, .bool (decide ((gI la (k) : Int) < 256))), (21, .bool (decide ((gI la (k) : Int) < 256))), (20, .int .i64 (gI la (k))), (19, .pointer (some (ad45.add ((k : Int).toNat * 1)))), (18, .int .i64 (k)), (17, .slice Aa la.length ca), (4, .int .i64 (k)), (3, .pointer (some ⟨w1.heap.size, 0, none⟩)), (2, .pointer (some ⟨w.heap.size, 0, none⟩)), (0, .slice Aa la.length ca)]) ⟨rfl, rfl, rfl, rfl, rfl, rfl, rfl, rfl, rfl, rfl, trivial⟩
   clear f48
   refine cond_S f50 (t := decide ((gI la (k) : Int) < 256)) rfl (fun h51 => ?_) (fun h51 => ?_)
   ·have q52 := of_decide_eq_true h51
    refine At.start ?_
    obtain ⟨ad53, hA54, _, _, hc55⟩ := RdI.get r28 (k) (by omega) (by omega)
    refine At.rd f50 5 [[], [], [.ad ad53], [.ld (.int .i64 (gI la (k)))], []] [(27, .pointer (some ((⟨w1.heap.size, 0, none⟩ : Addr).add ((gI la (k) : Int).toNat * 1)))), (26, .int .i64 (gI la (k))), (25, .pointer (some (ad53.add ((k : Int).toNat * 1)))), (24, .int .i64 (k)), (23, .slice Aa la.length ca)] [(Aa = some ad53), (0 ≤ (k : Int)), ((k : Int) < (la.length : Nat)), (w24.cell? (ad53.add ((k : Int).toNat * 1)) = some (.int .i64 (gI la (k)))), (0 ≤ (gI la (k) : Int)), ((gI la (k) : Int) < (256 : Nat))] (by kernel_rfl) ⟨hA54, (by omega), (by omega), hc55, (by omega), (by omega), trivial⟩ (fun act57 f56 => ?_)
    clear f50
    refine At.act f56 (storeArrM (f := Value.bool) (t := 4) (b := w1.heap.size) (i := gI la (k)) (x := true) (v := .bool true) (by kernel_rfl) rfl rfl (by kernel_rfl) bx30 (by omega) (by omega)) ?_
    rintro d_ v_ w58 ⟨rfl, g59, bx60⟩
    refine ⟨_, rfl, fun act63 f62 => ?_⟩
    clear f56
    have hl61 : ((xs).set (gI la (k) : Int).toNat true).length = (xs : List Bool).length := List.length_set
    have szw58 := g59.size
    have e64 := e25.gr g59 (fun k h => by injection h; omega)
    clear e25
    have r65 := r28.gr g59 (fun k h => by injection h; omega)
    clear r28
    have bx66 := bx29.gr g59 (fun h => by injection h; omega)
    clear bx29
    clear bx30 g59
    refine At.done rfl ?_
    refine b_n ?_
    refine t_n ?_
    have f67 := f62.sub (r := [(21, .bool (decide ((gI la (k) : Int) < 256))), (20, .int .i64 (gI la (k))), (19, .pointer (some (ad45.add ((k : Int).toNat * 1)))), (18, .int .i64 (k)), (17, .slice Aa la.length ca), (4, .int .i64 (k)), (3, .pointer (some ⟨w1.heap.size, 0, none⟩)), (2, .pointer (some ⟨w.heap.size, 0, none⟩)), (0, .slice Aa la.length ca)]) ⟨rfl, rfl, rfl, rfl, rfl, rfl, rfl, rfl, rfl, trivial⟩
    clear f62
    refine At.start ?_
    refine At.rd f67 3 [[], [.as_ (.int .i64 (k + 1))], []] [(4, .int .i64 (k + 1)), (10, .int .i64 (k + 1)), (9, .int .i64 (k))] [((.int .i64 (IntKind.i64.wrap (k + 1)) : Value) = .int .i64 (k + 1))] (by kernel_rfl) ⟨(w64 (by omega) (by omega)), trivial⟩ (fun act69 f68 => ?_)
    clear f67
    refine At.done rfl ?_
    refine t_n ?_
    have f70 := f68.sub (r := [(4, .int .i64 (k + 1)), (3, .pointer (some ⟨w1.heap.size, 0, none⟩)), (2, .pointer (some ⟨w.heap.size, 0, none⟩)), (0, .slice Aa la.length ca)]) ⟨rfl, rfl, rfl, rfl, trivial⟩
    exact ⟨_, (by omega), (k + 1), (xs).set (gI la (k) : Int).toNat true, rfl, f70, e64, r65, bx66, bx60, (by omega), (by omega), (by omega), (by rw [← of_next hxs (by omega) (by omega)]; first | exact put_in (by omega) (by omega) | exact put_out (by omega))⟩
   ·have q71 := of_decide_eq_false h51
    refine wp_skip ?_
    refine b_n ?_
    refine t_n ?_
    have f72 := f50.sub (r := [(21, .bool (decide ((gI la (k) : Int) < 256))), (20, .int .i64 (gI la (k))), (19, .pointer (some (ad45.add ((k : Int).toNat * 1)))), (18, .int .i64 (k)), (17, .slice Aa la.length ca), (4, .int .i64 (k)), (3, .pointer (some ⟨w1.heap.size, 0, none⟩)), (2, .pointer (some ⟨w.heap.size, 0, none⟩)), (0, .slice Aa la.length ca)]) ⟨rfl, rfl, rfl, rfl, rfl, rfl, rfl, rfl, rfl, trivial⟩
    clear f50
    refine At.start ?_
    refine At.rd f72 3 [[], [.as_ (.int .i64 (k + 1))], []] [(4, .int .i64 (k + 1)), (10, .int .i64 (k + 1)), (9, .int .i64 (k))] [((.int .i64 (IntKind.i64.wrap (k + 1)) : Value) = .int .i64 (k + 1))] (by kernel_rfl) ⟨(w64 (by omega) (by omega)), trivial⟩ (fun act74 f73 => ?_)
    clear f72
    refine At.done rfl ?_
    refine t_n ?_
    have f75 := f73.sub (r := [(4, .int .i64 (k + 1)), (3, .pointer (some ⟨w1.heap.size, 0, none⟩)), (2, .pointer (some ⟨w.heap.size, 0, none⟩)), (0, .slice Aa la.length ca)]) ⟨rfl, rfl, rfl, rfl, trivial⟩
    exact ⟨_, (by omega), (k + 1), xs, rfl, f75, e25, r28, bx29, bx30, (by omega), (by omega), (by omega), (by rw [← of_next hxs (by omega) (by omega)]; first | exact put_in (by omega) (by omega) | exact put_out (by omega))⟩
  ·have q76 := of_decide_eq_false h43
   refine At.rd f39 12 [[], [], [.ad ad40], [.ld (.int .i64 (gI la (k)))], [], [.as_ (.bool false)], [], [], [], [], [], []] [(22, .bool false), (21, undef), (20, undef), (19, undef), (18, undef), (17, undef), (16, .bool false), (15, .bool (decide ((gI la (k) : Int) ≥ 0))), (14, .int .i64 (gI la (k))), (13, .pointer (some (ad40.add ((k : Int).toNat * 1)))), (12, .int .i64 (k)), (11, .slice Aa la.length ca)] [(Aa = some ad40), (0 ≤ (k : Int)), ((k : Int) < (la.length : Nat)), (w24.cell? (ad40.add ((k : Int).toNat * 1)) = some (.int .i64 (gI la (k)))), ((.bool (decide ((gI la (k) : Int) ≥ 0)) : Value) = .bool false)] (by kernel_rfl) ⟨hA41, (by omega), (by omega), hc42, (congrArg Value.bool h43), trivial⟩ (fun act78 f77 => ?_)
   clear f39
   refine At.done rfl ?_
   refine t_n ?_
   have f79 := f77.sub (r := [(22, .bool false), (4, .int .i64 (k)), (3, .pointer (some ⟨w1.heap.size, 0, none⟩)), (2, .pointer (some ⟨w.heap.size, 0, none⟩)), (0, .slice Aa la.length ca)]) ⟨rfl, rfl, rfl, rfl, rfl, trivial⟩
   clear f77
   refine cond_F f79 rfl ?_
   refine wp_skip ?_
   refine b_n ?_
   refine t_n ?_
   have f80 := f79.sub (r := [(4, .int .i64 (k)), (3, .pointer (some ⟨w1.heap.size, 0, none⟩)), (2, .pointer (some ⟨w.heap.size, 0, none⟩)), (0, .slice Aa la.length ca)]) ⟨rfl, rfl, rfl, rfl, trivial⟩
   clear f79
   refine At.start ?_
   refine At.rd f80 3 [[], [.as_ (.int .i64 (k + 1))], []] [(4, .int .i64 (k + 1)), (10, .int .i64 (k + 1)), (9, .int .i64 (k))] [((.int .i64 (IntKind.i64.wrap (k + 1)) : Value) = .int .i64 (k + 1))] (by kernel_rfl) ⟨(w64 (by omega) (by omega)), trivial⟩ (fun act82 f81 => ?_)
   clear f80
   refine At.done rfl ?_
   refine t_n ?_
   have f83 := f81.sub (r := [(4, .int .i64 (k + 1)), (3, .pointer (some ⟨w1.heap.size, 0, none⟩)), (2, .pointer (some ⟨w.heap.size, 0, none⟩)), (0, .slice Aa la.length ca)]) ⟨rfl, rfl, rfl, rfl, trivial⟩
   exact ⟨_, (by omega), (k + 1), xs, rfl, f83, e25, r28, bx29, bx30, (by omega), (by omega), (by omega), (by rw [← of_next hxs (by omega) (by omega)]; first | exact put_in (by omega) (by omega) | exact put_out (by omega))⟩
 ·have q84 := of_decide_eq_false h37
  refine wp_exit ?_
  refine t_e ?_
  refine t_e ?_
  refine b_e ?_
  refine t_n ?_
  have f85 := f36.sub (r := [(3, .pointer (some ⟨w1.heap.size, 0, none⟩)), (2, .pointer (some ⟨w.heap.size, 0, none⟩))]) ⟨rfl, rfl, trivial⟩
  clear f36
  refine wp_seq ?_
  refine At.start ?_
  refine At.rd f85 1 [[.cs ((xs : List Bool).map Value.bool)]] [(28, .agg ((xs : List Bool).map Value.bool).toArray)] [(((xs : List Bool).map Value.bool).length = 256), (∀ (j : Nat) (v : Value), ((xs : List Bool).map Value.bool)[j]? = some v → w24.cell? ((⟨w1.heap.size, 0, none⟩ : Addr).add j) = some v)] (by kernel_rfl) ⟨(by simp only [List.length_map, List.length_set, List.length_replicate, List.length_cons, List.length_nil]; first | done | assumption | exact from_len _ | exact of_len _ | exact ofZ_len _ | exact (ofW_ok _).1 | exact (fullW_W _).1 | exact (okW_with (by assumption)).1 | exact (okW_less (by assumption)).1 | exact put_len (from_len _) | exact orD_len _ _ | exact andD_len _ _ | exact minusD_len _ _ | exact fullD_len _ | (refine okLen ?_; (repeat (first | assumption | exact ofW_ok _ | exact fullW_W _ | apply okW_with | apply okW_less | refine okW_orS ?_ ?_ | refine okW_andS ?_ ?_ | refine okW_minusS ?_ ?_)); done) | omega | rfl), bx30.whole, trivial⟩ (fun act87 f86 => ?_)
  clear f85
  refine At.act f86 (storeBlk (t := 32) (b := w.heap.size) (n := 256) (cs' := ((xs : List Bool).map Value.bool)) (by kernel_rfl) (by kernel_rfl) (by simp only [List.length_map, List.length_set, List.length_replicate, List.length_cons, List.length_nil]; first | done | assumption | exact from_len _ | exact of_len _ | exact ofZ_len _ | exact (ofW_ok _).1 | exact (fullW_W _).1 | exact (okW_with (by assumption)).1 | exact (okW_less (by assumption)).1 | exact put_len (from_len _) | exact orD_len _ _ | exact andD_len _ _ | exact minusD_len _ _ | exact fullD_len _ | (refine okLen ?_; (repeat (first | assumption | exact ofW_ok _ | exact fullW_W _ | apply okW_with | apply okW_less | refine okW_orS ?_ ?_ | refine okW_andS ?_ ?_ | refine okW_minusS ?_ ?_)); done) | omega | rfl) oneB ((show ((xs : List Bool).map Value.bool).length = 256 from (by simp only [List.length_map, List.length_set, List.length_replicate, List.length_cons, List.length_nil]; first | done | assumption | exact from_len _ | exact of_len _ | exact ofZ_len _ | exact (ofW_ok _).1 | exact (fullW_W _).1 | exact (okW_with (by assumption)).1 | exact (okW_less (by assumption)).1 | exact put_len (from_len _) | exact orD_len _ _ | exact andD_len _ _ | exact minusD_len _ _ | exact fullD_len _ | (refine okLen ?_; (repeat (first | assumption | exact ofW_ok _ | exact fullW_W _ | apply okW_with | apply okW_less | refine okW_orS ?_ ?_ | refine okW_andS ?_ ?_ | refine okW_minusS ?_ ?_)); done) | omega | rfl)).trans (show ((List.replicate 256 false : List Bool).map Value.bool).length = 256 from (by simp only [List.length_map, List.length_set, List.length_replicate, List.length_cons, List.length_nil]; first | done | assumption | exact from_len _ | exact of_len _ | exact ofZ_len _ | exact (ofW_ok _).1 | exact (fullW_W _).1 | exact (okW_with (by assumption)).1 | exact (okW_less (by assumption)).1 | exact put_len (from_len _) | exact orD_len _ _ | exact andD_len _ _ | exact minusD_len _ _ | exact fullD_len _ | (refine okLen ?_; (repeat (first | assumption | exact ofW_ok _ | exact fullW_W _ | apply okW_with | apply okW_less | refine okW_orS ?_ ?_ | refine okW_andS ?_ ?_ | refine okW_minusS ?_ ?_)); done) | omega | rfl)).symm) bx29) ?_
  rintro d_ v_ w88 ⟨rfl, g89, bx90⟩
  refine ⟨_, rfl, fun act92 f91 => ?_⟩
  clear f86
  have szw88 := g89.size
  have e93 := e25.gr g89 (fun k h => by injection h; omega)
  clear e25
  have r94 := r28.gr g89 (fun k h => by injection h; omega)
  clear r28
  have bx95 := bx30.gr g89 (fun h => by injection h; omega)
  clear bx30
  clear bx29 g89
  refine At.done rfl ?_
  refine t_n ?_
  have f96 := f91.sub (r := [(2, .pointer (some ⟨w.heap.size, 0, none⟩))]) ⟨rfl, trivial⟩
  clear f91
  refine wp_ret ?_
  refine retB_ f96 (sl := 2) (cs := ((xs : List Bool).map Value.bool)) (m := 256) rfl (by kernel_rfl) (by kernel_rfl) (by simp only [List.length_map, List.length_set, List.length_replicate, List.length_cons, List.length_nil]; first | done | assumption | exact from_len _ | exact of_len _ | exact ofZ_len _ | exact (ofW_ok _).1 | exact (fullW_W _).1 | exact (okW_with (by assumption)).1 | exact (okW_less (by assumption)).1 | exact put_len (from_len _) | exact orD_len _ _ | exact andD_len _ _ | exact minusD_len _ _ | exact fullD_len _ | (refine okLen ?_; (repeat (first | assumption | exact ofW_ok _ | exact fullW_W _ | apply okW_with | apply okW_less | refine okW_orS ?_ ?_ | refine okW_andS ?_ ?_ | refine okW_minusS ?_ ?_)); done) | omega | rfl) bx90 ?_
  exact ⟨ret_map (by rw [hxs, List.take_of_length_le (by omega)]), e93⟩

set_option maxHeartbeats 4000000 in
theorem listR_any {l : List Bool} {w : World} (hl : l.length = 256) :
    Calls Tryd.prog 24 #[.agg ((l : List Bool).map Value.bool).toArray] w fun e w' => ∃ A c, e = .returned (.slice A ((lsD l 256)).length c) ∧ Ext w w' ∧ OwnR w' (Sx w.heap.size []) A c 3 ((lsD l 256) : List Int) := by
 refine enter_ (args := [.agg ((l : List Bool).map Value.bool).toArray]) Tryd.func24 rfl Tryd.ntmps24 (Nat.le_of_ble_eq_true rfl) (fun act0 f0 => ?_)
 have e0 := Ext.refl w
 refine wp_seq ?_
 refine At.start ?_
 refine At.seq f0 1 [[]] [(1, .pointer (some ⟨w.heap.size, 0, none⟩))] (w.alloc (.cells ((l : List Bool).map Value.bool).toArray 32 (0, 0))) [] (by kernel_rfl) trivial (fun act4 w1 hw2 f3 => ?_)
 clear f0
 have g5 := gr_alloc hw2
 have szw1 := g5.size
 have e7 := e0.gr g5 no_row
 clear e0
 have bx8 : Bx w1 (w.heap.size) ((l : List Bool).map Value.bool) 32 := Bx.new hw2
 have := bx8.lt
 clear g5 hw2
 refine At.rd f3 1 [[]] [(2, .slice none 0 0)] [] (by kernel_rfl) trivial (fun act10 f9 => ?_)
 clear f3
 refine At.done rfl ?_
 refine t_n ?_
 have f11 := f9.sub (r := [(2, .slice none 0 0), (1, .pointer (some ⟨w.heap.size, 0, none⟩))]) ⟨rfl, rfl, trivial⟩
 clear f9
 refine wp_seq ?_
 refine At.start ?_
 refine At.rd f11 1 [[]] [(3, .slice none 0 0)] [] (by kernel_rfl) trivial (fun act13 f12 => ?_)
 clear f11
 refine At.done rfl ?_
 refine t_n ?_
 refine wp_seq ?_
 refine wp_seq ?_
 refine At.start ?_
 refine At.rd f12 1 [[]] [(4, .int .i64 (0))] [] (by kernel_rfl) trivial (fun act15 f14 => ?_)
 clear f12
 refine At.done rfl ?_
 refine t_n ?_
 refine wp_block ?_
 have ow17 : OwnR w1 (Sx (w1.heap.size) []) none 0 3 ([] : List Int) := OwnR.nil
 have f21 := f14.as 3 (.slice none 0 0) (.slice none (([] : List Int).length) 0) rfl (slice_len (by first | rfl | omega | (simp; done) | (simp; omega)))
 clear f14
 have f20 := f21.sub (r := [(3, .slice none (([] : List Int).length) 0), (4, .int .i64 (0)), (2, .slice none 0 0), (1, .pointer (some ⟨w.heap.size, 0, none⟩))]) ⟨rfl, rfl, rfl, rfl, trivial⟩
 refine loop_g (fun (m_ : Nat) a_ w_ => ∃ (k : Int) (xs : List Int) (A_18 : Option Addr) (c_19 : Nat), m_ = (256 - k).toNat ∧ (Frm 17 a_ [(3, .slice A_18 xs.length c_19), (4, .int .i64 (k)), (2, .slice none 0 0), (1, .pointer (some ⟨w.heap.size, 0, none⟩))]) ∧ (Ext w w_) ∧ (Bx w_ (w.heap.size) ((l : List Bool).map Value.bool) 32) ∧ (OwnR w_ (Sx (w1.heap.size) []) A_18 c_19 3 (xs : List Int)) ∧ (0 ≤ k) ∧ (k ≤ 256) ∧ (xs = lsD l k.toNat) ∧ (w1.heap.size ≤ w_.heap.size)) _ ⟨0, ([] : List Int), none, 0, rfl, f20, e7, bx8, ow17, (by omega), (by omega), rfl, (by omega)⟩ ?_
 clear f20 f21
 clear bx8
 clear ow17
 clear e7
 intro m_ act22 w23 ⟨k, xs, A_18, c_19, hm25, f26, e24, bx27, ow28, i29, i30, hxs, i31⟩
 have szw23 := e24.size
 have := bx27.lt
 have hxl := ls_len l k.toNat
 rw [← hxs] at hxl
 refine wp_seq ?_
 refine wp_seq ?_
 refine At.start ?_
 refine At.rd f26 2 [[], []] [(6, .bool (decide ((k : Int) < 256))), (5, .int .i64 (k))] [] (by kernel_rfl) trivial (fun act33 f32 => ?_)
 clear f26
 refine At.done rfl ?_
 refine t_n ?_
 have f34 := f32.sub (r := [(6, .bool (decide ((k : Int) < 256))), (3, .slice A_18 xs.length c_19), (4, .int .i64 (k)), (2, .slice none 0 0), (1, .pointer (some ⟨w.heap.size, 0, none⟩))]) ⟨rfl, rfl, rfl, rfl, rfl, trivial⟩
 clear f32
 refine cond_S f34 (t := decide ((k : Int) < 256)) rfl (fun h35 => ?_) (fun h35 => ?_)
 ·have q36 := of_decide_eq_true h35
  refine wp_skip ?_
  refine t_n ?_
  have f37 := f34.sub (r := [(3, .slice A_18 xs.length c_19), (4, .int .i64 (k)), (2, .slice none 0 0), (1, .pointer (some ⟨w.heap.size, 0, none⟩))]) ⟨rfl, rfl, rfl, rfl, trivial⟩
  clear f34
  refine wp_seq ?_
  refine wp_block ?_
  refine wp_seq ?_
  refine At.start ?_
  refine At.rd f37 3 [[], [], [.ld (.bool (gB l k))]] [(11, .bool (gB l k)), (10, .pointer (some ((⟨w.heap.size, 0, none⟩ : Addr).add ((k : Int).toNat * 1)))), (9, .int .i64 (k))] [(0 ≤ (k : Int)), ((k : Int) < (256 : Nat)), (w23.cell? ((⟨w.heap.size, 0, none⟩ : Addr).add ((k : Int).toNat * 1)) = some (.bool (gB l k)))] (by kernel_rfl) ⟨(by omega), (by omega), (Bx.arrM (f := Value.bool) false bx27 k (by omega) (by omega)), trivial⟩ (fun act39 f38 => ?_)
  clear f37
  refine At.done rfl ?_
  refine t_n ?_
  have f40 := f38.sub (r := [(11, .bool (gB l k)), (3, .slice A_18 xs.length c_19), (4, .int .i64 (k)), (2, .slice none 0 0), (1, .pointer (some ⟨w.heap.size, 0, none⟩))]) ⟨rfl, rfl, rfl, rfl, rfl, trivial⟩
  clear f38
  refine cond_S f40 (t := gB l k) rfl (fun h41 => ?_) (fun h41 => ?_)
  ·refine At.start ?_
   refine At.rd f40 2 [[], []] [(13, .int .i64 (k)), (12, .slice A_18 xs.length c_19)] [] (by kernel_rfl) trivial (fun act44 f43 => ?_)
   clear f40
   refine At.seq f43 1 [[]] [(14, .slice (some ⟨w23.heap.size, 0, none⟩) 1 1)] (w23.alloc (.cells #[.int .i64 (k)] 3 (0, 0))) [] (by kernel_rfl) trivial (fun act48 w45 hw46 f47 => ?_)
   clear f43
   have g49 := gr_alloc hw46
   have szw45 := g49.size
   have e52 := e24.gr g49 no_row
   clear e24
   have bx53 := bx27.gr g49 (by simp)
   clear bx27
   have ow54 : OwnR w45 (Sx (w1.heap.size) [some (w23.heap.size)]) A_18 c_19 3 (xs : List Int) := ow28.grA g49 (fun _ _ h => by cases h) (fun k hk hs => ⟨(fun e => by injection e; omega), hs⟩)
   clear ow28
   have bx51 : Bx w45 (w23.heap.size) [.int .i64 (k)] 3 := Bx.new hw46
   have := bx51.lt
   clear g49 hw46
   have hl59 : (xs ++ ([k])).length = (xs).length + ([k] : List Int).length := List.length_append
   simp only [List.length_cons, List.length_nil] at hl59
   refine At.act f47 (appendR (α := Int) (t := 22) (d := 15) (n := xs.length) (m := 1) (cc := 1) (xs := xs) (ys := [k]) (bytes := 8) (by first | rfl | omega | (simp; done) | (simp; omega)) (by first | rfl | omega | (simp; done) | (simp; omega)) (by kernel_rfl) rfl (by kernel_rfl) ow54 (Bx.srcR (l := ([k] : List Int)) bx51 rfl) (by simp only [List.length_cons, List.length_nil]; omega) (by simp only [List.length_cons, List.length_nil]; omega)) ?_
   rintro d_ v_ w58 ⟨rfl, A55, c56, ha57⟩
   obtain rfl := ha57.val
   have g60 := ha57.gr
   refine ⟨_, rfl, fun act62 f61 => ?_⟩
   clear f47
   clear bx51
   have ow63 := ha57.own (Sx (w1.heap.size) []) (fun g _ hs => hs.2) (show w1.heap.size ≤ w45.heap.size by omega)
   have szw58 := g60.size
   have e64 := e52.gr g60 (fun k hk => by have := ow54.ge k hk; omega)
   clear e52
   have bx65 := bx53.gr g60 (fun e => by have := ow54.ge _ e; omega)
   clear bx53
   clear ow54 g60 ha57
   refine At.rd f61 1 [[]] [(3, .slice A55 ((xs ++ ([k])).length) c56)] [] (by kernel_rfl) trivial (fun act67 f66 => ?_)
   clear f61
   refine At.done rfl ?_
   refine b_n ?_
   refine t_n ?_
   have f68 := f66.sub (r := [(3, .slice A55 ((xs ++ ([k])).length) c56), (4, .int .i64 (k)), (2, .slice none 0 0), (1, .pointer (some ⟨w.heap.size, 0, none⟩))]) ⟨rfl, rfl, rfl, rfl, trivial⟩
   clear f66
   refine At.start ?_
   refine At.rd f68 3 [[], [.as_ (.int .i64 (k + 1))], []] [(4, .int .i64 (k + 1)), (8, .int .i64 (k + 1)), (7, .int .i64 (k))] [((.int .i64 (IntKind.i64.wrap (k + 1)) : Value) = .int .i64 (k + 1))] (by kernel_rfl) ⟨(w64 (by omega) (by omega)), trivial⟩ (fun act70 f69 => ?_)
   clear f68
   refine At.done rfl ?_
   refine t_n ?_
   have f71 := f69.as 3 (.slice A55 ((xs ++ ([k])).length) c56) (.slice A55 ((xs ++ ([k]) : List Int).length) c56) rfl (slice_len (by first | rfl | omega | (simp; done) | (simp; omega)))
   clear f69
   have f72 := f71.sub (r := [(3, .slice A55 ((xs ++ ([k]) : List Int).length) c56), (4, .int .i64 (k + 1)), (2, .slice none 0 0), (1, .pointer (some ⟨w.heap.size, 0, none⟩))]) ⟨rfl, rfl, rfl, rfl, trivial⟩
   exact ⟨_, (by omega), (k + 1), (xs ++ ([k]) : List Int), A55, c56, rfl, f72, e64, bx65, ow63, (by omega), (by omega), (ls_yes hxs (by omega) (by assumption)), (by omega)⟩
  ·refine wp_skip ?_
   refine b_n ?_
   refine t_n ?_
   have f74 := f40.sub (r := [(3, .slice A_18 xs.length c_19), (4, .int .i64 (k)), (2, .slice none 0 0), (1, .pointer (some ⟨w.heap.size, 0, none⟩))]) ⟨rfl, rfl, rfl, rfl, trivial⟩
   clear f40
   refine At.start ?_
   refine At.rd f74 3 [[], [.as_ (.int .i64 (k + 1))], []] [(4, .int .i64 (k + 1)), (8, .int .i64 (k + 1)), (7, .int .i64 (k))] [((.int .i64 (IntKind.i64.wrap (k + 1)) : Value) = .int .i64 (k + 1))] (by kernel_rfl) ⟨(w64 (by omega) (by omega)), trivial⟩ (fun act76 f75 => ?_)
   clear f74
   refine At.done rfl ?_
   refine t_n ?_
   have f77 := f75.as 3 (.slice A_18 xs.length c_19) (.slice A_18 ((xs : List Int).length) c_19) rfl (slice_len (by first | rfl | omega | (simp; done) | (simp; omega)))
   clear f75
   have f78 := f77.sub (r := [(3, .slice A_18 ((xs : List Int).length) c_19), (4, .int .i64 (k + 1)), (2, .slice none 0 0), (1, .pointer (some ⟨w.heap.size, 0, none⟩))]) ⟨rfl, rfl, rfl, rfl, trivial⟩
   exact ⟨_, (by omega), (k + 1), (xs : List Int), A_18, c_19, rfl, f78, e24, bx27, ow28, (by omega), (by omega), (ls_no hxs (by omega) (by assumption)), (by omega)⟩
 ·have q79 := of_decide_eq_false h35
  refine wp_exit ?_
  refine t_e ?_
  refine t_e ?_
  refine b_e ?_
  refine t_n ?_
  have f80 := f34.sub (r := [(3, .slice A_18 xs.length c_19)]) ⟨rfl, trivial⟩
  clear f34
  refine wp_seq ?_
  refine At.start ?_
  refine At.rd f80 2 [[], []] [(2, .slice A_18 xs.length c_19), (16, .slice A_18 xs.length c_19)] [] (by kernel_rfl) trivial (fun act82 f81 => ?_)
  clear f80
  refine At.done rfl ?_
  refine t_n ?_
  have f83 := f81.sub (r := [(2, .slice A_18 xs.length c_19)]) ⟨rfl, trivial⟩
  clear f81
  refine wp_ret ?_
  refine ret_ f83 [] [.slice A_18 xs.length c_19] [] (by kernel_rfl) trivial ?_
  have hq_ : (xs : List Int) = lsD l 256 := ls_end hxs (by omega) (by omega)
  exact ⟨A_18, c_19, ret_eq (slice_len (by first | (rw [← hq_]; done) | (rw [← hq_]; simp) | (rw [← hq_]; omega))), e24, (OwnR.as (ow28.imp (fun g _ hs => by have := Sx_base hs; show w.heap.size ≤ g; omega)) hq_)⟩

set_option maxHeartbeats 4000000 in
theorem leastR_any {l : List Bool} {w : World} (hl : l.length = 256) :
    Calls Tryd.prog 27 #[.agg ((l : List Bool).map Value.bool).toArray] w fun e w' => e = .returned (.int .i64 (leastD l)) ∧ Ext w w' := by
 refine enter_ (args := [.agg ((l : List Bool).map Value.bool).toArray]) Tryd.func27 rfl Tryd.ntmps27 (Nat.le_of_ble_eq_true rfl) (fun act0 f0 => ?_)
 have e0 := Ext.refl w
 refine wp_seq ?_
 refine At.start ?_
 refine At.seq f0 1 [[]] [(1, .pointer (some ⟨w.heap.size, 0, none⟩))] (w.alloc (.cells ((l : List Bool).map Value.bool).toArray 32 (0, 0))) [] (by kernel_rfl) trivial (fun act4 w1 hw2 f3 => ?_)
 clear f0
 have g5 := gr_alloc hw2
 have szw1 := g5.size
 have e7 := e0.gr g5 no_row
 clear e0
 have bx8 : Bx w1 (w.heap.size) ((l : List Bool).map Value.bool) 32 := Bx.new hw2
 have := bx8.lt
 clear g5 hw2
 refine At.rd f3 1 [[]] [(2, .int .i64 (0))] [] (by kernel_rfl) trivial (fun act10 f9 => ?_)
 clear f3
 refine At.done rfl ?_
 refine t_n ?_
 have f11 := f9.sub (r := [(2, .int .i64 (0)), (1, .pointer (some ⟨w.heap.size, 0, none⟩))]) ⟨rfl, rfl, trivial⟩
 clear f9
 refine wp_seq ?_
 refine wp_seq ?_
 refine At.start ?_
 refine At.rd f11 1 [[]] [(3, .int .i64 (0))] [] (by kernel_rfl) trivial (fun act13 f12 => ?_)
 clear f11
 refine At.done rfl ?_
 refine t_n ?_
 refine wp_block ?_
 have f14 := f12.sub (r := [(3, .int .i64 (0)), (1, .pointer (some ⟨w.heap.size, 0, none⟩))]) ⟨rfl, rfl, trivial⟩
 refine loop_g (fun (m_ : Nat) a_ w_ => ∃ (k : Int), m_ = (256 - k).toNat ∧ (Frm 12 a_ [(3, .int .i64 (k)), (1, .pointer (some ⟨w.heap.size, 0, none⟩))]) ∧ (Ext w w_) ∧ (Bx w_ (w.heap.size) ((l : List Bool).map Value.bool) 32) ∧ (0 ≤ k) ∧ (k ≤ 256) ∧ (∀ j : Int, 0 ≤ j → j < k → gB l j = false)) _ ⟨0, rfl, f14, e7, bx8, (by omega), (by omega), (fun j a b => by omega)⟩ ?_
 clear f14 f12
 clear bx8
 clear e7
 intro m_ act15 w16 ⟨k, hm18, f19, e17, bx20, i21, i22, hno⟩
 have szw16 := e17.size
 have := bx20.lt
 refine wp_seq ?_
 refine wp_seq ?_
 refine At.start ?_
 refine At.rd f19 2 [[], []] [(5, .bool (decide ((k : Int) < 256))), (4, .int .i64 (k))] [] (by kernel_rfl) trivial (fun act24 f23 => ?_)
 clear f19
 refine At.done rfl ?_
 refine t_n ?_
 have f25 := f23.sub (r := [(5, .bool (decide ((k : Int) < 256))), (3, .int .i64 (k)), (1, .pointer (some ⟨w.heap.size, 0, none⟩))]) ⟨rfl, rfl, rfl, trivial⟩
 clear f23
 refine cond_S f25 (t := decide ((k : Int) < 256)) rfl (fun h26 => ?_) (fun h26 => ?_)
 ·have q27 := of_decide_eq_true h26
  refine wp_skip ?_
  refine t_n ?_
  have f28 := f25.sub (r := [(3, .int .i64 (k)), (1, .pointer (some ⟨w.heap.size, 0, none⟩))]) ⟨rfl, rfl, trivial⟩
  clear f25
  refine wp_seq ?_
  refine wp_block ?_
  refine wp_seq ?_
  refine At.start ?_
  refine At.rd f28 3 [[], [], [.ld (.bool (gB l k))]] [(10, .bool (gB l k)), (9, .pointer (some ((⟨w.heap.size, 0, none⟩ : Addr).add ((k : Int).toNat * 1)))), (8, .int .i64 (k))] [(0 ≤ (k : Int)), ((k : Int) < (256 : Nat)), (w16.cell? ((⟨w.heap.size, 0, none⟩ : Addr).add ((k : Int).toNat * 1)) = some (.bool (gB l k)))] (by kernel_rfl) ⟨(by omega), (by omega), (Bx.arrM (f := Value.bool) false bx20 k (by omega) (by omega)), trivial⟩ (fun act30 f29 => ?_)
  clear f28
  refine At.done rfl ?_
  refine t_n ?_
  have f31 := f29.sub (r := [(10, .bool (gB l k)), (3, .int .i64 (k)), (1, .pointer (some ⟨w.heap.size, 0, none⟩))]) ⟨rfl, rfl, rfl, trivial⟩
  clear f29
  refine cond_S f31 (t := gB l k) rfl (fun h32 => ?_) (fun h32 => ?_)
  ·refine wp_seq ?_
   refine At.start ?_
   refine At.rd f31 2 [[], []] [(2, .int .i64 (k)), (11, .int .i64 (k))] [] (by kernel_rfl) trivial (fun act35 f34 => ?_)
   clear f31
   refine At.done rfl ?_
   refine t_n ?_
   have f36 := f34.sub (r := [(2, .int .i64 (k))]) ⟨rfl, trivial⟩
   clear f34
   refine wp_ret ?_
   refine b_r ?_
   refine t_r ?_
   refine t_r ?_
   refine b_r ?_
   refine t_r ?_
   refine ret_ f36 [] [.int .i64 (k)] [] (by kernel_rfl) trivial ?_
   exact ⟨ret_eq (congrArg (Value.int .i64) (by first | exact least_at (by omega) (by omega) hno (by assumption) | exact least_no (by omega) hno)), e17⟩
  ·refine wp_skip ?_
   refine b_n ?_
   refine t_n ?_
   have f38 := f31.sub (r := [(3, .int .i64 (k)), (1, .pointer (some ⟨w.heap.size, 0, none⟩))]) ⟨rfl, rfl, trivial⟩
   clear f31
   refine At.start ?_
   refine At.rd f38 3 [[], [.as_ (.int .i64 (k + 1))], []] [(3, .int .i64 (k + 1)), (7, .int .i64 (k + 1)), (6, .int .i64 (k))] [((.int .i64 (IntKind.i64.wrap (k + 1)) : Value) = .int .i64 (k + 1))] (by kernel_rfl) ⟨(w64 (by omega) (by omega)), trivial⟩ (fun act40 f39 => ?_)
   clear f38
   refine At.done rfl ?_
   refine t_n ?_
   have f41 := f39.sub (r := [(3, .int .i64 (k + 1)), (1, .pointer (some ⟨w.heap.size, 0, none⟩))]) ⟨rfl, rfl, trivial⟩
   exact ⟨_, (by omega), (k + 1), rfl, f41, e17, bx20, (by omega), (by omega), (fun j a b => (Decidable.em (j = k)).elim (fun e_ => by rw [e_]; assumption) (fun e_ => hno j a (by omega)))⟩
 ·have q42 := of_decide_eq_false h26
  refine wp_exit ?_
  refine t_e ?_
  refine t_e ?_
  refine b_e ?_
  refine t_n ?_
  have f43 := f25.sub (r := []) trivial
  clear f25
  refine wp_seq ?_
  refine At.start ?_
  refine At.rd f43 1 [[]] [(2, .int .i64 (-1))] [] (by kernel_rfl) trivial (fun act45 f44 => ?_)
  clear f43
  refine At.done rfl ?_
  refine t_n ?_
  refine wp_ret ?_
  refine ret_ f44 [] [.int .i64 (-1)] [] (by kernel_rfl) trivial ?_
  exact ⟨ret_eq (congrArg (Value.int .i64) (by first | exact least_at (by omega) (by omega) hno (by assumption) | exact least_no (by omega) hno)), e17⟩

set_option maxHeartbeats 4000000 in
theorem inR_any {l : List Bool} {r : List Bool} {w : World} (hl : l.length = 256) (hr : r.length = 256) :
    Calls Tryd.prog 29 #[.agg ((l : List Bool).map Value.bool).toArray, .agg ((r : List Bool).map Value.bool).toArray] w fun e w' => e = .returned (.bool (inD l r)) ∧ Ext w w' := by
 refine enter_ (args := [.agg ((l : List Bool).map Value.bool).toArray, .agg ((r : List Bool).map Value.bool).toArray]) Tryd.func29 rfl Tryd.ntmps29 (Nat.le_of_ble_eq_true rfl) (fun act0 f0 => ?_)
 have e0 := Ext.refl w
 refine wp_seq ?_
 refine At.start ?_
 refine At.seq f0 1 [[]] [(2, .pointer (some ⟨w.heap.size, 0, none⟩))] (w.alloc (.cells ((l : List Bool).map Value.bool).toArray 32 (0, 0))) [] (by kernel_rfl) trivial (fun act4 w1 hw2 f3 => ?_)
 clear f0
 have g5 := gr_alloc hw2
 have szw1 := g5.size
 have e7 := e0.gr g5 no_row
 clear e0
 have bx8 : Bx w1 (w.heap.size) ((l : List Bool).map Value.bool) 32 := Bx.new hw2
 have := bx8.lt
 clear g5 hw2
 refine At.seq f3 1 [[]] [(3, .pointer (some ⟨w1.heap.size, 0, none⟩))] (w1.alloc (.cells ((r : List Bool).map Value.bool).toArray 32 (0, 0))) [] (by kernel_rfl) trivial (fun act12 w9 hw10 f11 => ?_)
 clear f3
 have g13 := gr_alloc hw10
 have szw9 := g13.size
 have e15 := e7.gr g13 no_row
 clear e7
 have bx16 := bx8.gr g13 (by simp)
 clear bx8
 have bx17 : Bx w9 (w1.heap.size) ((r : List Bool).map Value.bool) 32 := Bx.new hw10
 have := bx17.lt
 clear g13 hw10
 refine At.rd f11 1 [[]] [(4, .bool false)] [] (by kernel_rfl) trivial (fun act19 f18 => ?_)
 clear f11
 refine At.done rfl ?_
 refine t_n ?_
 have f20 := f18.sub (r := [(4, .bool false), (3, .pointer (some ⟨w1.heap.size, 0, none⟩)), (2, .pointer (some ⟨w.heap.size, 0, none⟩))]) ⟨rfl, rfl, rfl, trivial⟩
 clear f18
 refine wp_seq ?_
 refine wp_seq ?_
 refine At.start ?_
 refine At.rd f20 1 [[]] [(5, .int .i64 (0))] [] (by kernel_rfl) trivial (fun act22 f21 => ?_)
 clear f20
 refine At.done rfl ?_
 refine t_n ?_
 refine wp_block ?_
 have f23 := f21.sub (r := [(5, .int .i64 (0)), (3, .pointer (some ⟨w1.heap.size, 0, none⟩)), (2, .pointer (some ⟨w.heap.size, 0, none⟩))]) ⟨rfl, rfl, rfl, trivial⟩
 refine loop_g (fun (m_ : Nat) a_ w_ => ∃ (k : Int), m_ = (256 - k).toNat ∧ (Frm 19 a_ [(5, .int .i64 (k)), (3, .pointer (some ⟨w1.heap.size, 0, none⟩)), (2, .pointer (some ⟨w.heap.size, 0, none⟩))]) ∧ (Ext w w_) ∧ (Bx w_ (w.heap.size) ((l : List Bool).map Value.bool) 32) ∧ (Bx w_ (w1.heap.size) ((r : List Bool).map Value.bool) 32) ∧ (0 ≤ k) ∧ (k ≤ 256) ∧ (∀ j : Int, 0 ≤ j → j < k → gB l j = true → gB r j = true)) _ ⟨0, rfl, f23, e15, bx16, bx17, (by omega), (by omega), (fun j a b => by omega)⟩ ?_
 clear f23 f21
 clear bx16
 clear bx17
 clear e15
 intro m_ act24 w25 ⟨k, hm27, f28, e26, bx29, bx30, i31, i32, hin⟩
 have szw25 := e26.size
 have := bx29.lt
 have := bx30.lt
 refine wp_seq ?_
 refine wp_seq ?_
 refine At.start ?_
 refine At.rd f28 2 [[], []] [(7, .bool (decide ((k : Int) < 256))), (6, .int .i64 (k))] [] (by kernel_rfl) trivial (fun act34 f33 => ?_)
 clear f28
 refine At.done rfl ?_
 refine t_n ?_
 have f35 := f33.sub (r := [(7, .bool (decide ((k : Int) < 256))), (5, .int .i64 (k)), (3, .pointer (some ⟨w1.heap.size, 0, none⟩)), (2, .pointer (some ⟨w.heap.size, 0, none⟩))]) ⟨rfl, rfl, rfl, rfl, trivial⟩
 clear f33
 refine cond_S f35 (t := decide ((k : Int) < 256)) rfl (fun h36 => ?_) (fun h36 => ?_)
 ·have q37 := of_decide_eq_true h36
  refine wp_skip ?_
  refine t_n ?_
  have f38 := f35.sub (r := [(5, .int .i64 (k)), (3, .pointer (some ⟨w1.heap.size, 0, none⟩)), (2, .pointer (some ⟨w.heap.size, 0, none⟩))]) ⟨rfl, rfl, rfl, trivial⟩
  clear f35
  refine wp_seq ?_
  refine wp_block ?_
  refine wp_seq ?_
  refine At.start ?_
  rcases Bool.eq_false_or_eq_true (gB l k) with h39 | h39
  ·refine At.rd f38 9 [[], [], [.ld (.bool (gB l k))], [.as_ (.bool true)], [], [], [.ld (.bool (gB r k))], [], []] [(18, .bool (!(gB r k))), (17, .bool (!(gB r k))), (16, .bool (gB r k)), (15, .pointer (some ((⟨w1.heap.size, 0, none⟩ : Addr).add ((k : Int).toNat * 1)))), (14, .int .i64 (k)), (13, .bool true), (12, .bool (gB l k)), (11, .pointer (some ((⟨w.heap.size, 0, none⟩ : Addr).add ((k : Int).toNat * 1)))), (10, .int .i64 (k))] [(0 ≤ (k : Int)), ((k : Int) < (256 : Nat)), (w25.cell? ((⟨w.heap.size, 0, none⟩ : Addr).add ((k : Int).toNat * 1)) = some (.bool (gB l k))), ((.bool (gB l k) : Value) = .bool true), (0 ≤ (k : Int)), ((k : Int) < (256 : Nat)), (w25.cell? ((⟨w1.heap.size, 0, none⟩ : Addr).add ((k : Int).toNat * 1)) = some (.bool (gB r k)))] (by kernel_rfl) ⟨(by omega), (by omega), (Bx.arrM (f := Value.bool) false bx29 k (by omega) (by omega)), (congrArg Value.bool h39), (by omega), (by omega), (Bx.arrM (f := Value.bool) false bx30 k (by omega) (by omega)), trivial⟩ (fun act42 f41 => ?_)
   clear f38
   refine At.done rfl ?_
   refine t_n ?_
   have f43 := f41.sub (r := [(18, .bool (!(gB r k))), (17, .bool (!(gB r k))), (16, .bool (gB r k)), (15, .pointer (some ((⟨w1.heap.size, 0, none⟩ : Addr).add ((k : Int).toNat * 1)))), (14, .int .i64 (k)), (5, .int .i64 (k)), (3, .pointer (some ⟨w1.heap.size, 0, none⟩)), (2, .pointer (some ⟨w.heap.size, 0, none⟩))]) ⟨rfl, rfl, rfl, rfl, rfl, rfl, rfl, rfl, trivial⟩
   clear f41
   refine cond_S f43 (t := !(gB r k)) rfl (fun h44 => ?_) (fun h44 => ?_)
   ·have q45 : (gB r k) = false := by first | exact Eq.mp (Bool.not_eq_true' _) h44 | exact Eq.mp (Bool.not_eq_false' _) h44 | simpa using h44
    refine wp_seq ?_
    refine At.start ?_
    refine At.rd f43 1 [[]] [(4, .bool false)] [] (by kernel_rfl) trivial (fun act48 f47 => ?_)
    clear f43
    refine At.done rfl ?_
    refine t_n ?_
    have f49 := f47.sub (r := [(4, .bool false)]) ⟨rfl, trivial⟩
    clear f47
    refine wp_ret ?_
    refine b_r ?_
    refine t_r ?_
    refine t_r ?_
    refine b_r ?_
    refine t_r ?_
    refine ret_ f49 [] [.bool false] [] (by kernel_rfl) trivial ?_
    exact ⟨ret_eq (congrArg Value.bool (by first | exact in_bad (k := k) (by omega) (by omega) (by assumption) (by assumption) | exact in_good (k := k) (by omega) hin)), e26⟩
   ·have q50 : (gB r k) = true := by first | exact Eq.mp (Bool.not_eq_true' _) h44 | exact Eq.mp (Bool.not_eq_false' _) h44 | simpa using h44
    refine wp_skip ?_
    refine b_n ?_
    refine t_n ?_
    have f52 := f43.sub (r := [(17, .bool (!(gB r k))), (16, .bool (gB r k)), (15, .pointer (some ((⟨w1.heap.size, 0, none⟩ : Addr).add ((k : Int).toNat * 1)))), (14, .int .i64 (k)), (5, .int .i64 (k)), (3, .pointer (some ⟨w1.heap.size, 0, none⟩)), (2, .pointer (some ⟨w.heap.size, 0, none⟩))]) ⟨rfl, rfl, rfl, rfl, rfl, rfl, rfl, trivial⟩
    clear f43
    refine At.start ?_
    refine At.rd f52 3 [[], [.as_ (.int .i64 (k + 1))], []] [(5, .int .i64 (k + 1)), (9, .int .i64 (k + 1)), (8, .int .i64 (k))] [((.int .i64 (IntKind.i64.wrap (k + 1)) : Value) = .int .i64 (k + 1))] (by kernel_rfl) ⟨(w64 (by omega) (by omega)), trivial⟩ (fun act54 f53 => ?_)
    clear f52
    refine At.done rfl ?_
    refine t_n ?_
    have f55 := f53.sub (r := [(5, .int .i64 (k + 1)), (3, .pointer (some ⟨w1.heap.size, 0, none⟩)), (2, .pointer (some ⟨w.heap.size, 0, none⟩))]) ⟨rfl, rfl, rfl, trivial⟩
    exact ⟨_, (by omega), (k + 1), rfl, f55, e26, bx29, bx30, (by omega), (by omega), (fun j a b c_ => (Decidable.em (j = k)).elim (fun e_ => by subst e_; first | assumption | (exfalso; simp_all; done)) (fun e_ => hin j a (by omega) c_))⟩
  ·refine At.rd f38 9 [[], [], [.ld (.bool (gB l k))], [.as_ (.bool false)], [], [], [], [], []] [(18, .bool false), (17, undef), (16, undef), (15, undef), (14, undef), (13, .bool false), (12, .bool (gB l k)), (11, .pointer (some ((⟨w.heap.size, 0, none⟩ : Addr).add ((k : Int).toNat * 1)))), (10, .int .i64 (k))] [(0 ≤ (k : Int)), ((k : Int) < (256 : Nat)), (w25.cell? ((⟨w.heap.size, 0, none⟩ : Addr).add ((k : Int).toNat * 1)) = some (.bool (gB l k))), ((.bool (gB l k) : Value) = .bool false)] (by kernel_rfl) ⟨(by omega), (by omega), (Bx.arrM (f := Value.bool) false bx29 k (by omega) (by omega)), (congrArg Value.bool h39), trivial⟩ (fun act58 f57 => ?_)
   clear f38
   refine At.done rfl ?_
   refine t_n ?_
   have f59 := f57.sub (r := [(18, .bool false), (5, .int .i64 (k)), (3, .pointer (some ⟨w1.heap.size, 0, none⟩)), (2, .pointer (some ⟨w.heap.size, 0, none⟩))]) ⟨rfl, rfl, rfl, rfl, trivial⟩
   clear f57
   refine cond_F f59 rfl ?_
   refine wp_skip ?_
   refine b_n ?_
   refine t_n ?_
   have f60 := f59.sub (r := [(5, .int .i64 (k)), (3, .pointer (some ⟨w1.heap.size, 0, none⟩)), (2, .pointer (some ⟨w.heap.size, 0, none⟩))]) ⟨rfl, rfl, rfl, trivial⟩
   clear f59
   refine At.start ?_
   refine At.rd f60 3 [[], [.as_ (.int .i64 (k + 1))], []] [(5, .int .i64 (k + 1)), (9, .int .i64 (k + 1)), (8, .int .i64 (k))] [((.int .i64 (IntKind.i64.wrap (k + 1)) : Value) = .int .i64 (k + 1))] (by kernel_rfl) ⟨(w64 (by omega) (by omega)), trivial⟩ (fun act62 f61 => ?_)
   clear f60
   refine At.done rfl ?_
   refine t_n ?_
   have f63 := f61.sub (r := [(5, .int .i64 (k + 1)), (3, .pointer (some ⟨w1.heap.size, 0, none⟩)), (2, .pointer (some ⟨w.heap.size, 0, none⟩))]) ⟨rfl, rfl, rfl, trivial⟩
   exact ⟨_, (by omega), (k + 1), rfl, f63, e26, bx29, bx30, (by omega), (by omega), (fun j a b c_ => (Decidable.em (j = k)).elim (fun e_ => by subst e_; first | assumption | (exfalso; simp_all; done)) (fun e_ => hin j a (by omega) c_))⟩
 ·have q64 := of_decide_eq_false h36
  refine wp_exit ?_
  refine t_e ?_
  refine t_e ?_
  refine b_e ?_
  refine t_n ?_
  have f65 := f35.sub (r := []) trivial
  clear f35
  refine wp_seq ?_
  refine At.start ?_
  refine At.rd f65 1 [[]] [(4, .bool true)] [] (by kernel_rfl) trivial (fun act67 f66 => ?_)
  clear f65
  refine At.done rfl ?_
  refine t_n ?_
  refine wp_ret ?_
  refine ret_ f66 [] [.bool true] [] (by kernel_rfl) trivial ?_
  exact ⟨ret_eq (congrArg Value.bool (by first | exact in_bad (k := k) (by omega) (by omega) (by assumption) (by assumption) | exact in_good (k := k) (by omega) hin)), e26⟩

end Go.Proofs.YtepekncgknlcjaaDoor
