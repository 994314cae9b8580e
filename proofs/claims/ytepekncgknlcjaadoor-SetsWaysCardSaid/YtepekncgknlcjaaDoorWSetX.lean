/-
  A walk of a Go function, printed by a program of this repo. Conditions: what the theorems name.
-/
import Derived.Test.YtepekncgknlcjaaDoorPureSet
import Derived.Test.YtepekncgknlcjaaDoorWSetW
set_option linter.unusedVariables false
set_option linter.unusedSimpArgs false
namespace Go.Proofs.YtepekncgknlcjaaDoor
open Go Go.RowKit

set_option maxHeartbeats 4000000 in
theorem words_any {l : List Bool} {w : World} (hl : l.length = 256) :
    Calls Tryd.prog 39 #[.agg ((l : List Bool).map Value.bool).toArray] w fun e w' => e = .returned (.agg (((wordsD l : List Int)).map wV).toArray) ∧ Ext w w' := by
 refine enter_ (args := [.agg ((l : List Bool).map Value.bool).toArray]) Tryd.func39 rfl Tryd.ntmps39 (Nat.le_of_ble_eq_true rfl) (fun act0 f0 => ?_)
 have e0 := Ext.refl w
 refine wp_seq ?_
 refine At.start ?_
 refine At.seq f0 1 [[]] [(1, .pointer (some ⟨w.heap.size, 0, none⟩))] (w.alloc (.cells ((l : List Bool).map Value.bool).toArray 32 (0, 0))) [] (by kernel_rfl) trivial (fun act4 w1 hw2 f3 => ?_)
 clear f0
 have g5 := gr_alloc hw2
 have szw1 := g5.size
 have e7 := e0.gr g5 no_row
 clear e0
 have bx8 : Bx w1 (w.heap.size) ((l : List Bool).map Value.bool) 32 := Bx.new hw2
 have := bx8.lt
 clear g5 hw2
 refine At.seq f3 1 [[]] [(2, .pointer (some ⟨w1.heap.size, 0, none⟩))] (w1.alloc (.cells ((List.replicate 4 (0 : Int) : List Int).map wV).toArray 25 (0, 0))) [] (by kernel_rfl) trivial (fun act12 w9 hw10 f11 => ?_)
 clear f3
 have g13 := gr_alloc hw10
 have szw9 := g13.size
 have e15 := e7.gr g13 no_row
 clear e7
 have bx16 := bx8.gr g13 (by simp)
 clear bx8
 have bx17 : Bx w9 (w1.heap.size) ((List.replicate 4 (0 : Int) : List Int).map wV) 25 := Bx.new hw10
 have := bx17.lt
 clear g13 hw10
 refine At.done rfl ?_
 refine t_n ?_
 have f18 := f11.sub (r := [(2, .pointer (some ⟨w1.heap.size, 0, none⟩)), (1, .pointer (some ⟨w.heap.size, 0, none⟩))]) ⟨rfl, rfl, trivial⟩
 clear f11
 refine wp_seq ?_
 refine At.start ?_
 refine At.seq f18 1 [[]] [(3, .pointer (some ⟨w9.heap.size, 0, none⟩))] (w9.alloc (.cells ((List.replicate 4 (0 : Int) : List Int).map wV).toArray 25 (0, 0))) [] (by kernel_rfl) trivial (fun act22 w19 hw20 f21 => ?_)
 clear f18
 have g23 := gr_alloc hw20
 have szw19 := g23.size
 have e25 := e15.gr g23 no_row
 clear e15
 have bx26 := bx16.gr g23 (by simp)
 clear bx16
 have bx27 := bx17.gr g23 (by simp)
 clear bx17
 have bx28 : Bx w19 (w9.heap.size) ((List.replicate 4 (0 : Int) : List Int).map wV) 25 := Bx.new hw20
 have := bx28.lt
 clear g23 hw20
 refine At.done rfl ?_
 refine t_n ?_
 refine wp_seq ?_
 refine wp_seq ?_
 refine At.start ?_
 refine At.rd f21 1 [[]] [(4, .int .i64 (0))] [] (by kernel_rfl) trivial (fun act30 f29 => ?_)
 clear f21
 refine At.done rfl ?_
 refine t_n ?_
 refine wp_block ?_
 have f31 := f29.sub (r := [(4, .int .i64 (0)), (3, .pointer (some ⟨w9.heap.size, 0, none⟩)), (2, .pointer (some ⟨w1.heap.size, 0, none⟩)), (1, .pointer (some ⟨w.heap.size, 0, none⟩))]) ⟨rfl, rfl, rfl, rfl, trivial⟩
 refine loop_g (fun (m_ : Nat) a_ w_ => ∃ (k : Int) (xs : List Int), m_ = (256 - k).toNat ∧ (Frm 25 a_ [(4, .int .i64 (k)), (3, .pointer (some ⟨w9.heap.size, 0, none⟩)), (2, .pointer (some ⟨w1.heap.size, 0, none⟩)), (1, .pointer (some ⟨w.heap.size, 0, none⟩))]) ∧ (Ext w w_) ∧ (Bx w_ (w.heap.size) ((l : List Bool).map Value.bool) 32) ∧ (Bx w_ (w1.heap.size) ((List.replicate 4 (0 : Int) : List Int).map wV) 25) ∧ (Bx w_ (w9.heap.size) ((xs : List Int).map wV) 25) ∧ (0 ≤ k) ∧ (k ≤ 256) ∧ (xs.length = 4) ∧ (WordsT l xs k)) _ ⟨0, List.replicate 4 (0 : Int), rfl, f31, e25, bx26, bx27, bx28, (by omega), (by omega), rfl, words_0⟩ ?_
 clear f31 f29
 clear bx26
 clear bx27
 clear bx28
 clear e25
 intro m_ act32 w33 ⟨k, xs, hm35, f36, e34, bx37, bx38, bx39, i40, i41, i42, hwt⟩
 have szw33 := e34.size
 have := bx37.lt
 have := bx38.lt
 have := bx39.lt
 refine wp_seq ?_
 refine wp_seq ?_
 refine At.start ?_
 refine At.rd f36 2 [[], []] [(6, .bool (decide ((k : Int) < 256))), (5, .int .i64 (k))] [] (by kernel_rfl) trivial (fun act44 f43 => ?_)
 clear f36
 refine At.done rfl ?_
 refine t_n ?_
 have f45 := f43.sub (r := [(6, .bool (decide ((k : Int) < 256))), (4, .int .i64 (k)), (3, .pointer (some ⟨w9.heap.size, 0, none⟩)), (2, .pointer (some ⟨w1.heap.size, 0, none⟩)), (1, .pointer (some ⟨w.heap.size, 0, none⟩))]) ⟨rfl, rfl, rfl, rfl, rfl, trivial⟩
 clear f43
 refine cond_S f45 (t := decide ((k : Int) < 256)) rfl (fun h46 => ?_) (fun h46 => ?_)
 ·have q47 := of_decide_eq_true h46
  refine wp_skip ?_
  refine t_n ?_
  have f48 := f45.sub (r := [(4, .int .i64 (k)), (3, .pointer (some ⟨w9.heap.size, 0, none⟩)), (2, .pointer (some ⟨w1.heap.size, 0, none⟩)), (1, .pointer (some ⟨w.heap.size, 0, none⟩))]) ⟨rfl, rfl, rfl, rfl, trivial⟩
  clear f45
  refine wp_seq ?_
  refine wp_block ?_
  refine wp_seq ?_
  refine At.start ?_
  refine At.rd f48 3 [[], [], [.ld (.bool (gB l k))]] [(11, .bool (gB l k)), (10, .pointer (some ((⟨w.heap.size, 0, none⟩ : Addr).add ((k : Int).toNat * 1)))), (9, .int .i64 (k))] [(0 ≤ (k : Int)), ((k : Int) < (256 : Nat)), (w33.cell? ((⟨w.heap.size, 0, none⟩ : Addr).add ((k : Int).toNat * 1)) = some (.bool (gB l k)))] (by kernel_rfl) ⟨(by omega), (by omega), (Bx.arrM (f := Value.bool) false bx37 k (by omega) (by omega)), trivial⟩ (fun act50 f49 => ?_)
  clear f48
  refine At.done rfl ?_
  refine t_n ?_
  have f51 := f49.sub (r := [(11, .bool (gB l k)), (4, .int .i64 (k)), (3, .pointer (some ⟨w9.heap.size, 0, none⟩)), (2, .pointer (some ⟨w1.heap.size, 0, none⟩)), (1, .pointer (some ⟨w.heap.size, 0, none⟩))]) ⟨rfl, rfl, rfl, rfl, rfl, trivial⟩
  clear f49
  refine cond_S f51 (t := gB l k) rfl (fun h52 => ?_) (fun h52 => ?_)
  ·refine At.start ?_
   refine At.rd f51 12 [[], [.as_ (.int .i64 ((k : Int) / 64))], [], [.as_ (.int .i64 ((k : Int) / 64))], [], [.ld (.int .u64 (gI xs ((k : Int) / 64)))], [], [.as_ (.int .i64 ((k : Int) % 64))], [.as_ (.int .u64 ((k : Int) % 64))], [.as_ (.int .u64 (oneW ((k : Int) % 64)))], [], []] [(23, .pointer (some ((⟨w9.heap.size, 0, none⟩ : Addr).add (((k : Int) / 64 : Int).toNat * 1)))), (22, .int .u64 (IntKind.u64.wrap ((gI xs ((k : Int) / 64)) + (oneW ((k : Int) % 64))))), (21, .int .u64 (oneW ((k : Int) % 64))), (20, .int .u64 ((k : Int) % 64)), (19, .int .i64 ((k : Int) % 64)), (18, .int .i64 (k)), (17, .int .u64 (gI xs ((k : Int) / 64))), (16, .pointer (some ((⟨w9.heap.size, 0, none⟩ : Addr).add (((k : Int) / 64 : Int).toNat * 1)))), (15, .int .i64 ((k : Int) / 64)), (14, .int .i64 (k)), (13, .int .i64 ((k : Int) / 64)), (12, .int .i64 (k))] [((64 : Int) ≠ 0), ((.int .i64 (IntKind.i64.wrap ((k : Int).tdiv 64)) : Value) = .int .i64 ((k : Int) / 64)), ((64 : Int) ≠ 0), ((.int .i64 (IntKind.i64.wrap ((k : Int).tdiv 64)) : Value) = .int .i64 ((k : Int) / 64)), (0 ≤ ((k : Int) / 64 : Int)), (((k : Int) / 64 : Int) < (4 : Nat)), (w33.cell? ((⟨w9.heap.size, 0, none⟩ : Addr).add (((k : Int) / 64 : Int).toNat * 1)) = some (.int .u64 (gI xs ((k : Int) / 64)))), ((64 : Int) ≠ 0), ((.int .i64 ((k : Int).tmod 64) : Value) = .int .i64 ((k : Int) % 64)), ((.int .u64 (IntKind.u64.wrap ((k : Int) % 64)) : Value) = .int .u64 ((k : Int) % 64)), (0 ≤ ((k : Int) % 64 : Int)), ((.int .u64 (IntKind.u64.wrap (1 * (2 ^ (min ((k : Int) % 64 : Int).toNat IntKind.u64.bits)))) : Value) = .int .u64 (oneW ((k : Int) % 64))), (0 ≤ ((k : Int) / 64 : Int)), (((k : Int) / 64 : Int) < (4 : Nat))] (by kernel_rfl) ⟨(by omega), (congrArg (Value.int .i64) (w64q (by omega) (by omega) (by omega))), (by omega), (congrArg (Value.int .i64) (w64q (by omega) (by omega) (by omega))), (by omega), (by omega), (Bx.arrM (f := wV) (0 : Int) bx39 ((k : Int) / 64) (by omega) (by omega)), (by omega), (congrArg (Value.int .i64) (tmodE (by omega) _)), (wu64 (by omega) (by omega)), (by omega), (congrArg (Value.int .u64) (shl_one (by omega) (by omega))), (by omega), (by omega), trivial⟩ (fun act55 f54 => ?_)
   clear f51
   refine At.act f54 (storeArrM (f := wV) (t := 24) (b := w9.heap.size) (i := (k : Int) / 64) (x := IntKind.u64.wrap ((gI xs ((k : Int) / 64)) + (oneW ((k : Int) % 64)))) (v := .int .u64 (IntKind.u64.wrap ((gI xs ((k : Int) / 64)) + (oneW ((k : Int) % 64))))) (by kernel_rfl) rfl rfl (by kernel_rfl) bx39 (by omega) (by omega)) ?_
   rintro d_ v_ w56 ⟨rfl, g57, bx58⟩
   refine ⟨_, rfl, fun act61 f60 => ?_⟩
   clear f54
   have hl59 : ((xs).set ((k : Int) / 64 : Int).toNat (IntKind.u64.wrap ((gI xs ((k : Int) / 64)) + (oneW ((k : Int) % 64))))).length = (xs : List Int).length := List.length_set
   have szw56 := g57.size
   have e62 := e34.gr g57 (fun k h => by injection h; omega)
   clear e34
   have bx63 := bx37.gr g57 (fun h => by injection h; omega)
   clear bx37
   have bx64 := bx38.gr g57 (fun h => by injection h; omega)
   clear bx38
   clear bx39 g57
   refine At.done rfl ?_
   refine b_n ?_
   refine t_n ?_
   have f65 := f60.sub (r := [(4, .int .i64 (k)), (3, .pointer (some ⟨w9.heap.size, 0, none⟩)), (2, .pointer (some ⟨w1.heap.size, 0, none⟩)), (1, .pointer (some ⟨w.heap.size, 0, none⟩))]) ⟨rfl, rfl, rfl, rfl, trivial⟩
   clear f60
   refine At.start ?_
   refine At.rd f65 3 [[], [.as_ (.int .i64 (k + 1))], []] [(4, .int .i64 (k + 1)), (8, .int .i64 (k + 1)), (7, .int .i64 (k))] [((.int .i64 (IntKind.i64.wrap (k + 1)) : Value) = .int .i64 (k + 1))] (by kernel_rfl) ⟨(w64 (by omega) (by omega)), trivial⟩ (fun act67 f66 => ?_)
   clear f65
   refine At.done rfl ?_
   refine t_n ?_
   have f68 := f66.sub (r := [(4, .int .i64 (k + 1)), (3, .pointer (some ⟨w9.heap.size, 0, none⟩)), (2, .pointer (some ⟨w1.heap.size, 0, none⟩)), (1, .pointer (some ⟨w.heap.size, 0, none⟩))]) ⟨rfl, rfl, rfl, rfl, trivial⟩
   exact ⟨_, (by omega), (k + 1), (xs).set ((k : Int) / 64 : Int).toNat (IntKind.u64.wrap ((gI xs ((k : Int) / 64)) + (oneW ((k : Int) % 64)))), rfl, f68, e62, bx63, bx64, bx58, (by omega), (by omega), (by omega), (words_yes hwt (by omega) (by omega) (by assumption) rfl)⟩
  ·refine wp_skip ?_
   refine b_n ?_
   refine t_n ?_
   have f70 := f51.sub (r := [(4, .int .i64 (k)), (3, .pointer (some ⟨w9.heap.size, 0, none⟩)), (2, .pointer (some ⟨w1.heap.size, 0, none⟩)), (1, .pointer (some ⟨w.heap.size, 0, none⟩))]) ⟨rfl, rfl, rfl, rfl, trivial⟩
   clear f51
   refine At.start ?_
   refine At.rd f70 3 [[], [.as_ (.int .i64 (k + 1))], []] [(4, .int .i64 (k + 1)), (8, .int .i64 (k + 1)), (7, .int .i64 (k))] [((.int .i64 (IntKind.i64.wrap (k + 1)) : Value) = .int .i64 (k + 1))] (by kernel_rfl) ⟨(w64 (by omega) (by omega)), trivial⟩ (fun act72 f71 => ?_)
   clear f70
   refine At.done rfl ?_
   refine t_n ?_
   have f73 := f71.sub (r := [(4, .int .i64 (k + 1)), (3, .pointer (some ⟨w9.heap.size, 0, none⟩)), (2, .pointer (some ⟨w1.heap.size, 0, none⟩)), (1, .pointer (some ⟨w.heap.size, 0, none⟩))]) ⟨rfl, rfl, rfl, rfl, trivial⟩
   exact ⟨_, (by omega), (k + 1), xs, rfl, f73, e34, bx37, bx38, bx39, (by omega), (by omega), (by omega), (words_no hwt (by omega) (by omega) (by assumption))⟩
 ·have q74 := of_decide_eq_false h46
  refine wp_exit ?_
  refine t_e ?_
  refine t_e ?_
  refine b_e ?_
  refine t_n ?_
  have f75 := f45.sub (r := [(3, .pointer (some ⟨w9.heap.size, 0, none⟩)), (2, .pointer (some ⟨w1.heap.size, 0, none⟩))]) ⟨rfl, rfl, trivial⟩
  clear f45
  refine wp_seq ?_
  refine At.start ?_
  refine At.rd f75 1 [[.cs ((xs : List Int).map wV)]] [(24, .agg ((xs : List Int).map wV).toArray)] [(((xs : List Int).map wV).length = 4), (∀ (j : Nat) (v : Value), ((xs : List Int).map wV)[j]? = some v → w33.cell? ((⟨w9.heap.size, 0, none⟩ : Addr).add j) = some v)] (by kernel_rfl) ⟨(by simp only [List.length_map, List.length_set, List.length_replicate, List.length_cons, List.length_nil]; first | done | assumption | exact from_len _ | exact of_len _ | exact ofZ_len _ | exact (ofW_ok _).1 | exact (fullW_W _).1 | exact (okW_with (by assumption)).1 | exact (okW_less (by assumption)).1 | exact put_len (from_len _) | exact orD_len _ _ | exact andD_len _ _ | exact minusD_len _ _ | exact fullD_len _ | (refine okLen ?_; (repeat (first | assumption | exact ofW_ok _ | exact fullW_W _ | apply okW_with | apply okW_less | refine okW_orS ?_ ?_ | refine okW_andS ?_ ?_ | refine okW_minusS ?_ ?_)); done) | omega | rfl), bx39.whole, trivial⟩ (fun act77 f76 => ?_)
  clear f75
  refine At.act f76 (storeBlk (t := 25) (b := w1.heap.size) (n := 4) (cs' := ((xs : List Int).map wV)) (by kernel_rfl) (by kernel_rfl) (by simp only [List.length_map, List.length_set, List.length_replicate, List.length_cons, List.length_nil]; first | done | assumption | exact from_len _ | exact of_len _ | exact ofZ_len _ | exact (ofW_ok _).1 | exact (fullW_W _).1 | exact (okW_with (by assumption)).1 | exact (okW_less (by assumption)).1 | exact put_len (from_len _) | exact orD_len _ _ | exact andD_len _ _ | exact minusD_len _ _ | exact fullD_len _ | (refine okLen ?_; (repeat (first | assumption | exact ofW_ok _ | exact fullW_W _ | apply okW_with | apply okW_less | refine okW_orS ?_ ?_ | refine okW_andS ?_ ?_ | refine okW_minusS ?_ ?_)); done) | omega | rfl) oneW_ ((show ((xs : List Int).map wV).length = 4 from (by simp only [List.length_map, List.length_set, List.length_replicate, List.length_cons, List.length_nil]; first | done | assumption | exact from_len _ | exact of_len _ | exact ofZ_len _ | exact (ofW_ok _).1 | exact (fullW_W _).1 | exact (okW_with (by assumption)).1 | exact (okW_less (by assumption)).1 | exact put_len (from_len _) | exact orD_len _ _ | exact andD_len _ _ | exact minusD_len _ _ | exact fullD_len _ | (refine okLen ?_; (repeat (first | assumption | exact ofW_ok _ | exact fullW_W _ | apply okW_with | apply okW_less | refine okW_orS ?_ ?_ | refine okW_andS ?_ ?_ | refine okW_minusS ?_ ?_)); done) | omega | rfl)).trans (show ((List.replicate 4 (0 : Int) : List Int).map wV).length = 4 from (by simp only [List.length_map, List.length_set, List.length_replicate, List.length_cons, List.length_nil]; first | done | assumption | exact from_len _ | exact of_len _ | exact ofZ_len _ | exact (ofW_ok _).1 | exact (fullW_W _).1 | exact (okW_with (by assumption)).1 | exact (okW_less (by assumption)).1 | exact put_len (from_len _) | exact orD_len _ _ | exact andD_len _ _ | exact minusD_len _ _ | exact fullD_len _ | (refine okLen ?_; (repeat (first | assumption | exact ofW_ok _ | exact fullW_W _ | apply okW_with | apply okW_less | refine okW_orS ?_ ?_ | refine okW_andS ?_ ?_ | refine okW_minusS ?_ ?_)); done) | omega | rfl)).symm) bx38) ?_
  rintro d_ v_ w78 ⟨rfl, g79, bx80⟩
  refine ⟨_, rfl, fun act82 f81 => ?_⟩
  clear f76
  have szw78 := g79.size
  have e83 := e34.gr g79 (fun k h => by injection h; omega)
  clear e34
  have bx84 := bx37.gr g79 (fun h => by injection h; omega)
  clear bx37
  have bx85 := bx39.gr g79 (fun h => by injection h; omega)
  clear bx39
  clear bx38 g79
  refine At.done rfl ?_
  refine t_n ?_
  have f86 := f81.sub (r := [(2, .pointer (some ⟨w1.heap.size, 0, none⟩))]) ⟨rfl, trivial⟩
  clear f81
  refine wp_ret ?_
  refine retB_ f86 (sl := 2) (cs := ((xs : List Int).map wV)) (m := 4) rfl (by kernel_rfl) (by kernel_rfl) (by simp only [List.length_map, List.length_set, List.length_replicate, List.length_cons, List.length_nil]; first | done | assumption | exact from_len _ | exact of_len _ | exact ofZ_len _ | exact (ofW_ok _).1 | exact (fullW_W _).1 | exact (okW_with (by assumption)).1 | exact (okW_less (by assumption)).1 | exact put_len (from_len _) | exact orD_len _ _ | exact andD_len _ _ | exact minusD_len _ _ | exact fullD_len _ | (refine okLen ?_; (repeat (first | assumption | exact ofW_ok _ | exact fullW_W _ | apply okW_with | apply okW_less | refine okW_orS ?_ ?_ | refine okW_andS ?_ ?_ | refine okW_minusS ?_ ?_)); done) | omega | rfl) bx80 ?_
  exact ⟨ret_map (words_end hwt (by omega)), e83⟩

set_option maxHeartbeats 4000000 in
theorem in_any {s : List Int} {t : List Int} {w : World} (hs : OkW s) (ht : OkW t) :
    Calls Tryd.prog 28 #[.agg ((s : List Int).map wV).toArray, .agg ((t : List Int).map wV).toArray] w fun e w' => e = .returned (.bool (inW s t)) ∧ Ext w w' := by
 have hls := hs.1
 have hlt := ht.1
 refine enter_ (args := [.agg ((s : List Int).map wV).toArray, .agg ((t : List Int).map wV).toArray]) Tryd.func28 rfl Tryd.ntmps28 (Nat.le_of_ble_eq_true rfl) (fun act0 f0 => ?_)
 have e0 := Ext.refl w
 refine wp_seq ?_
 refine At.start ?_
 refine At.seq f0 1 [[]] [(2, .pointer (some ⟨w.heap.size, 0, none⟩))] (w.alloc (.cells ((s : List Int).map wV).toArray 26 (0, 0))) [] (by kernel_rfl) trivial (fun act4 w1 hw2 f3 => ?_)
 clear f0
 have g5 := gr_alloc hw2
 have szw1 := g5.size
 have e7 := e0.gr g5 no_row
 clear e0
 have bx8 : Bx w1 (w.heap.size) ((s : List Int).map wV) 26 := Bx.new hw2
 have := bx8.lt
 clear g5 hw2
 refine At.seq f3 1 [[]] [(3, .pointer (some ⟨w1.heap.size, 0, none⟩))] (w1.alloc (.cells ((t : List Int).map wV).toArray 26 (0, 0))) [] (by kernel_rfl) trivial (fun act12 w9 hw10 f11 => ?_)
 clear f3
 have g13 := gr_alloc hw10
 have szw9 := g13.size
 have e15 := e7.gr g13 no_row
 clear e7
 have bx16 := bx8.gr g13 (by simp)
 clear bx8
 have bx17 : Bx w9 (w1.heap.size) ((t : List Int).map wV) 26 := Bx.new hw10
 have := bx17.lt
 clear g13 hw10
 refine At.rd f11 1 [[]] [(4, .bool false)] [] (by kernel_rfl) trivial (fun act19 f18 => ?_)
 clear f11
 refine At.done rfl ?_
 refine t_n ?_
 have f20 := f18.sub (r := [(3, .pointer (some ⟨w1.heap.size, 0, none⟩)), (2, .pointer (some ⟨w.heap.size, 0, none⟩))]) ⟨rfl, rfl, trivial⟩
 clear f18
 refine wp_seq ?_
 refine At.start ?_
 refine At.rd f20 2 [[.cs ((s : List Int).map wV)], [.cs ((t : List Int).map wV)]] [(6, .agg ((t : List Int).map wV).toArray), (5, .agg ((s : List Int).map wV).toArray)] [(((s : List Int).map wV).length = 4), (∀ (j : Nat) (v : Value), ((s : List Int).map wV)[j]? = some v → w9.cell? ((⟨w.heap.size, 0, none⟩ : Addr).add j) = some v), (((t : List Int).map wV).length = 4), (∀ (j : Nat) (v : Value), ((t : List Int).map wV)[j]? = some v → w9.cell? ((⟨w1.heap.size, 0, none⟩ : Addr).add j) = some v)] (by kernel_rfl) ⟨(by simp only [List.length_map, List.length_set, List.length_replicate, List.length_cons, List.length_nil]; first | done | assumption | exact from_len _ | exact of_len _ | exact ofZ_len _ | exact (ofW_ok _).1 | exact (fullW_W _).1 | exact (okW_with (by assumption)).1 | exact (okW_less (by assumption)).1 | exact put_len (from_len _) | exact orD_len _ _ | exact andD_len _ _ | exact minusD_len _ _ | exact fullD_len _ | (refine okLen ?_; (repeat (first | assumption | exact ofW_ok _ | exact fullW_W _ | apply okW_with | apply okW_less | refine okW_orS ?_ ?_ | refine okW_andS ?_ ?_ | refine okW_minusS ?_ ?_)); done) | omega | rfl), bx16.whole, (by simp only [List.length_map, List.length_set, List.length_replicate, List.length_cons, List.length_nil]; first | done | assumption | exact from_len _ | exact of_len _ | exact ofZ_len _ | exact (ofW_ok _).1 | exact (fullW_W _).1 | exact (okW_with (by assumption)).1 | exact (okW_less (by assumption)).1 | exact put_len (from_len _) | exact orD_len _ _ | exact andD_len _ _ | exact minusD_len _ _ | exact fullD_len _ | (refine okLen ?_; (repeat (first | assumption | exact ofW_ok _ | exact fullW_W _ | apply okW_with | apply okW_less | refine okW_orS ?_ ?_ | refine okW_andS ?_ ?_ | refine okW_minusS ?_ ?_)); done) | omega | rfl), bx17.whole, trivial⟩ (fun act22 f21 => ?_)
 clear f20
 refine At.call f21 37 #[.agg ((s : List Int).map wV).toArray, .agg ((t : List Int).map wV).toArray] (some 7) (by kernel_rfl) (minus_any (s := s) (t := t) (by repeat (first | assumption | exact ofW_ok _ | exact fullW_W _ | exact wordsD_W _ | exact okW_0 | exact okW_00 | apply okW_orS | apply okW_andS | apply okW_minusS | apply okW_with | apply okW_less | apply okW_or | apply okW_and | apply okW_minus | (apply okW_lit <;> exact ⟨by omega, by omega⟩))) (by repeat (first | assumption | exact ofW_ok _ | exact fullW_W _ | exact wordsD_W _ | exact okW_0 | exact okW_00 | apply okW_orS | apply okW_andS | apply okW_minusS | apply okW_with | apply okW_less | apply okW_or | apply okW_and | apply okW_minus | (apply okW_lit <;> exact ⟨by omega, by omega⟩)))) ?_
 rintro e_ w23 ⟨rfl, he⟩
 refine ⟨_, rfl, _, rfl, fun act24 f25 => ?_⟩
 clear f21
 have g26 := gr_ext he
 have szw23 := g26.size
 have e27 := e15.gr g26 no_row
 clear e15
 have bx28 := bx16.gr g26 (by simp)
 clear bx16
 have bx29 := bx17.gr g26 (by simp)
 clear bx17
 clear g26 he
 refine At.rd f25 3 [[], [.cs [wV (gI (ofZW (fun j => notW (gI s j) (gI t j))) 0), wV (gI (ofZW (fun j => notW (gI s j) (gI t j))) 1), wV (gI (ofZW (fun j => notW (gI s j) (gI t j))) 2), wV (gI (ofZW (fun j => notW (gI s j) (gI t j))) 3)], .cs [wV (gI ([0, 0, 0, 0]) 0), wV (gI ([0, 0, 0, 0]) 1), wV (gI ([0, 0, 0, 0]) 2), wV (gI ([0, 0, 0, 0]) 3)], .as_ (.bool (decide ((ofZW (fun j => notW (gI s j) (gI t j)) : List Int) = ([0, 0, 0, 0]))))], []] [(4, .bool (decide ((ofZW (fun j => notW (gI s j) (gI t j)) : List Int) = ([0, 0, 0, 0])))), (9, .bool (decide ((ofZW (fun j => notW (gI s j) (gI t j)) : List Int) = ([0, 0, 0, 0])))), (8, .agg (([0, 0, 0, 0] : List Int).map wV).toArray)] [(((ofZW (fun j => notW (gI s j) (gI t j)) : List Int).map wV).toArray = ([wV (gI (ofZW (fun j => notW (gI s j) (gI t j))) 0), wV (gI (ofZW (fun j => notW (gI s j) (gI t j))) 1), wV (gI (ofZW (fun j => notW (gI s j) (gI t j))) 2), wV (gI (ofZW (fun j => notW (gI s j) (gI t j))) 3)] : List Value).toArray), ((([0, 0, 0, 0] : List Int).map wV).toArray = ([wV (gI ([0, 0, 0, 0]) 0), wV (gI ([0, 0, 0, 0]) 1), wV (gI ([0, 0, 0, 0]) 2), wV (gI ([0, 0, 0, 0]) 3)] : List Value).toArray), ((.bool ((((gI (ofZW (fun j => notW (gI s j) (gI t j))) 0 : Int) == gI ([0, 0, 0, 0]) 0) && (((gI (ofZW (fun j => notW (gI s j) (gI t j))) 1 : Int) == gI ([0, 0, 0, 0]) 1) && (((gI (ofZW (fun j => notW (gI s j) (gI t j))) 2 : Int) == gI ([0, 0, 0, 0]) 2) && (((gI (ofZW (fun j => notW (gI s j) (gI t j))) 3 : Int) == gI ([0, 0, 0, 0]) 3) && true))))) : Value) = .bool (decide ((ofZW (fun j => notW (gI s j) (gI t j)) : List Int) = ([0, 0, 0, 0]))))] (by kernel_rfl) ⟨(map4 (by first | assumption | exact (okW_with (by assumption)).1 | exact (okW_less (by assumption)).1 | exact (ofW_ok _).1 | exact (fullW_W _).1 | (refine okLen ?_; (repeat (first | assumption | exact ofW_ok _ | exact fullW_W _ | apply okW_with | apply okW_less | refine okW_orS ?_ ?_ | refine okW_andS ?_ ?_ | refine okW_minusS ?_ ?_)); done) | rfl | omega | (simp only [List.length_set]; first | done | assumption | omega) | exact lenW4 _ (by assumption))), (map4 (by first | assumption | exact (okW_with (by assumption)).1 | exact (okW_less (by assumption)).1 | exact (ofW_ok _).1 | exact (fullW_W _).1 | (refine okLen ?_; (repeat (first | assumption | exact ofW_ok _ | exact fullW_W _ | apply okW_with | apply okW_less | refine okW_orS ?_ ?_ | refine okW_andS ?_ ?_ | refine okW_minusS ?_ ?_)); done) | rfl | omega | (simp only [List.length_set]; first | done | assumption | omega) | exact lenW4 _ (by assumption))), (congrArg (fun b => Value.bool b) (w4_eq (by first | assumption | exact (okW_with (by assumption)).1 | exact (okW_less (by assumption)).1 | exact (ofW_ok _).1 | exact (fullW_W _).1 | (refine okLen ?_; (repeat (first | assumption | exact ofW_ok _ | exact fullW_W _ | apply okW_with | apply okW_less | refine okW_orS ?_ ?_ | refine okW_andS ?_ ?_ | refine okW_minusS ?_ ?_)); done) | rfl | omega | (simp only [List.length_set]; first | done | assumption | omega) | exact lenW4 _ (by assumption)) (by first | assumption | exact (okW_with (by assumption)).1 | exact (okW_less (by assumption)).1 | exact (ofW_ok _).1 | exact (fullW_W _).1 | (refine okLen ?_; (repeat (first | assumption | exact ofW_ok _ | exact fullW_W _ | apply okW_with | apply okW_less | refine okW_orS ?_ ?_ | refine okW_andS ?_ ?_ | refine okW_minusS ?_ ?_)); done) | rfl | omega | (simp only [List.length_set]; first | done | assumption | omega) | exact lenW4 _ (by assumption)))), trivial⟩ (fun act31 f30 => ?_)
 clear f25
 refine At.done rfl ?_
 refine t_n ?_
 have f32 := f30.sub (r := [(4, .bool (decide ((ofZW (fun j => notW (gI s j) (gI t j)) : List Int) = ([0, 0, 0, 0]))))]) ⟨rfl, trivial⟩
 clear f30
 refine wp_ret ?_
 refine ret_ f32 [] [.bool (decide ((ofZW (fun j => notW (gI s j) (gI t j)) : List Int) = ([0, 0, 0, 0])))] [] (by kernel_rfl) trivial ?_
 exact ⟨rfl, e27⟩

set_option maxHeartbeats 4000000 in
theorem of_any {Aa : Option Addr} {ca : Nat} {la : List Int} {w : World} (ra : RdI w 0 w.heap.size Aa la) :
    Calls Tryd.prog 14 #[.slice Aa la.length ca] w fun e w' => e = .returned (.agg (((ofW la : List Int)).map wV).toArray) ∧ Ext w w' := by
 have hla := ra.len
 refine enter_ (args := [.slice Aa la.length ca]) Tryd.func14 rfl Tryd.ntmps14 (Nat.le_of_ble_eq_true rfl) (fun act0 f0 => ?_)
 have e0 := Ext.refl w
 refine wp_seq ?_
 refine At.start ?_
 refine At.seq f0 1 [[]] [(2, .pointer (some ⟨w.heap.size, 0, none⟩))] (w.alloc (.cells ((List.replicate 4 (0 : Int) : List Int).map wV).toArray 26 (0, 0))) [] (by kernel_rfl) trivial (fun act4 w1 hw2 f3 => ?_)
 clear f0
 have g5 := gr_alloc hw2
 have szw1 := g5.size
 have e7 := e0.gr g5 no_row
 clear e0
 have r8 := ra.gr g5 (fun _ h => by cases h)
 clear ra
 have bx9 : Bx w1 (w.heap.size) ((List.replicate 4 (0 : Int) : List Int).map wV) 26 := Bx.new hw2
 have := bx9.lt
 clear g5 hw2
 refine At.done rfl ?_
 refine t_n ?_
 refine wp_seq ?_
 refine At.start ?_
 refine At.seq f3 1 [[]] [(3, .pointer (some ⟨w1.heap.size, 0, none⟩))] (w1.alloc (.cells ((List.replicate 4 (0 : Int) : List Int).map wV).toArray 26 (0, 0))) [] (by kernel_rfl) trivial (fun act13 w10 hw11 f12 => ?_)
 clear f3
 have g14 := gr_alloc hw11
 have szw10 := g14.size
 have e16 := e7.gr g14 no_row
 clear e7
 have r17 := r8.gr g14 (fun _ h => by cases h)
 clear r8
 have bx18 := bx9.gr g14 (by simp)
 clear bx9
 have bx19 : Bx w10 (w1.heap.size) ((List.replicate 4 (0 : Int) : List Int).map wV) 26 := Bx.new hw11
 have := bx19.lt
 clear g14 hw11
 refine At.done rfl ?_
 refine t_n ?_
 refine wp_seq ?_
 refine wp_seq ?_
 refine At.start ?_
 refine At.rd f12 3 [[], [], []] [(8, .int .i64 (0)), (7, .int .i64 (((la.length : Nat) : Int))), (6, .slice Aa la.length ca)] [] (by kernel_rfl) trivial (fun act21 f20 => ?_)
 clear f12
 refine At.done rfl ?_
 refine t_n ?_
 have f22 := f20.sub (r := [(8, .int .i64 (0)), (7, .int .i64 (((la.length : Nat) : Int))), (6, .slice Aa la.length ca), (3, .pointer (some ⟨w1.heap.size, 0, none⟩)), (2, .pointer (some ⟨w.heap.size, 0, none⟩))]) ⟨rfl, rfl, rfl, rfl, rfl, trivial⟩
 clear f20
 refine wp_block ?_
 have f23 := f22.sub (r := [(8, .int .i64 (0)), (7, .int .i64 (((la.length : Nat) : Int))), (6, .slice Aa la.length ca), (3, .pointer (some ⟨w1.heap.size, 0, none⟩)), (2, .pointer (some ⟨w.heap.size, 0, none⟩))]) ⟨rfl, rfl, rfl, rfl, rfl, trivial⟩
 refine loop_g (fun (m_ : Nat) a_ w_ => ∃ (k : Int) (xs : List Int), m_ = ((la.length : Int) - k).toNat ∧ (Frm 17 a_ [(8, .int .i64 (k)), (7, .int .i64 (((la.length : Nat) : Int))), (6, .slice Aa la.length ca), (3, .pointer (some ⟨w1.heap.size, 0, none⟩)), (2, .pointer (some ⟨w.heap.size, 0, none⟩))]) ∧ (Ext w w_) ∧ (RdI w_ 0 w.heap.size Aa la) ∧ (Bx w_ (w.heap.size) ((List.replicate 4 (0 : Int) : List Int).map wV) 26) ∧ (Bx w_ (w1.heap.size) ((xs : List Int).map wV) 26) ∧ (0 ≤ k) ∧ (k ≤ (la.length : Int)) ∧ (OkW xs) ∧ (xs = ofW (la.take k.toNat)) ∧ (xs.length = 4)) _ ⟨0, List.replicate 4 (0 : Int), rfl, f23, e16, r17, bx18, bx19, (by omega), (by omega), okW_0, rfl, rfl⟩ ?_
 clear f23 f22
 clear r17
 clear bx18
 clear bx19
 clear e16
 intro m_ act24 w25 ⟨k, xs, hm27, f28, e26, r29, bx30, bx31, i32, i33, hok, hxs, i34⟩
 have szw25 := e26.size
 have := bx30.lt
 have := bx31.lt
 refine wp_seq ?_
 refine At.start ?_
 refine At.rd f28 1 [[]] [(9, .bool (decide ((k : Int) < ((la.length : Nat) : Int))))] [] (by kernel_rfl) trivial (fun act36 f35 => ?_)
 clear f28
 refine At.done rfl ?_
 refine t_n ?_
 refine wp_seq ?_
 refine cond_S f35 (t := decide ((k : Int) < ((la.length : Nat) : Int))) rfl (fun h37 => ?_) (fun h37 => ?_)
 ·have q38 := of_decide_eq_true h37
  refine wp_skip ?_
  refine t_n ?_
  have f39 := f35.sub (r := [(8, .int .i64 (k)), (7, .int .i64 (((la.length : Nat) : Int))), (6, .slice Aa la.length ca), (3, .pointer (some ⟨w1.heap.size, 0, none⟩)), (2, .pointer (some ⟨w.heap.size, 0, none⟩))]) ⟨rfl, rfl, rfl, rfl, rfl, trivial⟩
  clear f35
  refine wp_seq ?_
  refine wp_block ?_
  refine wp_seq ?_
  refine At.start ?_
  obtain ⟨ad40, hA41, _, _, hc42⟩ := RdI.get r29 (k) (by omega) (by omega)
  refine At.rd f39 3 [[.ad ad40], [.ld (.int .i64 (gI la (k)))], []] [(5, .int .i64 (gI la (k))), (11, .int .i64 (gI la (k))), (10, .pointer (some (ad40.add ((k : Int).toNat * 1))))] [(Aa = some ad40), (0 ≤ (k : Int)), ((k : Int) < (la.length : Nat)), (w25.cell? (ad40.add ((k : Int).toNat * 1)) = some (.int .i64 (gI la (k))))] (by kernel_rfl) ⟨hA41, (by omega), (by omega), hc42, trivial⟩ (fun act44 f43 => ?_)
  clear f39
  refine At.done rfl ?_
  refine t_n ?_
  have f45 := f43.sub (r := [(5, .int .i64 (gI la (k))), (8, .int .i64 (k)), (7, .int .i64 (((la.length : Nat) : Int))), (6, .slice Aa la.length ca), (3, .pointer (some ⟨w1.heap.size, 0, none⟩)), (2, .pointer (some ⟨w.heap.size, 0, none⟩))]) ⟨rfl, rfl, rfl, rfl, rfl, rfl, trivial⟩
  clear f43
  refine At.start ?_
  refine At.rd f45 2 [[.cs ((xs : List Int).map wV)], []] [(13, .int .i64 (gI la (k))), (12, .agg ((xs : List Int).map wV).toArray)] [(((xs : List Int).map wV).length = 4), (∀ (j : Nat) (v : Value), ((xs : List Int).map wV)[j]? = some v → w25.cell? ((⟨w1.heap.size, 0, none⟩ : Addr).add j) = some v)] (by kernel_rfl) ⟨(by simp only [List.length_map, List.length_set, List.length_replicate, List.length_cons, List.length_nil]; first | done | assumption | exact from_len _ | exact of_len _ | exact ofZ_len _ | exact (ofW_ok _).1 | exact (fullW_W _).1 | exact (okW_with (by assumption)).1 | exact (okW_less (by assumption)).1 | exact put_len (from_len _) | exact orD_len _ _ | exact andD_len _ _ | exact minusD_len _ _ | exact fullD_len _ | (refine okLen ?_; (repeat (first | assumption | exact ofW_ok _ | exact fullW_W _ | apply okW_with | apply okW_less | refine okW_orS ?_ ?_ | refine okW_andS ?_ ?_ | refine okW_minusS ?_ ?_)); done) | omega | rfl), bx31.whole, trivial⟩ (fun act47 f46 => ?_)
  clear f45
  refine At.call f46 31 #[.agg ((xs : List Int).map wV).toArray, .int .i64 (gI la (k))] (some 14) (by kernel_rfl) (with_any (s := xs) (n := gI la (k)) (by repeat (first | assumption | exact ofW_ok _ | exact fullW_W _ | exact wordsD_W _ | exact okW_0 | exact okW_00 | apply okW_orS | apply okW_andS | apply okW_minusS | apply okW_with | apply okW_less | apply okW_or | apply okW_and | apply okW_minus | (apply okW_lit <;> exact ⟨by omega, by omega⟩)))) ?_
  rintro e_ w48 ⟨rfl, he⟩
  refine ⟨_, rfl, _, rfl, fun act49 f50 => ?_⟩
  clear f46
  have g51 := gr_ext he
  have szw48 := g51.size
  have e52 := e26.gr g51 no_row
  clear e26
  have r53 := r29.gr g51 (fun _ h => by cases h)
  clear r29
  have bx54 := bx30.gr g51 (by simp)
  clear bx30
  have bx55 := bx31.gr g51 (by simp)
  clear bx31
  clear g51 he
  refine At.act f50 (storeBlk (t := 26) (b := w1.heap.size) (n := 4) (cs' := ((withW xs (gI la (k)) : List Int).map wV)) (by kernel_rfl) (by kernel_rfl) (by simp only [List.length_map, List.length_set, List.length_replicate, List.length_cons, List.length_nil]; first | done | assumption | exact from_len _ | exact of_len _ | exact ofZ_len _ | exact (ofW_ok _).1 | exact (fullW_W _).1 | exact (okW_with (by assumption)).1 | exact (okW_less (by assumption)).1 | exact put_len (from_len _) | exact orD_len _ _ | exact andD_len _ _ | exact minusD_len _ _ | exact fullD_len _ | (refine okLen ?_; (repeat (first | assumption | exact ofW_ok _ | exact fullW_W _ | apply okW_with | apply okW_less | refine okW_orS ?_ ?_ | refine okW_andS ?_ ?_ | refine okW_minusS ?_ ?_)); done) | omega | rfl) oneW_ ((show ((withW xs (gI la (k)) : List Int).map wV).length = 4 from (by simp only [List.length_map, List.length_set, List.length_replicate, List.length_cons, List.length_nil]; first | done | assumption | exact from_len _ | exact of_len _ | exact ofZ_len _ | exact (ofW_ok _).1 | exact (fullW_W _).1 | exact (okW_with (by assumption)).1 | exact (okW_less (by assumption)).1 | exact put_len (from_len _) | exact orD_len _ _ | exact andD_len _ _ | exact minusD_len _ _ | exact fullD_len _ | (refine okLen ?_; (repeat (first | assumption | exact ofW_ok _ | exact fullW_W _ | apply okW_with | apply okW_less | refine okW_orS ?_ ?_ | refine okW_andS ?_ ?_ | refine okW_minusS ?_ ?_)); done) | omega | rfl)).trans (show ((xs : List Int).map wV).length = 4 from (by simp only [List.length_map, List.length_set, List.length_replicate, List.length_cons, List.length_nil]; first | done | assumption | exact from_len _ | exact of_len _ | exact ofZ_len _ | exact (ofW_ok _).1 | exact (fullW_W _).1 | exact (okW_with (by assumption)).1 | exact (okW_less (by assumption)).1 | exact put_len (from_len _) | exact orD_len _ _ | exact andD_len _ _ | exact minusD_len _ _ | exact fullD_len _ | (refine okLen ?_; (repeat (first | assumption | exact ofW_ok _ | exact fullW_W _ | apply okW_with | apply okW_less | refine okW_orS ?_ ?_ | refine okW_andS ?_ ?_ | refine okW_minusS ?_ ?_)); done) | omega | rfl)).symm) bx55) ?_
  rintro d_ v_ w56 ⟨rfl, g57, bx58⟩
  refine ⟨_, rfl, fun act60 f59 => ?_⟩
  clear f50
  have szw56 := g57.size
  have e61 := e52.gr g57 (fun k h => by injection h; omega)
  clear e52
  have r62 := r53.gr g57 (fun k h => by injection h; omega)
  clear r53
  have bx63 := bx54.gr g57 (fun h => by injection h; omega)
  clear bx54
  clear bx55 g57
  refine At.done rfl ?_
  refine b_n ?_
  refine t_n ?_
  have f64 := f59.sub (r := [(8, .int .i64 (k)), (7, .int .i64 (((la.length : Nat) : Int))), (6, .slice Aa la.length ca), (3, .pointer (some ⟨w1.heap.size, 0, none⟩)), (2, .pointer (some ⟨w.heap.size, 0, none⟩))]) ⟨rfl, rfl, rfl, rfl, rfl, trivial⟩
  clear f59
  refine At.start ?_
  refine At.rd f64 2 [[.as_ (.int .i64 (k + 1))], []] [(8, .int .i64 (k + 1)), (15, .int .i64 (k + 1))] [((.int .i64 (IntKind.i64.wrap (k + 1)) : Value) = .int .i64 (k + 1))] (by kernel_rfl) ⟨(w64 (by omega) (by omega)), trivial⟩ (fun act66 f65 => ?_)
  clear f64
  refine At.done rfl ?_
  refine t_n ?_
  have f67 := f65.sub (r := [(8, .int .i64 (k + 1)), (7, .int .i64 (((la.length : Nat) : Int))), (6, .slice Aa la.length ca), (3, .pointer (some ⟨w1.heap.size, 0, none⟩)), (2, .pointer (some ⟨w.heap.size, 0, none⟩))]) ⟨rfl, rfl, rfl, rfl, rfl, trivial⟩
  exact ⟨_, (by omega), (k + 1), withW xs (gI la (k)), rfl, f67, e61, r62, bx63, bx58, (by omega), (by omega), (okW_with hok), (ofW_next hxs (by omega) (by omega)), (okW_with hok).1⟩
 ·have q68 := of_decide_eq_false h37
  refine wp_exit ?_
  refine t_e ?_
  refine t_e ?_
  refine b_e ?_
  refine t_n ?_
  have f69 := f35.sub (r := [(3, .pointer (some ⟨w1.heap.size, 0, none⟩)), (2, .pointer (some ⟨w.heap.size, 0, none⟩))]) ⟨rfl, rfl, trivial⟩
  clear f35
  refine wp_seq ?_
  refine At.start ?_
  refine At.rd f69 1 [[.cs ((xs : List Int).map wV)]] [(16, .agg ((xs : List Int).map wV).toArray)] [(((xs : List Int).map wV).length = 4), (∀ (j : Nat) (v : Value), ((xs : List Int).map wV)[j]? = some v → w25.cell? ((⟨w1.heap.size, 0, none⟩ : Addr).add j) = some v)] (by kernel_rfl) ⟨(by simp only [List.length_map, List.length_set, List.length_replicate, List.length_cons, List.length_nil]; first | done | assumption | exact from_len _ | exact of_len _ | exact ofZ_len _ | exact (ofW_ok _).1 | exact (fullW_W _).1 | exact (okW_with (by assumption)).1 | exact (okW_less (by assumption)).1 | exact put_len (from_len _) | exact orD_len _ _ | exact andD_len _ _ | exact minusD_len _ _ | exact fullD_len _ | (refine okLen ?_; (repeat (first | assumption | exact ofW_ok _ | exact fullW_W _ | apply okW_with | apply okW_less | refine okW_orS ?_ ?_ | refine okW_andS ?_ ?_ | refine okW_minusS ?_ ?_)); done) | omega | rfl), bx31.whole, trivial⟩ (fun act71 f70 => ?_)
  clear f69
  refine At.act f70 (storeBlk (t := 26) (b := w.heap.size) (n := 4) (cs' := ((xs : List Int).map wV)) (by kernel_rfl) (by kernel_rfl) (by simp only [List.length_map, List.length_set, List.length_replicate, List.length_cons, List.length_nil]; first | done | assumption | exact from_len _ | exact of_len _ | exact ofZ_len _ | exact (ofW_ok _).1 | exact (fullW_W _).1 | exact (okW_with (by assumption)).1 | exact (okW_less (by assumption)).1 | exact put_len (from_len _) | exact orD_len _ _ | exact andD_len _ _ | exact minusD_len _ _ | exact fullD_len _ | (refine okLen ?_; (repeat (first | assumption | exact ofW_ok _ | exact fullW_W _ | apply okW_with | apply okW_less | refine okW_orS ?_ ?_ | refine okW_andS ?_ ?_ | refine okW_minusS ?_ ?_)); done) | omega | rfl) oneW_ ((show ((xs : List Int).map wV).length = 4 from (by simp only [List.length_map, List.length_set, List.length_replicate, List.length_cons, List.length_nil]; first | done | assumption | exact from_len _ | exact of_len _ | exact ofZ_len _ | exact (ofW_ok _).1 | exact (fullW_W _).1 | exact (okW_with (by assumption)).1 | exact (okW_less (by assumption)).1 | exact put_len (from_len _) | exact orD_len _ _ | exact andD_len _ _ | exact minusD_len _ _ | exact fullD_len _ | (refine okLen ?_; (repeat (first | assumption | exact ofW_ok _ | exact fullW_W _ | apply okW_with | apply okW_less | refine okW_orS ?_ ?_ | refine okW_andS ?_ ?_ | refine okW_minusS ?_ ?_)); done) | omega | rfl)).trans (show ((List.replicate 4 (0 : Int) : List Int).map wV).length = 4 from (by simp only [List.length_map, List.length_set, List.length_replicate, List.length_cons, List.length_nil]; first | done | assumption | exact from_len _ | exact of_len _ | exact ofZ_len _ | exact (ofW_ok _).1 | exact (fullW_W _).1 | exact (okW_with (by assumption)).1 | exact (okW_less (by assumption)).1 | exact put_len (from_len _) | exact orD_len _ _ | exact andD_len _ _ | exact minusD_len _ _ | exact fullD_len _ | (refine okLen ?_; (repeat (first | assumption | exact ofW_ok _ | exact fullW_W _ | apply okW_with | apply okW_less | refine okW_orS ?_ ?_ | refine okW_andS ?_ ?_ | refine okW_minusS ?_ ?_)); done) | omega | rfl)).symm) bx30) ?_
  rintro d_ v_ w72 ⟨rfl, g73, bx74⟩
  refine ⟨_, rfl, fun act76 f75 => ?_⟩
  clear f70
  have szw72 := g73.size
  have e77 := e26.gr g73 (fun k h => by injection h; omega)
  clear e26
  have r78 := r29.gr g73 (fun k h => by injection h; omega)
  clear r29
  have bx79 := bx31.gr g73 (fun h => by injection h; omega)
  clear bx31
  clear bx30 g73
  refine At.done rfl ?_
  refine t_n ?_
  have f80 := f75.sub (r := [(2, .pointer (some ⟨w.heap.size, 0, none⟩))]) ⟨rfl, trivial⟩
  clear f75
  refine wp_ret ?_
  refine retB_ f80 (sl := 2) (cs := ((xs : List Int).map wV)) (m := 4) rfl (by kernel_rfl) (by kernel_rfl) (by simp only [List.length_map, List.length_set, List.length_replicate, List.length_cons, List.length_nil]; first | done | assumption | exact from_len _ | exact of_len _ | exact ofZ_len _ | exact (ofW_ok _).1 | exact (fullW_W _).1 | exact (okW_with (by assumption)).1 | exact (okW_less (by assumption)).1 | exact put_len (from_len _) | exact orD_len _ _ | exact andD_len _ _ | exact minusD_len _ _ | exact fullD_len _ | (refine okLen ?_; (repeat (first | assumption | exact ofW_ok _ | exact fullW_W _ | apply okW_with | apply okW_less | refine okW_orS ?_ ?_ | refine okW_andS ?_ ?_ | refine okW_minusS ?_ ?_)); done) | omega | rfl) bx74 ?_
  exact ⟨ret_map (by rw [hxs, List.take_of_length_le (by omega)]), e77⟩

end Go.Proofs.YtepekncgknlcjaaDoor
