/-
  A walk of a Go function, printed by a program of this repo. Conditions: what the theorems name.
-/
import Derived.Test.YtkkophhnliplhaaDoorPureSet
import Derived.Test.YtkkophhnliplhaaDoorWSetW
set_option linter.unusedVariables false
set_option linter.unusedSimpArgs false
namespace Go.Proofs.YtkkophhnliplhaaDoor
open Go Go.RowKit

set_option maxHeartbeats 4000000 in
theorem words_any {l : List Bool} {w : World} (hl : l.length = 256) :
    Calls Tryd.prog 25 #[.agg ((l : List Bool).map Value.bool).toArray] w fun e w' => e = .returned (.agg (((wordsD l : List Int)).map wV).toArray) ∧ Ext w w' := by
 refine enter_ (args := [.agg ((l : List Bool).map Value.bool).toArray]) Tryd.func25 rfl Tryd.ntmps25 (Nat.le_of_ble_eq_true rfl) (fun act0 f0 => ?_)
 have e0 : Ext w w := Ext.refl w
 refine wp_seq ?_
 refine At.start ?_
 refine At.seq f0 1 [[]] [(1, .pointer (some ⟨w.heap.size, 0, none⟩))] (w.alloc (.cells ((l : List Bool).map Value.bool).toArray 37 (0, 0))) [] (by kernel_rfl) trivial (fun act4 w1 hw2 f3 => ?_)
 clear f0
 have g5 := gr_alloc hw2
 have szw1 := g5.size
 replace e0 := e0.gr g5 no_row
 have bx8 : Bx w1 (w.heap.size) ((l : List Bool).map Value.bool) 37 := Bx.new hw2
 have := bx8.lt
 clear g5 hw2
 refine At.seq f3 1 [[]] [(2, .pointer (some ⟨w1.heap.size, 0, none⟩))] (w1.alloc (.cells ((List.replicate 4 (0 : Int) : List Int).map wV).toArray 35 (0, 0))) [] (by kernel_rfl) trivial (fun act12 w9 hw10 f11 => ?_)
 clear f3
 have g13 := gr_alloc hw10
 have szw9 := g13.size
 replace e0 := e0.gr g13 no_row
 replace bx8 := bx8.gr g13 (by simp)
 have bx17 : Bx w9 (w1.heap.size) ((List.replicate 4 (0 : Int) : List Int).map wV) 35 := Bx.new hw10
 have := bx17.lt
 clear g13 hw10
 refine At.done rfl ?_
 refine t_n ?_
 refine wp_seq ?_
 refine At.start ?_
 refine At.seq f11 1 [[]] [(3, .pointer (some ⟨w9.heap.size, 0, none⟩))] (w9.alloc (.cells ((List.replicate 4 (0 : Int) : List Int).map wV).toArray 35 (0, 0))) [] (by kernel_rfl) trivial (fun act21 w18 hw19 f20 => ?_)
 clear f11
 have g22 := gr_alloc hw19
 have szw18 := g22.size
 replace e0 := e0.gr g22 no_row
 replace bx8 := bx8.gr g22 (by simp)
 replace bx17 := bx17.gr g22 (by simp)
 have bx27 : Bx w18 (w9.heap.size) ((List.replicate 4 (0 : Int) : List Int).map wV) 35 := Bx.new hw19
 have := bx27.lt
 clear g22 hw19
 refine At.done rfl ?_
 refine t_n ?_
 refine wp_seq ?_
 refine wp_seq ?_
 refine At.start ?_
 refine At.rd f20 1 [[]] [(4, .int .i64 (0))] [] (by kernel_rfl) trivial (fun act29 f28 => ?_)
 clear f20
 refine At.done rfl ?_
 refine t_n ?_
 refine wp_block ?_
 have f30 := f28.sub (r := [(4, .int .i64 (0)), (3, .pointer (some ⟨w9.heap.size, 0, none⟩)), (2, .pointer (some ⟨w1.heap.size, 0, none⟩)), (1, .pointer (some ⟨w.heap.size, 0, none⟩))]) ⟨rfl, rfl, rfl, rfl, trivial⟩
 refine loop_g (fun (m_ : Nat) a_ w_ => ∃ (k : Int) (xs : List Int), m_ = (256 - k).toNat ∧ (Frm 25 a_ [(4, .int .i64 (k)), (3, .pointer (some ⟨w9.heap.size, 0, none⟩)), (2, .pointer (some ⟨w1.heap.size, 0, none⟩)), (1, .pointer (some ⟨w.heap.size, 0, none⟩))]) ∧ (Ext w w_) ∧ (Bx w_ (w.heap.size) ((l : List Bool).map Value.bool) 37) ∧ (Bx w_ (w1.heap.size) ((List.replicate 4 (0 : Int) : List Int).map wV) 35) ∧ (Bx w_ (w9.heap.size) ((xs : List Int).map wV) 35) ∧ (0 ≤ k) ∧ (k ≤ 256) ∧ (xs.length = 4) ∧ (WordsT l xs k)) _ ⟨0, List.replicate 4 (0 : Int), rfl, f30, e0, bx8, bx17, bx27, (by omega), (by omega), rfl, words_0⟩ ?_
 clear f30 f28
 clear bx8
 clear bx17
 clear bx27
 clear e0
 intro m_ act31 w32 ⟨k, xs, hm34, f35, e33, bx36, bx37, bx38, i39, i40, i41, hwt⟩
 have szw32 := e33.size
 have := bx36.lt
 have := bx37.lt
 have := bx38.lt
 refine wp_seq ?_
 refine wp_seq ?_
 refine At.start ?_
 refine At.rd f35 2 [[], []] [(6, .bool (decide ((k : Int) < 256))), (5, .int .i64 (k))] [] (by kernel_rfl) trivial (fun act43 f42 => ?_)
 clear f35
 refine At.done rfl ?_
 refine t_n ?_
 refine cond_S f42 (t := decide ((k : Int) < 256)) rfl (fun h44 => ?_) (fun h44 => ?_)
 ·have q45 := of_decide_eq_true h44
  refine wp_skip ?_
  refine t_n ?_
  refine wp_seq ?_
  refine wp_block ?_
  refine wp_seq ?_
  refine At.start ?_
  refine At.rd f42 3 [[], [], [.ld (.bool (gB l k))]] [(11, .bool (gB l k)), (10, .pointer (some ((⟨w.heap.size, 0, none⟩ : Addr).add ((k : Int).toNat * 1)))), (9, .int .i64 (k))] [(0 ≤ (k : Int)), ((k : Int) < (256 : Nat)), (w32.cell? ((⟨w.heap.size, 0, none⟩ : Addr).add ((k : Int).toNat * 1)) = some (.bool (gB l k)))] (by kernel_rfl) ⟨(by omega), (by omega), (Bx.arrM (f := Value.bool) false bx36 k (by omega) (by omega)), trivial⟩ (fun act47 f46 => ?_)
  clear f42
  refine At.done rfl ?_
  refine t_n ?_
  refine cond_S f46 (t := gB l k) rfl (fun h48 => ?_) (fun h48 => ?_)
  ·refine At.start ?_
   refine At.rd f46 12 [[], [.as_ (.int .i64 ((k : Int) / 64))], [], [.as_ (.int .i64 ((k : Int) / 64))], [], [.ld (.int .u64 (gI xs ((k : Int) / 64)))], [], [.as_ (.int .i64 ((k : Int) % 64))], [.as_ (.int .u64 ((k : Int) % 64))], [.as_ (.int .u64 (oneW ((k : Int) % 64)))], [], []] [(23, .pointer (some ((⟨w9.heap.size, 0, none⟩ : Addr).add (((k : Int) / 64 : Int).toNat * 1)))), (22, .int .u64 (IntKind.u64.wrap ((gI xs ((k : Int) / 64)) + (oneW ((k : Int) % 64))))), (21, .int .u64 (oneW ((k : Int) % 64))), (20, .int .u64 ((k : Int) % 64)), (19, .int .i64 ((k : Int) % 64)), (18, .int .i64 (k)), (17, .int .u64 (gI xs ((k : Int) / 64))), (16, .pointer (some ((⟨w9.heap.size, 0, none⟩ : Addr).add (((k : Int) / 64 : Int).toNat * 1)))), (15, .int .i64 ((k : Int) / 64)), (14, .int .i64 (k)), (13, .int .i64 ((k : Int) / 64)), (12, .int .i64 (k))] [((64 : Int) ≠ 0), ((.int .i64 (IntKind.i64.wrap ((k : Int).tdiv 64)) : Value) = .int .i64 ((k : Int) / 64)), ((64 : Int) ≠ 0), ((.int .i64 (IntKind.i64.wrap ((k : Int).tdiv 64)) : Value) = .int .i64 ((k : Int) / 64)), (0 ≤ ((k : Int) / 64 : Int)), (((k : Int) / 64 : Int) < (4 : Nat)), (w32.cell? ((⟨w9.heap.size, 0, none⟩ : Addr).add (((k : Int) / 64 : Int).toNat * 1)) = some (.int .u64 (gI xs ((k : Int) / 64)))), ((64 : Int) ≠ 0), ((.int .i64 ((k : Int).tmod 64) : Value) = .int .i64 ((k : Int) % 64)), ((.int .u64 (IntKind.u64.wrap ((k : Int) % 64)) : Value) = .int .u64 ((k : Int) % 64)), (0 ≤ ((k : Int) % 64 : Int)), ((.int .u64 (IntKind.u64.wrap (1 * (2 ^ (min ((k : Int) % 64 : Int).toNat IntKind.u64.bits)))) : Value) = .int .u64 (oneW ((k : Int) % 64))), (0 ≤ ((k : Int) / 64 : Int)), (((k : Int) / 64 : Int) < (4 : Nat))] (by kernel_rfl) ⟨(by omega), (congrArg (Value.int .i64) (w64q (by omega) (by omega) (by omega))), (by omega), (congrArg (Value.int .i64) (w64q (by omega) (by omega) (by omega))), (by omega), (by omega), (Bx.arrM (f := wV) (0 : Int) bx38 ((k : Int) / 64) (by omega) (by omega)), (by omega), (congrArg (Value.int .i64) (tmodE (by omega) _)), (wu64 (by omega) (by omega)), (by omega), (congrArg (Value.int .u64) (shl_one (by omega) (by omega))), (by omega), (by omega), trivial⟩ (fun act51 f50 => ?_)
   clear f46
   refine At.act f50 (storeArrM (f := wV) (t := 34) (b := w9.heap.size) (i := (k : Int) / 64) (x := IntKind.u64.wrap ((gI xs ((k : Int) / 64)) + (oneW ((k : Int) % 64)))) (v := .int .u64 (IntKind.u64.wrap ((gI xs ((k : Int) / 64)) + (oneW ((k : Int) % 64))))) (by kernel_rfl) rfl rfl (by kernel_rfl) bx38 (by omega) (by omega)) ?_
   rintro d_ v_ w52 ⟨rfl, g53, bx54⟩
   refine ⟨_, rfl, fun act57 f56 => ?_⟩
   clear f50
   have hl55 : ((xs).set ((k : Int) / 64 : Int).toNat (IntKind.u64.wrap ((gI xs ((k : Int) / 64)) + (oneW ((k : Int) % 64))))).length = (xs : List Int).length := List.length_set
   have szw52 := g53.size
   replace e33 := e33.gr g53 (fun k h => by injection h; omega)
   replace bx36 := bx36.gr g53 (fun h => by injection h; omega)
   replace bx37 := bx37.gr g53 (fun h => by injection h; omega)
   clear bx38 g53
   refine At.done rfl ?_
   refine b_n ?_
   refine t_n ?_
   have f61 := f56.sub (r := [(4, .int .i64 (k)), (3, .pointer (some ⟨w9.heap.size, 0, none⟩)), (2, .pointer (some ⟨w1.heap.size, 0, none⟩)), (1, .pointer (some ⟨w.heap.size, 0, none⟩))]) ⟨rfl, rfl, rfl, rfl, trivial⟩
   clear f56
   refine At.start ?_
   refine At.rd f61 3 [[], [.as_ (.int .i64 (k + 1))], []] [(4, .int .i64 (k + 1)), (8, .int .i64 (k + 1)), (7, .int .i64 (k))] [((.int .i64 (IntKind.i64.wrap (k + 1)) : Value) = .int .i64 (k + 1))] (by kernel_rfl) ⟨(w64 (by omega) (by omega)), trivial⟩ (fun act63 f62 => ?_)
   clear f61
   refine At.done rfl ?_
   refine t_n ?_
   have f64 := f62.sub (r := [(4, .int .i64 (k + 1)), (3, .pointer (some ⟨w9.heap.size, 0, none⟩)), (2, .pointer (some ⟨w1.heap.size, 0, none⟩)), (1, .pointer (some ⟨w.heap.size, 0, none⟩))]) ⟨rfl, rfl, rfl, rfl, trivial⟩
   exact ⟨_, (by omega), (k + 1), (xs).set ((k : Int) / 64 : Int).toNat (IntKind.u64.wrap ((gI xs ((k : Int) / 64)) + (oneW ((k : Int) % 64)))), rfl, f64, e33, bx36, bx37, bx54, (by omega), (by omega), (by omega), (words_yes hwt (by omega) (by omega) (by assumption) rfl)⟩
  ·refine wp_skip ?_
   refine b_n ?_
   refine t_n ?_
   refine At.start ?_
   refine At.rd f46 3 [[], [.as_ (.int .i64 (k + 1))], []] [(4, .int .i64 (k + 1)), (8, .int .i64 (k + 1)), (7, .int .i64 (k))] [((.int .i64 (IntKind.i64.wrap (k + 1)) : Value) = .int .i64 (k + 1))] (by kernel_rfl) ⟨(w64 (by omega) (by omega)), trivial⟩ (fun act67 f66 => ?_)
   clear f46
   refine At.done rfl ?_
   refine t_n ?_
   have f68 := f66.sub (r := [(4, .int .i64 (k + 1)), (3, .pointer (some ⟨w9.heap.size, 0, none⟩)), (2, .pointer (some ⟨w1.heap.size, 0, none⟩)), (1, .pointer (some ⟨w.heap.size, 0, none⟩))]) ⟨rfl, rfl, rfl, rfl, trivial⟩
   exact ⟨_, (by omega), (k + 1), xs, rfl, f68, e33, bx36, bx37, bx38, (by omega), (by omega), (by omega), (words_no hwt (by omega) (by omega) (by assumption))⟩
 ·have q69 := of_decide_eq_false h44
  refine wp_exit ?_
  refine t_e ?_
  refine t_e ?_
  refine b_e ?_
  refine t_n ?_
  refine wp_seq ?_
  refine At.start ?_
  refine At.rd f42 1 [[.cs ((xs : List Int).map wV)]] [(24, .agg ((xs : List Int).map wV).toArray)] [(((xs : List Int).map wV).length = 4), (∀ (j : Nat) (v : Value), ((xs : List Int).map wV)[j]? = some v → w32.cell? ((⟨w9.heap.size, 0, none⟩ : Addr).add j) = some v)] (by kernel_rfl) ⟨((List.length_map _).trans (by assumption)), bx38.whole, trivial⟩ (fun act71 f70 => ?_)
  clear f42
  refine At.act f70 (storeBlk (t := 35) (b := w1.heap.size) (n := 4) (cs' := ((xs : List Int).map wV)) (by kernel_rfl) (by kernel_rfl) ((List.length_map _).trans (by assumption)) oneW_ ((show ((xs : List Int).map wV).length = 4 from ((List.length_map _).trans (by assumption))).trans (show ((List.replicate 4 (0 : Int) : List Int).map wV).length = 4 from (by simp only [List.length_map, List.length_set, List.length_replicate, List.length_cons, List.length_nil]; first | done | assumption | exact from_len _ | exact of_len _ | exact ofZ_len _ | exact (ofW_ok _).1 | exact (fullW_W _).1 | exact (okW_with (by assumption)).1 | exact (okW_less (by assumption)).1 | exact put_len (from_len _) | exact orD_len _ _ | exact andD_len _ _ | exact minusD_len _ _ | exact fullD_len _ | (refine okLen ?_; (repeat (first | assumption | exact ofW_ok _ | exact fullW_W _ | apply okW_with | apply okW_less | refine okW_orS ?_ ?_ | refine okW_andS ?_ ?_ | refine okW_minusS ?_ ?_)); done) | omega | rfl)).symm) bx37) ?_
  rintro d_ v_ w72 ⟨rfl, g73, bx74⟩
  refine ⟨_, rfl, fun act76 f75 => ?_⟩
  clear f70
  have szw72 := g73.size
  replace e33 := e33.gr g73 (fun k h => by injection h; omega)
  replace bx36 := bx36.gr g73 (fun h => by injection h; omega)
  replace bx38 := bx38.gr g73 (fun h => by injection h; omega)
  clear bx37 g73
  refine At.done rfl ?_
  refine t_n ?_
  refine wp_ret ?_
  refine retB_ f75 (sl := 2) (cs := ((xs : List Int).map wV)) (m := 4) rfl (by kernel_rfl) (by kernel_rfl) ((List.length_map _).trans (by assumption)) bx74 ?_
  exact ⟨ret_map (words_end hwt (by omega)), e33⟩

set_option maxHeartbeats 4000000 in
theorem of_any {Aa : Option Addr} {ca : Nat} {la : List Int} {w : World} (ra : RdI w 0 w.heap.size Aa la) :
    Calls Tryd.prog 34 #[.slice Aa la.length ca] w fun e w' => e = .returned (.agg (((ofW la : List Int)).map wV).toArray) ∧ Ext w w' := by
 have hla := ra.len
 refine enter_ (args := [.slice Aa la.length ca]) Tryd.func34 rfl Tryd.ntmps34 (Nat.le_of_ble_eq_true rfl) (fun act0 f0 => ?_)
 have e0 : Ext w w := Ext.refl w
 refine wp_seq ?_
 refine At.start ?_
 refine At.seq f0 1 [[]] [(2, .pointer (some ⟨w.heap.size, 0, none⟩))] (w.alloc (.cells ((List.replicate 4 (0 : Int) : List Int).map wV).toArray 47 (0, 0))) [] (by kernel_rfl) trivial (fun act4 w1 hw2 f3 => ?_)
 clear f0
 have g5 := gr_alloc hw2
 have szw1 := g5.size
 replace e0 := e0.gr g5 no_row
 have r8 := ra.gr g5 (fun _ h => by cases h)
 clear ra
 have bx9 : Bx w1 (w.heap.size) ((List.replicate 4 (0 : Int) : List Int).map wV) 47 := Bx.new hw2
 have := bx9.lt
 clear g5 hw2
 refine At.done rfl ?_
 refine t_n ?_
 refine wp_seq ?_
 refine At.start ?_
 refine At.seq f3 1 [[]] [(3, .pointer (some ⟨w1.heap.size, 0, none⟩))] (w1.alloc (.cells ((List.replicate 4 (0 : Int) : List Int).map wV).toArray 47 (0, 0))) [] (by kernel_rfl) trivial (fun act13 w10 hw11 f12 => ?_)
 clear f3
 have g14 := gr_alloc hw11
 have szw10 := g14.size
 replace e0 := e0.gr g14 no_row
 replace r8 := r8.gr g14 (fun _ h => by cases h)
 replace bx9 := bx9.gr g14 (by simp)
 have bx19 : Bx w10 (w1.heap.size) ((List.replicate 4 (0 : Int) : List Int).map wV) 47 := Bx.new hw11
 have := bx19.lt
 clear g14 hw11
 refine At.done rfl ?_
 refine t_n ?_
 refine wp_seq ?_
 refine wp_seq ?_
 refine At.start ?_
 refine At.rd f12 3 [[], [], []] [(8, .int .i64 (0)), (7, .int .i64 (((la.length : Nat) : Int))), (6, .slice Aa la.length ca)] [] (by kernel_rfl) trivial (fun act21 f20 => ?_)
 clear f12
 refine At.done rfl ?_
 refine t_n ?_
 refine wp_block ?_
 have f22 := f20.sub (r := [(8, .int .i64 (0)), (7, .int .i64 (((la.length : Nat) : Int))), (6, .slice Aa la.length ca), (3, .pointer (some ⟨w1.heap.size, 0, none⟩)), (2, .pointer (some ⟨w.heap.size, 0, none⟩))]) ⟨rfl, rfl, rfl, rfl, rfl, trivial⟩
 refine loop_g (fun (m_ : Nat) a_ w_ => ∃ (k : Int) (xs : List Int), m_ = ((la.length : Int) - k).toNat ∧ (Frm 17 a_ [(8, .int .i64 (k)), (7, .int .i64 (((la.length : Nat) : Int))), (6, .slice Aa la.length ca), (3, .pointer (some ⟨w1.heap.size, 0, none⟩)), (2, .pointer (some ⟨w.heap.size, 0, none⟩))]) ∧ (Ext w w_) ∧ (RdI w_ 0 w.heap.size Aa la) ∧ (Bx w_ (w.heap.size) ((List.replicate 4 (0 : Int) : List Int).map wV) 47) ∧ (Bx w_ (w1.heap.size) ((xs : List Int).map wV) 47) ∧ (0 ≤ k) ∧ (k ≤ (la.length : Int)) ∧ (OkW xs) ∧ (xs = ofW (la.take k.toNat)) ∧ (xs.length = 4)) _ ⟨0, List.replicate 4 (0 : Int), rfl, f22, e0, r8, bx9, bx19, (by omega), (by omega), okW_0, rfl, rfl⟩ ?_
 clear f22 f20
 clear r8
 clear bx9
 clear bx19
 clear e0
 intro m_ act23 w24 ⟨k, xs, hm26, f27, e25, r28, bx29, bx30, i31, i32, hok, hxs, i33⟩
 have szw24 := e25.size
 have := bx29.lt
 have := bx30.lt
 refine wp_seq ?_
 refine At.start ?_
 refine At.rd f27 1 [[]] [(9, .bool (decide ((k : Int) < ((la.length : Nat) : Int))))] [] (by kernel_rfl) trivial (fun act35 f34 => ?_)
 clear f27
 refine At.done rfl ?_
 refine t_n ?_
 refine wp_seq ?_
 refine cond_S f34 (t := decide ((k : Int) < ((la.length : Nat) : Int))) rfl (fun h36 => ?_) (fun h36 => ?_)
 ·have q37 := of_decide_eq_true h36
  refine wp_skip ?_
  refine t_n ?_
  refine wp_seq ?_
  refine wp_block ?_
  refine wp_seq ?_
  refine At.start ?_
  obtain ⟨ad38, hA39, _, _, hc40⟩ := RdI.get r28 (k) (by omega) (by omega)
  refine At.rd f34 3 [[.ad ad38], [.ld (.int .i64 (gI la (k)))], []] [(5, .int .i64 (gI la (k))), (11, .int .i64 (gI la (k))), (10, .pointer (some (ad38.add ((k : Int).toNat * 1))))] [(Aa = some ad38), (0 ≤ (k : Int)), ((k : Int) < (la.length : Nat)), (w24.cell? (ad38.add ((k : Int).toNat * 1)) = some (.int .i64 (gI la (k))))] (by kernel_rfl) ⟨hA39, (by omega), (by omega), hc40, trivial⟩ (fun act42 f41 => ?_)
  clear f34
  refine At.done rfl ?_
  refine t_n ?_
  refine At.start ?_
  refine At.rd f41 2 [[.cs ((xs : List Int).map wV)], []] [(13, .int .i64 (gI la (k))), (12, .agg ((xs : List Int).map wV).toArray)] [(((xs : List Int).map wV).length = 4), (∀ (j : Nat) (v : Value), ((xs : List Int).map wV)[j]? = some v → w24.cell? ((⟨w1.heap.size, 0, none⟩ : Addr).add j) = some v)] (by kernel_rfl) ⟨((List.length_map _).trans (by assumption)), bx30.whole, trivial⟩ (fun act44 f43 => ?_)
  clear f41
  refine At.call f43 44 #[.agg ((xs : List Int).map wV).toArray, .int .i64 (gI la (k))] (some 14) (by kernel_rfl) (with_any (s := xs) (n := gI la (k)) (by assumption)) ?_
  rintro e_ w45 ⟨rfl, he⟩
  refine ⟨_, rfl, _, rfl, fun act46 f47 => ?_⟩
  clear f43
  have g48 := gr_ext he
  have szw45 := g48.size
  replace e25 := e25.gr g48 no_row
  replace r28 := r28.gr g48 (fun _ h => by cases h)
  replace bx29 := bx29.gr g48 (by simp)
  replace bx30 := bx30.gr g48 (by simp)
  clear g48 he
  refine At.act f47 (storeBlk (t := 47) (b := w1.heap.size) (n := 4) (cs' := ((withW xs (gI la (k)) : List Int).map wV)) (by kernel_rfl) (by kernel_rfl) ((List.length_map _).trans (okLen (okW_with (by assumption)))) oneW_ ((show ((withW xs (gI la (k)) : List Int).map wV).length = 4 from ((List.length_map _).trans (okLen (okW_with (by assumption))))).trans (show ((xs : List Int).map wV).length = 4 from ((List.length_map _).trans (by assumption))).symm) bx30) ?_
  rintro d_ v_ w53 ⟨rfl, g54, bx55⟩
  refine ⟨_, rfl, fun act57 f56 => ?_⟩
  clear f47
  have szw53 := g54.size
  replace e25 := e25.gr g54 (fun k h => by injection h; omega)
  replace r28 := r28.gr g54 (fun k h => by injection h; omega)
  replace bx29 := bx29.gr g54 (fun h => by injection h; omega)
  clear bx30 g54
  refine At.done rfl ?_
  refine b_n ?_
  refine t_n ?_
  refine At.start ?_
  refine At.rd f56 2 [[.as_ (.int .i64 (k + 1))], []] [(8, .int .i64 (k + 1)), (15, .int .i64 (k + 1))] [((.int .i64 (IntKind.i64.wrap (k + 1)) : Value) = .int .i64 (k + 1))] (by kernel_rfl) ⟨(w64 (by omega) (by omega)), trivial⟩ (fun act62 f61 => ?_)
  clear f56
  refine At.done rfl ?_
  refine t_n ?_
  have f63 := f61.sub (r := [(8, .int .i64 (k + 1)), (7, .int .i64 (((la.length : Nat) : Int))), (6, .slice Aa la.length ca), (3, .pointer (some ⟨w1.heap.size, 0, none⟩)), (2, .pointer (some ⟨w.heap.size, 0, none⟩))]) ⟨rfl, rfl, rfl, rfl, rfl, trivial⟩
  exact ⟨_, (by omega), (k + 1), withW xs (gI la (k)), rfl, f63, e25, r28, bx29, bx55, (by omega), (by omega), (okW_with hok), (ofW_next hxs (by omega) (by omega)), (okW_with hok).1⟩
 ·have q64 := of_decide_eq_false h36
  refine wp_exit ?_
  refine t_e ?_
  refine t_e ?_
  refine b_e ?_
  refine t_n ?_
  refine wp_seq ?_
  refine At.start ?_
  refine At.rd f34 1 [[.cs ((xs : List Int).map wV)]] [(16, .agg ((xs : List Int).map wV).toArray)] [(((xs : List Int).map wV).length = 4), (∀ (j : Nat) (v : Value), ((xs : List Int).map wV)[j]? = some v → w24.cell? ((⟨w1.heap.size, 0, none⟩ : Addr).add j) = some v)] (by kernel_rfl) ⟨((List.length_map _).trans (by assumption)), bx30.whole, trivial⟩ (fun act66 f65 => ?_)
  clear f34
  refine At.act f65 (storeBlk (t := 47) (b := w.heap.size) (n := 4) (cs' := ((xs : List Int).map wV)) (by kernel_rfl) (by kernel_rfl) ((List.length_map _).trans (by assumption)) oneW_ ((show ((xs : List Int).map wV).length = 4 from ((List.length_map _).trans (by assumption))).trans (show ((List.replicate 4 (0 : Int) : List Int).map wV).length = 4 from (by simp only [List.length_map, List.length_set, List.length_replicate, List.length_cons, List.length_nil]; first | done | assumption | exact from_len _ | exact of_len _ | exact ofZ_len _ | exact (ofW_ok _).1 | exact (fullW_W _).1 | exact (okW_with (by assumption)).1 | exact (okW_less (by assumption)).1 | exact put_len (from_len _) | exact orD_len _ _ | exact andD_len _ _ | exact minusD_len _ _ | exact fullD_len _ | (refine okLen ?_; (repeat (first | assumption | exact ofW_ok _ | exact fullW_W _ | apply okW_with | apply okW_less | refine okW_orS ?_ ?_ | refine okW_andS ?_ ?_ | refine okW_minusS ?_ ?_)); done) | omega | rfl)).symm) bx29) ?_
  rintro d_ v_ w67 ⟨rfl, g68, bx69⟩
  refine ⟨_, rfl, fun act71 f70 => ?_⟩
  clear f65
  have szw67 := g68.size
  replace e25 := e25.gr g68 (fun k h => by injection h; omega)
  replace r28 := r28.gr g68 (fun k h => by injection h; omega)
  replace bx30 := bx30.gr g68 (fun h => by injection h; omega)
  clear bx29 g68
  refine At.done rfl ?_
  refine t_n ?_
  refine wp_ret ?_
  refine retB_ f70 (sl := 2) (cs := ((xs : List Int).map wV)) (m := 4) rfl (by kernel_rfl) (by kernel_rfl) ((List.length_map _).trans (by assumption)) bx69 ?_
  exact ⟨ret_map (by rw [hxs, List.take_of_length_le (by omega)]), e25⟩

end Go.Proofs.YtkkophhnliplhaaDoor
