/-
  A walk of a Go function, printed by a program of this repo. Conditions: what the theorems name.
-/
import Derived.Test.YtepekncgknlcjaaDoorWShown01
import Derived.Test.YtepekncgknlcjaaDoorPureAlg
import Derived.Test.YtepekncgknlcjaaDoorPureWays
set_option linter.unusedVariables false
set_option linter.unusedSimpArgs false
namespace Go.Proofs.YtepekncgknlcjaaDoor
open Go Go.RowKit

attribute [local irreducible] ofZ fromW wordsD ofD ofW lsD lenW lenN fullW withW lessW hasW hasD inW inD leastD putD onI tzI orS andS minusS orD andD minusD fullD emptyD
set_option maxHeartbeats 4000000 in
theorem ways01_any {Aa : Option Addr} {ca : Nat} {la : List Int} {w : World} (ra : RdI w 0 w.heap.size Aa la) (rT : RdT w 0 w.heap.size) :
    Calls Tryd.prog 8 #[.slice Aa la.length ca] w fun e w' => e = .returned (.bool true) ∧ Ext w w' := by
 have hla := ra.len
 refine enter_ (args := [.slice Aa la.length ca]) Tryd.func8 rfl Tryd.ntmps8 (Nat.le_of_ble_eq_true rfl) (fun act0 f0 => ?_)
 have e0 := Ext.refl w
 refine wp_seq ?_
 refine At.start ?_
 refine At.rd f0 1 [[]] [(2, .bool false)] [] (by kernel_rfl) trivial (fun act2 f1 => ?_)
 clear f0
 refine At.done rfl ?_
 refine t_n ?_
 refine wp_seq ?_
 refine At.start ?_
 refine At.call f1 12 #[] (some 12) (by kernel_rfl) (shown01_any (rT.wide (Nat.zero_le _) (by omega))) ?_
 rintro e_ w3 ⟨rfl, he⟩
 refine ⟨_, rfl, _, rfl, fun act4 f5 => ?_⟩
 clear f1
 have g6 := gr_ext he
 have szw3 := g6.size
 have e7 := e0.gr g6 no_row
 clear e0
 have r8 := ra.gr g6 (fun _ h => by cases h)
 clear ra
 have r9 := rT.gr g6 (fun _ h => by cases h)
 clear rT
 clear g6 he
 refine At.rd f5 1 [[]] [(3, .bool true)] [] (by kernel_rfl) trivial (fun act11 f10 => ?_)
 clear f5
 refine At.done rfl ?_
 refine t_n ?_
 have f12 := f10.sub (r := [(3, .bool true), (2, .bool false), (0, .slice Aa la.length ca)]) ⟨rfl, rfl, rfl, trivial⟩
 clear f10
 refine wp_seq ?_
 refine At.start ?_
 refine At.rd f12 1 [[]] [(13, .slice Aa la.length ca)] [] (by kernel_rfl) trivial (fun act14 f13 => ?_)
 clear f12
 refine At.call f13 14 #[.slice Aa la.length ca] (some 14) (by kernel_rfl) (of_any (la := la) (r8.wide (Nat.zero_le _) (by omega))) ?_
 rintro e_ w15 ⟨rfl, he⟩
 refine ⟨_, rfl, _, rfl, fun act16 f17 => ?_⟩
 clear f13
 have g18 := gr_ext he
 have szw15 := g18.size
 have e19 := e7.gr g18 no_row
 clear e7
 have r20 := r8.gr g18 (fun _ h => by cases h)
 clear r8
 have r21 := r9.gr g18 (fun _ h => by cases h)
 clear r9
 clear g18 he
 refine At.seq f17 1 [[]] [(4, .pointer (some ⟨w15.heap.size, 0, none⟩))] (w15.alloc (.cells ((List.replicate 4 (0 : Int) : List Int).map wV).toArray 26 (0, 0))) [] (by kernel_rfl) trivial (fun act25 w22 hw23 f24 => ?_)
 clear f17
 have g26 := gr_alloc hw23
 have szw22 := g26.size
 have e28 := e19.gr g26 no_row
 clear e19
 have r29 := r20.gr g26 (fun _ h => by cases h)
 clear r20
 have r30 := r21.gr g26 (fun _ h => by cases h)
 clear r21
 have bx31 : Bx w22 (w15.heap.size) ((List.replicate 4 (0 : Int) : List Int).map wV) 26 := Bx.new hw23
 have := bx31.lt
 clear g26 hw23
 refine At.act f24 (storeBlk (t := 26) (b := w15.heap.size) (n := 4) (cs' := ((ofW la : List Int).map wV)) (by kernel_rfl) (by kernel_rfl) ((List.length_map _).trans (okLen (ofW_ok _))) oneW_ ((show ((ofW la : List Int).map wV).length = 4 from ((List.length_map _).trans (okLen (ofW_ok _)))).trans (show ((List.replicate 4 (0 : Int) : List Int).map wV).length = 4 from (by simp only [List.length_map, List.length_set, List.length_replicate, List.length_cons, List.length_nil]; first | done | assumption | exact from_len _ | exact of_len _ | exact ofZ_len _ | exact (ofW_ok _).1 | exact (fullW_W _).1 | exact (okW_with (by assumption)).1 | exact (okW_less (by assumption)).1 | exact put_len (from_len _) | exact orD_len _ _ | exact andD_len _ _ | exact minusD_len _ _ | exact fullD_len _ | (refine okLen ?_; (repeat (first | assumption | exact ofW_ok _ | exact fullW_W _ | apply okW_with | apply okW_less | refine okW_orS ?_ ?_ | refine okW_andS ?_ ?_ | refine okW_minusS ?_ ?_)); done) | omega | rfl)).symm) bx31) ?_
 rintro d_ v_ w32 ⟨rfl, g33, bx34⟩
 refine ⟨_, rfl, fun act36 f35 => ?_⟩
 clear f24
 have szw32 := g33.size
 have e37 := e28.gr g33 (fun k h => by injection h; omega)
 clear e28
 have r38 := r29.gr g33 (fun k h => by injection h; omega)
 clear r29
 have r39 := r30.gr g33 (fun k h => by injection h; omega)
 clear r30
 clear bx31 g33
 refine At.done rfl ?_
 refine t_n ?_
 have f40 := f35.sub (r := [(4, .pointer (some ⟨w15.heap.size, 0, none⟩)), (3, .bool true), (2, .bool false), (0, .slice Aa la.length ca)]) ⟨rfl, rfl, rfl, rfl, trivial⟩
 clear f35
 refine wp_seq ?_
 refine At.start ?_
 refine At.seq f40 1 [[]] [(5, .pointer (some ⟨w32.heap.size, 0, none⟩))] (w32.alloc (.cells ((List.replicate 4 (0 : Int) : List Int).map wV).toArray 26 (0, 0))) [] (by kernel_rfl) trivial (fun act44 w41 hw42 f43 => ?_)
 clear f40
 have g45 := gr_alloc hw42
 have szw41 := g45.size
 have e47 := e37.gr g45 no_row
 clear e37
 have r48 := r38.gr g45 (fun _ h => by cases h)
 clear r38
 have r49 := r39.gr g45 (fun _ h => by cases h)
 clear r39
 have bx50 := bx34.gr g45 (by simp)
 clear bx34
 have bx51 : Bx w41 (w32.heap.size) ((List.replicate 4 (0 : Int) : List Int).map wV) 26 := Bx.new hw42
 have := bx51.lt
 clear g45 hw42
 refine At.done rfl ?_
 refine t_n ?_
 refine wp_seq ?_
 refine At.start ?_
 refine At.seq f43 1 [[]] [(6, .pointer (some ⟨w41.heap.size, 0, none⟩))] (w41.alloc (.cells ((List.replicate 4 (0 : Int) : List Int).map wV).toArray 26 (0, 0))) [] (by kernel_rfl) trivial (fun act55 w52 hw53 f54 => ?_)
 clear f43
 have g56 := gr_alloc hw53
 have szw52 := g56.size
 have e58 := e47.gr g56 no_row
 clear e47
 have r59 := r48.gr g56 (fun _ h => by cases h)
 clear r48
 have r60 := r49.gr g56 (fun _ h => by cases h)
 clear r49
 have bx61 := bx50.gr g56 (by simp)
 clear bx50
 have bx62 := bx51.gr g56 (by simp)
 clear bx51
 have bx63 : Bx w52 (w41.heap.size) ((List.replicate 4 (0 : Int) : List Int).map wV) 26 := Bx.new hw53
 have := bx63.lt
 clear g56 hw53
 refine At.done rfl ?_
 refine t_n ?_
 refine wp_seq ?_
 refine wp_seq ?_
 refine At.start ?_
 refine At.rd f54 4 [[], [], [.as_ (.int .i64 (((la.length : Nat) : Int) - 1))], []] [(7, .int .i64 (((la.length : Nat) : Int) - 1)), (17, .int .i64 (((la.length : Nat) : Int) - 1)), (16, .int .i64 (((la.length : Nat) : Int))), (15, .slice Aa la.length ca)] [((.int .i64 (IntKind.i64.wrap (((la.length : Nat) : Int) - 1)) : Value) = .int .i64 (((la.length : Nat) : Int) - 1))] (by kernel_rfl) ⟨(w64 (by omega) (by omega)), trivial⟩ (fun act65 f64 => ?_)
 clear f54
 refine At.done rfl ?_
 refine t_n ?_
 have f66 := f64.sub (r := [(7, .int .i64 (((la.length : Nat) : Int) - 1)), (6, .pointer (some ⟨w41.heap.size, 0, none⟩)), (5, .pointer (some ⟨w32.heap.size, 0, none⟩)), (4, .pointer (some ⟨w15.heap.size, 0, none⟩)), (3, .bool true), (2, .bool false), (0, .slice Aa la.length ca)]) ⟨rfl, rfl, rfl, rfl, rfl, rfl, rfl, trivial⟩
 clear f64
 refine wp_block ?_
 have f67 := f66.sub (r := [(7, .int .i64 (((la.length : Nat) : Int) - 1)), (6, .pointer (some ⟨w41.heap.size, 0, none⟩)), (5, .pointer (some ⟨w32.heap.size, 0, none⟩)), (4, .pointer (some ⟨w15.heap.size, 0, none⟩)), (3, .bool true), (2, .bool false), (0, .slice Aa la.length ca)]) ⟨rfl, rfl, rfl, rfl, rfl, rfl, rfl, trivial⟩
 refine loop_g (fun (m_ : Nat) a_ w_ => ∃ (k : Int) (ys : List Int), m_ = (k + 1).toNat ∧ (Frm 85 a_ [(7, .int .i64 (k)), (6, .pointer (some ⟨w41.heap.size, 0, none⟩)), (5, .pointer (some ⟨w32.heap.size, 0, none⟩)), (4, .pointer (some ⟨w15.heap.size, 0, none⟩)), (3, .bool true), (2, .bool false), (0, .slice Aa la.length ca)]) ∧ (Ext w w_) ∧ (RdI w_ 0 w.heap.size Aa la) ∧ (RdT w_ 0 w.heap.size) ∧ (Bx w_ (w15.heap.size) ((ofW la : List Int).map wV) 26) ∧ (Bx w_ (w32.heap.size) ((ys : List Int).map wV) 26) ∧ (Bx w_ (w41.heap.size) ((List.replicate 4 (0 : Int) : List Int).map wV) 26) ∧ (-1 ≤ k) ∧ (k < (la.length : Int)) ∧ (OkW ys) ∧ (ys = ofW (la.drop (k + 1).toNat).reverse) ∧ (ys.length = 4)) _ ⟨(((la.length : Nat) : Int) - 1), List.replicate 4 (0 : Int), rfl, f67, e58, r59, r60, bx61, bx62, bx63, (by omega), (by omega), okW_0, ways_y0, rfl⟩ ?_
 clear f67 f66
 clear r59
 clear r60
 clear bx61
 clear bx62
 clear bx63
 clear e58
 intro m_ act68 w69 ⟨k, ys, hm71, f72, e70, r73, r74, bx75, bx76, bx77, i78, i79, hoy, hys, i80⟩
 have szw69 := e70.size
 have := bx75.lt
 have := bx76.lt
 have := bx77.lt
 refine wp_seq ?_
 refine wp_seq ?_
 refine At.start ?_
 refine At.rd f72 2 [[], []] [(19, .bool (decide ((k : Int) ≥ 0))), (18, .int .i64 (k))] [] (by kernel_rfl) trivial (fun act82 f81 => ?_)
 clear f72
 refine At.done rfl ?_
 refine t_n ?_
 have f83 := f81.sub (r := [(19, .bool (decide ((k : Int) ≥ 0))), (7, .int .i64 (k)), (6, .pointer (some ⟨w41.heap.size, 0, none⟩)), (5, .pointer (some ⟨w32.heap.size, 0, none⟩)), (4, .pointer (some ⟨w15.heap.size, 0, none⟩)), (3, .bool true), (2, .bool false), (0, .slice Aa la.length ca)]) ⟨rfl, rfl, rfl, rfl, rfl, rfl, rfl, rfl, trivial⟩
 clear f81
 refine cond_S f83 (t := decide ((k : Int) ≥ 0)) rfl (fun h84 => ?_) (fun h84 => ?_)
 ·have q85 := of_decide_eq_true h84
  refine wp_skip ?_
  refine t_n ?_
  have f86 := f83.sub (r := [(7, .int .i64 (k)), (6, .pointer (some ⟨w41.heap.size, 0, none⟩)), (5, .pointer (some ⟨w32.heap.size, 0, none⟩)), (4, .pointer (some ⟨w15.heap.size, 0, none⟩)), (3, .bool true), (2, .bool false), (0, .slice Aa la.length ca)]) ⟨rfl, rfl, rfl, rfl, rfl, rfl, rfl, trivial⟩
  clear f83
  refine wp_seq ?_
  refine wp_block ?_
  obtain ⟨ad87, hA88, _, _, hc89⟩ := RdI.get r73 (k) (by omega) (by omega)
  obtain ⟨Cs90, hCs91⟩ : ∃ c : List (Addr × Value), c = [((ad87.add ((k : Int).toNat * 1)), (.int .i64 (gI la (k))))] := ⟨_, rfl⟩
  have hS92 : HoldsC Cs90 w69 := by rw [hCs91]; exact ⟨hc89, trivial⟩
  refine AtH.start Cs90 7 #[false, false, false, false, false, false, false] (by kernel_rfl) rfl rfl (fun w94 hw95 => ?_)
  have g93 := gr_drew hw95
  have hS96 := hS92.gr g93
  have szw94 := g93.size
  have e97 := e70.gr g93 no_row
  clear e70
  have r98 := r73.gr g93 (fun _ h => by cases h)
  clear r73
  have r99 := r74.gr g93 (fun _ h => by cases h)
  clear r74
  have bx100 := bx75.gr g93 (by simp)
  clear bx75
  have bx101 := bx76.gr g93 (by simp)
  clear bx76
  have bx102 := bx77.gr g93 (by simp)
  clear bx77
  clear g93 hw95 hS92
  refine AtH.rd (by kernel_rfl) (fun d v c a w h => by cases d <;> exact h) hS96 [1, 2, 3, 4] [[], [], [.ad ad87], [.ld (.int .i64 (gI la (k)))]] [(26, .int .i64 (gI la (k))), (25, .pointer (some (ad87.add ((k : Int).toNat * 1)))), (24, .int .i64 (k)), (23, .slice Aa la.length ca)] #[false, true, true, true, true, false, false] [(Aa = some ad87), (0 ≤ (k : Int)), ((k : Int) < (la.length : Nat)), (∃ j_ : Nat, Cs90[j_]? = some ((ad87.add ((k : Int).toNat * 1)), (.int .i64 (gI la (k)))))] 3 f86 (by kernel_rfl) ⟨hA88, (by omega), (by omega), ⟨0, by rw [hCs91]; rfl⟩, trivial⟩ (fun act104 f103 => ?_)
  clear f86
  refine AtH.all [0] 2 (by kernel_rfl) (by simp) ⟨?_, trivial⟩
  refine OneH.seq f103 [[.cs ((ys : List Int).map wV)]] [(22, .agg ((ys : List Int).map wV).toArray)] w94 [(((ys : List Int).map wV).length = 4), (∀ (j : Nat) (v : Value), ((ys : List Int).map wV)[j]? = some v → w94.cell? ((⟨w32.heap.size, 0, none⟩ : Addr).add j) = some v)] #[true, true, true, true, true, false, false] (by kernel_rfl) (by kernel_rfl) (by kernel_rfl) ⟨(by simp only [List.length_map, List.length_set, List.length_replicate, List.length_cons, List.length_nil]; first | done | assumption | exact from_len _ | exact of_len _ | exact ofZ_len _ | exact (ofW_ok _).1 | exact (fullW_W _).1 | exact (okW_with (by assumption)).1 | exact (okW_less (by assumption)).1 | exact put_len (from_len _) | exact orD_len _ _ | exact andD_len _ _ | exact minusD_len _ _ | exact fullD_len _ | (refine okLen ?_; (repeat (first | assumption | exact ofW_ok _ | exact fullW_W _ | apply okW_with | apply okW_less | refine okW_orS ?_ ?_ | refine okW_andS ?_ ?_ | refine okW_minusS ?_ ?_)); done) | omega | rfl), bx101.whole, trivial⟩ (fun act106 w107 hw108 f105 => ?_)
  obtain rfl : w94 = w107 := hw108.symm
  clear f103
  refine ⟨hS96, ?_⟩
  refine AtH.all [5] 1 (by kernel_rfl) (by simp) ⟨?_, trivial⟩
  refine OneH.call f105 31 #[.agg ((ys : List Int).map wV).toArray, .int .i64 (gI la (k))] (some 27) #[true, true, true, true, true, true, false] (by kernel_rfl) (by kernel_rfl) (with_any (s := ys) (n := gI la (k)) (by repeat (first | assumption | exact ofW_ok _ | exact fullW_W _ | exact wordsD_W _ | exact okW_0 | exact okW_00 | apply okW_orS | apply okW_andS | apply okW_minusS | apply okW_with | apply okW_less | apply okW_or | apply okW_and | apply okW_minus | (apply okW_lit <;> exact ⟨by omega, by omega⟩)))) ?_
  rintro e_ w110 ⟨rfl, he⟩
  refine ⟨_, rfl, _, rfl, fun act111 f112 => ?_⟩
  clear f105
  have g113 := gr_ext he
  have hS109 := hS96.gr g113
  have szw110 := g113.size
  have e114 := e97.gr g113 no_row
  clear e97
  have r115 := r98.gr g113 (fun _ h => by cases h)
  clear r98
  have r116 := r99.gr g113 (fun _ h => by cases h)
  clear r99
  have bx117 := bx100.gr g113 (by simp)
  clear bx100
  have bx118 := bx101.gr g113 (by simp)
  clear bx101
  have bx119 := bx102.gr g113 (by simp)
  clear bx102
  clear g113 he
  refine ⟨hS109, ?_⟩
  refine AtH.all [6] 0 (by kernel_rfl) (by simp) ⟨?_, trivial⟩
  refine OneH.act f112 #[true, true, true, true, true, true, true] (by kernel_rfl) (storeBlk (t := 26) (b := w32.heap.size) (n := 4) (cs' := ((withW ys (gI la (k)) : List Int).map wV)) (by kernel_rfl) (by kernel_rfl) ((List.length_map _).trans (okLen (okW_with (by assumption)))) oneW_ ((show ((withW ys (gI la (k)) : List Int).map wV).length = 4 from ((List.length_map _).trans (okLen (okW_with (by assumption))))).trans (show ((ys : List Int).map wV).length = 4 from (by simp only [List.length_map, List.length_set, List.length_replicate, List.length_cons, List.length_nil]; first | done | assumption | exact from_len _ | exact of_len _ | exact ofZ_len _ | exact (ofW_ok _).1 | exact (fullW_W _).1 | exact (okW_with (by assumption)).1 | exact (okW_less (by assumption)).1 | exact put_len (from_len _) | exact orD_len _ _ | exact andD_len _ _ | exact minusD_len _ _ | exact fullD_len _ | (refine okLen ?_; (repeat (first | assumption | exact ofW_ok _ | exact fullW_W _ | apply okW_with | apply okW_less | refine okW_orS ?_ ?_ | refine okW_andS ?_ ?_ | refine okW_minusS ?_ ?_)); done) | omega | rfl)).symm) bx118) ?_
  rintro d_ v_ w121 ⟨rfl, g122, bx123⟩
  have hS126 := hS109.gr' g122 (by rw [hCs91]; exact ⟨(by simp only [add_block]; omega), trivial⟩)
  refine ⟨_, rfl, fun act125 f124 => ⟨hS126, ?_⟩⟩
  clear f112
  have szw121 := g122.size
  have e127 := e114.gr g122 (fun k h => by injection h; omega)
  clear e114
  have r128 := r115.gr g122 (fun k h => by injection h; omega)
  clear r115
  have r129 := r116.gr g122 (fun k h => by injection h; omega)
  clear r116
  have bx130 := bx117.gr g122 (fun h => by injection h; omega)
  clear bx117
  have bx131 := bx119.gr g122 (fun h => by injection h; omega)
  clear bx119
  clear bx118 g122
  refine AtH.done (by kernel_rfl) ?_
  clear hS126
  refine b_n ?_
  refine t_n ?_
  have f132 := f124.sub (r := [(7, .int .i64 (k)), (6, .pointer (some ⟨w41.heap.size, 0, none⟩)), (5, .pointer (some ⟨w32.heap.size, 0, none⟩)), (4, .pointer (some ⟨w15.heap.size, 0, none⟩)), (3, .bool true), (2, .bool false), (0, .slice Aa la.length ca)]) ⟨rfl, rfl, rfl, rfl, rfl, rfl, rfl, trivial⟩
  clear f124
  refine At.start ?_
  refine At.rd f132 3 [[], [.as_ (.int .i64 (k - 1))], []] [(7, .int .i64 (k - 1)), (21, .int .i64 (k - 1)), (20, .int .i64 (k))] [((.int .i64 (IntKind.i64.wrap (k - 1)) : Value) = .int .i64 (k - 1))] (by kernel_rfl) ⟨(w64 (by omega) (by omega)), trivial⟩ (fun act134 f133 => ?_)
  clear f132
  refine At.done rfl ?_
  refine t_n ?_
  have f135 := f133.sub (r := [(7, .int .i64 (k - 1)), (6, .pointer (some ⟨w41.heap.size, 0, none⟩)), (5, .pointer (some ⟨w32.heap.size, 0, none⟩)), (4, .pointer (some ⟨w15.heap.size, 0, none⟩)), (3, .bool true), (2, .bool false), (0, .slice Aa la.length ca)]) ⟨rfl, rfl, rfl, rfl, rfl, rfl, rfl, trivial⟩
  exact ⟨_, (by omega), (k - 1), withW ys (gI la (k)), rfl, f135, e127, r128, r129, bx130, bx123, bx131, (by omega), (by omega), (okW_with hoy), (ways_y hys (by omega) (by omega)), (okW_with hoy).1⟩
 ·have q136 := of_decide_eq_false h84
  refine wp_exit ?_
  refine t_e ?_
  refine t_e ?_
  refine b_e ?_
  refine t_n ?_
  have f137 := f83.sub (r := [(6, .pointer (some ⟨w41.heap.size, 0, none⟩)), (5, .pointer (some ⟨w32.heap.size, 0, none⟩)), (4, .pointer (some ⟨w15.heap.size, 0, none⟩)), (3, .bool true), (2, .bool false), (0, .slice Aa la.length ca)]) ⟨rfl, rfl, rfl, rfl, rfl, rfl, trivial⟩
  clear f83
  refine wp_seq ?_
  refine wp_seq ?_
  refine At.start ?_
  refine At.rd f137 1 [[]] [(8, .int .i64 (0))] [] (by kernel_rfl) trivial (fun act139 f138 => ?_)
  clear f137
  refine At.done rfl ?_
  refine t_n ?_
  refine wp_block ?_
  have f140 := f138.sub (r := [(8, .int .i64 (0)), (6, .pointer (some ⟨w41.heap.size, 0, none⟩)), (5, .pointer (some ⟨w32.heap.size, 0, none⟩)), (4, .pointer (some ⟨w15.heap.size, 0, none⟩)), (3, .bool true), (2, .bool false), (0, .slice Aa la.length ca)]) ⟨rfl, rfl, rfl, rfl, rfl, rfl, rfl, trivial⟩
  refine loop_g (fun (m_ : Nat) a_ w_ => ∃ (k : Int) (zs : List Int), m_ = ((la.length : Int) - k).toNat ∧ (Frm 85 a_ [(8, .int .i64 (k)), (6, .pointer (some ⟨w41.heap.size, 0, none⟩)), (5, .pointer (some ⟨w32.heap.size, 0, none⟩)), (4, .pointer (some ⟨w15.heap.size, 0, none⟩)), (3, .bool true), (2, .bool false), (0, .slice Aa la.length ca)]) ∧ (Ext w w_) ∧ (RdI w_ 0 w.heap.size Aa la) ∧ (RdT w_ 0 w.heap.size) ∧ (Bx w_ (w15.heap.size) ((ofW la : List Int).map wV) 26) ∧ (Bx w_ (w32.heap.size) ((ys : List Int).map wV) 26) ∧ (Bx w_ (w41.heap.size) ((zs : List Int).map wV) 26) ∧ (0 ≤ k) ∧ (k ≤ (la.length : Int)) ∧ (OkW zs) ∧ (fromW zs = ofD (la.take k.toNat)) ∧ (zs.length = 4)) _ ⟨0, List.replicate 4 (0 : Int), rfl, f140, e70, r73, r74, bx75, bx76, bx77, (by omega), (by omega), okW_0, ways_z0, rfl⟩ ?_
  clear f140 f138
  clear r73
  clear r74
  clear bx75
  clear bx76
  clear bx77
  clear e70
  intro m_ act141 w142 ⟨k, zs, hm144, f145, e143, r146, r147, bx148, bx149, bx150, i151, i152, hoz, hzs, i153⟩
  have szw142 := e143.size
  have := bx148.lt
  have := bx149.lt
  have := bx150.lt
  refine wp_seq ?_
  refine wp_seq ?_
  refine At.start ?_
  refine At.rd f145 4 [[], [], [], []] [(31, .bool (decide ((k : Int) < ((la.length : Nat) : Int)))), (30, .int .i64 (((la.length : Nat) : Int))), (29, .slice Aa la.length ca), (28, .int .i64 (k))] [] (by kernel_rfl) trivial (fun act155 f154 => ?_)
  clear f145
  refine At.done rfl ?_
  refine t_n ?_
  have f156 := f154.sub (r := [(31, .bool (decide ((k : Int) < ((la.length : Nat) : Int)))), (8, .int .i64 (k)), (6, .pointer (some ⟨w41.heap.size, 0, none⟩)), (5, .pointer (some ⟨w32.heap.size, 0, none⟩)), (4, .pointer (some ⟨w15.heap.size, 0, none⟩)), (3, .bool true), (2, .bool false), (0, .slice Aa la.length ca)]) ⟨rfl, rfl, rfl, rfl, rfl, rfl, rfl, rfl, trivial⟩
  clear f154
  refine cond_S f156 (t := decide ((k : Int) < ((la.length : Nat) : Int))) rfl (fun h157 => ?_) (fun h157 => ?_)
  ·have q158 := of_decide_eq_true h157
   refine wp_skip ?_
   refine t_n ?_
   have f159 := f156.sub (r := [(8, .int .i64 (k)), (6, .pointer (some ⟨w41.heap.size, 0, none⟩)), (5, .pointer (some ⟨w32.heap.size, 0, none⟩)), (4, .pointer (some ⟨w15.heap.size, 0, none⟩)), (3, .bool true), (2, .bool false), (0, .slice Aa la.length ca)]) ⟨rfl, rfl, rfl, rfl, rfl, rfl, rfl, trivial⟩
   clear f156
   refine wp_seq ?_
   refine wp_block ?_
   obtain ⟨ad160, hA161, _, _, hc162⟩ := RdI.get r146 (k) (by omega) (by omega)
   obtain ⟨Cs163, hCs164⟩ : ∃ c : List (Addr × Value), c = [((ad160.add ((k : Int).toNat * 1)), (.int .i64 (gI la (k))))] := ⟨_, rfl⟩
   have hS165 : HoldsC Cs163 w142 := by rw [hCs164]; exact ⟨hc162, trivial⟩
   refine AtH.start Cs163 9 #[false, false, false, false, false, false, false, false, false] (by kernel_rfl) rfl rfl (fun w167 hw168 => ?_)
   have g166 := gr_drew hw168
   have hS169 := hS165.gr g166
   have szw167 := g166.size
   have e170 := e143.gr g166 no_row
   clear e143
   have r171 := r146.gr g166 (fun _ h => by cases h)
   clear r146
   have r172 := r147.gr g166 (fun _ h => by cases h)
   clear r147
   have bx173 := bx148.gr g166 (by simp)
   clear bx148
   have bx174 := bx149.gr g166 (by simp)
   clear bx149
   have bx175 := bx150.gr g166 (by simp)
   clear bx150
   clear g166 hw168 hS165
   refine AtH.rd (by kernel_rfl) (fun d v c a w h => by cases d <;> exact h) hS169 [0, 1, 2, 3] [[], [], [.ad ad160], [.ld (.int .i64 (gI la (k)))]] [(37, .int .i64 (gI la (k))), (36, .pointer (some (ad160.add ((k : Int).toNat * 1)))), (35, .int .i64 (k)), (34, .slice Aa la.length ca)] #[true, true, true, true, false, false, false, false, false] [(Aa = some ad160), (0 ≤ (k : Int)), ((k : Int) < (la.length : Nat)), (∃ j_ : Nat, Cs163[j_]? = some ((ad160.add ((k : Int).toNat * 1)), (.int .i64 (gI la (k)))))] 5 f159 (by kernel_rfl) ⟨hA161, (by omega), (by omega), ⟨0, by rw [hCs164]; rfl⟩, trivial⟩ (fun act177 f176 => ?_)
   clear f159
   refine AtH.all [4, 6] 4 (by kernel_rfl) (by simp) ⟨?_, ?_, trivial⟩
   ·refine OneH.seq f176 [[]] [(38, .slice (some ⟨w167.heap.size, 0, none⟩) 1 1)] (w167.alloc (.cells #[.int .i64 (gI la (k))] 3 (0, 0))) [] #[true, true, true, true, true, false, false, false, false] (by kernel_rfl) (by kernel_rfl) (by kernel_rfl) trivial (fun act182 w179 hw180 f181 => ?_)
    clear f176
    have g183 := gr_alloc hw180
    have hS186 := hS169.gr g183
    refine ⟨hS186, ?_⟩
    have szw179 := g183.size
    have e187 := e170.gr g183 no_row
    clear e170
    have r188 := r171.gr g183 (fun _ h => by cases h)
    clear r171
    have r189 := r172.gr g183 (fun _ h => by cases h)
    clear r172
    have bx190 := bx173.gr g183 (by simp)
    clear bx173
    have bx191 := bx174.gr g183 (by simp)
    clear bx174
    have bx192 := bx175.gr g183 (by simp)
    clear bx175
    have bx185 : Bx w179 (w167.heap.size) [.int .i64 (gI la (k))] 3 := Bx.new hw180
    have := bx185.lt
    clear g183 hw180
    refine AtH.all [5, 6] 3 (by kernel_rfl) (by simp) ⟨?_, ?_, trivial⟩
    ·refine OneH.call f181 14 #[.slice (some ⟨w167.heap.size, 0, none⟩) 1 1] (some 39) #[true, true, true, true, true, true, false, false, false] (by kernel_rfl) (by kernel_rfl) (of_any (la := ([gI la (k)] : List Int)) (Bx.rdI (l := ([gI la (k)] : List Int)) bx185 rfl (by first | decide | exact Nat.le_of_ble_eq_true rfl))) ?_
     rintro e_ w194 ⟨rfl, he⟩
     refine ⟨_, rfl, _, rfl, fun act195 f196 => ?_⟩
     clear f181
     have g197 := gr_ext he
     have hS193 := hS186.gr g197
     have szw194 := g197.size
     have e198 := e187.gr g197 no_row
     clear e187
     have r199 := r188.gr g197 (fun _ h => by cases h)
     clear r188
     have r200 := r189.gr g197 (fun _ h => by cases h)
     clear r189
     have bx201 := bx190.gr g197 (by simp)
     clear bx190
     have bx202 := bx191.gr g197 (by simp)
     clear bx191
     have bx203 := bx192.gr g197 (by simp)
     clear bx192
     have bx204 := bx185.gr g197 (by simp)
     clear bx185
     clear g197 he
     refine ⟨hS193, ?_⟩
     refine AtH.all [6] 2 (by kernel_rfl) (by simp) ⟨?_, trivial⟩
     refine OneH.seq f196 [[.cs ((zs : List Int).map wV)]] [(40, .agg ((zs : List Int).map wV).toArray)] w194 [(((zs : List Int).map wV).length = 4), (∀ (j : Nat) (v : Value), ((zs : List Int).map wV)[j]? = some v → w194.cell? ((⟨w41.heap.size, 0, none⟩ : Addr).add j) = some v)] #[true, true, true, true, true, true, true, false, false] (by kernel_rfl) (by kernel_rfl) (by kernel_rfl) ⟨(by simp only [List.length_map, List.length_set, List.length_replicate, List.length_cons, List.length_nil]; first | done | assumption | exact from_len _ | exact of_len _ | exact ofZ_len _ | exact (ofW_ok _).1 | exact (fullW_W _).1 | exact (okW_with (by assumption)).1 | exact (okW_less (by assumption)).1 | exact put_len (from_len _) | exact orD_len _ _ | exact andD_len _ _ | exact minusD_len _ _ | exact fullD_len _ | (refine okLen ?_; (repeat (first | assumption | exact ofW_ok _ | exact fullW_W _ | apply okW_with | apply okW_less | refine okW_orS ?_ ?_ | refine okW_andS ?_ ?_ | refine okW_minusS ?_ ?_)); done) | omega | rfl), bx203.whole, trivial⟩ (fun act206 w207 hw208 f205 => ?_)
     obtain rfl : w194 = w207 := hw208.symm
     clear f196
     refine ⟨hS193, ?_⟩
     refine AtH.all [7] 1 (by kernel_rfl) (by simp) ⟨?_, trivial⟩
     refine OneH.call f205 32 #[.agg ((ofW ([gI la (k)] : List Int) : List Int).map wV).toArray, .agg ((zs : List Int).map wV).toArray] (some 41) #[true, true, true, true, true, true, true, true, false] (by kernel_rfl) (by kernel_rfl) (orS_any (s := ofW ([gI la (k)] : List Int)) (t := zs) (ofW_ok _) (by repeat (first | assumption | exact ofW_ok _ | exact fullW_W _ | exact wordsD_W _ | exact okW_0 | exact okW_00 | apply okW_orS | apply okW_andS | apply okW_minusS | apply okW_with | apply okW_less | apply okW_or | apply okW_and | apply okW_minus | (apply okW_lit <;> exact ⟨by omega, by omega⟩)))) ?_
     rintro e_ w210 ⟨rfl, he⟩
     refine ⟨_, rfl, _, rfl, fun act211 f212 => ?_⟩
     clear f205
     have g213 := gr_ext he
     have hS209 := hS193.gr g213
     have szw210 := g213.size
     have e214 := e198.gr g213 no_row
     clear e198
     have r215 := r199.gr g213 (fun _ h => by cases h)
     clear r199
     have r216 := r200.gr g213 (fun _ h => by cases h)
     clear r200
     have bx217 := bx201.gr g213 (by simp)
     clear bx201
     have bx218 := bx202.gr g213 (by simp)
     clear bx202
     have bx219 := bx203.gr g213 (by simp)
     clear bx203
     have bx220 := bx204.gr g213 (by simp)
     clear bx204
     clear g213 he
     refine ⟨hS209, ?_⟩
     refine AtH.all [8] 0 (by kernel_rfl) (by simp) ⟨?_, trivial⟩
     refine OneH.act f212 #[true, true, true, true, true, true, true, true, true] (by kernel_rfl) (storeBlk (t := 26) (b := w41.heap.size) (n := 4) (cs' := ((orS (ofW ([gI la (k)] : List Int)) zs : List Int).map wV)) (by kernel_rfl) (by kernel_rfl) ((List.length_map _).trans (okLen (okW_orS (ofW_ok _) (by assumption)))) oneW_ ((show ((orS (ofW ([gI la (k)] : List Int)) zs : List Int).map wV).length = 4 from ((List.length_map _).trans (okLen (okW_orS (ofW_ok _) (by assumption))))).trans (show ((zs : List Int).map wV).length = 4 from (by simp only [List.length_map, List.length_set, List.length_replicate, List.length_cons, List.length_nil]; first | done | assumption | exact from_len _ | exact of_len _ | exact ofZ_len _ | exact (ofW_ok _).1 | exact (fullW_W _).1 | exact (okW_with (by assumption)).1 | exact (okW_less (by assumption)).1 | exact put_len (from_len _) | exact orD_len _ _ | exact andD_len _ _ | exact minusD_len _ _ | exact fullD_len _ | (refine okLen ?_; (repeat (first | assumption | exact ofW_ok _ | exact fullW_W _ | apply okW_with | apply okW_less | refine okW_orS ?_ ?_ | refine okW_andS ?_ ?_ | refine okW_minusS ?_ ?_)); done) | omega | rfl)).symm) bx219) ?_
     rintro d_ v_ w222 ⟨rfl, g223, bx224⟩
     have hS227 := hS209.gr' g223 (by rw [hCs164]; exact ⟨(by simp only [add_block]; omega), trivial⟩)
     refine ⟨_, rfl, fun act226 f225 => ⟨hS227, ?_⟩⟩
     clear f212
     have szw222 := g223.size
     have e228 := e214.gr g223 (fun k h => by injection h; omega)
     clear e214
     have r229 := r215.gr g223 (fun k h => by injection h; omega)
     clear r215
     have r230 := r216.gr g223 (fun k h => by injection h; omega)
     clear r216
     have bx231 := bx217.gr g223 (fun h => by injection h; omega)
     clear bx217
     have bx232 := bx218.gr g223 (fun h => by injection h; omega)
     clear bx218
     have bx233 := bx220.gr g223 (fun h => by injection h; omega)
     clear bx220
     clear bx219 g223
     refine AtH.done (by kernel_rfl) ?_
     clear hS227
     refine b_n ?_
     refine t_n ?_
     have f234 := f225.sub (r := [(8, .int .i64 (k)), (6, .pointer (some ⟨w41.heap.size, 0, none⟩)), (5, .pointer (some ⟨w32.heap.size, 0, none⟩)), (4, .pointer (some ⟨w15.heap.size, 0, none⟩)), (3, .bool true), (2, .bool false), (0, .slice Aa la.length ca)]) ⟨rfl, rfl, rfl, rfl, rfl, rfl, rfl, trivial⟩
     clear f225
     refine At.start ?_
     refine At.rd f234 3 [[], [.as_ (.int .i64 (k + 1))], []] [(8, .int .i64 (k + 1)), (33, .int .i64 (k + 1)), (32, .int .i64 (k))] [((.int .i64 (IntKind.i64.wrap (k + 1)) : Value) = .int .i64 (k + 1))] (by kernel_rfl) ⟨(w64 (by omega) (by omega)), trivial⟩ (fun act236 f235 => ?_)
     clear f234
     refine At.done rfl ?_
     refine t_n ?_
     have f237 := f235.sub (r := [(8, .int .i64 (k + 1)), (6, .pointer (some ⟨w41.heap.size, 0, none⟩)), (5, .pointer (some ⟨w32.heap.size, 0, none⟩)), (4, .pointer (some ⟨w15.heap.size, 0, none⟩)), (3, .bool true), (2, .bool false), (0, .slice Aa la.length ca)]) ⟨rfl, rfl, rfl, rfl, rfl, rfl, rfl, trivial⟩
     exact ⟨_, (by omega), (k + 1), orS (ofW ([gI la (k)] : List Int)) zs, rfl, f237, e228, r229, r230, bx231, bx232, bx224, (by omega), (by omega), (okW_orS (ofW_ok _) hoz), (ways_z hzs (by omega) (by omega)), (okW_orS (ofW_ok _) hoz).1⟩
    ·refine OneH.seq f181 [[.cs ((zs : List Int).map wV)]] [(40, .agg ((zs : List Int).map wV).toArray)] w179 [(((zs : List Int).map wV).length = 4), (∀ (j : Nat) (v : Value), ((zs : List Int).map wV)[j]? = some v → w179.cell? ((⟨w41.heap.size, 0, none⟩ : Addr).add j) = some v)] #[true, true, true, true, true, false, true, false, false] (by kernel_rfl) (by kernel_rfl) (by kernel_rfl) ⟨(by simp only [List.length_map, List.length_set, List.length_replicate, List.length_cons, List.length_nil]; first | done | assumption | exact from_len _ | exact of_len _ | exact ofZ_len _ | exact (ofW_ok _).1 | exact (fullW_W _).1 | exact (okW_with (by assumption)).1 | exact (okW_less (by assumption)).1 | exact put_len (from_len _) | exact orD_len _ _ | exact andD_len _ _ | exact minusD_len _ _ | exact fullD_len _ | (refine okLen ?_; (repeat (first | assumption | exact ofW_ok _ | exact fullW_W _ | apply okW_with | apply okW_less | refine okW_orS ?_ ?_ | refine okW_andS ?_ ?_ | refine okW_minusS ?_ ?_)); done) | omega | rfl), bx192.whole, trivial⟩ (fun act239 w240 hw241 f238 => ?_)
     obtain rfl : w179 = w240 := hw241.symm
     clear f181
     refine ⟨hS186, ?_⟩
     refine AtH.all [5] 2 (by kernel_rfl) (by simp) ⟨?_, trivial⟩
     refine OneH.call f238 14 #[.slice (some ⟨w167.heap.size, 0, none⟩) 1 1] (some 39) #[true, true, true, true, true, true, true, false, false] (by kernel_rfl) (by kernel_rfl) (of_any (la := ([gI la (k)] : List Int)) (Bx.rdI (l := ([gI la (k)] : List Int)) bx185 rfl (by first | decide | exact Nat.le_of_ble_eq_true rfl))) ?_
     rintro e_ w243 ⟨rfl, he⟩
     refine ⟨_, rfl, _, rfl, fun act244 f245 => ?_⟩
     clear f238
     have g246 := gr_ext he
     have hS242 := hS186.gr g246
     have szw243 := g246.size
     have e247 := e187.gr g246 no_row
     clear e187
     have r248 := r188.gr g246 (fun _ h => by cases h)
     clear r188
     have r249 := r189.gr g246 (fun _ h => by cases h)
     clear r189
     have bx250 := bx190.gr g246 (by simp)
     clear bx190
     have bx251 := bx191.gr g246 (by simp)
     clear bx191
     have bx252 := bx192.gr g246 (by simp)
     clear bx192
     have bx253 := bx185.gr g246 (by simp)
     clear bx185
     clear g246 he
     refine ⟨hS242, ?_⟩
     refine AtH.all [7] 1 (by kernel_rfl) (by simp) ⟨?_, trivial⟩
     refine OneH.call f245 32 #[.agg ((ofW ([gI la (k)] : List Int) : List Int).map wV).toArray, .agg ((zs : List Int).map wV).toArray] (some 41) #[true, true, true, true, true, true, true, true, false] (by kernel_rfl) (by kernel_rfl) (orS_any (s := ofW ([gI la (k)] : List Int)) (t := zs) (ofW_ok _) (by repeat (first | assumption | exact ofW_ok _ | exact fullW_W _ | exact wordsD_W _ | exact okW_0 | exact okW_00 | apply okW_orS | apply okW_andS | apply okW_minusS | apply okW_with | apply okW_less | apply okW_or | apply okW_and | apply okW_minus | (apply okW_lit <;> exact ⟨by omega, by omega⟩)))) ?_
     rintro e_ w255 ⟨rfl, he⟩
     refine ⟨_, rfl, _, rfl, fun act256 f257 => ?_⟩
     clear f245
     have g258 := gr_ext he
     have hS254 := hS242.gr g258
     have szw255 := g258.size
     have e259 := e247.gr g258 no_row
     clear e247
     have r260 := r248.gr g258 (fun _ h => by cases h)
     clear r248
     have r261 := r249.gr g258 (fun _ h => by cases h)
     clear r249
     have bx262 := bx250.gr g258 (by simp)
     clear bx250
     have bx263 := bx251.gr g258 (by simp)
     clear bx251
     have bx264 := bx252.gr g258 (by simp)
     clear bx252
     have bx265 := bx253.gr g258 (by simp)
     clear bx253
     clear g258 he
     refine ⟨hS254, ?_⟩
     refine AtH.all [8] 0 (by kernel_rfl) (by simp) ⟨?_, trivial⟩
     refine OneH.act f257 #[true, true, true, true, true, true, true, true, true] (by kernel_rfl) (storeBlk (t := 26) (b := w41.heap.size) (n := 4) (cs' := ((orS (ofW ([gI la (k)] : List Int)) zs : List Int).map wV)) (by kernel_rfl) (by kernel_rfl) ((List.length_map _).trans (okLen (okW_orS (ofW_ok _) (by assumption)))) oneW_ ((show ((orS (ofW ([gI la (k)] : List Int)) zs : List Int).map wV).length = 4 from ((List.length_map _).trans (okLen (okW_orS (ofW_ok _) (by assumption))))).trans (show ((zs : List Int).map wV).length = 4 from (by simp only [List.length_map, List.length_set, List.length_replicate, List.length_cons, List.length_nil]; first | done | assumption | exact from_len _ | exact of_len _ | exact ofZ_len _ | exact (ofW_ok _).1 | exact (fullW_W _).1 | exact (okW_with (by assumption)).1 | exact (okW_less (by assumption)).1 | exact put_len (from_len _) | exact orD_len _ _ | exact andD_len _ _ | exact minusD_len _ _ | exact fullD_len _ | (refine okLen ?_; (repeat (first | assumption | exact ofW_ok _ | exact fullW_W _ | apply okW_with | apply okW_less | refine okW_orS ?_ ?_ | refine okW_andS ?_ ?_ | refine okW_minusS ?_ ?_)); done) | omega | rfl)).symm) bx264) ?_
     rintro d_ v_ w267 ⟨rfl, g268, bx269⟩
     have hS272 := hS254.gr' g268 (by rw [hCs164]; exact ⟨(by simp only [add_block]; omega), trivial⟩)
     refine ⟨_, rfl, fun act271 f270 => ⟨hS272, ?_⟩⟩
     clear f257
     have szw267 := g268.size
     have e273 := e259.gr g268 (fun k h => by injection h; omega)
     clear e259
     have r274 := r260.gr g268 (fun k h => by injection h; omega)
     clear r260
     have r275 := r261.gr g268 (fun k h => by injection h; omega)
     clear r261
     have bx276 := bx262.gr g268 (fun h => by injection h; omega)
     clear bx262
     have bx277 := bx263.gr g268 (fun h => by injection h; omega)
     clear bx263
     have bx278 := bx265.gr g268 (fun h => by injection h; omega)
     clear bx265
     clear bx264 g268
     refine AtH.done (by kernel_rfl) ?_
     clear hS272
     refine b_n ?_
     refine t_n ?_
     have f279 := f270.sub (r := [(8, .int .i64 (k)), (6, .pointer (some ⟨w41.heap.size, 0, none⟩)), (5, .pointer (some ⟨w32.heap.size, 0, none⟩)), (4, .pointer (some ⟨w15.heap.size, 0, none⟩)), (3, .bool true), (2, .bool false), (0, .slice Aa la.length ca)]) ⟨rfl, rfl, rfl, rfl, rfl, rfl, rfl, trivial⟩
     clear f270
     refine At.start ?_
     refine At.rd f279 3 [[], [.as_ (.int .i64 (k + 1))], []] [(8, .int .i64 (k + 1)), (33, .int .i64 (k + 1)), (32, .int .i64 (k))] [((.int .i64 (IntKind.i64.wrap (k + 1)) : Value) = .int .i64 (k + 1))] (by kernel_rfl) ⟨(w64 (by omega) (by omega)), trivial⟩ (fun act281 f280 => ?_)
     clear f279
     refine At.done rfl ?_
     refine t_n ?_
     have f282 := f280.sub (r := [(8, .int .i64 (k + 1)), (6, .pointer (some ⟨w41.heap.size, 0, none⟩)), (5, .pointer (some ⟨w32.heap.size, 0, none⟩)), (4, .pointer (some ⟨w15.heap.size, 0, none⟩)), (3, .bool true), (2, .bool false), (0, .slice Aa la.length ca)]) ⟨rfl, rfl, rfl, rfl, rfl, rfl, rfl, trivial⟩
     exact ⟨_, (by omega), (k + 1), orS (ofW ([gI la (k)] : List Int)) zs, rfl, f282, e273, r274, r275, bx276, bx277, bx269, (by omega), (by omega), (okW_orS (ofW_ok _) hoz), (ways_z hzs (by omega) (by omega)), (okW_orS (ofW_ok _) hoz).1⟩
   ·refine OneH.seq f176 [[.cs ((zs : List Int).map wV)]] [(40, .agg ((zs : List Int).map wV).toArray)] w167 [(((zs : List Int).map wV).length = 4), (∀ (j : Nat) (v : Value), ((zs : List Int).map wV)[j]? = some v → w167.cell? ((⟨w41.heap.size, 0, none⟩ : Addr).add j) = some v)] #[true, true, true, true, false, false, true, false, false] (by kernel_rfl) (by kernel_rfl) (by kernel_rfl) ⟨(by simp only [List.length_map, List.length_set, List.length_replicate, List.length_cons, List.length_nil]; first | done | assumption | exact from_len _ | exact of_len _ | exact ofZ_len _ | exact (ofW_ok _).1 | exact (fullW_W _).1 | exact (okW_with (by assumption)).1 | exact (okW_less (by assumption)).1 | exact put_len (from_len _) | exact orD_len _ _ | exact andD_len _ _ | exact minusD_len _ _ | exact fullD_len _ | (refine okLen ?_; (repeat (first | assumption | exact ofW_ok _ | exact fullW_W _ | apply okW_with | apply okW_less | refine okW_orS ?_ ?_ | refine okW_andS ?_ ?_ | refine okW_minusS ?_ ?_)); done) | omega | rfl), bx175.whole, trivial⟩ (fun act284 w285 hw286 f283 => ?_)
    obtain rfl : w167 = w285 := hw286.symm
    clear f176
    refine ⟨hS169, ?_⟩
    refine AtH.all [4] 3 (by kernel_rfl) (by simp) ⟨?_, trivial⟩
    refine OneH.seq f283 [[]] [(38, .slice (some ⟨w167.heap.size, 0, none⟩) 1 1)] (w167.alloc (.cells #[.int .i64 (gI la (k))] 3 (0, 0))) [] #[true, true, true, true, true, false, true, false, false] (by kernel_rfl) (by kernel_rfl) (by kernel_rfl) trivial (fun act291 w288 hw289 f290 => ?_)
    clear f283
    have g292 := gr_alloc hw289
    have hS295 := hS169.gr g292
    refine ⟨hS295, ?_⟩
    have szw288 := g292.size
    have e296 := e170.gr g292 no_row
    clear e170
    have r297 := r171.gr g292 (fun _ h => by cases h)
    clear r171
    have r298 := r172.gr g292 (fun _ h => by cases h)
    clear r172
    have bx299 := bx173.gr g292 (by simp)
    clear bx173
    have bx300 := bx174.gr g292 (by simp)
    clear bx174
    have bx301 := bx175.gr g292 (by simp)
    clear bx175
    have bx294 : Bx w288 (w167.heap.size) [.int .i64 (gI la (k))] 3 := Bx.new hw289
    have := bx294.lt
    clear g292 hw289
    refine AtH.all [5] 2 (by kernel_rfl) (by simp) ⟨?_, trivial⟩
    refine OneH.call f290 14 #[.slice (some ⟨w167.heap.size, 0, none⟩) 1 1] (some 39) #[true, true, true, true, true, true, true, false, false] (by kernel_rfl) (by kernel_rfl) (of_any (la := ([gI la (k)] : List Int)) (Bx.rdI (l := ([gI la (k)] : List Int)) bx294 rfl (by first | decide | exact Nat.le_of_ble_eq_true rfl))) ?_
    rintro e_ w303 ⟨rfl, he⟩
    refine ⟨_, rfl, _, rfl, fun act304 f305 => ?_⟩
    clear f290
    have g306 := gr_ext he
    have hS302 := hS295.gr g306
    have szw303 := g306.size
    have e307 := e296.gr g306 no_row
    clear e296
    have r308 := r297.gr g306 (fun _ h => by cases h)
    clear r297
    have r309 := r298.gr g306 (fun _ h => by cases h)
    clear r298
    have bx310 := bx299.gr g306 (by simp)
    clear bx299
    have bx311 := bx300.gr g306 (by simp)
    clear bx300
    have bx312 := bx301.gr g306 (by simp)
    clear bx301
    have bx313 := bx294.gr g306 (by simp)
    clear bx294
    clear g306 he
    refine ⟨hS302, ?_⟩
    refine AtH.all [7] 1 (by kernel_rfl) (by simp) ⟨?_, trivial⟩
    refine OneH.call f305 32 #[.agg ((ofW ([gI la (k)] : List Int) : List Int).map wV).toArray, .agg ((zs : List Int).map wV).toArray] (some 41) #[true, true, true, true, true, true, true, true, false] (by kernel_rfl) (by kernel_rfl) (orS_any (s := ofW ([gI la (k)] : List Int)) (t := zs) (ofW_ok _) (by repeat (first | assumption | exact ofW_ok _ | exact fullW_W _ | exact wordsD_W _ | exact okW_0 | exact okW_00 | apply okW_orS | apply okW_andS | apply okW_minusS | apply okW_with | apply okW_less | apply okW_or | apply okW_and | apply okW_minus | (apply okW_lit <;> exact ⟨by omega, by omega⟩)))) ?_
    rintro e_ w315 ⟨rfl, he⟩
    refine ⟨_, rfl, _, rfl, fun act316 f317 => ?_⟩
    clear f305
    have g318 := gr_ext he
    have hS314 := hS302.gr g318
    have szw315 := g318.size
    have e319 := e307.gr g318 no_row
    clear e307
    have r320 := r308.gr g318 (fun _ h => by cases h)
    clear r308
    have r321 := r309.gr g318 (fun _ h => by cases h)
    clear r309
    have bx322 := bx310.gr g318 (by simp)
    clear bx310
    have bx323 := bx311.gr g318 (by simp)
    clear bx311
    have bx324 := bx312.gr g318 (by simp)
    clear bx312
    have bx325 := bx313.gr g318 (by simp)
    clear bx313
    clear g318 he
    refine ⟨hS314, ?_⟩
    refine AtH.all [8] 0 (by kernel_rfl) (by simp) ⟨?_, trivial⟩
    refine OneH.act f317 #[true, true, true, true, true, true, true, true, true] (by kernel_rfl) (storeBlk (t := 26) (b := w41.heap.size) (n := 4) (cs' := ((orS (ofW ([gI la (k)] : List Int)) zs : List Int).map wV)) (by kernel_rfl) (by kernel_rfl) ((List.length_map _).trans (okLen (okW_orS (ofW_ok _) (by assumption)))) oneW_ ((show ((orS (ofW ([gI la (k)] : List Int)) zs : List Int).map wV).length = 4 from ((List.length_map _).trans (okLen (okW_orS (ofW_ok _) (by assumption))))).trans (show ((zs : List Int).map wV).length = 4 from (by simp only [List.length_map, List.length_set, List.length_replicate, List.length_cons, List.length_nil]; first | done | assumption | exact from_len _ | exact of_len _ | exact ofZ_len _ | exact (ofW_ok _).1 | exact (fullW_W _).1 | exact (okW_with (by assumption)).1 | exact (okW_less (by assumption)).1 | exact put_len (from_len _) | exact orD_len _ _ | exact andD_len _ _ | exact minusD_len _ _ | exact fullD_len _ | (refine okLen ?_; (repeat (first | assumption | exact ofW_ok _ | exact fullW_W _ | apply okW_with | apply okW_less | refine okW_orS ?_ ?_ | refine okW_andS ?_ ?_ | refine okW_minusS ?_ ?_)); done) | omega | rfl)).symm) bx324) ?_
    rintro d_ v_ w327 ⟨rfl, g328, bx329⟩
    have hS332 := hS314.gr' g328 (by rw [hCs164]; exact ⟨(by simp only [add_block]; omega), trivial⟩)
    refine ⟨_, rfl, fun act331 f330 => ⟨hS332, ?_⟩⟩
    clear f317
    have szw327 := g328.size
    have e333 := e319.gr g328 (fun k h => by injection h; omega)
    clear e319
    have r334 := r320.gr g328 (fun k h => by injection h; omega)
    clear r320
    have r335 := r321.gr g328 (fun k h => by injection h; omega)
    clear r321
    have bx336 := bx322.gr g328 (fun h => by injection h; omega)
    clear bx322
    have bx337 := bx323.gr g328 (fun h => by injection h; omega)
    clear bx323
    have bx338 := bx325.gr g328 (fun h => by injection h; omega)
    clear bx325
    clear bx324 g328
    refine AtH.done (by kernel_rfl) ?_
    clear hS332
    refine b_n ?_
    refine t_n ?_
    have f339 := f330.sub (r := [(8, .int .i64 (k)), (6, .pointer (some ⟨w41.heap.size, 0, none⟩)), (5, .pointer (some ⟨w32.heap.size, 0, none⟩)), (4, .pointer (some ⟨w15.heap.size, 0, none⟩)), (3, .bool true), (2, .bool false), (0, .slice Aa la.length ca)]) ⟨rfl, rfl, rfl, rfl, rfl, rfl, rfl, trivial⟩
    clear f330
    refine At.start ?_
    refine At.rd f339 3 [[], [.as_ (.int .i64 (k + 1))], []] [(8, .int .i64 (k + 1)), (33, .int .i64 (k + 1)), (32, .int .i64 (k))] [((.int .i64 (IntKind.i64.wrap (k + 1)) : Value) = .int .i64 (k + 1))] (by kernel_rfl) ⟨(w64 (by omega) (by omega)), trivial⟩ (fun act341 f340 => ?_)
    clear f339
    refine At.done rfl ?_
    refine t_n ?_
    have f342 := f340.sub (r := [(8, .int .i64 (k + 1)), (6, .pointer (some ⟨w41.heap.size, 0, none⟩)), (5, .pointer (some ⟨w32.heap.size, 0, none⟩)), (4, .pointer (some ⟨w15.heap.size, 0, none⟩)), (3, .bool true), (2, .bool false), (0, .slice Aa la.length ca)]) ⟨rfl, rfl, rfl, rfl, rfl, rfl, rfl, trivial⟩
    exact ⟨_, (by omega), (k + 1), orS (ofW ([gI la (k)] : List Int)) zs, rfl, f342, e333, r334, r335, bx336, bx337, bx329, (by omega), (by omega), (okW_orS (ofW_ok _) hoz), (ways_z hzs (by omega) (by omega)), (okW_orS (ofW_ok _) hoz).1⟩
  ·have q343 := of_decide_eq_false h157
   refine wp_exit ?_
   refine t_e ?_
   refine t_e ?_
   refine b_e ?_
   refine t_n ?_
   have f344 := f156.sub (r := [(6, .pointer (some ⟨w41.heap.size, 0, none⟩)), (5, .pointer (some ⟨w32.heap.size, 0, none⟩)), (4, .pointer (some ⟨w15.heap.size, 0, none⟩)), (3, .bool true), (2, .bool false), (0, .slice Aa la.length ca)]) ⟨rfl, rfl, rfl, rfl, rfl, rfl, trivial⟩
   clear f156
   refine wp_seq ?_
   refine wp_seq ?_
   refine At.start ?_
   refine At.rd f344 1 [[]] [(9, .int .i64 (-1))] [] (by kernel_rfl) trivial (fun act346 f345 => ?_)
   clear f344
   refine At.done rfl ?_
   refine t_n ?_
   refine wp_block ?_
   have f347 := f345.sub (r := [(9, .int .i64 (-1)), (6, .pointer (some ⟨w41.heap.size, 0, none⟩)), (5, .pointer (some ⟨w32.heap.size, 0, none⟩)), (4, .pointer (some ⟨w15.heap.size, 0, none⟩)), (3, .bool true), (0, .slice Aa la.length ca)]) ⟨rfl, rfl, rfl, rfl, rfl, rfl, trivial⟩
   refine loop_g (fun (m_ : Nat) a_ w_ => ∃ (n : Int), m_ = (257 - n).toNat ∧ (Frm 85 a_ [(9, .int .i64 (n)), (6, .pointer (some ⟨w41.heap.size, 0, none⟩)), (5, .pointer (some ⟨w32.heap.size, 0, none⟩)), (4, .pointer (some ⟨w15.heap.size, 0, none⟩)), (3, .bool true), (0, .slice Aa la.length ca)]) ∧ (Ext w w_) ∧ (RdI w_ 0 w.heap.size Aa la) ∧ (RdT w_ 0 w.heap.size) ∧ (Bx w_ (w15.heap.size) ((ofW la : List Int).map wV) 26) ∧ (Bx w_ (w32.heap.size) ((ys : List Int).map wV) 26) ∧ (Bx w_ (w41.heap.size) ((zs : List Int).map wV) 26) ∧ (-1 ≤ n) ∧ (n ≤ 257)) _ ⟨(-1), rfl, f347, e143, r146, r147, bx148, bx149, bx150, (by omega), (by omega)⟩ ?_
   clear f347 f345
   clear r146
   clear r147
   clear bx148
   clear bx149
   clear bx150
   clear e143
   intro m_ act348 w349 ⟨n, hm351, f352, e350, r353, r354, bx355, bx356, bx357, i358, i359⟩
   have szw349 := e350.size
   have := bx355.lt
   have := bx356.lt
   have := bx357.lt
   refine wp_seq ?_
   refine wp_seq ?_
   refine At.start ?_
   refine At.rd f352 2 [[], []] [(43, .bool (decide ((n : Int) ≤ 256))), (42, .int .i64 (n))] [] (by kernel_rfl) trivial (fun act361 f360 => ?_)
   clear f352
   refine At.done rfl ?_
   refine t_n ?_
   have f362 := f360.sub (r := [(43, .bool (decide ((n : Int) ≤ 256))), (9, .int .i64 (n)), (6, .pointer (some ⟨w41.heap.size, 0, none⟩)), (5, .pointer (some ⟨w32.heap.size, 0, none⟩)), (4, .pointer (some ⟨w15.heap.size, 0, none⟩)), (3, .bool true), (0, .slice Aa la.length ca)]) ⟨rfl, rfl, rfl, rfl, rfl, rfl, rfl, trivial⟩
   clear f360
   refine cond_S f362 (t := decide ((n : Int) ≤ 256)) rfl (fun h363 => ?_) (fun h363 => ?_)
   ·have q364 := of_decide_eq_true h363
    refine wp_skip ?_
    refine t_n ?_
    have f365 := f362.sub (r := [(9, .int .i64 (n)), (6, .pointer (some ⟨w41.heap.size, 0, none⟩)), (5, .pointer (some ⟨w32.heap.size, 0, none⟩)), (4, .pointer (some ⟨w15.heap.size, 0, none⟩)), (3, .bool true), (0, .slice Aa la.length ca)]) ⟨rfl, rfl, rfl, rfl, rfl, rfl, trivial⟩
    clear f362
    refine wp_seq ?_
    refine wp_block ?_
    refine wp_seq ?_
    refine At.start ?_
    refine At.rd f365 1 [[]] [(10, .bool false)] [] (by kernel_rfl) trivial (fun act367 f366 => ?_)
    clear f365
    refine At.done rfl ?_
    refine t_n ?_
    refine wp_seq ?_
    refine wp_seq ?_
    refine At.start ?_
    refine At.rd f366 1 [[]] [(11, .int .i64 (0))] [] (by kernel_rfl) trivial (fun act369 f368 => ?_)
    clear f366
    refine At.done rfl ?_
    refine t_n ?_
    refine wp_block ?_
    have f370 := f368.sub (r := [(11, .int .i64 (0)), (10, .bool false), (9, .int .i64 (n)), (6, .pointer (some ⟨w41.heap.size, 0, none⟩)), (5, .pointer (some ⟨w32.heap.size, 0, none⟩)), (4, .pointer (some ⟨w15.heap.size, 0, none⟩)), (3, .bool true), (0, .slice Aa la.length ca)]) ⟨rfl, rfl, rfl, rfl, rfl, rfl, rfl, rfl, trivial⟩
    refine loop_g (fun (m_ : Nat) a_ w_ => ∃ (i : Int) (b : Bool), m_ = ((la.length : Int) - i).toNat ∧ (Frm 85 a_ [(11, .int .i64 (i)), (10, .bool (b)), (9, .int .i64 (n)), (6, .pointer (some ⟨w41.heap.size, 0, none⟩)), (5, .pointer (some ⟨w32.heap.size, 0, none⟩)), (4, .pointer (some ⟨w15.heap.size, 0, none⟩)), (3, .bool true), (0, .slice Aa la.length ca)]) ∧ (Ext w w_) ∧ (RdI w_ 0 w.heap.size Aa la) ∧ (RdT w_ 0 w.heap.size) ∧ (Bx w_ (w15.heap.size) ((ofW la : List Int).map wV) 26) ∧ (Bx w_ (w32.heap.size) ((ys : List Int).map wV) 26) ∧ (Bx w_ (w41.heap.size) ((zs : List Int).map wV) 26) ∧ (0 ≤ i) ∧ (i ≤ (la.length : Int)) ∧ (b = decide (n ∈ la.take i.toNat))) _ ⟨0, false, rfl, f370, e350, r353, r354, bx355, bx356, bx357, (by omega), (by omega), mem_0⟩ ?_
    clear f370 f368
    clear r353
    clear r354
    clear bx355
    clear bx356
    clear bx357
    clear e350
    intro m_ act371 w372 ⟨i, b, hm374, f375, e373, r376, r377, bx378, bx379, bx380, i381, i382, hb⟩
    have szw372 := e373.size
    have := bx378.lt
    have := bx379.lt
    have := bx380.lt
    refine wp_seq ?_
    refine wp_seq ?_
    refine At.start ?_
    refine At.rd f375 4 [[], [], [], []] [(49, .bool (decide ((i : Int) < ((la.length : Nat) : Int)))), (48, .int .i64 (((la.length : Nat) : Int))), (47, .slice Aa la.length ca), (46, .int .i64 (i))] [] (by kernel_rfl) trivial (fun act384 f383 => ?_)
    clear f375
    refine At.done rfl ?_
    refine t_n ?_
    have f385 := f383.sub (r := [(49, .bool (decide ((i : Int) < ((la.length : Nat) : Int)))), (11, .int .i64 (i)), (10, .bool (b)), (9, .int .i64 (n)), (6, .pointer (some ⟨w41.heap.size, 0, none⟩)), (5, .pointer (some ⟨w32.heap.size, 0, none⟩)), (4, .pointer (some ⟨w15.heap.size, 0, none⟩)), (3, .bool true), (0, .slice Aa la.length ca)]) ⟨rfl, rfl, rfl, rfl, rfl, rfl, rfl, rfl, rfl, trivial⟩
    clear f383
    refine cond_S f385 (t := decide ((i : Int) < ((la.length : Nat) : Int))) rfl (fun h386 => ?_) (fun h386 => ?_)
    ·have q387 := of_decide_eq_true h386
     refine wp_skip ?_
     refine t_n ?_
     have f388 := f385.sub (r := [(11, .int .i64 (i)), (10, .bool (b)), (9, .int .i64 (n)), (6, .pointer (some ⟨w41.heap.size, 0, none⟩)), (5, .pointer (some ⟨w32.heap.size, 0, none⟩)), (4, .pointer (some ⟨w15.heap.size, 0, none⟩)), (3, .bool true), (0, .slice Aa la.length ca)]) ⟨rfl, rfl, rfl, rfl, rfl, rfl, rfl, rfl, trivial⟩
     clear f385
     refine wp_seq ?_
     refine wp_block ?_
     refine At.start ?_
     rcases Bool.eq_false_or_eq_true (b) with h389 | h389
     ·refine At.rd f388 10 [[], [.as_ (.bool true)], [], [], [], [], [], [], [], []] [(10, .bool true), (60, .bool true), (59, undef), (58, undef), (57, undef), (56, undef), (55, undef), (54, undef), (53, .bool true), (52, .bool (b))] [((.bool (b) : Value) = .bool true)] (by kernel_rfl) ⟨(congrArg Value.bool h389), trivial⟩ (fun act392 f391 => ?_)
      clear f388
      refine At.done rfl ?_
      refine b_n ?_
      refine t_n ?_
      have f393 := f391.sub (r := [(10, .bool true), (11, .int .i64 (i)), (9, .int .i64 (n)), (6, .pointer (some ⟨w41.heap.size, 0, none⟩)), (5, .pointer (some ⟨w32.heap.size, 0, none⟩)), (4, .pointer (some ⟨w15.heap.size, 0, none⟩)), (3, .bool true), (0, .slice Aa la.length ca)]) ⟨rfl, rfl, rfl, rfl, rfl, rfl, rfl, rfl, trivial⟩
      clear f391
      refine At.start ?_
      refine At.rd f393 3 [[], [.as_ (.int .i64 (i + 1))], []] [(11, .int .i64 (i + 1)), (51, .int .i64 (i + 1)), (50, .int .i64 (i))] [((.int .i64 (IntKind.i64.wrap (i + 1)) : Value) = .int .i64 (i + 1))] (by kernel_rfl) ⟨(w64 (by omega) (by omega)), trivial⟩ (fun act395 f394 => ?_)
      clear f393
      refine At.done rfl ?_
      refine t_n ?_
      have f396 := f394.sub (r := [(11, .int .i64 (i + 1)), (10, .bool true), (9, .int .i64 (n)), (6, .pointer (some ⟨w41.heap.size, 0, none⟩)), (5, .pointer (some ⟨w32.heap.size, 0, none⟩)), (4, .pointer (some ⟨w15.heap.size, 0, none⟩)), (3, .bool true), (0, .slice Aa la.length ca)]) ⟨rfl, rfl, rfl, rfl, rfl, rfl, rfl, rfl, trivial⟩
      exact ⟨_, (by omega), (i + 1), true, rfl, f396, e373, r376, r377, bx378, bx379, bx380, (by omega), (by omega), (mem_step hb (by omega) (by omega) (by constructor <;> intro h_ <;> (first | omega | simp_all | (simp_all; omega))))⟩
     ·obtain ⟨ad398, hA399, _, _, hc400⟩ := RdI.get r376 (i) (by omega) (by omega)
      refine At.rd f388 10 [[], [.as_ (.bool false)], [], [], [.ad ad398], [.ld (.int .i64 (gI la (i)))], [], [], [], []] [(10, .bool ((gI la (i) : Int) == n)), (60, .bool ((gI la (i) : Int) == n)), (59, .bool ((gI la (i) : Int) == n)), (58, .int .i64 (n)), (57, .int .i64 (gI la (i))), (56, .pointer (some (ad398.add ((i : Int).toNat * 1)))), (55, .int .i64 (i)), (54, .slice Aa la.length ca), (53, .bool false), (52, .bool (b))] [((.bool (b) : Value) = .bool false), (Aa = some ad398), (0 ≤ (i : Int)), ((i : Int) < (la.length : Nat)), (w372.cell? (ad398.add ((i : Int).toNat * 1)) = some (.int .i64 (gI la (i))))] (by kernel_rfl) ⟨(congrArg Value.bool h389), hA399, (by omega), (by omega), hc400, trivial⟩ (fun act402 f401 => ?_)
      clear f388
      refine At.done rfl ?_
      refine b_n ?_
      refine t_n ?_
      have f403 := f401.sub (r := [(10, .bool ((gI la (i) : Int) == n)), (59, .bool ((gI la (i) : Int) == n)), (58, .int .i64 (n)), (57, .int .i64 (gI la (i))), (56, .pointer (some (ad398.add ((i : Int).toNat * 1)))), (55, .int .i64 (i)), (54, .slice Aa la.length ca), (11, .int .i64 (i)), (9, .int .i64 (n)), (6, .pointer (some ⟨w41.heap.size, 0, none⟩)), (5, .pointer (some ⟨w32.heap.size, 0, none⟩)), (4, .pointer (some ⟨w15.heap.size, 0, none⟩)), (3, .bool true), (0, .slice Aa la.length ca)]) ⟨rfl, rfl, rfl, rfl, rfl, rfl, rfl, rfl, rfl, rfl, rfl, rfl, rfl, rfl, trivial⟩
      clear f401
      refine At.start ?_
      refine At.rd f403 3 [[], [.as_ (.int .i64 (i + 1))], []] [(11, .int .i64 (i + 1)), (51, .int .i64 (i + 1)), (50, .int .i64 (i))] [((.int .i64 (IntKind.i64.wrap (i + 1)) : Value) = .int .i64 (i + 1))] (by kernel_rfl) ⟨(w64 (by omega) (by omega)), trivial⟩ (fun act405 f404 => ?_)
      clear f403
      refine At.done rfl ?_
      refine t_n ?_
      have f406 := f404.sub (r := [(11, .int .i64 (i + 1)), (10, .bool ((gI la (i) : Int) == n)), (9, .int .i64 (n)), (6, .pointer (some ⟨w41.heap.size, 0, none⟩)), (5, .pointer (some ⟨w32.heap.size, 0, none⟩)), (4, .pointer (some ⟨w15.heap.size, 0, none⟩)), (3, .bool true), (0, .slice Aa la.length ca)]) ⟨rfl, rfl, rfl, rfl, rfl, rfl, rfl, rfl, trivial⟩
      exact ⟨_, (by omega), (i + 1), ((gI la (i) : Int) == n), rfl, f406, e373, r376, r377, bx378, bx379, bx380, (by omega), (by omega), (mem_step hb (by omega) (by omega) (by constructor <;> intro h_ <;> (first | omega | simp_all | (simp_all; omega))))⟩
    ·have q407 := of_decide_eq_false h386
     refine wp_exit ?_
     refine t_e ?_
     refine t_e ?_
     refine b_e ?_
     refine t_n ?_
     have f408 := f385.sub (r := [(10, .bool (b)), (9, .int .i64 (n)), (6, .pointer (some ⟨w41.heap.size, 0, none⟩)), (5, .pointer (some ⟨w32.heap.size, 0, none⟩)), (4, .pointer (some ⟨w15.heap.size, 0, none⟩)), (3, .bool true), (0, .slice Aa la.length ca)]) ⟨rfl, rfl, rfl, rfl, rfl, rfl, rfl, trivial⟩
     clear f385
     refine wp_seq ?_
     refine At.start ?_
     refine At.rd f408 2 [[.cs ((ofW la : List Int).map wV)], []] [(62, .int .i64 (n)), (61, .agg ((ofW la : List Int).map wV).toArray)] [(((ofW la : List Int).map wV).length = 4), (∀ (j : Nat) (v : Value), ((ofW la : List Int).map wV)[j]? = some v → w372.cell? ((⟨w15.heap.size, 0, none⟩ : Addr).add j) = some v)] (by kernel_rfl) ⟨((List.length_map _).trans (okLen (ofW_ok _))), bx378.whole, trivial⟩ (fun act410 f409 => ?_)
     clear f408
     refine At.call f409 21 #[.agg ((ofW la : List Int).map wV).toArray, .int .i64 (n)] (some 63) (by kernel_rfl) (has_any (s := ofW la) (n := n) (ofW_ok _)) ?_
     rintro e_ w411 ⟨rfl, he⟩
     refine ⟨_, rfl, _, rfl, fun act412 f413 => ?_⟩
     clear f409
     have g414 := gr_ext he
     have szw411 := g414.size
     have e415 := e373.gr g414 no_row
     clear e373
     have r416 := r376.gr g414 (fun _ h => by cases h)
     clear r376
     have r417 := r377.gr g414 (fun _ h => by cases h)
     clear r377
     have bx418 := bx378.gr g414 (by simp)
     clear bx378
     have bx419 := bx379.gr g414 (by simp)
     clear bx379
     have bx420 := bx380.gr g414 (by simp)
     clear bx380
     clear g414 he
     rcases Bool.eq_false_or_eq_true (b) with h421 | h421
     ·rcases Bool.eq_false_or_eq_true (decide ((n : Int) ≥ 0)) with h423 | h423
      ·have q424 := of_decide_eq_true h423
       refine At.rd f413 10 [[], [.as_ (.bool true)], [], [], [], [.as_ (.bool true)], [], [], [], [.as_ (.bool false)]] [(73, .bool false), (72, .bool (decide ((n : Int) ≤ 255))), (71, .bool (decide ((n : Int) ≤ 255))), (70, .int .i64 (n)), (69, .bool true), (68, .bool (decide ((n : Int) ≥ 0))), (67, .bool (decide ((n : Int) ≥ 0))), (66, .int .i64 (n)), (65, .bool true), (64, .bool (b))] [((.bool (b) : Value) = .bool true), ((.bool (decide ((n : Int) ≥ 0)) : Value) = .bool true), ((.bool (!((hasW (ofW la) n) == (decide ((n : Int) ≤ 255)))) : Value) = .bool false)] (by kernel_rfl) ⟨(congrArg Value.bool h421), (congrArg Value.bool h423), (congrArg Value.bool (ways_eq hb (by omega) (by constructor <;> intro h_ <;> (first | omega | simp_all | (simp_all; omega))))), trivial⟩ (fun act426 f425 => ?_)
       clear f413
       refine At.done rfl ?_
       refine t_n ?_
       have f427 := f425.sub (r := [(73, .bool false), (71, .bool (decide ((n : Int) ≤ 255))), (70, .int .i64 (n)), (67, .bool (decide ((n : Int) ≥ 0))), (66, .int .i64 (n)), (9, .int .i64 (n)), (6, .pointer (some ⟨w41.heap.size, 0, none⟩)), (5, .pointer (some ⟨w32.heap.size, 0, none⟩)), (4, .pointer (some ⟨w15.heap.size, 0, none⟩)), (3, .bool true), (0, .slice Aa la.length ca)]) ⟨rfl, rfl, rfl, rfl, rfl, rfl, rfl, rfl, rfl, rfl, rfl, trivial⟩
       clear f425
       refine cond_F f427 rfl ?_
       refine wp_skip ?_
       refine b_n ?_
       refine t_n ?_
       have f428 := f427.sub (r := [(71, .bool (decide ((n : Int) ≤ 255))), (70, .int .i64 (n)), (67, .bool (decide ((n : Int) ≥ 0))), (66, .int .i64 (n)), (9, .int .i64 (n)), (6, .pointer (some ⟨w41.heap.size, 0, none⟩)), (5, .pointer (some ⟨w32.heap.size, 0, none⟩)), (4, .pointer (some ⟨w15.heap.size, 0, none⟩)), (3, .bool true), (0, .slice Aa la.length ca)]) ⟨rfl, rfl, rfl, rfl, rfl, rfl, rfl, rfl, rfl, rfl, trivial⟩
       clear f427
       refine At.start ?_
       refine At.rd f428 3 [[], [.as_ (.int .i64 (n + 1))], []] [(9, .int .i64 (n + 1)), (45, .int .i64 (n + 1)), (44, .int .i64 (n))] [((.int .i64 (IntKind.i64.wrap (n + 1)) : Value) = .int .i64 (n + 1))] (by kernel_rfl) ⟨(w64 (by omega) (by omega)), trivial⟩ (fun act430 f429 => ?_)
       clear f428
       refine At.done rfl ?_
       refine t_n ?_
       have f431 := f429.sub (r := [(9, .int .i64 (n + 1)), (6, .pointer (some ⟨w41.heap.size, 0, none⟩)), (5, .pointer (some ⟨w32.heap.size, 0, none⟩)), (4, .pointer (some ⟨w15.heap.size, 0, none⟩)), (3, .bool true), (0, .slice Aa la.length ca)]) ⟨rfl, rfl, rfl, rfl, rfl, rfl, trivial⟩
       exact ⟨_, (by omega), (n + 1), rfl, f431, e415, r416, r417, bx418, bx419, bx420, (by omega), (by omega)⟩
      ·have q432 := of_decide_eq_false h423
       refine At.rd f413 10 [[], [.as_ (.bool true)], [], [], [], [.as_ (.bool false)], [], [], [], [.as_ (.bool false)]] [(73, .bool false), (72, .bool false), (71, undef), (70, undef), (69, .bool false), (68, .bool (decide ((n : Int) ≥ 0))), (67, .bool (decide ((n : Int) ≥ 0))), (66, .int .i64 (n)), (65, .bool true), (64, .bool (b))] [((.bool (b) : Value) = .bool true), ((.bool (decide ((n : Int) ≥ 0)) : Value) = .bool false), ((.bool (!((hasW (ofW la) n) == false)) : Value) = .bool false)] (by kernel_rfl) ⟨(congrArg Value.bool h421), (congrArg Value.bool h423), (congrArg Value.bool (ways_eq hb (by omega) (by constructor <;> intro h_ <;> (first | omega | simp_all | (simp_all; omega))))), trivial⟩ (fun act434 f433 => ?_)
       clear f413
       refine At.done rfl ?_
       refine t_n ?_
       have f435 := f433.sub (r := [(73, .bool false), (67, .bool (decide ((n : Int) ≥ 0))), (66, .int .i64 (n)), (9, .int .i64 (n)), (6, .pointer (some ⟨w41.heap.size, 0, none⟩)), (5, .pointer (some ⟨w32.heap.size, 0, none⟩)), (4, .pointer (some ⟨w15.heap.size, 0, none⟩)), (3, .bool true), (0, .slice Aa la.length ca)]) ⟨rfl, rfl, rfl, rfl, rfl, rfl, rfl, rfl, rfl, trivial⟩
       clear f433
       refine cond_F f435 rfl ?_
       refine wp_skip ?_
       refine b_n ?_
       refine t_n ?_
       have f436 := f435.sub (r := [(67, .bool (decide ((n : Int) ≥ 0))), (66, .int .i64 (n)), (9, .int .i64 (n)), (6, .pointer (some ⟨w41.heap.size, 0, none⟩)), (5, .pointer (some ⟨w32.heap.size, 0, none⟩)), (4, .pointer (some ⟨w15.heap.size, 0, none⟩)), (3, .bool true), (0, .slice Aa la.length ca)]) ⟨rfl, rfl, rfl, rfl, rfl, rfl, rfl, rfl, trivial⟩
       clear f435
       refine At.start ?_
       refine At.rd f436 3 [[], [.as_ (.int .i64 (n + 1))], []] [(9, .int .i64 (n + 1)), (45, .int .i64 (n + 1)), (44, .int .i64 (n))] [((.int .i64 (IntKind.i64.wrap (n + 1)) : Value) = .int .i64 (n + 1))] (by kernel_rfl) ⟨(w64 (by omega) (by omega)), trivial⟩ (fun act438 f437 => ?_)
       clear f436
       refine At.done rfl ?_
       refine t_n ?_
       have f439 := f437.sub (r := [(9, .int .i64 (n + 1)), (6, .pointer (some ⟨w41.heap.size, 0, none⟩)), (5, .pointer (some ⟨w32.heap.size, 0, none⟩)), (4, .pointer (some ⟨w15.heap.size, 0, none⟩)), (3, .bool true), (0, .slice Aa la.length ca)]) ⟨rfl, rfl, rfl, rfl, rfl, rfl, trivial⟩
       exact ⟨_, (by omega), (n + 1), rfl, f439, e415, r416, r417, bx418, bx419, bx420, (by omega), (by omega)⟩
     ·refine At.rd f413 10 [[], [.as_ (.bool false)], [], [], [], [], [], [], [], [.as_ (.bool false)]] [(73, .bool false), (72, .bool false), (71, undef), (70, undef), (69, .bool false), (68, .bool false), (67, undef), (66, undef), (65, .bool false), (64, .bool (b))] [((.bool (b) : Value) = .bool false), ((.bool (!((hasW (ofW la) n) == false)) : Value) = .bool false)] (by kernel_rfl) ⟨(congrArg Value.bool h421), (congrArg Value.bool (ways_eq hb (by omega) (by constructor <;> intro h_ <;> (first | omega | simp_all | (simp_all; omega))))), trivial⟩ (fun act442 f441 => ?_)
      clear f413
      refine At.done rfl ?_
      refine t_n ?_
      have f443 := f441.sub (r := [(73, .bool false), (9, .int .i64 (n)), (6, .pointer (some ⟨w41.heap.size, 0, none⟩)), (5, .pointer (some ⟨w32.heap.size, 0, none⟩)), (4, .pointer (some ⟨w15.heap.size, 0, none⟩)), (3, .bool true), (0, .slice Aa la.length ca)]) ⟨rfl, rfl, rfl, rfl, rfl, rfl, rfl, trivial⟩
      clear f441
      refine cond_F f443 rfl ?_
      refine wp_skip ?_
      refine b_n ?_
      refine t_n ?_
      have f444 := f443.sub (r := [(9, .int .i64 (n)), (6, .pointer (some ⟨w41.heap.size, 0, none⟩)), (5, .pointer (some ⟨w32.heap.size, 0, none⟩)), (4, .pointer (some ⟨w15.heap.size, 0, none⟩)), (3, .bool true), (0, .slice Aa la.length ca)]) ⟨rfl, rfl, rfl, rfl, rfl, rfl, trivial⟩
      clear f443
      refine At.start ?_
      refine At.rd f444 3 [[], [.as_ (.int .i64 (n + 1))], []] [(9, .int .i64 (n + 1)), (45, .int .i64 (n + 1)), (44, .int .i64 (n))] [((.int .i64 (IntKind.i64.wrap (n + 1)) : Value) = .int .i64 (n + 1))] (by kernel_rfl) ⟨(w64 (by omega) (by omega)), trivial⟩ (fun act446 f445 => ?_)
      clear f444
      refine At.done rfl ?_
      refine t_n ?_
      have f447 := f445.sub (r := [(9, .int .i64 (n + 1)), (6, .pointer (some ⟨w41.heap.size, 0, none⟩)), (5, .pointer (some ⟨w32.heap.size, 0, none⟩)), (4, .pointer (some ⟨w15.heap.size, 0, none⟩)), (3, .bool true), (0, .slice Aa la.length ca)]) ⟨rfl, rfl, rfl, rfl, rfl, rfl, trivial⟩
      exact ⟨_, (by omega), (n + 1), rfl, f447, e415, r416, r417, bx418, bx419, bx420, (by omega), (by omega)⟩
   ·have q448 := of_decide_eq_false h363
    refine wp_exit ?_
    refine t_e ?_
    refine t_e ?_
    refine b_e ?_
    refine t_n ?_
    have f449 := f362.sub (r := [(6, .pointer (some ⟨w41.heap.size, 0, none⟩)), (5, .pointer (some ⟨w32.heap.size, 0, none⟩)), (4, .pointer (some ⟨w15.heap.size, 0, none⟩)), (3, .bool true)]) ⟨rfl, rfl, rfl, rfl, trivial⟩
    clear f362
    refine wp_seq ?_
    refine At.start ?_
    refine At.rd f449 12 [[], [], [.cs ((ofW la : List Int).map wV)], [.cs ((ys : List Int).map wV)], [.cs [wV (gI (ofW la) 0), wV (gI (ofW la) 1), wV (gI (ofW la) 2), wV (gI (ofW la) 3)], .cs [wV (gI ys 0), wV (gI ys 1), wV (gI ys 2), wV (gI ys 3)], .as_ (.bool true)], [], [], [.cs ((ofW la : List Int).map wV)], [.cs ((zs : List Int).map wV)], [.cs [wV (gI (ofW la) 0), wV (gI (ofW la) 1), wV (gI (ofW la) 2), wV (gI (ofW la) 3)], .cs [wV (gI zs 0), wV (gI zs 1), wV (gI zs 2), wV (gI zs 3)], .as_ (.bool true)], [], []] [(2, .bool true), (84, .bool true), (83, .bool true), (82, .agg ((zs : List Int).map wV).toArray), (81, .agg ((ofW la : List Int).map wV).toArray), (80, .bool true), (79, .bool true), (78, .bool true), (77, .agg ((ys : List Int).map wV).toArray), (76, .agg ((ofW la : List Int).map wV).toArray), (75, .bool true), (74, .bool true)] [(((ofW la : List Int).map wV).length = 4), (∀ (j : Nat) (v : Value), ((ofW la : List Int).map wV)[j]? = some v → w349.cell? ((⟨w15.heap.size, 0, none⟩ : Addr).add j) = some v), (((ys : List Int).map wV).length = 4), (∀ (j : Nat) (v : Value), ((ys : List Int).map wV)[j]? = some v → w349.cell? ((⟨w32.heap.size, 0, none⟩ : Addr).add j) = some v), (((ofW la : List Int).map wV).toArray = ([wV (gI (ofW la) 0), wV (gI (ofW la) 1), wV (gI (ofW la) 2), wV (gI (ofW la) 3)] : List Value).toArray), (((ys : List Int).map wV).toArray = ([wV (gI ys 0), wV (gI ys 1), wV (gI ys 2), wV (gI ys 3)] : List Value).toArray), ((.bool ((((gI (ofW la) 0 : Int) == gI ys 0) && (((gI (ofW la) 1 : Int) == gI ys 1) && (((gI (ofW la) 2 : Int) == gI ys 2) && (((gI (ofW la) 3 : Int) == gI ys 3) && true))))) : Value) = .bool true), (((ofW la : List Int).map wV).length = 4), (∀ (j : Nat) (v : Value), ((ofW la : List Int).map wV)[j]? = some v → w349.cell? ((⟨w15.heap.size, 0, none⟩ : Addr).add j) = some v), (((zs : List Int).map wV).length = 4), (∀ (j : Nat) (v : Value), ((zs : List Int).map wV)[j]? = some v → w349.cell? ((⟨w41.heap.size, 0, none⟩ : Addr).add j) = some v), (((ofW la : List Int).map wV).toArray = ([wV (gI (ofW la) 0), wV (gI (ofW la) 1), wV (gI (ofW la) 2), wV (gI (ofW la) 3)] : List Value).toArray), (((zs : List Int).map wV).toArray = ([wV (gI zs 0), wV (gI zs 1), wV (gI zs 2), wV (gI zs 3)] : List Value).toArray), ((.bool ((((gI (ofW la) 0 : Int) == gI zs 0) && (((gI (ofW la) 1 : Int) == gI zs 1) && (((gI (ofW la) 2 : Int) == gI zs 2) && (((gI (ofW la) 3 : Int) == gI zs 3) && true))))) : Value) = .bool true)] (by kernel_rfl) ⟨((List.length_map _).trans (okLen (ofW_ok _))), bx355.whole, (by simp only [List.length_map, List.length_set, List.length_replicate, List.length_cons, List.length_nil]; first | done | assumption | exact from_len _ | exact of_len _ | exact ofZ_len _ | exact (ofW_ok _).1 | exact (fullW_W _).1 | exact (okW_with (by assumption)).1 | exact (okW_less (by assumption)).1 | exact put_len (from_len _) | exact orD_len _ _ | exact andD_len _ _ | exact minusD_len _ _ | exact fullD_len _ | (refine okLen ?_; (repeat (first | assumption | exact ofW_ok _ | exact fullW_W _ | apply okW_with | apply okW_less | refine okW_orS ?_ ?_ | refine okW_andS ?_ ?_ | refine okW_minusS ?_ ?_)); done) | omega | rfl), bx356.whole, (map4 (okLen (ofW_ok _))), (map4 (by first | assumption | exact (okW_with (by assumption)).1 | exact (okW_less (by assumption)).1 | exact (ofW_ok _).1 | exact (fullW_W _).1 | (refine okLen ?_; (repeat (first | assumption | exact ofW_ok _ | exact fullW_W _ | apply okW_with | apply okW_less | refine okW_orS ?_ ?_ | refine okW_andS ?_ ?_ | refine okW_minusS ?_ ?_)); done) | rfl | omega | (simp only [List.length_set]; first | done | assumption | omega) | exact lenW4 _ (by assumption))), (Eq.trans (b := (.bool (decide ((ofW la : List Int) = ys)) : Value)) (congrArg (fun b => Value.bool b) (w4_eq (okLen (ofW_ok _)) (by first | assumption | exact (okW_with (by assumption)).1 | exact (okW_less (by assumption)).1 | exact (ofW_ok _).1 | exact (fullW_W _).1 | (refine okLen ?_; (repeat (first | assumption | exact ofW_ok _ | exact fullW_W _ | apply okW_with | apply okW_less | refine okW_orS ?_ ?_ | refine okW_andS ?_ ?_ | refine okW_minusS ?_ ?_)); done) | rfl | omega | (simp only [List.length_set]; first | done | assumption | omega) | exact lenW4 _ (by assumption)))) (congrArg Value.bool (decide_eq_true (ways_xy hys (by omega))))), ((List.length_map _).trans (okLen (ofW_ok _))), bx355.whole, (by simp only [List.length_map, List.length_set, List.length_replicate, List.length_cons, List.length_nil]; first | done | assumption | exact from_len _ | exact of_len _ | exact ofZ_len _ | exact (ofW_ok _).1 | exact (fullW_W _).1 | exact (okW_with (by assumption)).1 | exact (okW_less (by assumption)).1 | exact put_len (from_len _) | exact orD_len _ _ | exact andD_len _ _ | exact minusD_len _ _ | exact fullD_len _ | (refine okLen ?_; (repeat (first | assumption | exact ofW_ok _ | exact fullW_W _ | apply okW_with | apply okW_less | refine okW_orS ?_ ?_ | refine okW_andS ?_ ?_ | refine okW_minusS ?_ ?_)); done) | omega | rfl), bx357.whole, (map4 (okLen (ofW_ok _))), (map4 (by first | assumption | exact (okW_with (by assumption)).1 | exact (okW_less (by assumption)).1 | exact (ofW_ok _).1 | exact (fullW_W _).1 | (refine okLen ?_; (repeat (first | assumption | exact ofW_ok _ | exact fullW_W _ | apply okW_with | apply okW_less | refine okW_orS ?_ ?_ | refine okW_andS ?_ ?_ | refine okW_minusS ?_ ?_)); done) | rfl | omega | (simp only [List.length_set]; first | done | assumption | omega) | exact lenW4 _ (by assumption))), (Eq.trans (b := (.bool (decide ((ofW la : List Int) = zs)) : Value)) (congrArg (fun b => Value.bool b) (w4_eq (okLen (ofW_ok _)) (by first | assumption | exact (okW_with (by assumption)).1 | exact (okW_less (by assumption)).1 | exact (ofW_ok _).1 | exact (fullW_W _).1 | (refine okLen ?_; (repeat (first | assumption | exact ofW_ok _ | exact fullW_W _ | apply okW_with | apply okW_less | refine okW_orS ?_ ?_ | refine okW_andS ?_ ?_ | refine okW_minusS ?_ ?_)); done) | rfl | omega | (simp only [List.length_set]; first | done | assumption | omega) | exact lenW4 _ (by assumption)))) (congrArg Value.bool (decide_eq_true (ways_xz hoz hzs (by omega))))), trivial⟩ (fun act451 f450 => ?_)
    clear f449
    refine At.done rfl ?_
    refine t_n ?_
    have f452 := f450.sub (r := [(2, .bool true)]) ⟨rfl, trivial⟩
    clear f450
    refine wp_ret ?_
    refine ret_ f452 [] [.bool true] [] (by kernel_rfl) trivial ?_
    exact ⟨rfl, e350⟩

end Go.Proofs.YtepekncgknlcjaaDoor
