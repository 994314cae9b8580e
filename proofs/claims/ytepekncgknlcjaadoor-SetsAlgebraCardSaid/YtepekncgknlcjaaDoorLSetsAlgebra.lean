/-
  A walk of a Go function, printed by a program of this repo. Conditions: what the theorems name.
-/
import Derived.Test.YtepekncgknlcjaaDoorWShown01
import Derived.Test.YtepekncgknlcjaaDoorPureAlg
set_option linter.unusedVariables false
set_option linter.unusedSimpArgs false
namespace Go.Proofs.YtepekncgknlcjaaDoor
open Go Go.RowKit

attribute [local irreducible] ofZ fromW wordsD ofD ofW lsD lenW lenN fullW withW lessW hasW hasD inW inD leastD putD onI tzI orS andS minusS orD andD minusD fullD emptyD
set_option maxHeartbeats 4000000 in
theorem algebra_any {s : List Int} {t : List Int} {u : List Int} {w : World} (hs : OkW s) (ht : OkW t) (hu : OkW u) (rT : RdT w 0 w.heap.size) :
    Calls Tryd.prog 11 #[.agg ((s : List Int).map wV).toArray, .agg ((t : List Int).map wV).toArray, .agg ((u : List Int).map wV).toArray] w fun e w' => e = .returned (.bool true) ∧ Ext w w' := by
 have hls := hs.1
 have hlt := ht.1
 have hlu := hu.1
 refine enter_ (args := [.agg ((s : List Int).map wV).toArray, .agg ((t : List Int).map wV).toArray, .agg ((u : List Int).map wV).toArray]) Tryd.func11 rfl Tryd.ntmps11 (Nat.le_of_ble_eq_true rfl) (fun act0 f0 => ?_)
 have e0 := Ext.refl w
 refine wp_seq ?_
 refine At.start ?_
 refine At.seq f0 1 [[]] [(3, .pointer (some ⟨w.heap.size, 0, none⟩))] (w.alloc (.cells ((s : List Int).map wV).toArray 25 (0, 0))) [] (by kernel_rfl) trivial (fun act4 w1 hw2 f3 => ?_)
 clear f0
 have g5 := gr_alloc hw2
 have szw1 := g5.size
 have e7 := e0.gr g5 no_row
 clear e0
 have r8 := rT.gr g5 (fun _ h => by cases h)
 clear rT
 have bx9 : Bx w1 (w.heap.size) ((s : List Int).map wV) 25 := Bx.new hw2
 have := bx9.lt
 clear g5 hw2
 refine At.seq f3 1 [[]] [(4, .pointer (some ⟨w1.heap.size, 0, none⟩))] (w1.alloc (.cells ((t : List Int).map wV).toArray 25 (0, 0))) [] (by kernel_rfl) trivial (fun act13 w10 hw11 f12 => ?_)
 clear f3
 have g14 := gr_alloc hw11
 have szw10 := g14.size
 have e16 := e7.gr g14 no_row
 clear e7
 have r17 := r8.gr g14 (fun _ h => by cases h)
 clear r8
 have bx18 := bx9.gr g14 (by simp)
 clear bx9
 have bx19 : Bx w10 (w1.heap.size) ((t : List Int).map wV) 25 := Bx.new hw11
 have := bx19.lt
 clear g14 hw11
 refine At.seq f12 1 [[]] [(5, .pointer (some ⟨w10.heap.size, 0, none⟩))] (w10.alloc (.cells ((u : List Int).map wV).toArray 25 (0, 0))) [] (by kernel_rfl) trivial (fun act23 w20 hw21 f22 => ?_)
 clear f12
 have g24 := gr_alloc hw21
 have szw20 := g24.size
 have e26 := e16.gr g24 no_row
 clear e16
 have r27 := r17.gr g24 (fun _ h => by cases h)
 clear r17
 have bx28 := bx18.gr g24 (by simp)
 clear bx18
 have bx29 := bx19.gr g24 (by simp)
 clear bx19
 have bx30 : Bx w20 (w10.heap.size) ((u : List Int).map wV) 25 := Bx.new hw21
 have := bx30.lt
 clear g24 hw21
 refine At.rd f22 1 [[]] [(6, .bool false)] [] (by kernel_rfl) trivial (fun act32 f31 => ?_)
 clear f22
 refine At.done rfl ?_
 refine t_n ?_
 have f33 := f31.sub (r := [(5, .pointer (some ⟨w10.heap.size, 0, none⟩)), (4, .pointer (some ⟨w1.heap.size, 0, none⟩)), (3, .pointer (some ⟨w.heap.size, 0, none⟩))]) ⟨rfl, rfl, rfl, trivial⟩
 clear f31
 refine wp_seq ?_
 refine At.start ?_
 refine At.call f33 12 #[] (some 14) (by kernel_rfl) (shown01_any (r27.wide (Nat.zero_le _) (by omega))) ?_
 rintro e_ w34 ⟨rfl, he⟩
 refine ⟨_, rfl, _, rfl, fun act35 f36 => ?_⟩
 clear f33
 have g37 := gr_ext he
 have szw34 := g37.size
 have e38 := e26.gr g37 no_row
 clear e26
 have r39 := r27.gr g37 (fun _ h => by cases h)
 clear r27
 have bx40 := bx28.gr g37 (by simp)
 clear bx28
 have bx41 := bx29.gr g37 (by simp)
 clear bx29
 have bx42 := bx30.gr g37 (by simp)
 clear bx30
 clear g37 he
 refine At.rd f36 1 [[]] [(7, .bool true)] [] (by kernel_rfl) trivial (fun act44 f43 => ?_)
 clear f36
 refine At.done rfl ?_
 refine t_n ?_
 have f45 := f43.sub (r := [(7, .bool true), (5, .pointer (some ⟨w10.heap.size, 0, none⟩)), (4, .pointer (some ⟨w1.heap.size, 0, none⟩)), (3, .pointer (some ⟨w.heap.size, 0, none⟩))]) ⟨rfl, rfl, rfl, rfl, trivial⟩
 clear f43
 refine wp_seq ?_
 refine At.start ?_
 refine At.rd f45 1 [[.cs ((s : List Int).map wV)]] [(15, .agg ((s : List Int).map wV).toArray)] [(((s : List Int).map wV).length = 4), (∀ (j : Nat) (v : Value), ((s : List Int).map wV)[j]? = some v → w34.cell? ((⟨w.heap.size, 0, none⟩ : Addr).add j) = some v)] (by kernel_rfl) ⟨(by simp only [List.length_map, List.length_set, List.length_replicate, List.length_cons, List.length_nil]; first | done | assumption | exact from_len _ | exact of_len _ | exact ofZ_len _ | exact (ofW_ok _).1 | exact (fullW_W _).1 | exact (okW_with (by assumption)).1 | exact (okW_less (by assumption)).1 | exact put_len (from_len _) | exact orD_len _ _ | exact andD_len _ _ | exact minusD_len _ _ | exact fullD_len _ | (refine okLen ?_; (repeat (first | assumption | exact ofW_ok _ | exact fullW_W _ | apply okW_with | apply okW_less | refine okW_orS ?_ ?_ | refine okW_andS ?_ ?_ | refine okW_minusS ?_ ?_)); done) | omega | rfl), bx40.whole, trivial⟩ (fun act47 f46 => ?_)
 clear f45
 refine At.seq f46 1 [[]] [(8, .pointer (some ⟨w34.heap.size, 0, none⟩))] (w34.alloc (.cells ((List.replicate 4 (0 : Int) : List Int).map wV).toArray 26 (0, 0))) [] (by kernel_rfl) trivial (fun act51 w48 hw49 f50 => ?_)
 clear f46
 have g52 := gr_alloc hw49
 have szw48 := g52.size
 have e54 := e38.gr g52 no_row
 clear e38
 have r55 := r39.gr g52 (fun _ h => by cases h)
 clear r39
 have bx56 := bx40.gr g52 (by simp)
 clear bx40
 have bx57 := bx41.gr g52 (by simp)
 clear bx41
 have bx58 := bx42.gr g52 (by simp)
 clear bx42
 have bx59 : Bx w48 (w34.heap.size) ((List.replicate 4 (0 : Int) : List Int).map wV) 26 := Bx.new hw49
 have := bx59.lt
 clear g52 hw49
 refine At.act f50 (storeBlk (t := 26) (b := w34.heap.size) (n := 4) (cs' := ((s : List Int).map wV)) (by kernel_rfl) (by kernel_rfl) (by simp only [List.length_map, List.length_set, List.length_replicate, List.length_cons, List.length_nil]; first | done | assumption | exact from_len _ | exact of_len _ | exact ofZ_len _ | exact (ofW_ok _).1 | exact (fullW_W _).1 | exact (okW_with (by assumption)).1 | exact (okW_less (by assumption)).1 | exact put_len (from_len _) | exact orD_len _ _ | exact andD_len _ _ | exact minusD_len _ _ | exact fullD_len _ | (refine okLen ?_; (repeat (first | assumption | exact ofW_ok _ | exact fullW_W _ | apply okW_with | apply okW_less | refine okW_orS ?_ ?_ | refine okW_andS ?_ ?_ | refine okW_minusS ?_ ?_)); done) | omega | rfl) oneW_ ((show ((s : List Int).map wV).length = 4 from (by simp only [List.length_map, List.length_set, List.length_replicate, List.length_cons, List.length_nil]; first | done | assumption | exact from_len _ | exact of_len _ | exact ofZ_len _ | exact (ofW_ok _).1 | exact (fullW_W _).1 | exact (okW_with (by assumption)).1 | exact (okW_less (by assumption)).1 | exact put_len (from_len _) | exact orD_len _ _ | exact andD_len _ _ | exact minusD_len _ _ | exact fullD_len _ | (refine okLen ?_; (repeat (first | assumption | exact ofW_ok _ | exact fullW_W _ | apply okW_with | apply okW_less | refine okW_orS ?_ ?_ | refine okW_andS ?_ ?_ | refine okW_minusS ?_ ?_)); done) | omega | rfl)).trans (show ((List.replicate 4 (0 : Int) : List Int).map wV).length = 4 from (by simp only [List.length_map, List.length_set, List.length_replicate, List.length_cons, List.length_nil]; first | done | assumption | exact from_len _ | exact of_len _ | exact ofZ_len _ | exact (ofW_ok _).1 | exact (fullW_W _).1 | exact (okW_with (by assumption)).1 | exact (okW_less (by assumption)).1 | exact put_len (from_len _) | exact orD_len _ _ | exact andD_len _ _ | exact minusD_len _ _ | exact fullD_len _ | (refine okLen ?_; (repeat (first | assumption | exact ofW_ok _ | exact fullW_W _ | apply okW_with | apply okW_less | refine okW_orS ?_ ?_ | refine okW_andS ?_ ?_ | refine okW_minusS ?_ ?_)); done) | omega | rfl)).symm) bx59) ?_
 rintro d_ v_ w60 ⟨rfl, g61, bx62⟩
 refine ⟨_, rfl, fun act64 f63 => ?_⟩
 clear f50
 have szw60 := g61.size
 have e65 := e54.gr g61 (fun k h => by injection h; omega)
 clear e54
 have r66 := r55.gr g61 (fun k h => by injection h; omega)
 clear r55
 have bx67 := bx56.gr g61 (fun h => by injection h; omega)
 clear bx56
 have bx68 := bx57.gr g61 (fun h => by injection h; omega)
 clear bx57
 have bx69 := bx58.gr g61 (fun h => by injection h; omega)
 clear bx58
 clear bx59 g61
 refine At.done rfl ?_
 refine t_n ?_
 have f70 := f63.sub (r := [(8, .pointer (some ⟨w34.heap.size, 0, none⟩)), (7, .bool true), (5, .pointer (some ⟨w10.heap.size, 0, none⟩)), (4, .pointer (some ⟨w1.heap.size, 0, none⟩))]) ⟨rfl, rfl, rfl, rfl, trivial⟩
 clear f63
 refine wp_seq ?_
 refine At.start ?_
 refine At.rd f70 1 [[.cs ((t : List Int).map wV)]] [(16, .agg ((t : List Int).map wV).toArray)] [(((t : List Int).map wV).length = 4), (∀ (j : Nat) (v : Value), ((t : List Int).map wV)[j]? = some v → w60.cell? ((⟨w1.heap.size, 0, none⟩ : Addr).add j) = some v)] (by kernel_rfl) ⟨(by simp only [List.length_map, List.length_set, List.length_replicate, List.length_cons, List.length_nil]; first | done | assumption | exact from_len _ | exact of_len _ | exact ofZ_len _ | exact (ofW_ok _).1 | exact (fullW_W _).1 | exact (okW_with (by assumption)).1 | exact (okW_less (by assumption)).1 | exact put_len (from_len _) | exact orD_len _ _ | exact andD_len _ _ | exact minusD_len _ _ | exact fullD_len _ | (refine okLen ?_; (repeat (first | assumption | exact ofW_ok _ | exact fullW_W _ | apply okW_with | apply okW_less | refine okW_orS ?_ ?_ | refine okW_andS ?_ ?_ | refine okW_minusS ?_ ?_)); done) | omega | rfl), bx68.whole, trivial⟩ (fun act72 f71 => ?_)
 clear f70
 refine At.seq f71 1 [[]] [(9, .pointer (some ⟨w60.heap.size, 0, none⟩))] (w60.alloc (.cells ((List.replicate 4 (0 : Int) : List Int).map wV).toArray 26 (0, 0))) [] (by kernel_rfl) trivial (fun act76 w73 hw74 f75 => ?_)
 clear f71
 have g77 := gr_alloc hw74
 have szw73 := g77.size
 have e79 := e65.gr g77 no_row
 clear e65
 have r80 := r66.gr g77 (fun _ h => by cases h)
 clear r66
 have bx81 := bx67.gr g77 (by simp)
 clear bx67
 have bx82 := bx68.gr g77 (by simp)
 clear bx68
 have bx83 := bx69.gr g77 (by simp)
 clear bx69
 have bx84 := bx62.gr g77 (by simp)
 clear bx62
 have bx85 : Bx w73 (w60.heap.size) ((List.replicate 4 (0 : Int) : List Int).map wV) 26 := Bx.new hw74
 have := bx85.lt
 clear g77 hw74
 refine At.act f75 (storeBlk (t := 26) (b := w60.heap.size) (n := 4) (cs' := ((t : List Int).map wV)) (by kernel_rfl) (by kernel_rfl) (by simp only [List.length_map, List.length_set, List.length_replicate, List.length_cons, List.length_nil]; first | done | assumption | exact from_len _ | exact of_len _ | exact ofZ_len _ | exact (ofW_ok _).1 | exact (fullW_W _).1 | exact (okW_with (by assumption)).1 | exact (okW_less (by assumption)).1 | exact put_len (from_len _) | exact orD_len _ _ | exact andD_len _ _ | exact minusD_len _ _ | exact fullD_len _ | (refine okLen ?_; (repeat (first | assumption | exact ofW_ok _ | exact fullW_W _ | apply okW_with | apply okW_less | refine okW_orS ?_ ?_ | refine okW_andS ?_ ?_ | refine okW_minusS ?_ ?_)); done) | omega | rfl) oneW_ ((show ((t : List Int).map wV).length = 4 from (by simp only [List.length_map, List.length_set, List.length_replicate, List.length_cons, List.length_nil]; first | done | assumption | exact from_len _ | exact of_len _ | exact ofZ_len _ | exact (ofW_ok _).1 | exact (fullW_W _).1 | exact (okW_with (by assumption)).1 | exact (okW_less (by assumption)).1 | exact put_len (from_len _) | exact orD_len _ _ | exact andD_len _ _ | exact minusD_len _ _ | exact fullD_len _ | (refine okLen ?_; (repeat (first | assumption | exact ofW_ok _ | exact fullW_W _ | apply okW_with | apply okW_less | refine okW_orS ?_ ?_ | refine okW_andS ?_ ?_ | refine okW_minusS ?_ ?_)); done) | omega | rfl)).trans (show ((List.replicate 4 (0 : Int) : List Int).map wV).length = 4 from (by simp only [List.length_map, List.length_set, List.length_replicate, List.length_cons, List.length_nil]; first | done | assumption | exact from_len _ | exact of_len _ | exact ofZ_len _ | exact (ofW_ok _).1 | exact (fullW_W _).1 | exact (okW_with (by assumption)).1 | exact (okW_less (by assumption)).1 | exact put_len (from_len _) | exact orD_len _ _ | exact andD_len _ _ | exact minusD_len _ _ | exact fullD_len _ | (refine okLen ?_; (repeat (first | assumption | exact ofW_ok _ | exact fullW_W _ | apply okW_with | apply okW_less | refine okW_orS ?_ ?_ | refine okW_andS ?_ ?_ | refine okW_minusS ?_ ?_)); done) | omega | rfl)).symm) bx85) ?_
 rintro d_ v_ w86 ⟨rfl, g87, bx88⟩
 refine ⟨_, rfl, fun act90 f89 => ?_⟩
 clear f75
 have szw86 := g87.size
 have e91 := e79.gr g87 (fun k h => by injection h; omega)
 clear e79
 have r92 := r80.gr g87 (fun k h => by injection h; omega)
 clear r80
 have bx93 := bx81.gr g87 (fun h => by injection h; omega)
 clear bx81
 have bx94 := bx82.gr g87 (fun h => by injection h; omega)
 clear bx82
 have bx95 := bx83.gr g87 (fun h => by injection h; omega)
 clear bx83
 have bx96 := bx84.gr g87 (fun h => by injection h; omega)
 clear bx84
 clear bx85 g87
 refine At.done rfl ?_
 refine t_n ?_
 have f97 := f89.sub (r := [(9, .pointer (some ⟨w60.heap.size, 0, none⟩)), (8, .pointer (some ⟨w34.heap.size, 0, none⟩)), (7, .bool true), (5, .pointer (some ⟨w10.heap.size, 0, none⟩))]) ⟨rfl, rfl, rfl, rfl, trivial⟩
 clear f89
 refine wp_seq ?_
 refine At.start ?_
 refine At.rd f97 1 [[.cs ((u : List Int).map wV)]] [(17, .agg ((u : List Int).map wV).toArray)] [(((u : List Int).map wV).length = 4), (∀ (j : Nat) (v : Value), ((u : List Int).map wV)[j]? = some v → w86.cell? ((⟨w10.heap.size, 0, none⟩ : Addr).add j) = some v)] (by kernel_rfl) ⟨(by simp only [List.length_map, List.length_set, List.length_replicate, List.length_cons, List.length_nil]; first | done | assumption | exact from_len _ | exact of_len _ | exact ofZ_len _ | exact (ofW_ok _).1 | exact (fullW_W _).1 | exact (okW_with (by assumption)).1 | exact (okW_less (by assumption)).1 | exact put_len (from_len _) | exact orD_len _ _ | exact andD_len _ _ | exact minusD_len _ _ | exact fullD_len _ | (refine okLen ?_; (repeat (first | assumption | exact ofW_ok _ | exact fullW_W _ | apply okW_with | apply okW_less | refine okW_orS ?_ ?_ | refine okW_andS ?_ ?_ | refine okW_minusS ?_ ?_)); done) | omega | rfl), bx95.whole, trivial⟩ (fun act99 f98 => ?_)
 clear f97
 refine At.seq f98 1 [[]] [(10, .pointer (some ⟨w86.heap.size, 0, none⟩))] (w86.alloc (.cells ((List.replicate 4 (0 : Int) : List Int).map wV).toArray 26 (0, 0))) [] (by kernel_rfl) trivial (fun act103 w100 hw101 f102 => ?_)
 clear f98
 have g104 := gr_alloc hw101
 have szw100 := g104.size
 have e106 := e91.gr g104 no_row
 clear e91
 have r107 := r92.gr g104 (fun _ h => by cases h)
 clear r92
 have bx108 := bx93.gr g104 (by simp)
 clear bx93
 have bx109 := bx94.gr g104 (by simp)
 clear bx94
 have bx110 := bx95.gr g104 (by simp)
 clear bx95
 have bx111 := bx96.gr g104 (by simp)
 clear bx96
 have bx112 := bx88.gr g104 (by simp)
 clear bx88
 have bx113 : Bx w100 (w86.heap.size) ((List.replicate 4 (0 : Int) : List Int).map wV) 26 := Bx.new hw101
 have := bx113.lt
 clear g104 hw101
 refine At.act f102 (storeBlk (t := 26) (b := w86.heap.size) (n := 4) (cs' := ((u : List Int).map wV)) (by kernel_rfl) (by kernel_rfl) (by simp only [List.length_map, List.length_set, List.length_replicate, List.length_cons, List.length_nil]; first | done | assumption | exact from_len _ | exact of_len _ | exact ofZ_len _ | exact (ofW_ok _).1 | exact (fullW_W _).1 | exact (okW_with (by assumption)).1 | exact (okW_less (by assumption)).1 | exact put_len (from_len _) | exact orD_len _ _ | exact andD_len _ _ | exact minusD_len _ _ | exact fullD_len _ | (refine okLen ?_; (repeat (first | assumption | exact ofW_ok _ | exact fullW_W _ | apply okW_with | apply okW_less | refine okW_orS ?_ ?_ | refine okW_andS ?_ ?_ | refine okW_minusS ?_ ?_)); done) | omega | rfl) oneW_ ((show ((u : List Int).map wV).length = 4 from (by simp only [List.length_map, List.length_set, List.length_replicate, List.length_cons, List.length_nil]; first | done | assumption | exact from_len _ | exact of_len _ | exact ofZ_len _ | exact (ofW_ok _).1 | exact (fullW_W _).1 | exact (okW_with (by assumption)).1 | exact (okW_less (by assumption)).1 | exact put_len (from_len _) | exact orD_len _ _ | exact andD_len _ _ | exact minusD_len _ _ | exact fullD_len _ | (refine okLen ?_; (repeat (first | assumption | exact ofW_ok _ | exact fullW_W _ | apply okW_with | apply okW_less | refine okW_orS ?_ ?_ | refine okW_andS ?_ ?_ | refine okW_minusS ?_ ?_)); done) | omega | rfl)).trans (show ((List.replicate 4 (0 : Int) : List Int).map wV).length = 4 from (by simp only [List.length_map, List.length_set, List.length_replicate, List.length_cons, List.length_nil]; first | done | assumption | exact from_len _ | exact of_len _ | exact ofZ_len _ | exact (ofW_ok _).1 | exact (fullW_W _).1 | exact (okW_with (by assumption)).1 | exact (okW_less (by assumption)).1 | exact put_len (from_len _) | exact orD_len _ _ | exact andD_len _ _ | exact minusD_len _ _ | exact fullD_len _ | (refine okLen ?_; (repeat (first | assumption | exact ofW_ok _ | exact fullW_W _ | apply okW_with | apply okW_less | refine okW_orS ?_ ?_ | refine okW_andS ?_ ?_ | refine okW_minusS ?_ ?_)); done) | omega | rfl)).symm) bx113) ?_
 rintro d_ v_ w114 ⟨rfl, g115, bx116⟩
 refine ⟨_, rfl, fun act118 f117 => ?_⟩
 clear f102
 have szw114 := g115.size
 have e119 := e106.gr g115 (fun k h => by injection h; omega)
 clear e106
 have r120 := r107.gr g115 (fun k h => by injection h; omega)
 clear r107
 have bx121 := bx108.gr g115 (fun h => by injection h; omega)
 clear bx108
 have bx122 := bx109.gr g115 (fun h => by injection h; omega)
 clear bx109
 have bx123 := bx110.gr g115 (fun h => by injection h; omega)
 clear bx110
 have bx124 := bx111.gr g115 (fun h => by injection h; omega)
 clear bx111
 have bx125 := bx112.gr g115 (fun h => by injection h; omega)
 clear bx112
 clear bx113 g115
 refine At.done rfl ?_
 refine t_n ?_
 have f126 := f117.sub (r := [(10, .pointer (some ⟨w86.heap.size, 0, none⟩)), (9, .pointer (some ⟨w60.heap.size, 0, none⟩)), (8, .pointer (some ⟨w34.heap.size, 0, none⟩)), (7, .bool true)]) ⟨rfl, rfl, rfl, rfl, trivial⟩
 clear f117
 refine wp_seq ?_
 obtain ⟨Cs127, hCs128⟩ : ∃ c : List (Addr × Value), c = ([] : List (Addr × Value)) ++ (blkC (w34.heap.size) ((s : List Int).map wV) ++ (blkC (w60.heap.size) ((t : List Int).map wV) ++ blkC (w86.heap.size) ((u : List Int).map wV))) := ⟨_, rfl⟩
 have hS129 : HoldsC Cs127 w114 := by rw [hCs128]; exact (holdsA (show HoldsC [] w114 from trivial) (holdsA (holds_blk bx124) (holdsA (holds_blk bx125) (holds_blk bx116))))
 refine AtH.start Cs127 43 #[false, false, false, false, false, false, false, false, false, false, false, false, false, false, false, false, false, false, false, false, false, false, false, false, false, false, false, false, false, false, false, false, false, false, false, false, false, false, false, false, false, false, false] (by kernel_rfl) rfl rfl (fun w131 hw132 => ?_)
 have g130 := gr_drew hw132
 have hS133 := hS129.gr g130
 have szw131 := g130.size
 have e134 := e119.gr g130 no_row
 clear e119
 have r135 := r120.gr g130 (fun _ h => by cases h)
 clear r120
 have bx136 := bx121.gr g130 (by simp)
 clear bx121
 have bx137 := bx122.gr g130 (by simp)
 clear bx122
 have bx138 := bx123.gr g130 (by simp)
 clear bx123
 have bx139 := bx124.gr g130 (by simp)
 clear bx124
 have bx140 := bx125.gr g130 (by simp)
 clear bx125
 have bx141 := bx116.gr g130 (by simp)
 clear bx116
 clear g130 hw132 hS129
 refine AtH.rd (by kernel_rfl) (fun d v c a w h => by cases d <;> exact h) hS133 [0, 1, 3, 4] [[.cs ((s : List Int).map wV)], [.cs ((t : List Int).map wV)], [.cs ((t : List Int).map wV)], [.cs ((s : List Int).map wV)]] [(22, .agg ((s : List Int).map wV).toArray), (21, .agg ((t : List Int).map wV).toArray), (19, .agg ((t : List Int).map wV).toArray), (18, .agg ((s : List Int).map wV).toArray)] #[true, true, false, true, true, false, false, false, false, false, false, false, false, false, false, false, false, false, false, false, false, false, false, false, false, false, false, false, false, false, false, false, false, false, false, false, false, false, false, false, false, false, false] [(((s : List Int).map wV).length = 4), (∀ (j : Nat) (v : Value), ((s : List Int).map wV)[j]? = some v → ∃ j_ : Nat, Cs127[j_]? = some (((⟨w34.heap.size, 0, none⟩ : Addr).add j), v)), (((t : List Int).map wV).length = 4), (∀ (j : Nat) (v : Value), ((t : List Int).map wV)[j]? = some v → ∃ j_ : Nat, Cs127[j_]? = some (((⟨w60.heap.size, 0, none⟩ : Addr).add j), v)), (((t : List Int).map wV).length = 4), (∀ (j : Nat) (v : Value), ((t : List Int).map wV)[j]? = some v → ∃ j_ : Nat, Cs127[j_]? = some (((⟨w60.heap.size, 0, none⟩ : Addr).add j), v)), (((s : List Int).map wV).length = 4), (∀ (j : Nat) (v : Value), ((s : List Int).map wV)[j]? = some v → ∃ j_ : Nat, Cs127[j_]? = some (((⟨w34.heap.size, 0, none⟩ : Addr).add j), v))] 39 f126 (by kernel_rfl) ⟨(by simp only [List.length_map, List.length_set, List.length_replicate, List.length_cons, List.length_nil]; first | done | assumption | exact from_len _ | exact of_len _ | exact ofZ_len _ | exact (ofW_ok _).1 | exact (fullW_W _).1 | exact (okW_with (by assumption)).1 | exact (okW_less (by assumption)).1 | exact put_len (from_len _) | exact orD_len _ _ | exact andD_len _ _ | exact minusD_len _ _ | exact fullD_len _ | (refine okLen ?_; (repeat (first | assumption | exact ofW_ok _ | exact fullW_W _ | apply okW_with | apply okW_less | refine okW_orS ?_ ?_ | refine okW_andS ?_ ?_ | refine okW_minusS ?_ ?_)); done) | omega | rfl), (fun j v hv => List.getElem?_of_mem (by rw [hCs128]; exact List.mem_append.2 (.inr (List.mem_append.2 (.inl (blkC_in hv)))))), (by simp only [List.length_map, List.length_set, List.length_replicate, List.length_cons, List.length_nil]; first | done | assumption | exact from_len _ | exact of_len _ | exact ofZ_len _ | exact (ofW_ok _).1 | exact (fullW_W _).1 | exact (okW_with (by assumption)).1 | exact (okW_less (by assumption)).1 | exact put_len (from_len _) | exact orD_len _ _ | exact andD_len _ _ | exact minusD_len _ _ | exact fullD_len _ | (refine okLen ?_; (repeat (first | assumption | exact ofW_ok _ | exact fullW_W _ | apply okW_with | apply okW_less | refine okW_orS ?_ ?_ | refine okW_andS ?_ ?_ | refine okW_minusS ?_ ?_)); done) | omega | rfl), (fun j v hv => List.getElem?_of_mem (by rw [hCs128]; exact List.mem_append.2 (.inr (List.mem_append.2 (.inr (List.mem_append.2 (.inl (blkC_in hv)))))))), (by simp only [List.length_map, List.length_set, List.length_replicate, List.length_cons, List.length_nil]; first | done | assumption | exact from_len _ | exact of_len _ | exact ofZ_len _ | exact (ofW_ok _).1 | exact (fullW_W _).1 | exact (okW_with (by assumption)).1 | exact (okW_less (by assumption)).1 | exact put_len (from_len _) | exact orD_len _ _ | exact andD_len _ _ | exact minusD_len _ _ | exact fullD_len _ | (refine okLen ?_; (repeat (first | assumption | exact ofW_ok _ | exact fullW_W _ | apply okW_with | apply okW_less | refine okW_orS ?_ ?_ | refine okW_andS ?_ ?_ | refine okW_minusS ?_ ?_)); done) | omega | rfl), (fun j v hv => List.getElem?_of_mem (by rw [hCs128]; exact List.mem_append.2 (.inr (List.mem_append.2 (.inr (List.mem_append.2 (.inl (blkC_in hv)))))))), (by simp only [List.length_map, List.length_set, List.length_replicate, List.length_cons, List.length_nil]; first | done | assumption | exact from_len _ | exact of_len _ | exact ofZ_len _ | exact (ofW_ok _).1 | exact (fullW_W _).1 | exact (okW_with (by assumption)).1 | exact (okW_less (by assumption)).1 | exact put_len (from_len _) | exact orD_len _ _ | exact andD_len _ _ | exact minusD_len _ _ | exact fullD_len _ | (refine okLen ?_; (repeat (first | assumption | exact ofW_ok _ | exact fullW_W _ | apply okW_with | apply okW_less | refine okW_orS ?_ ?_ | refine okW_andS ?_ ?_ | refine okW_minusS ?_ ?_)); done) | omega | rfl), (fun j v hv => List.getElem?_of_mem (by rw [hCs128]; exact List.mem_append.2 (.inr (List.mem_append.2 (.inl (blkC_in hv)))))), trivial⟩ (fun act143 f142 => ?_)
 clear f126
 refine AtH.all [2] 38 (by kernel_rfl) (by simp) ⟨?_, trivial⟩
 refine OneH.call f142 32 #[.agg ((s : List Int).map wV).toArray, .agg ((t : List Int).map wV).toArray] (some 20) #[true, true, true, true, true, false, false, false, false, false, false, false, false, false, false, false, false, false, false, false, false, false, false, false, false, false, false, false, false, false, false, false, false, false, false, false, false, false, false, false, false, false, false] (by kernel_rfl) (by kernel_rfl) (orS_any (s := s) (t := t) (by repeat (first | assumption | exact ofW_ok _ | exact fullW_W _ | exact wordsD_W _ | exact okW_0 | exact okW_00 | apply okW_orS | apply okW_andS | apply okW_minusS | apply okW_with | apply okW_less | apply okW_or | apply okW_and | apply okW_minus | (apply okW_lit <;> exact ⟨by omega, by omega⟩))) (by repeat (first | assumption | exact ofW_ok _ | exact fullW_W _ | exact wordsD_W _ | exact okW_0 | exact okW_00 | apply okW_orS | apply okW_andS | apply okW_minusS | apply okW_with | apply okW_less | apply okW_or | apply okW_and | apply okW_minus | (apply okW_lit <;> exact ⟨by omega, by omega⟩)))) ?_
 rintro e_ w145 ⟨rfl, he⟩
 refine ⟨_, rfl, _, rfl, fun act146 f147 => ?_⟩
 clear f142
 have g148 := gr_ext he
 have hS144 := hS133.gr g148
 have szw145 := g148.size
 have e149 := e134.gr g148 no_row
 clear e134
 have r150 := r135.gr g148 (fun _ h => by cases h)
 clear r135
 have bx151 := bx136.gr g148 (by simp)
 clear bx136
 have bx152 := bx137.gr g148 (by simp)
 clear bx137
 have bx153 := bx138.gr g148 (by simp)
 clear bx138
 have bx154 := bx139.gr g148 (by simp)
 clear bx139
 have bx155 := bx140.gr g148 (by simp)
 clear bx140
 have bx156 := bx141.gr g148 (by simp)
 clear bx141
 clear g148 he
 refine ⟨hS144, ?_⟩
 refine AtH.all [5] 37 (by kernel_rfl) (by simp) ⟨?_, trivial⟩
 refine OneH.call f147 32 #[.agg ((t : List Int).map wV).toArray, .agg ((s : List Int).map wV).toArray] (some 23) #[true, true, true, true, true, true, false, false, false, false, false, false, false, false, false, false, false, false, false, false, false, false, false, false, false, false, false, false, false, false, false, false, false, false, false, false, false, false, false, false, false, false, false] (by kernel_rfl) (by kernel_rfl) (orS_any (s := t) (t := s) (by repeat (first | assumption | exact ofW_ok _ | exact fullW_W _ | exact wordsD_W _ | exact okW_0 | exact okW_00 | apply okW_orS | apply okW_andS | apply okW_minusS | apply okW_with | apply okW_less | apply okW_or | apply okW_and | apply okW_minus | (apply okW_lit <;> exact ⟨by omega, by omega⟩))) (by repeat (first | assumption | exact ofW_ok _ | exact fullW_W _ | exact wordsD_W _ | exact okW_0 | exact okW_00 | apply okW_orS | apply okW_andS | apply okW_minusS | apply okW_with | apply okW_less | apply okW_or | apply okW_and | apply okW_minus | (apply okW_lit <;> exact ⟨by omega, by omega⟩)))) ?_
 rintro e_ w158 ⟨rfl, he⟩
 refine ⟨_, rfl, _, rfl, fun act159 f160 => ?_⟩
 clear f147
 have g161 := gr_ext he
 have hS157 := hS144.gr g161
 have szw158 := g161.size
 have e162 := e149.gr g161 no_row
 clear e149
 have r163 := r150.gr g161 (fun _ h => by cases h)
 clear r150
 have bx164 := bx151.gr g161 (by simp)
 clear bx151
 have bx165 := bx152.gr g161 (by simp)
 clear bx152
 have bx166 := bx153.gr g161 (by simp)
 clear bx153
 have bx167 := bx154.gr g161 (by simp)
 clear bx154
 have bx168 := bx155.gr g161 (by simp)
 clear bx155
 have bx169 := bx156.gr g161 (by simp)
 clear bx156
 clear g161 he
 refine ⟨hS157, ?_⟩
 refine AtH.rd (by kernel_rfl) (fun d v c a w h => by cases d <;> exact h) hS157 [6] [[.cs [wV (gI (orS s t) 0), wV (gI (orS s t) 1), wV (gI (orS s t) 2), wV (gI (orS s t) 3)], .cs [wV (gI (orS t s) 0), wV (gI (orS t s) 1), wV (gI (orS t s) 2), wV (gI (orS t s) 3)], .as_ (.bool true)]] [(24, .bool true)] #[true, true, true, true, true, true, true, false, false, false, false, false, false, false, false, false, false, false, false, false, false, false, false, false, false, false, false, false, false, false, false, false, false, false, false, false, false, false, false, false, false, false, false] [(((orS s t : List Int).map wV).toArray = ([wV (gI (orS s t) 0), wV (gI (orS s t) 1), wV (gI (orS s t) 2), wV (gI (orS s t) 3)] : List Value).toArray), (((orS t s : List Int).map wV).toArray = ([wV (gI (orS t s) 0), wV (gI (orS t s) 1), wV (gI (orS t s) 2), wV (gI (orS t s) 3)] : List Value).toArray), ((.bool ((((gI (orS s t) 0 : Int) == gI (orS t s) 0) && (((gI (orS s t) 1 : Int) == gI (orS t s) 1) && (((gI (orS s t) 2 : Int) == gI (orS t s) 2) && (((gI (orS s t) 3 : Int) == gI (orS t s) 3) && true))))) : Value) = .bool true)] 36 f160 (by kernel_rfl) ⟨(map4 (by first | assumption | exact (okW_with (by assumption)).1 | exact (okW_less (by assumption)).1 | exact (ofW_ok _).1 | exact (fullW_W _).1 | (refine okLen ?_; (repeat (first | assumption | exact ofW_ok _ | exact fullW_W _ | apply okW_with | apply okW_less | refine okW_orS ?_ ?_ | refine okW_andS ?_ ?_ | refine okW_minusS ?_ ?_)); done) | rfl | omega | (simp only [List.length_set]; first | done | assumption | omega) | exact lenW4 _ (by assumption))), (map4 (by first | assumption | exact (okW_with (by assumption)).1 | exact (okW_less (by assumption)).1 | exact (ofW_ok _).1 | exact (fullW_W _).1 | (refine okLen ?_; (repeat (first | assumption | exact ofW_ok _ | exact fullW_W _ | apply okW_with | apply okW_less | refine okW_orS ?_ ?_ | refine okW_andS ?_ ?_ | refine okW_minusS ?_ ?_)); done) | rfl | omega | (simp only [List.length_set]; first | done | assumption | omega) | exact lenW4 _ (by assumption))), (Eq.trans (b := (.bool (decide ((orS s t : List Int) = (orS t s))) : Value)) (congrArg (fun b => Value.bool b) (w4_eq (by first | assumption | exact (okW_with (by assumption)).1 | exact (okW_less (by assumption)).1 | exact (ofW_ok _).1 | exact (fullW_W _).1 | (refine okLen ?_; (repeat (first | assumption | exact ofW_ok _ | exact fullW_W _ | apply okW_with | apply okW_less | refine okW_orS ?_ ?_ | refine okW_andS ?_ ?_ | refine okW_minusS ?_ ?_)); done) | rfl | omega | (simp only [List.length_set]; first | done | assumption | omega) | exact lenW4 _ (by assumption)) (by first | assumption | exact (okW_with (by assumption)).1 | exact (okW_less (by assumption)).1 | exact (ofW_ok _).1 | exact (fullW_W _).1 | (refine okLen ?_; (repeat (first | assumption | exact ofW_ok _ | exact fullW_W _ | apply okW_with | apply okW_less | refine okW_orS ?_ ?_ | refine okW_andS ?_ ?_ | refine okW_minusS ?_ ?_)); done) | rfl | omega | (simp only [List.length_set]; first | done | assumption | omega) | exact lenW4 _ (by assumption)))) (congrArg Value.bool (alg1 hs ht))), trivial⟩ (fun act171 f170 => ?_)
 clear f160
 refine AtH.rd (by kernel_rfl) (fun d v c a w h => by cases d <;> exact h) hS157 [7] [[]] [(25, .bool true)] #[true, true, true, true, true, true, true, true, false, false, false, false, false, false, false, false, false, false, false, false, false, false, false, false, false, false, false, false, false, false, false, false, false, false, false, false, false, false, false, false, false, false, false] [] 35 f170 (by kernel_rfl) trivial (fun act173 f172 => ?_)
 clear f170
 refine AtH.rd (by kernel_rfl) (fun d v c a w h => by cases d <;> exact h) hS157 [8] [[.cs ((s : List Int).map wV)]] [(26, .agg ((s : List Int).map wV).toArray)] #[true, true, true, true, true, true, true, true, true, false, false, false, false, false, false, false, false, false, false, false, false, false, false, false, false, false, false, false, false, false, false, false, false, false, false, false, false, false, false, false, false, false, false] [(((s : List Int).map wV).length = 4), (∀ (j : Nat) (v : Value), ((s : List Int).map wV)[j]? = some v → ∃ j_ : Nat, Cs127[j_]? = some (((⟨w34.heap.size, 0, none⟩ : Addr).add j), v))] 34 f172 (by kernel_rfl) ⟨(by simp only [List.length_map, List.length_set, List.length_replicate, List.length_cons, List.length_nil]; first | done | assumption | exact from_len _ | exact of_len _ | exact ofZ_len _ | exact (ofW_ok _).1 | exact (fullW_W _).1 | exact (okW_with (by assumption)).1 | exact (okW_less (by assumption)).1 | exact put_len (from_len _) | exact orD_len _ _ | exact andD_len _ _ | exact minusD_len _ _ | exact fullD_len _ | (refine okLen ?_; (repeat (first | assumption | exact ofW_ok _ | exact fullW_W _ | apply okW_with | apply okW_less | refine okW_orS ?_ ?_ | refine okW_andS ?_ ?_ | refine okW_minusS ?_ ?_)); done) | omega | rfl), (fun j v hv => List.getElem?_of_mem (by rw [hCs128]; exact List.mem_append.2 (.inr (List.mem_append.2 (.inl (blkC_in hv)))))), trivial⟩ (fun act175 f174 => ?_)
 clear f172
 refine AtH.rd (by kernel_rfl) (fun d v c a w h => by cases d <;> exact h) hS157 [9] [[.cs ((t : List Int).map wV)]] [(27, .agg ((t : List Int).map wV).toArray)] #[true, true, true, true, true, true, true, true, true, true, false, false, false, false, false, false, false, false, false, false, false, false, false, false, false, false, false, false, false, false, false, false, false, false, false, false, false, false, false, false, false, false, false] [(((t : List Int).map wV).length = 4), (∀ (j : Nat) (v : Value), ((t : List Int).map wV)[j]? = some v → ∃ j_ : Nat, Cs127[j_]? = some (((⟨w60.heap.size, 0, none⟩ : Addr).add j), v))] 33 f174 (by kernel_rfl) ⟨(by simp only [List.length_map, List.length_set, List.length_replicate, List.length_cons, List.length_nil]; first | done | assumption | exact from_len _ | exact of_len _ | exact ofZ_len _ | exact (ofW_ok _).1 | exact (fullW_W _).1 | exact (okW_with (by assumption)).1 | exact (okW_less (by assumption)).1 | exact put_len (from_len _) | exact orD_len _ _ | exact andD_len _ _ | exact minusD_len _ _ | exact fullD_len _ | (refine okLen ?_; (repeat (first | assumption | exact ofW_ok _ | exact fullW_W _ | apply okW_with | apply okW_less | refine okW_orS ?_ ?_ | refine okW_andS ?_ ?_ | refine okW_minusS ?_ ?_)); done) | omega | rfl), (fun j v hv => List.getElem?_of_mem (by rw [hCs128]; exact List.mem_append.2 (.inr (List.mem_append.2 (.inr (List.mem_append.2 (.inl (blkC_in hv)))))))), trivial⟩ (fun act177 f176 => ?_)
 clear f174
 refine AtH.rd (by kernel_rfl) (fun d v c a w h => by cases d <;> exact h) hS157 [11] [[.cs ((t : List Int).map wV)]] [(29, .agg ((t : List Int).map wV).toArray)] #[true, true, true, true, true, true, true, true, true, true, false, true, false, false, false, false, false, false, false, false, false, false, false, false, false, false, false, false, false, false, false, false, false, false, false, false, false, false, false, false, false, false, false] [(((t : List Int).map wV).length = 4), (∀ (j : Nat) (v : Value), ((t : List Int).map wV)[j]? = some v → ∃ j_ : Nat, Cs127[j_]? = some (((⟨w60.heap.size, 0, none⟩ : Addr).add j), v))] 32 f176 (by kernel_rfl) ⟨(by simp only [List.length_map, List.length_set, List.length_replicate, List.length_cons, List.length_nil]; first | done | assumption | exact from_len _ | exact of_len _ | exact ofZ_len _ | exact (ofW_ok _).1 | exact (fullW_W _).1 | exact (okW_with (by assumption)).1 | exact (okW_less (by assumption)).1 | exact put_len (from_len _) | exact orD_len _ _ | exact andD_len _ _ | exact minusD_len _ _ | exact fullD_len _ | (refine okLen ?_; (repeat (first | assumption | exact ofW_ok _ | exact fullW_W _ | apply okW_with | apply okW_less | refine okW_orS ?_ ?_ | refine okW_andS ?_ ?_ | refine okW_minusS ?_ ?_)); done) | omega | rfl), (fun j v hv => List.getElem?_of_mem (by rw [hCs128]; exact List.mem_append.2 (.inr (List.mem_append.2 (.inr (List.mem_append.2 (.inl (blkC_in hv)))))))), trivial⟩ (fun act179 f178 => ?_)
 clear f176
 refine AtH.rd (by kernel_rfl) (fun d v c a w h => by cases d <;> exact h) hS157 [12] [[.cs ((s : List Int).map wV)]] [(30, .agg ((s : List Int).map wV).toArray)] #[true, true, true, true, true, true, true, true, true, true, false, true, true, false, false, false, false, false, false, false, false, false, false, false, false, false, false, false, false, false, false, false, false, false, false, false, false, false, false, false, false, false, false] [(((s : List Int).map wV).length = 4), (∀ (j : Nat) (v : Value), ((s : List Int).map wV)[j]? = some v → ∃ j_ : Nat, Cs127[j_]? = some (((⟨w34.heap.size, 0, none⟩ : Addr).add j), v))] 31 f178 (by kernel_rfl) ⟨(by simp only [List.length_map, List.length_set, List.length_replicate, List.length_cons, List.length_nil]; first | done | assumption | exact from_len _ | exact of_len _ | exact ofZ_len _ | exact (ofW_ok _).1 | exact (fullW_W _).1 | exact (okW_with (by assumption)).1 | exact (okW_less (by assumption)).1 | exact put_len (from_len _) | exact orD_len _ _ | exact andD_len _ _ | exact minusD_len _ _ | exact fullD_len _ | (refine okLen ?_; (repeat (first | assumption | exact ofW_ok _ | exact fullW_W _ | apply okW_with | apply okW_less | refine okW_orS ?_ ?_ | refine okW_andS ?_ ?_ | refine okW_minusS ?_ ?_)); done) | omega | rfl), (fun j v hv => List.getElem?_of_mem (by rw [hCs128]; exact List.mem_append.2 (.inr (List.mem_append.2 (.inl (blkC_in hv)))))), trivial⟩ (fun act181 f180 => ?_)
 clear f178
 refine AtH.all [10] 30 (by kernel_rfl) (by simp) ⟨?_, trivial⟩
 refine OneH.call f180 35 #[.agg ((s : List Int).map wV).toArray, .agg ((t : List Int).map wV).toArray] (some 28) #[true, true, true, true, true, true, true, true, true, true, true, true, true, false, false, false, false, false, false, false, false, false, false, false, false, false, false, false, false, false, false, false, false, false, false, false, false, false, false, false, false, false, false] (by kernel_rfl) (by kernel_rfl) (andS_any (s := s) (t := t) (by repeat (first | assumption | exact ofW_ok _ | exact fullW_W _ | exact wordsD_W _ | exact okW_0 | exact okW_00 | apply okW_orS | apply okW_andS | apply okW_minusS | apply okW_with | apply okW_less | apply okW_or | apply okW_and | apply okW_minus | (apply okW_lit <;> exact ⟨by omega, by omega⟩))) (by repeat (first | assumption | exact ofW_ok _ | exact fullW_W _ | exact wordsD_W _ | exact okW_0 | exact okW_00 | apply okW_orS | apply okW_andS | apply okW_minusS | apply okW_with | apply okW_less | apply okW_or | apply okW_and | apply okW_minus | (apply okW_lit <;> exact ⟨by omega, by omega⟩)))) ?_
 rintro e_ w183 ⟨rfl, he⟩
 refine ⟨_, rfl, _, rfl, fun act184 f185 => ?_⟩
 clear f180
 have g186 := gr_ext he
 have hS182 := hS157.gr g186
 have szw183 := g186.size
 have e187 := e162.gr g186 no_row
 clear e162
 have r188 := r163.gr g186 (fun _ h => by cases h)
 clear r163
 have bx189 := bx164.gr g186 (by simp)
 clear bx164
 have bx190 := bx165.gr g186 (by simp)
 clear bx165
 have bx191 := bx166.gr g186 (by simp)
 clear bx166
 have bx192 := bx167.gr g186 (by simp)
 clear bx167
 have bx193 := bx168.gr g186 (by simp)
 clear bx168
 have bx194 := bx169.gr g186 (by simp)
 clear bx169
 clear g186 he
 refine ⟨hS182, ?_⟩
 refine AtH.all [13] 29 (by kernel_rfl) (by simp) ⟨?_, trivial⟩
 refine OneH.call f185 35 #[.agg ((t : List Int).map wV).toArray, .agg ((s : List Int).map wV).toArray] (some 31) #[true, true, true, true, true, true, true, true, true, true, true, true, true, true, false, false, false, false, false, false, false, false, false, false, false, false, false, false, false, false, false, false, false, false, false, false, false, false, false, false, false, false, false] (by kernel_rfl) (by kernel_rfl) (andS_any (s := t) (t := s) (by repeat (first | assumption | exact ofW_ok _ | exact fullW_W _ | exact wordsD_W _ | exact okW_0 | exact okW_00 | apply okW_orS | apply okW_andS | apply okW_minusS | apply okW_with | apply okW_less | apply okW_or | apply okW_and | apply okW_minus | (apply okW_lit <;> exact ⟨by omega, by omega⟩))) (by repeat (first | assumption | exact ofW_ok _ | exact fullW_W _ | exact wordsD_W _ | exact okW_0 | exact okW_00 | apply okW_orS | apply okW_andS | apply okW_minusS | apply okW_with | apply okW_less | apply okW_or | apply okW_and | apply okW_minus | (apply okW_lit <;> exact ⟨by omega, by omega⟩)))) ?_
 rintro e_ w196 ⟨rfl, he⟩
 refine ⟨_, rfl, _, rfl, fun act197 f198 => ?_⟩
 clear f185
 have g199 := gr_ext he
 have hS195 := hS182.gr g199
 have szw196 := g199.size
 have e200 := e187.gr g199 no_row
 clear e187
 have r201 := r188.gr g199 (fun _ h => by cases h)
 clear r188
 have bx202 := bx189.gr g199 (by simp)
 clear bx189
 have bx203 := bx190.gr g199 (by simp)
 clear bx190
 have bx204 := bx191.gr g199 (by simp)
 clear bx191
 have bx205 := bx192.gr g199 (by simp)
 clear bx192
 have bx206 := bx193.gr g199 (by simp)
 clear bx193
 have bx207 := bx194.gr g199 (by simp)
 clear bx194
 clear g199 he
 refine ⟨hS195, ?_⟩
 refine AtH.rd (by kernel_rfl) (fun d v c a w h => by cases d <;> exact h) hS195 [14] [[.cs [wV (gI (andS s t) 0), wV (gI (andS s t) 1), wV (gI (andS s t) 2), wV (gI (andS s t) 3)], .cs [wV (gI (andS t s) 0), wV (gI (andS t s) 1), wV (gI (andS t s) 2), wV (gI (andS t s) 3)], .as_ (.bool true)]] [(32, .bool true)] #[true, true, true, true, true, true, true, true, true, true, true, true, true, true, true, false, false, false, false, false, false, false, false, false, false, false, false, false, false, false, false, false, false, false, false, false, false, false, false, false, false, false, false] [(((andS s t : List Int).map wV).toArray = ([wV (gI (andS s t) 0), wV (gI (andS s t) 1), wV (gI (andS s t) 2), wV (gI (andS s t) 3)] : List Value).toArray), (((andS t s : List Int).map wV).toArray = ([wV (gI (andS t s) 0), wV (gI (andS t s) 1), wV (gI (andS t s) 2), wV (gI (andS t s) 3)] : List Value).toArray), ((.bool ((((gI (andS s t) 0 : Int) == gI (andS t s) 0) && (((gI (andS s t) 1 : Int) == gI (andS t s) 1) && (((gI (andS s t) 2 : Int) == gI (andS t s) 2) && (((gI (andS s t) 3 : Int) == gI (andS t s) 3) && true))))) : Value) = .bool true)] 28 f198 (by kernel_rfl) ⟨(map4 (by first | assumption | exact (okW_with (by assumption)).1 | exact (okW_less (by assumption)).1 | exact (ofW_ok _).1 | exact (fullW_W _).1 | (refine okLen ?_; (repeat (first | assumption | exact ofW_ok _ | exact fullW_W _ | apply okW_with | apply okW_less | refine okW_orS ?_ ?_ | refine okW_andS ?_ ?_ | refine okW_minusS ?_ ?_)); done) | rfl | omega | (simp only [List.length_set]; first | done | assumption | omega) | exact lenW4 _ (by assumption))), (map4 (by first | assumption | exact (okW_with (by assumption)).1 | exact (okW_less (by assumption)).1 | exact (ofW_ok _).1 | exact (fullW_W _).1 | (refine okLen ?_; (repeat (first | assumption | exact ofW_ok _ | exact fullW_W _ | apply okW_with | apply okW_less | refine okW_orS ?_ ?_ | refine okW_andS ?_ ?_ | refine okW_minusS ?_ ?_)); done) | rfl | omega | (simp only [List.length_set]; first | done | assumption | omega) | exact lenW4 _ (by assumption))), (Eq.trans (b := (.bool (decide ((andS s t : List Int) = (andS t s))) : Value)) (congrArg (fun b => Value.bool b) (w4_eq (by first | assumption | exact (okW_with (by assumption)).1 | exact (okW_less (by assumption)).1 | exact (ofW_ok _).1 | exact (fullW_W _).1 | (refine okLen ?_; (repeat (first | assumption | exact ofW_ok _ | exact fullW_W _ | apply okW_with | apply okW_less | refine okW_orS ?_ ?_ | refine okW_andS ?_ ?_ | refine okW_minusS ?_ ?_)); done) | rfl | omega | (simp only [List.length_set]; first | done | assumption | omega) | exact lenW4 _ (by assumption)) (by first | assumption | exact (okW_with (by assumption)).1 | exact (okW_less (by assumption)).1 | exact (ofW_ok _).1 | exact (fullW_W _).1 | (refine okLen ?_; (repeat (first | assumption | exact ofW_ok _ | exact fullW_W _ | apply okW_with | apply okW_less | refine okW_orS ?_ ?_ | refine okW_andS ?_ ?_ | refine okW_minusS ?_ ?_)); done) | rfl | omega | (simp only [List.length_set]; first | done | assumption | omega) | exact lenW4 _ (by assumption)))) (congrArg Value.bool (alg2 hs ht))), trivial⟩ (fun act209 f208 => ?_)
 clear f198
 refine AtH.rd (by kernel_rfl) (fun d v c a w h => by cases d <;> exact h) hS195 [15] [[]] [(33, .bool true)] #[true, true, true, true, true, true, true, true, true, true, true, true, true, true, true, true, false, false, false, false, false, false, false, false, false, false, false, false, false, false, false, false, false, false, false, false, false, false, false, false, false, false, false] [] 27 f208 (by kernel_rfl) trivial (fun act211 f210 => ?_)
 clear f208
 refine AtH.rd (by kernel_rfl) (fun d v c a w h => by cases d <;> exact h) hS195 [16] [[]] [(34, .bool true)] #[true, true, true, true, true, true, true, true, true, true, true, true, true, true, true, true, true, false, false, false, false, false, false, false, false, false, false, false, false, false, false, false, false, false, false, false, false, false, false, false, false, false, false] [] 26 f210 (by kernel_rfl) trivial (fun act213 f212 => ?_)
 clear f210
 refine AtH.rd (by kernel_rfl) (fun d v c a w h => by cases d <;> exact h) hS195 [17] [[.cs ((s : List Int).map wV)]] [(35, .agg ((s : List Int).map wV).toArray)] #[true, true, true, true, true, true, true, true, true, true, true, true, true, true, true, true, true, true, false, false, false, false, false, false, false, false, false, false, false, false, false, false, false, false, false, false, false, false, false, false, false, false, false] [(((s : List Int).map wV).length = 4), (∀ (j : Nat) (v : Value), ((s : List Int).map wV)[j]? = some v → ∃ j_ : Nat, Cs127[j_]? = some (((⟨w34.heap.size, 0, none⟩ : Addr).add j), v))] 25 f212 (by kernel_rfl) ⟨(by simp only [List.length_map, List.length_set, List.length_replicate, List.length_cons, List.length_nil]; first | done | assumption | exact from_len _ | exact of_len _ | exact ofZ_len _ | exact (ofW_ok _).1 | exact (fullW_W _).1 | exact (okW_with (by assumption)).1 | exact (okW_less (by assumption)).1 | exact put_len (from_len _) | exact orD_len _ _ | exact andD_len _ _ | exact minusD_len _ _ | exact fullD_len _ | (refine okLen ?_; (repeat (first | assumption | exact ofW_ok _ | exact fullW_W _ | apply okW_with | apply okW_less | refine okW_orS ?_ ?_ | refine okW_andS ?_ ?_ | refine okW_minusS ?_ ?_)); done) | omega | rfl), (fun j v hv => List.getElem?_of_mem (by rw [hCs128]; exact List.mem_append.2 (.inr (List.mem_append.2 (.inl (blkC_in hv)))))), trivial⟩ (fun act215 f214 => ?_)
 clear f212
 refine AtH.rd (by kernel_rfl) (fun d v c a w h => by cases d <;> exact h) hS195 [18] [[.cs ((t : List Int).map wV)]] [(36, .agg ((t : List Int).map wV).toArray)] #[true, true, true, true, true, true, true, true, true, true, true, true, true, true, true, true, true, true, true, false, false, false, false, false, false, false, false, false, false, false, false, false, false, false, false, false, false, false, false, false, false, false, false] [(((t : List Int).map wV).length = 4), (∀ (j : Nat) (v : Value), ((t : List Int).map wV)[j]? = some v → ∃ j_ : Nat, Cs127[j_]? = some (((⟨w60.heap.size, 0, none⟩ : Addr).add j), v))] 24 f214 (by kernel_rfl) ⟨(by simp only [List.length_map, List.length_set, List.length_replicate, List.length_cons, List.length_nil]; first | done | assumption | exact from_len _ | exact of_len _ | exact ofZ_len _ | exact (ofW_ok _).1 | exact (fullW_W _).1 | exact (okW_with (by assumption)).1 | exact (okW_less (by assumption)).1 | exact put_len (from_len _) | exact orD_len _ _ | exact andD_len _ _ | exact minusD_len _ _ | exact fullD_len _ | (refine okLen ?_; (repeat (first | assumption | exact ofW_ok _ | exact fullW_W _ | apply okW_with | apply okW_less | refine okW_orS ?_ ?_ | refine okW_andS ?_ ?_ | refine okW_minusS ?_ ?_)); done) | omega | rfl), (fun j v hv => List.getElem?_of_mem (by rw [hCs128]; exact List.mem_append.2 (.inr (List.mem_append.2 (.inr (List.mem_append.2 (.inl (blkC_in hv)))))))), trivial⟩ (fun act217 f216 => ?_)
 clear f214
 refine AtH.rd (by kernel_rfl) (fun d v c a w h => by cases d <;> exact h) hS195 [19] [[.cs ((u : List Int).map wV)]] [(37, .agg ((u : List Int).map wV).toArray)] #[true, true, true, true, true, true, true, true, true, true, true, true, true, true, true, true, true, true, true, true, false, false, false, false, false, false, false, false, false, false, false, false, false, false, false, false, false, false, false, false, false, false, false] [(((u : List Int).map wV).length = 4), (∀ (j : Nat) (v : Value), ((u : List Int).map wV)[j]? = some v → ∃ j_ : Nat, Cs127[j_]? = some (((⟨w86.heap.size, 0, none⟩ : Addr).add j), v))] 23 f216 (by kernel_rfl) ⟨(by simp only [List.length_map, List.length_set, List.length_replicate, List.length_cons, List.length_nil]; first | done | assumption | exact from_len _ | exact of_len _ | exact ofZ_len _ | exact (ofW_ok _).1 | exact (fullW_W _).1 | exact (okW_with (by assumption)).1 | exact (okW_less (by assumption)).1 | exact put_len (from_len _) | exact orD_len _ _ | exact andD_len _ _ | exact minusD_len _ _ | exact fullD_len _ | (refine okLen ?_; (repeat (first | assumption | exact ofW_ok _ | exact fullW_W _ | apply okW_with | apply okW_less | refine okW_orS ?_ ?_ | refine okW_andS ?_ ?_ | refine okW_minusS ?_ ?_)); done) | omega | rfl), (fun j v hv => List.getElem?_of_mem (by rw [hCs128]; exact List.mem_append.2 (.inr (List.mem_append.2 (.inr (List.mem_append.2 (.inr (blkC_in hv)))))))), trivial⟩ (fun act219 f218 => ?_)
 clear f216
 refine AtH.rd (by kernel_rfl) (fun d v c a w h => by cases d <;> exact h) hS195 [22] [[.cs ((s : List Int).map wV)]] [(40, .agg ((s : List Int).map wV).toArray)] #[true, true, true, true, true, true, true, true, true, true, true, true, true, true, true, true, true, true, true, true, false, false, true, false, false, false, false, false, false, false, false, false, false, false, false, false, false, false, false, false, false, false, false] [(((s : List Int).map wV).length = 4), (∀ (j : Nat) (v : Value), ((s : List Int).map wV)[j]? = some v → ∃ j_ : Nat, Cs127[j_]? = some (((⟨w34.heap.size, 0, none⟩ : Addr).add j), v))] 22 f218 (by kernel_rfl) ⟨(by simp only [List.length_map, List.length_set, List.length_replicate, List.length_cons, List.length_nil]; first | done | assumption | exact from_len _ | exact of_len _ | exact ofZ_len _ | exact (ofW_ok _).1 | exact (fullW_W _).1 | exact (okW_with (by assumption)).1 | exact (okW_less (by assumption)).1 | exact put_len (from_len _) | exact orD_len _ _ | exact andD_len _ _ | exact minusD_len _ _ | exact fullD_len _ | (refine okLen ?_; (repeat (first | assumption | exact ofW_ok _ | exact fullW_W _ | apply okW_with | apply okW_less | refine okW_orS ?_ ?_ | refine okW_andS ?_ ?_ | refine okW_minusS ?_ ?_)); done) | omega | rfl), (fun j v hv => List.getElem?_of_mem (by rw [hCs128]; exact List.mem_append.2 (.inr (List.mem_append.2 (.inl (blkC_in hv)))))), trivial⟩ (fun act221 f220 => ?_)
 clear f218
 refine AtH.rd (by kernel_rfl) (fun d v c a w h => by cases d <;> exact h) hS195 [23] [[.cs ((t : List Int).map wV)]] [(41, .agg ((t : List Int).map wV).toArray)] #[true, true, true, true, true, true, true, true, true, true, true, true, true, true, true, true, true, true, true, true, false, false, true, true, false, false, false, false, false, false, false, false, false, false, false, false, false, false, false, false, false, false, false] [(((t : List Int).map wV).length = 4), (∀ (j : Nat) (v : Value), ((t : List Int).map wV)[j]? = some v → ∃ j_ : Nat, Cs127[j_]? = some (((⟨w60.heap.size, 0, none⟩ : Addr).add j), v))] 21 f220 (by kernel_rfl) ⟨(by simp only [List.length_map, List.length_set, List.length_replicate, List.length_cons, List.length_nil]; first | done | assumption | exact from_len _ | exact of_len _ | exact ofZ_len _ | exact (ofW_ok _).1 | exact (fullW_W _).1 | exact (okW_with (by assumption)).1 | exact (okW_less (by assumption)).1 | exact put_len (from_len _) | exact orD_len _ _ | exact andD_len _ _ | exact minusD_len _ _ | exact fullD_len _ | (refine okLen ?_; (repeat (first | assumption | exact ofW_ok _ | exact fullW_W _ | apply okW_with | apply okW_less | refine okW_orS ?_ ?_ | refine okW_andS ?_ ?_ | refine okW_minusS ?_ ?_)); done) | omega | rfl), (fun j v hv => List.getElem?_of_mem (by rw [hCs128]; exact List.mem_append.2 (.inr (List.mem_append.2 (.inr (List.mem_append.2 (.inl (blkC_in hv)))))))), trivial⟩ (fun act223 f222 => ?_)
 clear f220
 refine AtH.rd (by kernel_rfl) (fun d v c a w h => by cases d <;> exact h) hS195 [25] [[.cs ((u : List Int).map wV)]] [(43, .agg ((u : List Int).map wV).toArray)] #[true, true, true, true, true, true, true, true, true, true, true, true, true, true, true, true, true, true, true, true, false, false, true, true, false, true, false, false, false, false, false, false, false, false, false, false, false, false, false, false, false, false, false] [(((u : List Int).map wV).length = 4), (∀ (j : Nat) (v : Value), ((u : List Int).map wV)[j]? = some v → ∃ j_ : Nat, Cs127[j_]? = some (((⟨w86.heap.size, 0, none⟩ : Addr).add j), v))] 20 f222 (by kernel_rfl) ⟨(by simp only [List.length_map, List.length_set, List.length_replicate, List.length_cons, List.length_nil]; first | done | assumption | exact from_len _ | exact of_len _ | exact ofZ_len _ | exact (ofW_ok _).1 | exact (fullW_W _).1 | exact (okW_with (by assumption)).1 | exact (okW_less (by assumption)).1 | exact put_len (from_len _) | exact orD_len _ _ | exact andD_len _ _ | exact minusD_len _ _ | exact fullD_len _ | (refine okLen ?_; (repeat (first | assumption | exact ofW_ok _ | exact fullW_W _ | apply okW_with | apply okW_less | refine okW_orS ?_ ?_ | refine okW_andS ?_ ?_ | refine okW_minusS ?_ ?_)); done) | omega | rfl), (fun j v hv => List.getElem?_of_mem (by rw [hCs128]; exact List.mem_append.2 (.inr (List.mem_append.2 (.inr (List.mem_append.2 (.inr (blkC_in hv)))))))), trivial⟩ (fun act225 f224 => ?_)
 clear f222
 refine AtH.all [20] 19 (by kernel_rfl) (by simp) ⟨?_, trivial⟩
 refine OneH.call f224 32 #[.agg ((t : List Int).map wV).toArray, .agg ((u : List Int).map wV).toArray] (some 38) #[true, true, true, true, true, true, true, true, true, true, true, true, true, true, true, true, true, true, true, true, true, false, true, true, false, true, false, false, false, false, false, false, false, false, false, false, false, false, false, false, false, false, false] (by kernel_rfl) (by kernel_rfl) (orS_any (s := t) (t := u) (by repeat (first | assumption | exact ofW_ok _ | exact fullW_W _ | exact wordsD_W _ | exact okW_0 | exact okW_00 | apply okW_orS | apply okW_andS | apply okW_minusS | apply okW_with | apply okW_less | apply okW_or | apply okW_and | apply okW_minus | (apply okW_lit <;> exact ⟨by omega, by omega⟩))) (by repeat (first | assumption | exact ofW_ok _ | exact fullW_W _ | exact wordsD_W _ | exact okW_0 | exact okW_00 | apply okW_orS | apply okW_andS | apply okW_minusS | apply okW_with | apply okW_less | apply okW_or | apply okW_and | apply okW_minus | (apply okW_lit <;> exact ⟨by omega, by omega⟩)))) ?_
 rintro e_ w227 ⟨rfl, he⟩
 refine ⟨_, rfl, _, rfl, fun act228 f229 => ?_⟩
 clear f224
 have g230 := gr_ext he
 have hS226 := hS195.gr g230
 have szw227 := g230.size
 have e231 := e200.gr g230 no_row
 clear e200
 have r232 := r201.gr g230 (fun _ h => by cases h)
 clear r201
 have bx233 := bx202.gr g230 (by simp)
 clear bx202
 have bx234 := bx203.gr g230 (by simp)
 clear bx203
 have bx235 := bx204.gr g230 (by simp)
 clear bx204
 have bx236 := bx205.gr g230 (by simp)
 clear bx205
 have bx237 := bx206.gr g230 (by simp)
 clear bx206
 have bx238 := bx207.gr g230 (by simp)
 clear bx207
 clear g230 he
 refine ⟨hS226, ?_⟩
 refine AtH.all [21] 18 (by kernel_rfl) (by simp) ⟨?_, trivial⟩
 refine OneH.call f229 32 #[.agg ((s : List Int).map wV).toArray, .agg ((orS t u : List Int).map wV).toArray] (some 39) #[true, true, true, true, true, true, true, true, true, true, true, true, true, true, true, true, true, true, true, true, true, true, true, true, false, true, false, false, false, false, false, false, false, false, false, false, false, false, false, false, false, false, false] (by kernel_rfl) (by kernel_rfl) (orS_any (s := s) (t := orS t u) (by repeat (first | assumption | exact ofW_ok _ | exact fullW_W _ | exact wordsD_W _ | exact okW_0 | exact okW_00 | apply okW_orS | apply okW_andS | apply okW_minusS | apply okW_with | apply okW_less | apply okW_or | apply okW_and | apply okW_minus | (apply okW_lit <;> exact ⟨by omega, by omega⟩))) (by repeat (first | assumption | exact ofW_ok _ | exact fullW_W _ | exact wordsD_W _ | exact okW_0 | exact okW_00 | apply okW_orS | apply okW_andS | apply okW_minusS | apply okW_with | apply okW_less | apply okW_or | apply okW_and | apply okW_minus | (apply okW_lit <;> exact ⟨by omega, by omega⟩)))) ?_
 rintro e_ w240 ⟨rfl, he⟩
 refine ⟨_, rfl, _, rfl, fun act241 f242 => ?_⟩
 clear f229
 have g243 := gr_ext he
 have hS239 := hS226.gr g243
 have szw240 := g243.size
 have e244 := e231.gr g243 no_row
 clear e231
 have r245 := r232.gr g243 (fun _ h => by cases h)
 clear r232
 have bx246 := bx233.gr g243 (by simp)
 clear bx233
 have bx247 := bx234.gr g243 (by simp)
 clear bx234
 have bx248 := bx235.gr g243 (by simp)
 clear bx235
 have bx249 := bx236.gr g243 (by simp)
 clear bx236
 have bx250 := bx237.gr g243 (by simp)
 clear bx237
 have bx251 := bx238.gr g243 (by simp)
 clear bx238
 clear g243 he
 refine ⟨hS239, ?_⟩
 refine AtH.all [24] 17 (by kernel_rfl) (by simp) ⟨?_, trivial⟩
 refine OneH.call f242 32 #[.agg ((s : List Int).map wV).toArray, .agg ((t : List Int).map wV).toArray] (some 42) #[true, true, true, true, true, true, true, true, true, true, true, true, true, true, true, true, true, true, true, true, true, true, true, true, true, true, false, false, false, false, false, false, false, false, false, false, false, false, false, false, false, false, false] (by kernel_rfl) (by kernel_rfl) (orS_any (s := s) (t := t) (by repeat (first | assumption | exact ofW_ok _ | exact fullW_W _ | exact wordsD_W _ | exact okW_0 | exact okW_00 | apply okW_orS | apply okW_andS | apply okW_minusS | apply okW_with | apply okW_less | apply okW_or | apply okW_and | apply okW_minus | (apply okW_lit <;> exact ⟨by omega, by omega⟩))) (by repeat (first | assumption | exact ofW_ok _ | exact fullW_W _ | exact wordsD_W _ | exact okW_0 | exact okW_00 | apply okW_orS | apply okW_andS | apply okW_minusS | apply okW_with | apply okW_less | apply okW_or | apply okW_and | apply okW_minus | (apply okW_lit <;> exact ⟨by omega, by omega⟩)))) ?_
 rintro e_ w253 ⟨rfl, he⟩
 refine ⟨_, rfl, _, rfl, fun act254 f255 => ?_⟩
 clear f242
 have g256 := gr_ext he
 have hS252 := hS239.gr g256
 have szw253 := g256.size
 have e257 := e244.gr g256 no_row
 clear e244
 have r258 := r245.gr g256 (fun _ h => by cases h)
 clear r245
 have bx259 := bx246.gr g256 (by simp)
 clear bx246
 have bx260 := bx247.gr g256 (by simp)
 clear bx247
 have bx261 := bx248.gr g256 (by simp)
 clear bx248
 have bx262 := bx249.gr g256 (by simp)
 clear bx249
 have bx263 := bx250.gr g256 (by simp)
 clear bx250
 have bx264 := bx251.gr g256 (by simp)
 clear bx251
 clear g256 he
 refine ⟨hS252, ?_⟩
 refine AtH.all [26] 16 (by kernel_rfl) (by simp) ⟨?_, trivial⟩
 refine OneH.call f255 32 #[.agg ((orS s t : List Int).map wV).toArray, .agg ((u : List Int).map wV).toArray] (some 44) #[true, true, true, true, true, true, true, true, true, true, true, true, true, true, true, true, true, true, true, true, true, true, true, true, true, true, true, false, false, false, false, false, false, false, false, false, false, false, false, false, false, false, false] (by kernel_rfl) (by kernel_rfl) (orS_any (s := orS s t) (t := u) (by repeat (first | assumption | exact ofW_ok _ | exact fullW_W _ | exact wordsD_W _ | exact okW_0 | exact okW_00 | apply okW_orS | apply okW_andS | apply okW_minusS | apply okW_with | apply okW_less | apply okW_or | apply okW_and | apply okW_minus | (apply okW_lit <;> exact ⟨by omega, by omega⟩))) (by repeat (first | assumption | exact ofW_ok _ | exact fullW_W _ | exact wordsD_W _ | exact okW_0 | exact okW_00 | apply okW_orS | apply okW_andS | apply okW_minusS | apply okW_with | apply okW_less | apply okW_or | apply okW_and | apply okW_minus | (apply okW_lit <;> exact ⟨by omega, by omega⟩)))) ?_
 rintro e_ w266 ⟨rfl, he⟩
 refine ⟨_, rfl, _, rfl, fun act267 f268 => ?_⟩
 clear f255
 have g269 := gr_ext he
 have hS265 := hS252.gr g269
 have szw266 := g269.size
 have e270 := e257.gr g269 no_row
 clear e257
 have r271 := r258.gr g269 (fun _ h => by cases h)
 clear r258
 have bx272 := bx259.gr g269 (by simp)
 clear bx259
 have bx273 := bx260.gr g269 (by simp)
 clear bx260
 have bx274 := bx261.gr g269 (by simp)
 clear bx261
 have bx275 := bx262.gr g269 (by simp)
 clear bx262
 have bx276 := bx263.gr g269 (by simp)
 clear bx263
 have bx277 := bx264.gr g269 (by simp)
 clear bx264
 clear g269 he
 refine ⟨hS265, ?_⟩
 refine AtH.rd (by kernel_rfl) (fun d v c a w h => by cases d <;> exact h) hS265 [27] [[.cs [wV (gI (orS s (orS t u)) 0), wV (gI (orS s (orS t u)) 1), wV (gI (orS s (orS t u)) 2), wV (gI (orS s (orS t u)) 3)], .cs [wV (gI (orS (orS s t) u) 0), wV (gI (orS (orS s t) u) 1), wV (gI (orS (orS s t) u) 2), wV (gI (orS (orS s t) u) 3)], .as_ (.bool true)]] [(45, .bool true)] #[true, true, true, true, true, true, true, true, true, true, true, true, true, true, true, true, true, true, true, true, true, true, true, true, true, true, true, true, false, false, false, false, false, false, false, false, false, false, false, false, false, false, false] [(((orS s (orS t u) : List Int).map wV).toArray = ([wV (gI (orS s (orS t u)) 0), wV (gI (orS s (orS t u)) 1), wV (gI (orS s (orS t u)) 2), wV (gI (orS s (orS t u)) 3)] : List Value).toArray), (((orS (orS s t) u : List Int).map wV).toArray = ([wV (gI (orS (orS s t) u) 0), wV (gI (orS (orS s t) u) 1), wV (gI (orS (orS s t) u) 2), wV (gI (orS (orS s t) u) 3)] : List Value).toArray), ((.bool ((((gI (orS s (orS t u)) 0 : Int) == gI (orS (orS s t) u) 0) && (((gI (orS s (orS t u)) 1 : Int) == gI (orS (orS s t) u) 1) && (((gI (orS s (orS t u)) 2 : Int) == gI (orS (orS s t) u) 2) && (((gI (orS s (orS t u)) 3 : Int) == gI (orS (orS s t) u) 3) && true))))) : Value) = .bool true)] 15 f268 (by kernel_rfl) ⟨(map4 (by first | assumption | exact (okW_with (by assumption)).1 | exact (okW_less (by assumption)).1 | exact (ofW_ok _).1 | exact (fullW_W _).1 | (refine okLen ?_; (repeat (first | assumption | exact ofW_ok _ | exact fullW_W _ | apply okW_with | apply okW_less | refine okW_orS ?_ ?_ | refine okW_andS ?_ ?_ | refine okW_minusS ?_ ?_)); done) | rfl | omega | (simp only [List.length_set]; first | done | assumption | omega) | exact lenW4 _ (by assumption))), (map4 (by first | assumption | exact (okW_with (by assumption)).1 | exact (okW_less (by assumption)).1 | exact (ofW_ok _).1 | exact (fullW_W _).1 | (refine okLen ?_; (repeat (first | assumption | exact ofW_ok _ | exact fullW_W _ | apply okW_with | apply okW_less | refine okW_orS ?_ ?_ | refine okW_andS ?_ ?_ | refine okW_minusS ?_ ?_)); done) | rfl | omega | (simp only [List.length_set]; first | done | assumption | omega) | exact lenW4 _ (by assumption))), (Eq.trans (b := (.bool (decide ((orS s (orS t u) : List Int) = (orS (orS s t) u))) : Value)) (congrArg (fun b => Value.bool b) (w4_eq (by first | assumption | exact (okW_with (by assumption)).1 | exact (okW_less (by assumption)).1 | exact (ofW_ok _).1 | exact (fullW_W _).1 | (refine okLen ?_; (repeat (first | assumption | exact ofW_ok _ | exact fullW_W _ | apply okW_with | apply okW_less | refine okW_orS ?_ ?_ | refine okW_andS ?_ ?_ | refine okW_minusS ?_ ?_)); done) | rfl | omega | (simp only [List.length_set]; first | done | assumption | omega) | exact lenW4 _ (by assumption)) (by first | assumption | exact (okW_with (by assumption)).1 | exact (okW_less (by assumption)).1 | exact (ofW_ok _).1 | exact (fullW_W _).1 | (refine okLen ?_; (repeat (first | assumption | exact ofW_ok _ | exact fullW_W _ | apply okW_with | apply okW_less | refine okW_orS ?_ ?_ | refine okW_andS ?_ ?_ | refine okW_minusS ?_ ?_)); done) | rfl | omega | (simp only [List.length_set]; first | done | assumption | omega) | exact lenW4 _ (by assumption)))) (congrArg Value.bool (alg3 hs ht hu))), trivial⟩ (fun act279 f278 => ?_)
 clear f268
 refine AtH.rd (by kernel_rfl) (fun d v c a w h => by cases d <;> exact h) hS265 [28] [[]] [(46, .bool true)] #[true, true, true, true, true, true, true, true, true, true, true, true, true, true, true, true, true, true, true, true, true, true, true, true, true, true, true, true, true, false, false, false, false, false, false, false, false, false, false, false, false, false, false] [] 14 f278 (by kernel_rfl) trivial (fun act281 f280 => ?_)
 clear f278
 refine AtH.rd (by kernel_rfl) (fun d v c a w h => by cases d <;> exact h) hS265 [29] [[]] [(47, .bool true)] #[true, true, true, true, true, true, true, true, true, true, true, true, true, true, true, true, true, true, true, true, true, true, true, true, true, true, true, true, true, true, false, false, false, false, false, false, false, false, false, false, false, false, false] [] 13 f280 (by kernel_rfl) trivial (fun act283 f282 => ?_)
 clear f280
 refine AtH.rd (by kernel_rfl) (fun d v c a w h => by cases d <;> exact h) hS265 [30] [[.cs ((s : List Int).map wV)]] [(48, .agg ((s : List Int).map wV).toArray)] #[true, true, true, true, true, true, true, true, true, true, true, true, true, true, true, true, true, true, true, true, true, true, true, true, true, true, true, true, true, true, true, false, false, false, false, false, false, false, false, false, false, false, false] [(((s : List Int).map wV).length = 4), (∀ (j : Nat) (v : Value), ((s : List Int).map wV)[j]? = some v → ∃ j_ : Nat, Cs127[j_]? = some (((⟨w34.heap.size, 0, none⟩ : Addr).add j), v))] 12 f282 (by kernel_rfl) ⟨(by simp only [List.length_map, List.length_set, List.length_replicate, List.length_cons, List.length_nil]; first | done | assumption | exact from_len _ | exact of_len _ | exact ofZ_len _ | exact (ofW_ok _).1 | exact (fullW_W _).1 | exact (okW_with (by assumption)).1 | exact (okW_less (by assumption)).1 | exact put_len (from_len _) | exact orD_len _ _ | exact andD_len _ _ | exact minusD_len _ _ | exact fullD_len _ | (refine okLen ?_; (repeat (first | assumption | exact ofW_ok _ | exact fullW_W _ | apply okW_with | apply okW_less | refine okW_orS ?_ ?_ | refine okW_andS ?_ ?_ | refine okW_minusS ?_ ?_)); done) | omega | rfl), (fun j v hv => List.getElem?_of_mem (by rw [hCs128]; exact List.mem_append.2 (.inr (List.mem_append.2 (.inl (blkC_in hv)))))), trivial⟩ (fun act285 f284 => ?_)
 clear f282
 refine AtH.rd (by kernel_rfl) (fun d v c a w h => by cases d <;> exact h) hS265 [31] [[.cs ((t : List Int).map wV)]] [(49, .agg ((t : List Int).map wV).toArray)] #[true, true, true, true, true, true, true, true, true, true, true, true, true, true, true, true, true, true, true, true, true, true, true, true, true, true, true, true, true, true, true, true, false, false, false, false, false, false, false, false, false, false, false] [(((t : List Int).map wV).length = 4), (∀ (j : Nat) (v : Value), ((t : List Int).map wV)[j]? = some v → ∃ j_ : Nat, Cs127[j_]? = some (((⟨w60.heap.size, 0, none⟩ : Addr).add j), v))] 11 f284 (by kernel_rfl) ⟨(by simp only [List.length_map, List.length_set, List.length_replicate, List.length_cons, List.length_nil]; first | done | assumption | exact from_len _ | exact of_len _ | exact ofZ_len _ | exact (ofW_ok _).1 | exact (fullW_W _).1 | exact (okW_with (by assumption)).1 | exact (okW_less (by assumption)).1 | exact put_len (from_len _) | exact orD_len _ _ | exact andD_len _ _ | exact minusD_len _ _ | exact fullD_len _ | (refine okLen ?_; (repeat (first | assumption | exact ofW_ok _ | exact fullW_W _ | apply okW_with | apply okW_less | refine okW_orS ?_ ?_ | refine okW_andS ?_ ?_ | refine okW_minusS ?_ ?_)); done) | omega | rfl), (fun j v hv => List.getElem?_of_mem (by rw [hCs128]; exact List.mem_append.2 (.inr (List.mem_append.2 (.inr (List.mem_append.2 (.inl (blkC_in hv)))))))), trivial⟩ (fun act287 f286 => ?_)
 clear f284
 refine AtH.rd (by kernel_rfl) (fun d v c a w h => by cases d <;> exact h) hS265 [32] [[.cs ((u : List Int).map wV)]] [(50, .agg ((u : List Int).map wV).toArray)] #[true, true, true, true, true, true, true, true, true, true, true, true, true, true, true, true, true, true, true, true, true, true, true, true, true, true, true, true, true, true, true, true, true, false, false, false, false, false, false, false, false, false, false] [(((u : List Int).map wV).length = 4), (∀ (j : Nat) (v : Value), ((u : List Int).map wV)[j]? = some v → ∃ j_ : Nat, Cs127[j_]? = some (((⟨w86.heap.size, 0, none⟩ : Addr).add j), v))] 10 f286 (by kernel_rfl) ⟨(by simp only [List.length_map, List.length_set, List.length_replicate, List.length_cons, List.length_nil]; first | done | assumption | exact from_len _ | exact of_len _ | exact ofZ_len _ | exact (ofW_ok _).1 | exact (fullW_W _).1 | exact (okW_with (by assumption)).1 | exact (okW_less (by assumption)).1 | exact put_len (from_len _) | exact orD_len _ _ | exact andD_len _ _ | exact minusD_len _ _ | exact fullD_len _ | (refine okLen ?_; (repeat (first | assumption | exact ofW_ok _ | exact fullW_W _ | apply okW_with | apply okW_less | refine okW_orS ?_ ?_ | refine okW_andS ?_ ?_ | refine okW_minusS ?_ ?_)); done) | omega | rfl), (fun j v hv => List.getElem?_of_mem (by rw [hCs128]; exact List.mem_append.2 (.inr (List.mem_append.2 (.inr (List.mem_append.2 (.inr (blkC_in hv)))))))), trivial⟩ (fun act289 f288 => ?_)
 clear f286
 refine AtH.rd (by kernel_rfl) (fun d v c a w h => by cases d <;> exact h) hS265 [35] [[.cs ((s : List Int).map wV)]] [(53, .agg ((s : List Int).map wV).toArray)] #[true, true, true, true, true, true, true, true, true, true, true, true, true, true, true, true, true, true, true, true, true, true, true, true, true, true, true, true, true, true, true, true, true, false, false, true, false, false, false, false, false, false, false] [(((s : List Int).map wV).length = 4), (∀ (j : Nat) (v : Value), ((s : List Int).map wV)[j]? = some v → ∃ j_ : Nat, Cs127[j_]? = some (((⟨w34.heap.size, 0, none⟩ : Addr).add j), v))] 9 f288 (by kernel_rfl) ⟨(by simp only [List.length_map, List.length_set, List.length_replicate, List.length_cons, List.length_nil]; first | done | assumption | exact from_len _ | exact of_len _ | exact ofZ_len _ | exact (ofW_ok _).1 | exact (fullW_W _).1 | exact (okW_with (by assumption)).1 | exact (okW_less (by assumption)).1 | exact put_len (from_len _) | exact orD_len _ _ | exact andD_len _ _ | exact minusD_len _ _ | exact fullD_len _ | (refine okLen ?_; (repeat (first | assumption | exact ofW_ok _ | exact fullW_W _ | apply okW_with | apply okW_less | refine okW_orS ?_ ?_ | refine okW_andS ?_ ?_ | refine okW_minusS ?_ ?_)); done) | omega | rfl), (fun j v hv => List.getElem?_of_mem (by rw [hCs128]; exact List.mem_append.2 (.inr (List.mem_append.2 (.inl (blkC_in hv)))))), trivial⟩ (fun act291 f290 => ?_)
 clear f288
 refine AtH.rd (by kernel_rfl) (fun d v c a w h => by cases d <;> exact h) hS265 [36] [[.cs ((t : List Int).map wV)]] [(54, .agg ((t : List Int).map wV).toArray)] #[true, true, true, true, true, true, true, true, true, true, true, true, true, true, true, true, true, true, true, true, true, true, true, true, true, true, true, true, true, true, true, true, true, false, false, true, true, false, false, false, false, false, false] [(((t : List Int).map wV).length = 4), (∀ (j : Nat) (v : Value), ((t : List Int).map wV)[j]? = some v → ∃ j_ : Nat, Cs127[j_]? = some (((⟨w60.heap.size, 0, none⟩ : Addr).add j), v))] 8 f290 (by kernel_rfl) ⟨(by simp only [List.length_map, List.length_set, List.length_replicate, List.length_cons, List.length_nil]; first | done | assumption | exact from_len _ | exact of_len _ | exact ofZ_len _ | exact (ofW_ok _).1 | exact (fullW_W _).1 | exact (okW_with (by assumption)).1 | exact (okW_less (by assumption)).1 | exact put_len (from_len _) | exact orD_len _ _ | exact andD_len _ _ | exact minusD_len _ _ | exact fullD_len _ | (refine okLen ?_; (repeat (first | assumption | exact ofW_ok _ | exact fullW_W _ | apply okW_with | apply okW_less | refine okW_orS ?_ ?_ | refine okW_andS ?_ ?_ | refine okW_minusS ?_ ?_)); done) | omega | rfl), (fun j v hv => List.getElem?_of_mem (by rw [hCs128]; exact List.mem_append.2 (.inr (List.mem_append.2 (.inr (List.mem_append.2 (.inl (blkC_in hv)))))))), trivial⟩ (fun act293 f292 => ?_)
 clear f290
 refine AtH.rd (by kernel_rfl) (fun d v c a w h => by cases d <;> exact h) hS265 [38] [[.cs ((u : List Int).map wV)]] [(56, .agg ((u : List Int).map wV).toArray)] #[true, true, true, true, true, true, true, true, true, true, true, true, true, true, true, true, true, true, true, true, true, true, true, true, true, true, true, true, true, true, true, true, true, false, false, true, true, false, true, false, false, false, false] [(((u : List Int).map wV).length = 4), (∀ (j : Nat) (v : Value), ((u : List Int).map wV)[j]? = some v → ∃ j_ : Nat, Cs127[j_]? = some (((⟨w86.heap.size, 0, none⟩ : Addr).add j), v))] 7 f292 (by kernel_rfl) ⟨(by simp only [List.length_map, List.length_set, List.length_replicate, List.length_cons, List.length_nil]; first | done | assumption | exact from_len _ | exact of_len _ | exact ofZ_len _ | exact (ofW_ok _).1 | exact (fullW_W _).1 | exact (okW_with (by assumption)).1 | exact (okW_less (by assumption)).1 | exact put_len (from_len _) | exact orD_len _ _ | exact andD_len _ _ | exact minusD_len _ _ | exact fullD_len _ | (refine okLen ?_; (repeat (first | assumption | exact ofW_ok _ | exact fullW_W _ | apply okW_with | apply okW_less | refine okW_orS ?_ ?_ | refine okW_andS ?_ ?_ | refine okW_minusS ?_ ?_)); done) | omega | rfl), (fun j v hv => List.getElem?_of_mem (by rw [hCs128]; exact List.mem_append.2 (.inr (List.mem_append.2 (.inr (List.mem_append.2 (.inr (blkC_in hv)))))))), trivial⟩ (fun act295 f294 => ?_)
 clear f292
 refine AtH.all [33] 6 (by kernel_rfl) (by simp) ⟨?_, trivial⟩
 refine OneH.call f294 35 #[.agg ((t : List Int).map wV).toArray, .agg ((u : List Int).map wV).toArray] (some 51) #[true, true, true, true, true, true, true, true, true, true, true, true, true, true, true, true, true, true, true, true, true, true, true, true, true, true, true, true, true, true, true, true, true, true, false, true, true, false, true, false, false, false, false] (by kernel_rfl) (by kernel_rfl) (andS_any (s := t) (t := u) (by repeat (first | assumption | exact ofW_ok _ | exact fullW_W _ | exact wordsD_W _ | exact okW_0 | exact okW_00 | apply okW_orS | apply okW_andS | apply okW_minusS | apply okW_with | apply okW_less | apply okW_or | apply okW_and | apply okW_minus | (apply okW_lit <;> exact ⟨by omega, by omega⟩))) (by repeat (first | assumption | exact ofW_ok _ | exact fullW_W _ | exact wordsD_W _ | exact okW_0 | exact okW_00 | apply okW_orS | apply okW_andS | apply okW_minusS | apply okW_with | apply okW_less | apply okW_or | apply okW_and | apply okW_minus | (apply okW_lit <;> exact ⟨by omega, by omega⟩)))) ?_
 rintro e_ w297 ⟨rfl, he⟩
 refine ⟨_, rfl, _, rfl, fun act298 f299 => ?_⟩
 clear f294
 have g300 := gr_ext he
 have hS296 := hS265.gr g300
 have szw297 := g300.size
 have e301 := e270.gr g300 no_row
 clear e270
 have r302 := r271.gr g300 (fun _ h => by cases h)
 clear r271
 have bx303 := bx272.gr g300 (by simp)
 clear bx272
 have bx304 := bx273.gr g300 (by simp)
 clear bx273
 have bx305 := bx274.gr g300 (by simp)
 clear bx274
 have bx306 := bx275.gr g300 (by simp)
 clear bx275
 have bx307 := bx276.gr g300 (by simp)
 clear bx276
 have bx308 := bx277.gr g300 (by simp)
 clear bx277
 clear g300 he
 refine ⟨hS296, ?_⟩
 refine AtH.all [34] 5 (by kernel_rfl) (by simp) ⟨?_, trivial⟩
 refine OneH.call f299 35 #[.agg ((s : List Int).map wV).toArray, .agg ((andS t u : List Int).map wV).toArray] (some 52) #[true, true, true, true, true, true, true, true, true, true, true, true, true, true, true, true, true, true, true, true, true, true, true, true, true, true, true, true, true, true, true, true, true, true, true, true, true, false, true, false, false, false, false] (by kernel_rfl) (by kernel_rfl) (andS_any (s := s) (t := andS t u) (by repeat (first | assumption | exact ofW_ok _ | exact fullW_W _ | exact wordsD_W _ | exact okW_0 | exact okW_00 | apply okW_orS | apply okW_andS | apply okW_minusS | apply okW_with | apply okW_less | apply okW_or | apply okW_and | apply okW_minus | (apply okW_lit <;> exact ⟨by omega, by omega⟩))) (by repeat (first | assumption | exact ofW_ok _ | exact fullW_W _ | exact wordsD_W _ | exact okW_0 | exact okW_00 | apply okW_orS | apply okW_andS | apply okW_minusS | apply okW_with | apply okW_less | apply okW_or | apply okW_and | apply okW_minus | (apply okW_lit <;> exact ⟨by omega, by omega⟩)))) ?_
 rintro e_ w310 ⟨rfl, he⟩
 refine ⟨_, rfl, _, rfl, fun act311 f312 => ?_⟩
 clear f299
 have g313 := gr_ext he
 have hS309 := hS296.gr g313
 have szw310 := g313.size
 have e314 := e301.gr g313 no_row
 clear e301
 have r315 := r302.gr g313 (fun _ h => by cases h)
 clear r302
 have bx316 := bx303.gr g313 (by simp)
 clear bx303
 have bx317 := bx304.gr g313 (by simp)
 clear bx304
 have bx318 := bx305.gr g313 (by simp)
 clear bx305
 have bx319 := bx306.gr g313 (by simp)
 clear bx306
 have bx320 := bx307.gr g313 (by simp)
 clear bx307
 have bx321 := bx308.gr g313 (by simp)
 clear bx308
 clear g313 he
 refine ⟨hS309, ?_⟩
 refine AtH.all [37] 4 (by kernel_rfl) (by simp) ⟨?_, trivial⟩
 refine OneH.call f312 35 #[.agg ((s : List Int).map wV).toArray, .agg ((t : List Int).map wV).toArray] (some 55) #[true, true, true, true, true, true, true, true, true, true, true, true, true, true, true, true, true, true, true, true, true, true, true, true, true, true, true, true, true, true, true, true, true, true, true, true, true, true, true, false, false, false, false] (by kernel_rfl) (by kernel_rfl) (andS_any (s := s) (t := t) (by repeat (first | assumption | exact ofW_ok _ | exact fullW_W _ | exact wordsD_W _ | exact okW_0 | exact okW_00 | apply okW_orS | apply okW_andS | apply okW_minusS | apply okW_with | apply okW_less | apply okW_or | apply okW_and | apply okW_minus | (apply okW_lit <;> exact ⟨by omega, by omega⟩))) (by repeat (first | assumption | exact ofW_ok _ | exact fullW_W _ | exact wordsD_W _ | exact okW_0 | exact okW_00 | apply okW_orS | apply okW_andS | apply okW_minusS | apply okW_with | apply okW_less | apply okW_or | apply okW_and | apply okW_minus | (apply okW_lit <;> exact ⟨by omega, by omega⟩)))) ?_
 rintro e_ w323 ⟨rfl, he⟩
 refine ⟨_, rfl, _, rfl, fun act324 f325 => ?_⟩
 clear f312
 have g326 := gr_ext he
 have hS322 := hS309.gr g326
 have szw323 := g326.size
 have e327 := e314.gr g326 no_row
 clear e314
 have r328 := r315.gr g326 (fun _ h => by cases h)
 clear r315
 have bx329 := bx316.gr g326 (by simp)
 clear bx316
 have bx330 := bx317.gr g326 (by simp)
 clear bx317
 have bx331 := bx318.gr g326 (by simp)
 clear bx318
 have bx332 := bx319.gr g326 (by simp)
 clear bx319
 have bx333 := bx320.gr g326 (by simp)
 clear bx320
 have bx334 := bx321.gr g326 (by simp)
 clear bx321
 clear g326 he
 refine ⟨hS322, ?_⟩
 refine AtH.all [39] 3 (by kernel_rfl) (by simp) ⟨?_, trivial⟩
 refine OneH.call f325 35 #[.agg ((andS s t : List Int).map wV).toArray, .agg ((u : List Int).map wV).toArray] (some 57) #[true, true, true, true, true, true, true, true, true, true, true, true, true, true, true, true, true, true, true, true, true, true, true, true, true, true, true, true, true, true, true, true, true, true, true, true, true, true, true, true, false, false, false] (by kernel_rfl) (by kernel_rfl) (andS_any (s := andS s t) (t := u) (by repeat (first | assumption | exact ofW_ok _ | exact fullW_W _ | exact wordsD_W _ | exact okW_0 | exact okW_00 | apply okW_orS | apply okW_andS | apply okW_minusS | apply okW_with | apply okW_less | apply okW_or | apply okW_and | apply okW_minus | (apply okW_lit <;> exact ⟨by omega, by omega⟩))) (by repeat (first | assumption | exact ofW_ok _ | exact fullW_W _ | exact wordsD_W _ | exact okW_0 | exact okW_00 | apply okW_orS | apply okW_andS | apply okW_minusS | apply okW_with | apply okW_less | apply okW_or | apply okW_and | apply okW_minus | (apply okW_lit <;> exact ⟨by omega, by omega⟩)))) ?_
 rintro e_ w336 ⟨rfl, he⟩
 refine ⟨_, rfl, _, rfl, fun act337 f338 => ?_⟩
 clear f325
 have g339 := gr_ext he
 have hS335 := hS322.gr g339
 have szw336 := g339.size
 have e340 := e327.gr g339 no_row
 clear e327
 have r341 := r328.gr g339 (fun _ h => by cases h)
 clear r328
 have bx342 := bx329.gr g339 (by simp)
 clear bx329
 have bx343 := bx330.gr g339 (by simp)
 clear bx330
 have bx344 := bx331.gr g339 (by simp)
 clear bx331
 have bx345 := bx332.gr g339 (by simp)
 clear bx332
 have bx346 := bx333.gr g339 (by simp)
 clear bx333
 have bx347 := bx334.gr g339 (by simp)
 clear bx334
 clear g339 he
 refine ⟨hS335, ?_⟩
 refine AtH.rd (by kernel_rfl) (fun d v c a w h => by cases d <;> exact h) hS335 [40] [[.cs [wV (gI (andS s (andS t u)) 0), wV (gI (andS s (andS t u)) 1), wV (gI (andS s (andS t u)) 2), wV (gI (andS s (andS t u)) 3)], .cs [wV (gI (andS (andS s t) u) 0), wV (gI (andS (andS s t) u) 1), wV (gI (andS (andS s t) u) 2), wV (gI (andS (andS s t) u) 3)], .as_ (.bool true)]] [(58, .bool true)] #[true, true, true, true, true, true, true, true, true, true, true, true, true, true, true, true, true, true, true, true, true, true, true, true, true, true, true, true, true, true, true, true, true, true, true, true, true, true, true, true, true, false, false] [(((andS s (andS t u) : List Int).map wV).toArray = ([wV (gI (andS s (andS t u)) 0), wV (gI (andS s (andS t u)) 1), wV (gI (andS s (andS t u)) 2), wV (gI (andS s (andS t u)) 3)] : List Value).toArray), (((andS (andS s t) u : List Int).map wV).toArray = ([wV (gI (andS (andS s t) u) 0), wV (gI (andS (andS s t) u) 1), wV (gI (andS (andS s t) u) 2), wV (gI (andS (andS s t) u) 3)] : List Value).toArray), ((.bool ((((gI (andS s (andS t u)) 0 : Int) == gI (andS (andS s t) u) 0) && (((gI (andS s (andS t u)) 1 : Int) == gI (andS (andS s t) u) 1) && (((gI (andS s (andS t u)) 2 : Int) == gI (andS (andS s t) u) 2) && (((gI (andS s (andS t u)) 3 : Int) == gI (andS (andS s t) u) 3) && true))))) : Value) = .bool true)] 2 f338 (by kernel_rfl) ⟨(map4 (by first | assumption | exact (okW_with (by assumption)).1 | exact (okW_less (by assumption)).1 | exact (ofW_ok _).1 | exact (fullW_W _).1 | (refine okLen ?_; (repeat (first | assumption | exact ofW_ok _ | exact fullW_W _ | apply okW_with | apply okW_less | refine okW_orS ?_ ?_ | refine okW_andS ?_ ?_ | refine okW_minusS ?_ ?_)); done) | rfl | omega | (simp only [List.length_set]; first | done | assumption | omega) | exact lenW4 _ (by assumption))), (map4 (by first | assumption | exact (okW_with (by assumption)).1 | exact (okW_less (by assumption)).1 | exact (ofW_ok _).1 | exact (fullW_W _).1 | (refine okLen ?_; (repeat (first | assumption | exact ofW_ok _ | exact fullW_W _ | apply okW_with | apply okW_less | refine okW_orS ?_ ?_ | refine okW_andS ?_ ?_ | refine okW_minusS ?_ ?_)); done) | rfl | omega | (simp only [List.length_set]; first | done | assumption | omega) | exact lenW4 _ (by assumption))), (Eq.trans (b := (.bool (decide ((andS s (andS t u) : List Int) = (andS (andS s t) u))) : Value)) (congrArg (fun b => Value.bool b) (w4_eq (by first | assumption | exact (okW_with (by assumption)).1 | exact (okW_less (by assumption)).1 | exact (ofW_ok _).1 | exact (fullW_W _).1 | (refine okLen ?_; (repeat (first | assumption | exact ofW_ok _ | exact fullW_W _ | apply okW_with | apply okW_less | refine okW_orS ?_ ?_ | refine okW_andS ?_ ?_ | refine okW_minusS ?_ ?_)); done) | rfl | omega | (simp only [List.length_set]; first | done | assumption | omega) | exact lenW4 _ (by assumption)) (by first | assumption | exact (okW_with (by assumption)).1 | exact (okW_less (by assumption)).1 | exact (ofW_ok _).1 | exact (fullW_W _).1 | (refine okLen ?_; (repeat (first | assumption | exact ofW_ok _ | exact fullW_W _ | apply okW_with | apply okW_less | refine okW_orS ?_ ?_ | refine okW_andS ?_ ?_ | refine okW_minusS ?_ ?_)); done) | rfl | omega | (simp only [List.length_set]; first | done | assumption | omega) | exact lenW4 _ (by assumption)))) (congrArg Value.bool (alg4 hs ht hu))), trivial⟩ (fun act349 f348 => ?_)
 clear f338
 refine AtH.rd (by kernel_rfl) (fun d v c a w h => by cases d <;> exact h) hS335 [41] [[]] [(59, .bool true)] #[true, true, true, true, true, true, true, true, true, true, true, true, true, true, true, true, true, true, true, true, true, true, true, true, true, true, true, true, true, true, true, true, true, true, true, true, true, true, true, true, true, true, false] [] 1 f348 (by kernel_rfl) trivial (fun act351 f350 => ?_)
 clear f348
 refine AtH.rd (by kernel_rfl) (fun d v c a w h => by cases d <;> exact h) hS335 [42] [[]] [(11, .bool true)] #[true, true, true, true, true, true, true, true, true, true, true, true, true, true, true, true, true, true, true, true, true, true, true, true, true, true, true, true, true, true, true, true, true, true, true, true, true, true, true, true, true, true, true] [] 0 f350 (by kernel_rfl) trivial (fun act353 f352 => ?_)
 clear f350
 refine AtH.done (by kernel_rfl) ?_
 clear hS335
 refine t_n ?_
 have f354 := f352.sub (r := [(11, .bool true), (10, .pointer (some ⟨w86.heap.size, 0, none⟩)), (9, .pointer (some ⟨w60.heap.size, 0, none⟩)), (8, .pointer (some ⟨w34.heap.size, 0, none⟩)), (7, .bool true)]) ⟨rfl, rfl, rfl, rfl, rfl, trivial⟩
 clear f352
 refine wp_seq ?_
 obtain ⟨Cs355, hCs356⟩ : ∃ c : List (Addr × Value), c = ([] : List (Addr × Value)) ++ (blkC (w34.heap.size) ((s : List Int).map wV) ++ (blkC (w60.heap.size) ((t : List Int).map wV) ++ blkC (w86.heap.size) ((u : List Int).map wV))) := ⟨_, rfl⟩
 have hS357 : HoldsC Cs355 w336 := by rw [hCs356]; exact (holdsA (show HoldsC [] w336 from trivial) (holdsA (holds_blk bx345) (holdsA (holds_blk bx346) (holds_blk bx347))))
 refine AtH.start Cs355 47 #[false, false, false, false, false, false, false, false, false, false, false, false, false, false, false, false, false, false, false, false, false, false, false, false, false, false, false, false, false, false, false, false, false, false, false, false, false, false, false, false, false, false, false, false, false, false, false] (by kernel_rfl) rfl rfl (fun w359 hw360 => ?_)
 have g358 := gr_drew hw360
 have hS361 := hS357.gr g358
 have szw359 := g358.size
 have e362 := e340.gr g358 no_row
 clear e340
 have r363 := r341.gr g358 (fun _ h => by cases h)
 clear r341
 have bx364 := bx342.gr g358 (by simp)
 clear bx342
 have bx365 := bx343.gr g358 (by simp)
 clear bx343
 have bx366 := bx344.gr g358 (by simp)
 clear bx344
 have bx367 := bx345.gr g358 (by simp)
 clear bx345
 have bx368 := bx346.gr g358 (by simp)
 clear bx346
 have bx369 := bx347.gr g358 (by simp)
 clear bx347
 clear g358 hw360 hS357
 refine AtH.rd (by kernel_rfl) (fun d v c a w h => by cases d <;> exact h) hS361 [0, 1, 2, 5, 6, 8, 9] [[.cs ((s : List Int).map wV)], [.cs ((t : List Int).map wV)], [.cs ((u : List Int).map wV)], [.cs ((s : List Int).map wV)], [.cs ((t : List Int).map wV)], [.cs ((s : List Int).map wV)], [.cs ((u : List Int).map wV)]] [(69, .agg ((u : List Int).map wV).toArray), (68, .agg ((s : List Int).map wV).toArray), (66, .agg ((t : List Int).map wV).toArray), (65, .agg ((s : List Int).map wV).toArray), (62, .agg ((u : List Int).map wV).toArray), (61, .agg ((t : List Int).map wV).toArray), (60, .agg ((s : List Int).map wV).toArray)] #[true, true, true, false, false, true, true, false, true, true, false, false, false, false, false, false, false, false, false, false, false, false, false, false, false, false, false, false, false, false, false, false, false, false, false, false, false, false, false, false, false, false, false, false, false, false, false] [(((s : List Int).map wV).length = 4), (∀ (j : Nat) (v : Value), ((s : List Int).map wV)[j]? = some v → ∃ j_ : Nat, Cs355[j_]? = some (((⟨w34.heap.size, 0, none⟩ : Addr).add j), v)), (((t : List Int).map wV).length = 4), (∀ (j : Nat) (v : Value), ((t : List Int).map wV)[j]? = some v → ∃ j_ : Nat, Cs355[j_]? = some (((⟨w60.heap.size, 0, none⟩ : Addr).add j), v)), (((u : List Int).map wV).length = 4), (∀ (j : Nat) (v : Value), ((u : List Int).map wV)[j]? = some v → ∃ j_ : Nat, Cs355[j_]? = some (((⟨w86.heap.size, 0, none⟩ : Addr).add j), v)), (((s : List Int).map wV).length = 4), (∀ (j : Nat) (v : Value), ((s : List Int).map wV)[j]? = some v → ∃ j_ : Nat, Cs355[j_]? = some (((⟨w34.heap.size, 0, none⟩ : Addr).add j), v)), (((t : List Int).map wV).length = 4), (∀ (j : Nat) (v : Value), ((t : List Int).map wV)[j]? = some v → ∃ j_ : Nat, Cs355[j_]? = some (((⟨w60.heap.size, 0, none⟩ : Addr).add j), v)), (((s : List Int).map wV).length = 4), (∀ (j : Nat) (v : Value), ((s : List Int).map wV)[j]? = some v → ∃ j_ : Nat, Cs355[j_]? = some (((⟨w34.heap.size, 0, none⟩ : Addr).add j), v)), (((u : List Int).map wV).length = 4), (∀ (j : Nat) (v : Value), ((u : List Int).map wV)[j]? = some v → ∃ j_ : Nat, Cs355[j_]? = some (((⟨w86.heap.size, 0, none⟩ : Addr).add j), v))] 40 f354 (by kernel_rfl) ⟨(by simp only [List.length_map, List.length_set, List.length_replicate, List.length_cons, List.length_nil]; first | done | assumption | exact from_len _ | exact of_len _ | exact ofZ_len _ | exact (ofW_ok _).1 | exact (fullW_W _).1 | exact (okW_with (by assumption)).1 | exact (okW_less (by assumption)).1 | exact put_len (from_len _) | exact orD_len _ _ | exact andD_len _ _ | exact minusD_len _ _ | exact fullD_len _ | (refine okLen ?_; (repeat (first | assumption | exact ofW_ok _ | exact fullW_W _ | apply okW_with | apply okW_less | refine okW_orS ?_ ?_ | refine okW_andS ?_ ?_ | refine okW_minusS ?_ ?_)); done) | omega | rfl), (fun j v hv => List.getElem?_of_mem (by rw [hCs356]; exact List.mem_append.2 (.inr (List.mem_append.2 (.inl (blkC_in hv)))))), (by simp only [List.length_map, List.length_set, List.length_replicate, List.length_cons, List.length_nil]; first | done | assumption | exact from_len _ | exact of_len _ | exact ofZ_len _ | exact (ofW_ok _).1 | exact (fullW_W _).1 | exact (okW_with (by assumption)).1 | exact (okW_less (by assumption)).1 | exact put_len (from_len _) | exact orD_len _ _ | exact andD_len _ _ | exact minusD_len _ _ | exact fullD_len _ | (refine okLen ?_; (repeat (first | assumption | exact ofW_ok _ | exact fullW_W _ | apply okW_with | apply okW_less | refine okW_orS ?_ ?_ | refine okW_andS ?_ ?_ | refine okW_minusS ?_ ?_)); done) | omega | rfl), (fun j v hv => List.getElem?_of_mem (by rw [hCs356]; exact List.mem_append.2 (.inr (List.mem_append.2 (.inr (List.mem_append.2 (.inl (blkC_in hv)))))))), (by simp only [List.length_map, List.length_set, List.length_replicate, List.length_cons, List.length_nil]; first | done | assumption | exact from_len _ | exact of_len _ | exact ofZ_len _ | exact (ofW_ok _).1 | exact (fullW_W _).1 | exact (okW_with (by assumption)).1 | exact (okW_less (by assumption)).1 | exact put_len (from_len _) | exact orD_len _ _ | exact andD_len _ _ | exact minusD_len _ _ | exact fullD_len _ | (refine okLen ?_; (repeat (first | assumption | exact ofW_ok _ | exact fullW_W _ | apply okW_with | apply okW_less | refine okW_orS ?_ ?_ | refine okW_andS ?_ ?_ | refine okW_minusS ?_ ?_)); done) | omega | rfl), (fun j v hv => List.getElem?_of_mem (by rw [hCs356]; exact List.mem_append.2 (.inr (List.mem_append.2 (.inr (List.mem_append.2 (.inr (blkC_in hv)))))))), (by simp only [List.length_map, List.length_set, List.length_replicate, List.length_cons, List.length_nil]; first | done | assumption | exact from_len _ | exact of_len _ | exact ofZ_len _ | exact (ofW_ok _).1 | exact (fullW_W _).1 | exact (okW_with (by assumption)).1 | exact (okW_less (by assumption)).1 | exact put_len (from_len _) | exact orD_len _ _ | exact andD_len _ _ | exact minusD_len _ _ | exact fullD_len _ | (refine okLen ?_; (repeat (first | assumption | exact ofW_ok _ | exact fullW_W _ | apply okW_with | apply okW_less | refine okW_orS ?_ ?_ | refine okW_andS ?_ ?_ | refine okW_minusS ?_ ?_)); done) | omega | rfl), (fun j v hv => List.getElem?_of_mem (by rw [hCs356]; exact List.mem_append.2 (.inr (List.mem_append.2 (.inl (blkC_in hv)))))), (by simp only [List.length_map, List.length_set, List.length_replicate, List.length_cons, List.length_nil]; first | done | assumption | exact from_len _ | exact of_len _ | exact ofZ_len _ | exact (ofW_ok _).1 | exact (fullW_W _).1 | exact (okW_with (by assumption)).1 | exact (okW_less (by assumption)).1 | exact put_len (from_len _) | exact orD_len _ _ | exact andD_len _ _ | exact minusD_len _ _ | exact fullD_len _ | (refine okLen ?_; (repeat (first | assumption | exact ofW_ok _ | exact fullW_W _ | apply okW_with | apply okW_less | refine okW_orS ?_ ?_ | refine okW_andS ?_ ?_ | refine okW_minusS ?_ ?_)); done) | omega | rfl), (fun j v hv => List.getElem?_of_mem (by rw [hCs356]; exact List.mem_append.2 (.inr (List.mem_append.2 (.inr (List.mem_append.2 (.inl (blkC_in hv)))))))), (by simp only [List.length_map, List.length_set, List.length_replicate, List.length_cons, List.length_nil]; first | done | assumption | exact from_len _ | exact of_len _ | exact ofZ_len _ | exact (ofW_ok _).1 | exact (fullW_W _).1 | exact (okW_with (by assumption)).1 | exact (okW_less (by assumption)).1 | exact put_len (from_len _) | exact orD_len _ _ | exact andD_len _ _ | exact minusD_len _ _ | exact fullD_len _ | (refine okLen ?_; (repeat (first | assumption | exact ofW_ok _ | exact fullW_W _ | apply okW_with | apply okW_less | refine okW_orS ?_ ?_ | refine okW_andS ?_ ?_ | refine okW_minusS ?_ ?_)); done) | omega | rfl), (fun j v hv => List.getElem?_of_mem (by rw [hCs356]; exact List.mem_append.2 (.inr (List.mem_append.2 (.inl (blkC_in hv)))))), (by simp only [List.length_map, List.length_set, List.length_replicate, List.length_cons, List.length_nil]; first | done | assumption | exact from_len _ | exact of_len _ | exact ofZ_len _ | exact (ofW_ok _).1 | exact (fullW_W _).1 | exact (okW_with (by assumption)).1 | exact (okW_less (by assumption)).1 | exact put_len (from_len _) | exact orD_len _ _ | exact andD_len _ _ | exact minusD_len _ _ | exact fullD_len _ | (refine okLen ?_; (repeat (first | assumption | exact ofW_ok _ | exact fullW_W _ | apply okW_with | apply okW_less | refine okW_orS ?_ ?_ | refine okW_andS ?_ ?_ | refine okW_minusS ?_ ?_)); done) | omega | rfl), (fun j v hv => List.getElem?_of_mem (by rw [hCs356]; exact List.mem_append.2 (.inr (List.mem_append.2 (.inr (List.mem_append.2 (.inr (blkC_in hv)))))))), trivial⟩ (fun act371 f370 => ?_)
 clear f354
 refine AtH.all [3] 39 (by kernel_rfl) (by simp) ⟨?_, trivial⟩
 refine OneH.call f370 32 #[.agg ((t : List Int).map wV).toArray, .agg ((u : List Int).map wV).toArray] (some 63) #[true, true, true, true, false, true, true, false, true, true, false, false, false, false, false, false, false, false, false, false, false, false, false, false, false, false, false, false, false, false, false, false, false, false, false, false, false, false, false, false, false, false, false, false, false, false, false] (by kernel_rfl) (by kernel_rfl) (orS_any (s := t) (t := u) (by repeat (first | assumption | exact ofW_ok _ | exact fullW_W _ | exact wordsD_W _ | exact okW_0 | exact okW_00 | apply okW_orS | apply okW_andS | apply okW_minusS | apply okW_with | apply okW_less | apply okW_or | apply okW_and | apply okW_minus | (apply okW_lit <;> exact ⟨by omega, by omega⟩))) (by repeat (first | assumption | exact ofW_ok _ | exact fullW_W _ | exact wordsD_W _ | exact okW_0 | exact okW_00 | apply okW_orS | apply okW_andS | apply okW_minusS | apply okW_with | apply okW_less | apply okW_or | apply okW_and | apply okW_minus | (apply okW_lit <;> exact ⟨by omega, by omega⟩)))) ?_
 rintro e_ w373 ⟨rfl, he⟩
 refine ⟨_, rfl, _, rfl, fun act374 f375 => ?_⟩
 clear f370
 have g376 := gr_ext he
 have hS372 := hS361.gr g376
 have szw373 := g376.size
 have e377 := e362.gr g376 no_row
 clear e362
 have r378 := r363.gr g376 (fun _ h => by cases h)
 clear r363
 have bx379 := bx364.gr g376 (by simp)
 clear bx364
 have bx380 := bx365.gr g376 (by simp)
 clear bx365
 have bx381 := bx366.gr g376 (by simp)
 clear bx366
 have bx382 := bx367.gr g376 (by simp)
 clear bx367
 have bx383 := bx368.gr g376 (by simp)
 clear bx368
 have bx384 := bx369.gr g376 (by simp)
 clear bx369
 clear g376 he
 refine ⟨hS372, ?_⟩
 refine AtH.all [4] 38 (by kernel_rfl) (by simp) ⟨?_, trivial⟩
 refine OneH.call f375 35 #[.agg ((s : List Int).map wV).toArray, .agg ((orS t u : List Int).map wV).toArray] (some 64) #[true, true, true, true, true, true, true, false, true, true, false, false, false, false, false, false, false, false, false, false, false, false, false, false, false, false, false, false, false, false, false, false, false, false, false, false, false, false, false, false, false, false, false, false, false, false, false] (by kernel_rfl) (by kernel_rfl) (andS_any (s := s) (t := orS t u) (by repeat (first | assumption | exact ofW_ok _ | exact fullW_W _ | exact wordsD_W _ | exact okW_0 | exact okW_00 | apply okW_orS | apply okW_andS | apply okW_minusS | apply okW_with | apply okW_less | apply okW_or | apply okW_and | apply okW_minus | (apply okW_lit <;> exact ⟨by omega, by omega⟩))) (by repeat (first | assumption | exact ofW_ok _ | exact fullW_W _ | exact wordsD_W _ | exact okW_0 | exact okW_00 | apply okW_orS | apply okW_andS | apply okW_minusS | apply okW_with | apply okW_less | apply okW_or | apply okW_and | apply okW_minus | (apply okW_lit <;> exact ⟨by omega, by omega⟩)))) ?_
 rintro e_ w386 ⟨rfl, he⟩
 refine ⟨_, rfl, _, rfl, fun act387 f388 => ?_⟩
 clear f375
 have g389 := gr_ext he
 have hS385 := hS372.gr g389
 have szw386 := g389.size
 have e390 := e377.gr g389 no_row
 clear e377
 have r391 := r378.gr g389 (fun _ h => by cases h)
 clear r378
 have bx392 := bx379.gr g389 (by simp)
 clear bx379
 have bx393 := bx380.gr g389 (by simp)
 clear bx380
 have bx394 := bx381.gr g389 (by simp)
 clear bx381
 have bx395 := bx382.gr g389 (by simp)
 clear bx382
 have bx396 := bx383.gr g389 (by simp)
 clear bx383
 have bx397 := bx384.gr g389 (by simp)
 clear bx384
 clear g389 he
 refine ⟨hS385, ?_⟩
 refine AtH.all [7] 37 (by kernel_rfl) (by simp) ⟨?_, trivial⟩
 refine OneH.call f388 35 #[.agg ((s : List Int).map wV).toArray, .agg ((t : List Int).map wV).toArray] (some 67) #[true, true, true, true, true, true, true, true, true, true, false, false, false, false, false, false, false, false, false, false, false, false, false, false, false, false, false, false, false, false, false, false, false, false, false, false, false, false, false, false, false, false, false, false, false, false, false] (by kernel_rfl) (by kernel_rfl) (andS_any (s := s) (t := t) (by repeat (first | assumption | exact ofW_ok _ | exact fullW_W _ | exact wordsD_W _ | exact okW_0 | exact okW_00 | apply okW_orS | apply okW_andS | apply okW_minusS | apply okW_with | apply okW_less | apply okW_or | apply okW_and | apply okW_minus | (apply okW_lit <;> exact ⟨by omega, by omega⟩))) (by repeat (first | assumption | exact ofW_ok _ | exact fullW_W _ | exact wordsD_W _ | exact okW_0 | exact okW_00 | apply okW_orS | apply okW_andS | apply okW_minusS | apply okW_with | apply okW_less | apply okW_or | apply okW_and | apply okW_minus | (apply okW_lit <;> exact ⟨by omega, by omega⟩)))) ?_
 rintro e_ w399 ⟨rfl, he⟩
 refine ⟨_, rfl, _, rfl, fun act400 f401 => ?_⟩
 clear f388
 have g402 := gr_ext he
 have hS398 := hS385.gr g402
 have szw399 := g402.size
 have e403 := e390.gr g402 no_row
 clear e390
 have r404 := r391.gr g402 (fun _ h => by cases h)
 clear r391
 have bx405 := bx392.gr g402 (by simp)
 clear bx392
 have bx406 := bx393.gr g402 (by simp)
 clear bx393
 have bx407 := bx394.gr g402 (by simp)
 clear bx394
 have bx408 := bx395.gr g402 (by simp)
 clear bx395
 have bx409 := bx396.gr g402 (by simp)
 clear bx396
 have bx410 := bx397.gr g402 (by simp)
 clear bx397
 clear g402 he
 refine ⟨hS398, ?_⟩
 refine AtH.all [10] 36 (by kernel_rfl) (by simp) ⟨?_, trivial⟩
 refine OneH.call f401 35 #[.agg ((s : List Int).map wV).toArray, .agg ((u : List Int).map wV).toArray] (some 70) #[true, true, true, true, true, true, true, true, true, true, true, false, false, false, false, false, false, false, false, false, false, false, false, false, false, false, false, false, false, false, false, false, false, false, false, false, false, false, false, false, false, false, false, false, false, false, false] (by kernel_rfl) (by kernel_rfl) (andS_any (s := s) (t := u) (by repeat (first | assumption | exact ofW_ok _ | exact fullW_W _ | exact wordsD_W _ | exact okW_0 | exact okW_00 | apply okW_orS | apply okW_andS | apply okW_minusS | apply okW_with | apply okW_less | apply okW_or | apply okW_and | apply okW_minus | (apply okW_lit <;> exact ⟨by omega, by omega⟩))) (by repeat (first | assumption | exact ofW_ok _ | exact fullW_W _ | exact wordsD_W _ | exact okW_0 | exact okW_00 | apply okW_orS | apply okW_andS | apply okW_minusS | apply okW_with | apply okW_less | apply okW_or | apply okW_and | apply okW_minus | (apply okW_lit <;> exact ⟨by omega, by omega⟩)))) ?_
 rintro e_ w412 ⟨rfl, he⟩
 refine ⟨_, rfl, _, rfl, fun act413 f414 => ?_⟩
 clear f401
 have g415 := gr_ext he
 have hS411 := hS398.gr g415
 have szw412 := g415.size
 have e416 := e403.gr g415 no_row
 clear e403
 have r417 := r404.gr g415 (fun _ h => by cases h)
 clear r404
 have bx418 := bx405.gr g415 (by simp)
 clear bx405
 have bx419 := bx406.gr g415 (by simp)
 clear bx406
 have bx420 := bx407.gr g415 (by simp)
 clear bx407
 have bx421 := bx408.gr g415 (by simp)
 clear bx408
 have bx422 := bx409.gr g415 (by simp)
 clear bx409
 have bx423 := bx410.gr g415 (by simp)
 clear bx410
 clear g415 he
 refine ⟨hS411, ?_⟩
 refine AtH.all [11] 35 (by kernel_rfl) (by simp) ⟨?_, trivial⟩
 refine OneH.call f414 32 #[.agg ((andS s t : List Int).map wV).toArray, .agg ((andS s u : List Int).map wV).toArray] (some 71) #[true, true, true, true, true, true, true, true, true, true, true, true, false, false, false, false, false, false, false, false, false, false, false, false, false, false, false, false, false, false, false, false, false, false, false, false, false, false, false, false, false, false, false, false, false, false, false] (by kernel_rfl) (by kernel_rfl) (orS_any (s := andS s t) (t := andS s u) (by repeat (first | assumption | exact ofW_ok _ | exact fullW_W _ | exact wordsD_W _ | exact okW_0 | exact okW_00 | apply okW_orS | apply okW_andS | apply okW_minusS | apply okW_with | apply okW_less | apply okW_or | apply okW_and | apply okW_minus | (apply okW_lit <;> exact ⟨by omega, by omega⟩))) (by repeat (first | assumption | exact ofW_ok _ | exact fullW_W _ | exact wordsD_W _ | exact okW_0 | exact okW_00 | apply okW_orS | apply okW_andS | apply okW_minusS | apply okW_with | apply okW_less | apply okW_or | apply okW_and | apply okW_minus | (apply okW_lit <;> exact ⟨by omega, by omega⟩)))) ?_
 rintro e_ w425 ⟨rfl, he⟩
 refine ⟨_, rfl, _, rfl, fun act426 f427 => ?_⟩
 clear f414
 have g428 := gr_ext he
 have hS424 := hS411.gr g428
 have szw425 := g428.size
 have e429 := e416.gr g428 no_row
 clear e416
 have r430 := r417.gr g428 (fun _ h => by cases h)
 clear r417
 have bx431 := bx418.gr g428 (by simp)
 clear bx418
 have bx432 := bx419.gr g428 (by simp)
 clear bx419
 have bx433 := bx420.gr g428 (by simp)
 clear bx420
 have bx434 := bx421.gr g428 (by simp)
 clear bx421
 have bx435 := bx422.gr g428 (by simp)
 clear bx422
 have bx436 := bx423.gr g428 (by simp)
 clear bx423
 clear g428 he
 refine ⟨hS424, ?_⟩
 refine AtH.rd (by kernel_rfl) (fun d v c a w h => by cases d <;> exact h) hS424 [12] [[.cs [wV (gI (andS s (orS t u)) 0), wV (gI (andS s (orS t u)) 1), wV (gI (andS s (orS t u)) 2), wV (gI (andS s (orS t u)) 3)], .cs [wV (gI (orS (andS s t) (andS s u)) 0), wV (gI (orS (andS s t) (andS s u)) 1), wV (gI (orS (andS s t) (andS s u)) 2), wV (gI (orS (andS s t) (andS s u)) 3)], .as_ (.bool true)]] [(72, .bool true)] #[true, true, true, true, true, true, true, true, true, true, true, true, true, false, false, false, false, false, false, false, false, false, false, false, false, false, false, false, false, false, false, false, false, false, false, false, false, false, false, false, false, false, false, false, false, false, false] [(((andS s (orS t u) : List Int).map wV).toArray = ([wV (gI (andS s (orS t u)) 0), wV (gI (andS s (orS t u)) 1), wV (gI (andS s (orS t u)) 2), wV (gI (andS s (orS t u)) 3)] : List Value).toArray), (((orS (andS s t) (andS s u) : List Int).map wV).toArray = ([wV (gI (orS (andS s t) (andS s u)) 0), wV (gI (orS (andS s t) (andS s u)) 1), wV (gI (orS (andS s t) (andS s u)) 2), wV (gI (orS (andS s t) (andS s u)) 3)] : List Value).toArray), ((.bool ((((gI (andS s (orS t u)) 0 : Int) == gI (orS (andS s t) (andS s u)) 0) && (((gI (andS s (orS t u)) 1 : Int) == gI (orS (andS s t) (andS s u)) 1) && (((gI (andS s (orS t u)) 2 : Int) == gI (orS (andS s t) (andS s u)) 2) && (((gI (andS s (orS t u)) 3 : Int) == gI (orS (andS s t) (andS s u)) 3) && true))))) : Value) = .bool true)] 34 f427 (by kernel_rfl) ⟨(map4 (by first | assumption | exact (okW_with (by assumption)).1 | exact (okW_less (by assumption)).1 | exact (ofW_ok _).1 | exact (fullW_W _).1 | (refine okLen ?_; (repeat (first | assumption | exact ofW_ok _ | exact fullW_W _ | apply okW_with | apply okW_less | refine okW_orS ?_ ?_ | refine okW_andS ?_ ?_ | refine okW_minusS ?_ ?_)); done) | rfl | omega | (simp only [List.length_set]; first | done | assumption | omega) | exact lenW4 _ (by assumption))), (map4 (by first | assumption | exact (okW_with (by assumption)).1 | exact (okW_less (by assumption)).1 | exact (ofW_ok _).1 | exact (fullW_W _).1 | (refine okLen ?_; (repeat (first | assumption | exact ofW_ok _ | exact fullW_W _ | apply okW_with | apply okW_less | refine okW_orS ?_ ?_ | refine okW_andS ?_ ?_ | refine okW_minusS ?_ ?_)); done) | rfl | omega | (simp only [List.length_set]; first | done | assumption | omega) | exact lenW4 _ (by assumption))), (Eq.trans (b := (.bool (decide ((andS s (orS t u) : List Int) = (orS (andS s t) (andS s u)))) : Value)) (congrArg (fun b => Value.bool b) (w4_eq (by first | assumption | exact (okW_with (by assumption)).1 | exact (okW_less (by assumption)).1 | exact (ofW_ok _).1 | exact (fullW_W _).1 | (refine okLen ?_; (repeat (first | assumption | exact ofW_ok _ | exact fullW_W _ | apply okW_with | apply okW_less | refine okW_orS ?_ ?_ | refine okW_andS ?_ ?_ | refine okW_minusS ?_ ?_)); done) | rfl | omega | (simp only [List.length_set]; first | done | assumption | omega) | exact lenW4 _ (by assumption)) (by first | assumption | exact (okW_with (by assumption)).1 | exact (okW_less (by assumption)).1 | exact (ofW_ok _).1 | exact (fullW_W _).1 | (refine okLen ?_; (repeat (first | assumption | exact ofW_ok _ | exact fullW_W _ | apply okW_with | apply okW_less | refine okW_orS ?_ ?_ | refine okW_andS ?_ ?_ | refine okW_minusS ?_ ?_)); done) | rfl | omega | (simp only [List.length_set]; first | done | assumption | omega) | exact lenW4 _ (by assumption)))) (congrArg Value.bool (alg5 hs ht hu))), trivial⟩ (fun act438 f437 => ?_)
 clear f427
 refine AtH.rd (by kernel_rfl) (fun d v c a w h => by cases d <;> exact h) hS424 [13] [[]] [(73, .bool true)] #[true, true, true, true, true, true, true, true, true, true, true, true, true, true, false, false, false, false, false, false, false, false, false, false, false, false, false, false, false, false, false, false, false, false, false, false, false, false, false, false, false, false, false, false, false, false, false] [] 33 f437 (by kernel_rfl) trivial (fun act440 f439 => ?_)
 clear f437
 refine AtH.rd (by kernel_rfl) (fun d v c a w h => by cases d <;> exact h) hS424 [14] [[.cs ((s : List Int).map wV)]] [(74, .agg ((s : List Int).map wV).toArray)] #[true, true, true, true, true, true, true, true, true, true, true, true, true, true, true, false, false, false, false, false, false, false, false, false, false, false, false, false, false, false, false, false, false, false, false, false, false, false, false, false, false, false, false, false, false, false, false] [(((s : List Int).map wV).length = 4), (∀ (j : Nat) (v : Value), ((s : List Int).map wV)[j]? = some v → ∃ j_ : Nat, Cs355[j_]? = some (((⟨w34.heap.size, 0, none⟩ : Addr).add j), v))] 32 f439 (by kernel_rfl) ⟨(by simp only [List.length_map, List.length_set, List.length_replicate, List.length_cons, List.length_nil]; first | done | assumption | exact from_len _ | exact of_len _ | exact ofZ_len _ | exact (ofW_ok _).1 | exact (fullW_W _).1 | exact (okW_with (by assumption)).1 | exact (okW_less (by assumption)).1 | exact put_len (from_len _) | exact orD_len _ _ | exact andD_len _ _ | exact minusD_len _ _ | exact fullD_len _ | (refine okLen ?_; (repeat (first | assumption | exact ofW_ok _ | exact fullW_W _ | apply okW_with | apply okW_less | refine okW_orS ?_ ?_ | refine okW_andS ?_ ?_ | refine okW_minusS ?_ ?_)); done) | omega | rfl), (fun j v hv => List.getElem?_of_mem (by rw [hCs356]; exact List.mem_append.2 (.inr (List.mem_append.2 (.inl (blkC_in hv)))))), trivial⟩ (fun act442 f441 => ?_)
 clear f439
 refine AtH.rd (by kernel_rfl) (fun d v c a w h => by cases d <;> exact h) hS424 [15] [[.cs ((t : List Int).map wV)]] [(75, .agg ((t : List Int).map wV).toArray)] #[true, true, true, true, true, true, true, true, true, true, true, true, true, true, true, true, false, false, false, false, false, false, false, false, false, false, false, false, false, false, false, false, false, false, false, false, false, false, false, false, false, false, false, false, false, false, false] [(((t : List Int).map wV).length = 4), (∀ (j : Nat) (v : Value), ((t : List Int).map wV)[j]? = some v → ∃ j_ : Nat, Cs355[j_]? = some (((⟨w60.heap.size, 0, none⟩ : Addr).add j), v))] 31 f441 (by kernel_rfl) ⟨(by simp only [List.length_map, List.length_set, List.length_replicate, List.length_cons, List.length_nil]; first | done | assumption | exact from_len _ | exact of_len _ | exact ofZ_len _ | exact (ofW_ok _).1 | exact (fullW_W _).1 | exact (okW_with (by assumption)).1 | exact (okW_less (by assumption)).1 | exact put_len (from_len _) | exact orD_len _ _ | exact andD_len _ _ | exact minusD_len _ _ | exact fullD_len _ | (refine okLen ?_; (repeat (first | assumption | exact ofW_ok _ | exact fullW_W _ | apply okW_with | apply okW_less | refine okW_orS ?_ ?_ | refine okW_andS ?_ ?_ | refine okW_minusS ?_ ?_)); done) | omega | rfl), (fun j v hv => List.getElem?_of_mem (by rw [hCs356]; exact List.mem_append.2 (.inr (List.mem_append.2 (.inr (List.mem_append.2 (.inl (blkC_in hv)))))))), trivial⟩ (fun act444 f443 => ?_)
 clear f441
 refine AtH.rd (by kernel_rfl) (fun d v c a w h => by cases d <;> exact h) hS424 [16] [[.cs ((u : List Int).map wV)]] [(76, .agg ((u : List Int).map wV).toArray)] #[true, true, true, true, true, true, true, true, true, true, true, true, true, true, true, true, true, false, false, false, false, false, false, false, false, false, false, false, false, false, false, false, false, false, false, false, false, false, false, false, false, false, false, false, false, false, false] [(((u : List Int).map wV).length = 4), (∀ (j : Nat) (v : Value), ((u : List Int).map wV)[j]? = some v → ∃ j_ : Nat, Cs355[j_]? = some (((⟨w86.heap.size, 0, none⟩ : Addr).add j), v))] 30 f443 (by kernel_rfl) ⟨(by simp only [List.length_map, List.length_set, List.length_replicate, List.length_cons, List.length_nil]; first | done | assumption | exact from_len _ | exact of_len _ | exact ofZ_len _ | exact (ofW_ok _).1 | exact (fullW_W _).1 | exact (okW_with (by assumption)).1 | exact (okW_less (by assumption)).1 | exact put_len (from_len _) | exact orD_len _ _ | exact andD_len _ _ | exact minusD_len _ _ | exact fullD_len _ | (refine okLen ?_; (repeat (first | assumption | exact ofW_ok _ | exact fullW_W _ | apply okW_with | apply okW_less | refine okW_orS ?_ ?_ | refine okW_andS ?_ ?_ | refine okW_minusS ?_ ?_)); done) | omega | rfl), (fun j v hv => List.getElem?_of_mem (by rw [hCs356]; exact List.mem_append.2 (.inr (List.mem_append.2 (.inr (List.mem_append.2 (.inr (blkC_in hv)))))))), trivial⟩ (fun act446 f445 => ?_)
 clear f443
 refine AtH.rd (by kernel_rfl) (fun d v c a w h => by cases d <;> exact h) hS424 [19] [[.cs ((s : List Int).map wV)]] [(79, .agg ((s : List Int).map wV).toArray)] #[true, true, true, true, true, true, true, true, true, true, true, true, true, true, true, true, true, false, false, true, false, false, false, false, false, false, false, false, false, false, false, false, false, false, false, false, false, false, false, false, false, false, false, false, false, false, false] [(((s : List Int).map wV).length = 4), (∀ (j : Nat) (v : Value), ((s : List Int).map wV)[j]? = some v → ∃ j_ : Nat, Cs355[j_]? = some (((⟨w34.heap.size, 0, none⟩ : Addr).add j), v))] 29 f445 (by kernel_rfl) ⟨(by simp only [List.length_map, List.length_set, List.length_replicate, List.length_cons, List.length_nil]; first | done | assumption | exact from_len _ | exact of_len _ | exact ofZ_len _ | exact (ofW_ok _).1 | exact (fullW_W _).1 | exact (okW_with (by assumption)).1 | exact (okW_less (by assumption)).1 | exact put_len (from_len _) | exact orD_len _ _ | exact andD_len _ _ | exact minusD_len _ _ | exact fullD_len _ | (refine okLen ?_; (repeat (first | assumption | exact ofW_ok _ | exact fullW_W _ | apply okW_with | apply okW_less | refine okW_orS ?_ ?_ | refine okW_andS ?_ ?_ | refine okW_minusS ?_ ?_)); done) | omega | rfl), (fun j v hv => List.getElem?_of_mem (by rw [hCs356]; exact List.mem_append.2 (.inr (List.mem_append.2 (.inl (blkC_in hv)))))), trivial⟩ (fun act448 f447 => ?_)
 clear f445
 refine AtH.rd (by kernel_rfl) (fun d v c a w h => by cases d <;> exact h) hS424 [20] [[.cs ((t : List Int).map wV)]] [(80, .agg ((t : List Int).map wV).toArray)] #[true, true, true, true, true, true, true, true, true, true, true, true, true, true, true, true, true, false, false, true, true, false, false, false, false, false, false, false, false, false, false, false, false, false, false, false, false, false, false, false, false, false, false, false, false, false, false] [(((t : List Int).map wV).length = 4), (∀ (j : Nat) (v : Value), ((t : List Int).map wV)[j]? = some v → ∃ j_ : Nat, Cs355[j_]? = some (((⟨w60.heap.size, 0, none⟩ : Addr).add j), v))] 28 f447 (by kernel_rfl) ⟨(by simp only [List.length_map, List.length_set, List.length_replicate, List.length_cons, List.length_nil]; first | done | assumption | exact from_len _ | exact of_len _ | exact ofZ_len _ | exact (ofW_ok _).1 | exact (fullW_W _).1 | exact (okW_with (by assumption)).1 | exact (okW_less (by assumption)).1 | exact put_len (from_len _) | exact orD_len _ _ | exact andD_len _ _ | exact minusD_len _ _ | exact fullD_len _ | (refine okLen ?_; (repeat (first | assumption | exact ofW_ok _ | exact fullW_W _ | apply okW_with | apply okW_less | refine okW_orS ?_ ?_ | refine okW_andS ?_ ?_ | refine okW_minusS ?_ ?_)); done) | omega | rfl), (fun j v hv => List.getElem?_of_mem (by rw [hCs356]; exact List.mem_append.2 (.inr (List.mem_append.2 (.inr (List.mem_append.2 (.inl (blkC_in hv)))))))), trivial⟩ (fun act450 f449 => ?_)
 clear f447
 refine AtH.rd (by kernel_rfl) (fun d v c a w h => by cases d <;> exact h) hS424 [22] [[.cs ((s : List Int).map wV)]] [(82, .agg ((s : List Int).map wV).toArray)] #[true, true, true, true, true, true, true, true, true, true, true, true, true, true, true, true, true, false, false, true, true, false, true, false, false, false, false, false, false, false, false, false, false, false, false, false, false, false, false, false, false, false, false, false, false, false, false] [(((s : List Int).map wV).length = 4), (∀ (j : Nat) (v : Value), ((s : List Int).map wV)[j]? = some v → ∃ j_ : Nat, Cs355[j_]? = some (((⟨w34.heap.size, 0, none⟩ : Addr).add j), v))] 27 f449 (by kernel_rfl) ⟨(by simp only [List.length_map, List.length_set, List.length_replicate, List.length_cons, List.length_nil]; first | done | assumption | exact from_len _ | exact of_len _ | exact ofZ_len _ | exact (ofW_ok _).1 | exact (fullW_W _).1 | exact (okW_with (by assumption)).1 | exact (okW_less (by assumption)).1 | exact put_len (from_len _) | exact orD_len _ _ | exact andD_len _ _ | exact minusD_len _ _ | exact fullD_len _ | (refine okLen ?_; (repeat (first | assumption | exact ofW_ok _ | exact fullW_W _ | apply okW_with | apply okW_less | refine okW_orS ?_ ?_ | refine okW_andS ?_ ?_ | refine okW_minusS ?_ ?_)); done) | omega | rfl), (fun j v hv => List.getElem?_of_mem (by rw [hCs356]; exact List.mem_append.2 (.inr (List.mem_append.2 (.inl (blkC_in hv)))))), trivial⟩ (fun act452 f451 => ?_)
 clear f449
 refine AtH.rd (by kernel_rfl) (fun d v c a w h => by cases d <;> exact h) hS424 [23] [[.cs ((u : List Int).map wV)]] [(83, .agg ((u : List Int).map wV).toArray)] #[true, true, true, true, true, true, true, true, true, true, true, true, true, true, true, true, true, false, false, true, true, false, true, true, false, false, false, false, false, false, false, false, false, false, false, false, false, false, false, false, false, false, false, false, false, false, false] [(((u : List Int).map wV).length = 4), (∀ (j : Nat) (v : Value), ((u : List Int).map wV)[j]? = some v → ∃ j_ : Nat, Cs355[j_]? = some (((⟨w86.heap.size, 0, none⟩ : Addr).add j), v))] 26 f451 (by kernel_rfl) ⟨(by simp only [List.length_map, List.length_set, List.length_replicate, List.length_cons, List.length_nil]; first | done | assumption | exact from_len _ | exact of_len _ | exact ofZ_len _ | exact (ofW_ok _).1 | exact (fullW_W _).1 | exact (okW_with (by assumption)).1 | exact (okW_less (by assumption)).1 | exact put_len (from_len _) | exact orD_len _ _ | exact andD_len _ _ | exact minusD_len _ _ | exact fullD_len _ | (refine okLen ?_; (repeat (first | assumption | exact ofW_ok _ | exact fullW_W _ | apply okW_with | apply okW_less | refine okW_orS ?_ ?_ | refine okW_andS ?_ ?_ | refine okW_minusS ?_ ?_)); done) | omega | rfl), (fun j v hv => List.getElem?_of_mem (by rw [hCs356]; exact List.mem_append.2 (.inr (List.mem_append.2 (.inr (List.mem_append.2 (.inr (blkC_in hv)))))))), trivial⟩ (fun act454 f453 => ?_)
 clear f451
 refine AtH.all [17] 25 (by kernel_rfl) (by simp) ⟨?_, trivial⟩
 refine OneH.call f453 35 #[.agg ((t : List Int).map wV).toArray, .agg ((u : List Int).map wV).toArray] (some 77) #[true, true, true, true, true, true, true, true, true, true, true, true, true, true, true, true, true, true, false, true, true, false, true, true, false, false, false, false, false, false, false, false, false, false, false, false, false, false, false, false, false, false, false, false, false, false, false] (by kernel_rfl) (by kernel_rfl) (andS_any (s := t) (t := u) (by repeat (first | assumption | exact ofW_ok _ | exact fullW_W _ | exact wordsD_W _ | exact okW_0 | exact okW_00 | apply okW_orS | apply okW_andS | apply okW_minusS | apply okW_with | apply okW_less | apply okW_or | apply okW_and | apply okW_minus | (apply okW_lit <;> exact ⟨by omega, by omega⟩))) (by repeat (first | assumption | exact ofW_ok _ | exact fullW_W _ | exact wordsD_W _ | exact okW_0 | exact okW_00 | apply okW_orS | apply okW_andS | apply okW_minusS | apply okW_with | apply okW_less | apply okW_or | apply okW_and | apply okW_minus | (apply okW_lit <;> exact ⟨by omega, by omega⟩)))) ?_
 rintro e_ w456 ⟨rfl, he⟩
 refine ⟨_, rfl, _, rfl, fun act457 f458 => ?_⟩
 clear f453
 have g459 := gr_ext he
 have hS455 := hS424.gr g459
 have szw456 := g459.size
 have e460 := e429.gr g459 no_row
 clear e429
 have r461 := r430.gr g459 (fun _ h => by cases h)
 clear r430
 have bx462 := bx431.gr g459 (by simp)
 clear bx431
 have bx463 := bx432.gr g459 (by simp)
 clear bx432
 have bx464 := bx433.gr g459 (by simp)
 clear bx433
 have bx465 := bx434.gr g459 (by simp)
 clear bx434
 have bx466 := bx435.gr g459 (by simp)
 clear bx435
 have bx467 := bx436.gr g459 (by simp)
 clear bx436
 clear g459 he
 refine ⟨hS455, ?_⟩
 refine AtH.all [18] 24 (by kernel_rfl) (by simp) ⟨?_, trivial⟩
 refine OneH.call f458 32 #[.agg ((s : List Int).map wV).toArray, .agg ((andS t u : List Int).map wV).toArray] (some 78) #[true, true, true, true, true, true, true, true, true, true, true, true, true, true, true, true, true, true, true, true, true, false, true, true, false, false, false, false, false, false, false, false, false, false, false, false, false, false, false, false, false, false, false, false, false, false, false] (by kernel_rfl) (by kernel_rfl) (orS_any (s := s) (t := andS t u) (by repeat (first | assumption | exact ofW_ok _ | exact fullW_W _ | exact wordsD_W _ | exact okW_0 | exact okW_00 | apply okW_orS | apply okW_andS | apply okW_minusS | apply okW_with | apply okW_less | apply okW_or | apply okW_and | apply okW_minus | (apply okW_lit <;> exact ⟨by omega, by omega⟩))) (by repeat (first | assumption | exact ofW_ok _ | exact fullW_W _ | exact wordsD_W _ | exact okW_0 | exact okW_00 | apply okW_orS | apply okW_andS | apply okW_minusS | apply okW_with | apply okW_less | apply okW_or | apply okW_and | apply okW_minus | (apply okW_lit <;> exact ⟨by omega, by omega⟩)))) ?_
 rintro e_ w469 ⟨rfl, he⟩
 refine ⟨_, rfl, _, rfl, fun act470 f471 => ?_⟩
 clear f458
 have g472 := gr_ext he
 have hS468 := hS455.gr g472
 have szw469 := g472.size
 have e473 := e460.gr g472 no_row
 clear e460
 have r474 := r461.gr g472 (fun _ h => by cases h)
 clear r461
 have bx475 := bx462.gr g472 (by simp)
 clear bx462
 have bx476 := bx463.gr g472 (by simp)
 clear bx463
 have bx477 := bx464.gr g472 (by simp)
 clear bx464
 have bx478 := bx465.gr g472 (by simp)
 clear bx465
 have bx479 := bx466.gr g472 (by simp)
 clear bx466
 have bx480 := bx467.gr g472 (by simp)
 clear bx467
 clear g472 he
 refine ⟨hS468, ?_⟩
 refine AtH.all [21] 23 (by kernel_rfl) (by simp) ⟨?_, trivial⟩
 refine OneH.call f471 32 #[.agg ((s : List Int).map wV).toArray, .agg ((t : List Int).map wV).toArray] (some 81) #[true, true, true, true, true, true, true, true, true, true, true, true, true, true, true, true, true, true, true, true, true, true, true, true, false, false, false, false, false, false, false, false, false, false, false, false, false, false, false, false, false, false, false, false, false, false, false] (by kernel_rfl) (by kernel_rfl) (orS_any (s := s) (t := t) (by repeat (first | assumption | exact ofW_ok _ | exact fullW_W _ | exact wordsD_W _ | exact okW_0 | exact okW_00 | apply okW_orS | apply okW_andS | apply okW_minusS | apply okW_with | apply okW_less | apply okW_or | apply okW_and | apply okW_minus | (apply okW_lit <;> exact ⟨by omega, by omega⟩))) (by repeat (first | assumption | exact ofW_ok _ | exact fullW_W _ | exact wordsD_W _ | exact okW_0 | exact okW_00 | apply okW_orS | apply okW_andS | apply okW_minusS | apply okW_with | apply okW_less | apply okW_or | apply okW_and | apply okW_minus | (apply okW_lit <;> exact ⟨by omega, by omega⟩)))) ?_
 rintro e_ w482 ⟨rfl, he⟩
 refine ⟨_, rfl, _, rfl, fun act483 f484 => ?_⟩
 clear f471
 have g485 := gr_ext he
 have hS481 := hS468.gr g485
 have szw482 := g485.size
 have e486 := e473.gr g485 no_row
 clear e473
 have r487 := r474.gr g485 (fun _ h => by cases h)
 clear r474
 have bx488 := bx475.gr g485 (by simp)
 clear bx475
 have bx489 := bx476.gr g485 (by simp)
 clear bx476
 have bx490 := bx477.gr g485 (by simp)
 clear bx477
 have bx491 := bx478.gr g485 (by simp)
 clear bx478
 have bx492 := bx479.gr g485 (by simp)
 clear bx479
 have bx493 := bx480.gr g485 (by simp)
 clear bx480
 clear g485 he
 refine ⟨hS481, ?_⟩
 refine AtH.all [24] 22 (by kernel_rfl) (by simp) ⟨?_, trivial⟩
 refine OneH.call f484 32 #[.agg ((s : List Int).map wV).toArray, .agg ((u : List Int).map wV).toArray] (some 84) #[true, true, true, true, true, true, true, true, true, true, true, true, true, true, true, true, true, true, true, true, true, true, true, true, true, false, false, false, false, false, false, false, false, false, false, false, false, false, false, false, false, false, false, false, false, false, false] (by kernel_rfl) (by kernel_rfl) (orS_any (s := s) (t := u) (by repeat (first | assumption | exact ofW_ok _ | exact fullW_W _ | exact wordsD_W _ | exact okW_0 | exact okW_00 | apply okW_orS | apply okW_andS | apply okW_minusS | apply okW_with | apply okW_less | apply okW_or | apply okW_and | apply okW_minus | (apply okW_lit <;> exact ⟨by omega, by omega⟩))) (by repeat (first | assumption | exact ofW_ok _ | exact fullW_W _ | exact wordsD_W _ | exact okW_0 | exact okW_00 | apply okW_orS | apply okW_andS | apply okW_minusS | apply okW_with | apply okW_less | apply okW_or | apply okW_and | apply okW_minus | (apply okW_lit <;> exact ⟨by omega, by omega⟩)))) ?_
 rintro e_ w495 ⟨rfl, he⟩
 refine ⟨_, rfl, _, rfl, fun act496 f497 => ?_⟩
 clear f484
 have g498 := gr_ext he
 have hS494 := hS481.gr g498
 have szw495 := g498.size
 have e499 := e486.gr g498 no_row
 clear e486
 have r500 := r487.gr g498 (fun _ h => by cases h)
 clear r487
 have bx501 := bx488.gr g498 (by simp)
 clear bx488
 have bx502 := bx489.gr g498 (by simp)
 clear bx489
 have bx503 := bx490.gr g498 (by simp)
 clear bx490
 have bx504 := bx491.gr g498 (by simp)
 clear bx491
 have bx505 := bx492.gr g498 (by simp)
 clear bx492
 have bx506 := bx493.gr g498 (by simp)
 clear bx493
 clear g498 he
 refine ⟨hS494, ?_⟩
 refine AtH.all [25] 21 (by kernel_rfl) (by simp) ⟨?_, trivial⟩
 refine OneH.call f497 35 #[.agg ((orS s t : List Int).map wV).toArray, .agg ((orS s u : List Int).map wV).toArray] (some 85) #[true, true, true, true, true, true, true, true, true, true, true, true, true, true, true, true, true, true, true, true, true, true, true, true, true, true, false, false, false, false, false, false, false, false, false, false, false, false, false, false, false, false, false, false, false, false, false] (by kernel_rfl) (by kernel_rfl) (andS_any (s := orS s t) (t := orS s u) (by repeat (first | assumption | exact ofW_ok _ | exact fullW_W _ | exact wordsD_W _ | exact okW_0 | exact okW_00 | apply okW_orS | apply okW_andS | apply okW_minusS | apply okW_with | apply okW_less | apply okW_or | apply okW_and | apply okW_minus | (apply okW_lit <;> exact ⟨by omega, by omega⟩))) (by repeat (first | assumption | exact ofW_ok _ | exact fullW_W _ | exact wordsD_W _ | exact okW_0 | exact okW_00 | apply okW_orS | apply okW_andS | apply okW_minusS | apply okW_with | apply okW_less | apply okW_or | apply okW_and | apply okW_minus | (apply okW_lit <;> exact ⟨by omega, by omega⟩)))) ?_
 rintro e_ w508 ⟨rfl, he⟩
 refine ⟨_, rfl, _, rfl, fun act509 f510 => ?_⟩
 clear f497
 have g511 := gr_ext he
 have hS507 := hS494.gr g511
 have szw508 := g511.size
 have e512 := e499.gr g511 no_row
 clear e499
 have r513 := r500.gr g511 (fun _ h => by cases h)
 clear r500
 have bx514 := bx501.gr g511 (by simp)
 clear bx501
 have bx515 := bx502.gr g511 (by simp)
 clear bx502
 have bx516 := bx503.gr g511 (by simp)
 clear bx503
 have bx517 := bx504.gr g511 (by simp)
 clear bx504
 have bx518 := bx505.gr g511 (by simp)
 clear bx505
 have bx519 := bx506.gr g511 (by simp)
 clear bx506
 clear g511 he
 refine ⟨hS507, ?_⟩
 refine AtH.rd (by kernel_rfl) (fun d v c a w h => by cases d <;> exact h) hS507 [26] [[.cs [wV (gI (orS s (andS t u)) 0), wV (gI (orS s (andS t u)) 1), wV (gI (orS s (andS t u)) 2), wV (gI (orS s (andS t u)) 3)], .cs [wV (gI (andS (orS s t) (orS s u)) 0), wV (gI (andS (orS s t) (orS s u)) 1), wV (gI (andS (orS s t) (orS s u)) 2), wV (gI (andS (orS s t) (orS s u)) 3)], .as_ (.bool true)]] [(86, .bool true)] #[true, true, true, true, true, true, true, true, true, true, true, true, true, true, true, true, true, true, true, true, true, true, true, true, true, true, true, false, false, false, false, false, false, false, false, false, false, false, false, false, false, false, false, false, false, false, false] [(((orS s (andS t u) : List Int).map wV).toArray = ([wV (gI (orS s (andS t u)) 0), wV (gI (orS s (andS t u)) 1), wV (gI (orS s (andS t u)) 2), wV (gI (orS s (andS t u)) 3)] : List Value).toArray), (((andS (orS s t) (orS s u) : List Int).map wV).toArray = ([wV (gI (andS (orS s t) (orS s u)) 0), wV (gI (andS (orS s t) (orS s u)) 1), wV (gI (andS (orS s t) (orS s u)) 2), wV (gI (andS (orS s t) (orS s u)) 3)] : List Value).toArray), ((.bool ((((gI (orS s (andS t u)) 0 : Int) == gI (andS (orS s t) (orS s u)) 0) && (((gI (orS s (andS t u)) 1 : Int) == gI (andS (orS s t) (orS s u)) 1) && (((gI (orS s (andS t u)) 2 : Int) == gI (andS (orS s t) (orS s u)) 2) && (((gI (orS s (andS t u)) 3 : Int) == gI (andS (orS s t) (orS s u)) 3) && true))))) : Value) = .bool true)] 20 f510 (by kernel_rfl) ⟨(map4 (by first | assumption | exact (okW_with (by assumption)).1 | exact (okW_less (by assumption)).1 | exact (ofW_ok _).1 | exact (fullW_W _).1 | (refine okLen ?_; (repeat (first | assumption | exact ofW_ok _ | exact fullW_W _ | apply okW_with | apply okW_less | refine okW_orS ?_ ?_ | refine okW_andS ?_ ?_ | refine okW_minusS ?_ ?_)); done) | rfl | omega | (simp only [List.length_set]; first | done | assumption | omega) | exact lenW4 _ (by assumption))), (map4 (by first | assumption | exact (okW_with (by assumption)).1 | exact (okW_less (by assumption)).1 | exact (ofW_ok _).1 | exact (fullW_W _).1 | (refine okLen ?_; (repeat (first | assumption | exact ofW_ok _ | exact fullW_W _ | apply okW_with | apply okW_less | refine okW_orS ?_ ?_ | refine okW_andS ?_ ?_ | refine okW_minusS ?_ ?_)); done) | rfl | omega | (simp only [List.length_set]; first | done | assumption | omega) | exact lenW4 _ (by assumption))), (Eq.trans (b := (.bool (decide ((orS s (andS t u) : List Int) = (andS (orS s t) (orS s u)))) : Value)) (congrArg (fun b => Value.bool b) (w4_eq (by first | assumption | exact (okW_with (by assumption)).1 | exact (okW_less (by assumption)).1 | exact (ofW_ok _).1 | exact (fullW_W _).1 | (refine okLen ?_; (repeat (first | assumption | exact ofW_ok _ | exact fullW_W _ | apply okW_with | apply okW_less | refine okW_orS ?_ ?_ | refine okW_andS ?_ ?_ | refine okW_minusS ?_ ?_)); done) | rfl | omega | (simp only [List.length_set]; first | done | assumption | omega) | exact lenW4 _ (by assumption)) (by first | assumption | exact (okW_with (by assumption)).1 | exact (okW_less (by assumption)).1 | exact (ofW_ok _).1 | exact (fullW_W _).1 | (refine okLen ?_; (repeat (first | assumption | exact ofW_ok _ | exact fullW_W _ | apply okW_with | apply okW_less | refine okW_orS ?_ ?_ | refine okW_andS ?_ ?_ | refine okW_minusS ?_ ?_)); done) | rfl | omega | (simp only [List.length_set]; first | done | assumption | omega) | exact lenW4 _ (by assumption)))) (congrArg Value.bool (alg6 hs ht hu))), trivial⟩ (fun act521 f520 => ?_)
 clear f510
 refine AtH.rd (by kernel_rfl) (fun d v c a w h => by cases d <;> exact h) hS507 [27] [[]] [(87, .bool true)] #[true, true, true, true, true, true, true, true, true, true, true, true, true, true, true, true, true, true, true, true, true, true, true, true, true, true, true, true, false, false, false, false, false, false, false, false, false, false, false, false, false, false, false, false, false, false, false] [] 19 f520 (by kernel_rfl) trivial (fun act523 f522 => ?_)
 clear f520
 refine AtH.rd (by kernel_rfl) (fun d v c a w h => by cases d <;> exact h) hS507 [28] [[]] [(88, .bool true)] #[true, true, true, true, true, true, true, true, true, true, true, true, true, true, true, true, true, true, true, true, true, true, true, true, true, true, true, true, true, false, false, false, false, false, false, false, false, false, false, false, false, false, false, false, false, false, false] [] 18 f522 (by kernel_rfl) trivial (fun act525 f524 => ?_)
 clear f522
 refine AtH.rd (by kernel_rfl) (fun d v c a w h => by cases d <;> exact h) hS507 [29] [[.cs ((s : List Int).map wV)]] [(89, .agg ((s : List Int).map wV).toArray)] #[true, true, true, true, true, true, true, true, true, true, true, true, true, true, true, true, true, true, true, true, true, true, true, true, true, true, true, true, true, true, false, false, false, false, false, false, false, false, false, false, false, false, false, false, false, false, false] [(((s : List Int).map wV).length = 4), (∀ (j : Nat) (v : Value), ((s : List Int).map wV)[j]? = some v → ∃ j_ : Nat, Cs355[j_]? = some (((⟨w34.heap.size, 0, none⟩ : Addr).add j), v))] 17 f524 (by kernel_rfl) ⟨(by simp only [List.length_map, List.length_set, List.length_replicate, List.length_cons, List.length_nil]; first | done | assumption | exact from_len _ | exact of_len _ | exact ofZ_len _ | exact (ofW_ok _).1 | exact (fullW_W _).1 | exact (okW_with (by assumption)).1 | exact (okW_less (by assumption)).1 | exact put_len (from_len _) | exact orD_len _ _ | exact andD_len _ _ | exact minusD_len _ _ | exact fullD_len _ | (refine okLen ?_; (repeat (first | assumption | exact ofW_ok _ | exact fullW_W _ | apply okW_with | apply okW_less | refine okW_orS ?_ ?_ | refine okW_andS ?_ ?_ | refine okW_minusS ?_ ?_)); done) | omega | rfl), (fun j v hv => List.getElem?_of_mem (by rw [hCs356]; exact List.mem_append.2 (.inr (List.mem_append.2 (.inl (blkC_in hv)))))), trivial⟩ (fun act527 f526 => ?_)
 clear f524
 refine AtH.rd (by kernel_rfl) (fun d v c a w h => by cases d <;> exact h) hS507 [30] [[.cs ((s : List Int).map wV)]] [(90, .agg ((s : List Int).map wV).toArray)] #[true, true, true, true, true, true, true, true, true, true, true, true, true, true, true, true, true, true, true, true, true, true, true, true, true, true, true, true, true, true, true, false, false, false, false, false, false, false, false, false, false, false, false, false, false, false, false] [(((s : List Int).map wV).length = 4), (∀ (j : Nat) (v : Value), ((s : List Int).map wV)[j]? = some v → ∃ j_ : Nat, Cs355[j_]? = some (((⟨w34.heap.size, 0, none⟩ : Addr).add j), v))] 16 f526 (by kernel_rfl) ⟨(by simp only [List.length_map, List.length_set, List.length_replicate, List.length_cons, List.length_nil]; first | done | assumption | exact from_len _ | exact of_len _ | exact ofZ_len _ | exact (ofW_ok _).1 | exact (fullW_W _).1 | exact (okW_with (by assumption)).1 | exact (okW_less (by assumption)).1 | exact put_len (from_len _) | exact orD_len _ _ | exact andD_len _ _ | exact minusD_len _ _ | exact fullD_len _ | (refine okLen ?_; (repeat (first | assumption | exact ofW_ok _ | exact fullW_W _ | apply okW_with | apply okW_less | refine okW_orS ?_ ?_ | refine okW_andS ?_ ?_ | refine okW_minusS ?_ ?_)); done) | omega | rfl), (fun j v hv => List.getElem?_of_mem (by rw [hCs356]; exact List.mem_append.2 (.inr (List.mem_append.2 (.inl (blkC_in hv)))))), trivial⟩ (fun act529 f528 => ?_)
 clear f526
 refine AtH.rd (by kernel_rfl) (fun d v c a w h => by cases d <;> exact h) hS507 [31] [[.cs ((t : List Int).map wV)]] [(91, .agg ((t : List Int).map wV).toArray)] #[true, true, true, true, true, true, true, true, true, true, true, true, true, true, true, true, true, true, true, true, true, true, true, true, true, true, true, true, true, true, true, true, false, false, false, false, false, false, false, false, false, false, false, false, false, false, false] [(((t : List Int).map wV).length = 4), (∀ (j : Nat) (v : Value), ((t : List Int).map wV)[j]? = some v → ∃ j_ : Nat, Cs355[j_]? = some (((⟨w60.heap.size, 0, none⟩ : Addr).add j), v))] 15 f528 (by kernel_rfl) ⟨(by simp only [List.length_map, List.length_set, List.length_replicate, List.length_cons, List.length_nil]; first | done | assumption | exact from_len _ | exact of_len _ | exact ofZ_len _ | exact (ofW_ok _).1 | exact (fullW_W _).1 | exact (okW_with (by assumption)).1 | exact (okW_less (by assumption)).1 | exact put_len (from_len _) | exact orD_len _ _ | exact andD_len _ _ | exact minusD_len _ _ | exact fullD_len _ | (refine okLen ?_; (repeat (first | assumption | exact ofW_ok _ | exact fullW_W _ | apply okW_with | apply okW_less | refine okW_orS ?_ ?_ | refine okW_andS ?_ ?_ | refine okW_minusS ?_ ?_)); done) | omega | rfl), (fun j v hv => List.getElem?_of_mem (by rw [hCs356]; exact List.mem_append.2 (.inr (List.mem_append.2 (.inr (List.mem_append.2 (.inl (blkC_in hv)))))))), trivial⟩ (fun act531 f530 => ?_)
 clear f528
 refine AtH.rd (by kernel_rfl) (fun d v c a w h => by cases d <;> exact h) hS507 [34] [[.cs ((s : List Int).map wV)]] [(94, .agg ((s : List Int).map wV).toArray)] #[true, true, true, true, true, true, true, true, true, true, true, true, true, true, true, true, true, true, true, true, true, true, true, true, true, true, true, true, true, true, true, true, false, false, true, false, false, false, false, false, false, false, false, false, false, false, false] [(((s : List Int).map wV).length = 4), (∀ (j : Nat) (v : Value), ((s : List Int).map wV)[j]? = some v → ∃ j_ : Nat, Cs355[j_]? = some (((⟨w34.heap.size, 0, none⟩ : Addr).add j), v))] 14 f530 (by kernel_rfl) ⟨(by simp only [List.length_map, List.length_set, List.length_replicate, List.length_cons, List.length_nil]; first | done | assumption | exact from_len _ | exact of_len _ | exact ofZ_len _ | exact (ofW_ok _).1 | exact (fullW_W _).1 | exact (okW_with (by assumption)).1 | exact (okW_less (by assumption)).1 | exact put_len (from_len _) | exact orD_len _ _ | exact andD_len _ _ | exact minusD_len _ _ | exact fullD_len _ | (refine okLen ?_; (repeat (first | assumption | exact ofW_ok _ | exact fullW_W _ | apply okW_with | apply okW_less | refine okW_orS ?_ ?_ | refine okW_andS ?_ ?_ | refine okW_minusS ?_ ?_)); done) | omega | rfl), (fun j v hv => List.getElem?_of_mem (by rw [hCs356]; exact List.mem_append.2 (.inr (List.mem_append.2 (.inl (blkC_in hv)))))), trivial⟩ (fun act533 f532 => ?_)
 clear f530
 refine AtH.all [32] 13 (by kernel_rfl) (by simp) ⟨?_, trivial⟩
 refine OneH.call f532 35 #[.agg ((s : List Int).map wV).toArray, .agg ((t : List Int).map wV).toArray] (some 92) #[true, true, true, true, true, true, true, true, true, true, true, true, true, true, true, true, true, true, true, true, true, true, true, true, true, true, true, true, true, true, true, true, true, false, true, false, false, false, false, false, false, false, false, false, false, false, false] (by kernel_rfl) (by kernel_rfl) (andS_any (s := s) (t := t) (by repeat (first | assumption | exact ofW_ok _ | exact fullW_W _ | exact wordsD_W _ | exact okW_0 | exact okW_00 | apply okW_orS | apply okW_andS | apply okW_minusS | apply okW_with | apply okW_less | apply okW_or | apply okW_and | apply okW_minus | (apply okW_lit <;> exact ⟨by omega, by omega⟩))) (by repeat (first | assumption | exact ofW_ok _ | exact fullW_W _ | exact wordsD_W _ | exact okW_0 | exact okW_00 | apply okW_orS | apply okW_andS | apply okW_minusS | apply okW_with | apply okW_less | apply okW_or | apply okW_and | apply okW_minus | (apply okW_lit <;> exact ⟨by omega, by omega⟩)))) ?_
 rintro e_ w535 ⟨rfl, he⟩
 refine ⟨_, rfl, _, rfl, fun act536 f537 => ?_⟩
 clear f532
 have g538 := gr_ext he
 have hS534 := hS507.gr g538
 have szw535 := g538.size
 have e539 := e512.gr g538 no_row
 clear e512
 have r540 := r513.gr g538 (fun _ h => by cases h)
 clear r513
 have bx541 := bx514.gr g538 (by simp)
 clear bx514
 have bx542 := bx515.gr g538 (by simp)
 clear bx515
 have bx543 := bx516.gr g538 (by simp)
 clear bx516
 have bx544 := bx517.gr g538 (by simp)
 clear bx517
 have bx545 := bx518.gr g538 (by simp)
 clear bx518
 have bx546 := bx519.gr g538 (by simp)
 clear bx519
 clear g538 he
 refine ⟨hS534, ?_⟩
 refine AtH.all [33] 12 (by kernel_rfl) (by simp) ⟨?_, trivial⟩
 refine OneH.call f537 32 #[.agg ((s : List Int).map wV).toArray, .agg ((andS s t : List Int).map wV).toArray] (some 93) #[true, true, true, true, true, true, true, true, true, true, true, true, true, true, true, true, true, true, true, true, true, true, true, true, true, true, true, true, true, true, true, true, true, true, true, false, false, false, false, false, false, false, false, false, false, false, false] (by kernel_rfl) (by kernel_rfl) (orS_any (s := s) (t := andS s t) (by repeat (first | assumption | exact ofW_ok _ | exact fullW_W _ | exact wordsD_W _ | exact okW_0 | exact okW_00 | apply okW_orS | apply okW_andS | apply okW_minusS | apply okW_with | apply okW_less | apply okW_or | apply okW_and | apply okW_minus | (apply okW_lit <;> exact ⟨by omega, by omega⟩))) (by repeat (first | assumption | exact ofW_ok _ | exact fullW_W _ | exact wordsD_W _ | exact okW_0 | exact okW_00 | apply okW_orS | apply okW_andS | apply okW_minusS | apply okW_with | apply okW_less | apply okW_or | apply okW_and | apply okW_minus | (apply okW_lit <;> exact ⟨by omega, by omega⟩)))) ?_
 rintro e_ w548 ⟨rfl, he⟩
 refine ⟨_, rfl, _, rfl, fun act549 f550 => ?_⟩
 clear f537
 have g551 := gr_ext he
 have hS547 := hS534.gr g551
 have szw548 := g551.size
 have e552 := e539.gr g551 no_row
 clear e539
 have r553 := r540.gr g551 (fun _ h => by cases h)
 clear r540
 have bx554 := bx541.gr g551 (by simp)
 clear bx541
 have bx555 := bx542.gr g551 (by simp)
 clear bx542
 have bx556 := bx543.gr g551 (by simp)
 clear bx543
 have bx557 := bx544.gr g551 (by simp)
 clear bx544
 have bx558 := bx545.gr g551 (by simp)
 clear bx545
 have bx559 := bx546.gr g551 (by simp)
 clear bx546
 clear g551 he
 refine ⟨hS547, ?_⟩
 refine AtH.rd (by kernel_rfl) (fun d v c a w h => by cases d <;> exact h) hS547 [35] [[.cs [wV (gI (orS s (andS s t)) 0), wV (gI (orS s (andS s t)) 1), wV (gI (orS s (andS s t)) 2), wV (gI (orS s (andS s t)) 3)], .cs [wV (gI s 0), wV (gI s 1), wV (gI s 2), wV (gI s 3)], .as_ (.bool true)]] [(95, .bool true)] #[true, true, true, true, true, true, true, true, true, true, true, true, true, true, true, true, true, true, true, true, true, true, true, true, true, true, true, true, true, true, true, true, true, true, true, true, false, false, false, false, false, false, false, false, false, false, false] [(((orS s (andS s t) : List Int).map wV).toArray = ([wV (gI (orS s (andS s t)) 0), wV (gI (orS s (andS s t)) 1), wV (gI (orS s (andS s t)) 2), wV (gI (orS s (andS s t)) 3)] : List Value).toArray), (((s : List Int).map wV).toArray = ([wV (gI s 0), wV (gI s 1), wV (gI s 2), wV (gI s 3)] : List Value).toArray), ((.bool ((((gI (orS s (andS s t)) 0 : Int) == gI s 0) && (((gI (orS s (andS s t)) 1 : Int) == gI s 1) && (((gI (orS s (andS s t)) 2 : Int) == gI s 2) && (((gI (orS s (andS s t)) 3 : Int) == gI s 3) && true))))) : Value) = .bool true)] 11 f550 (by kernel_rfl) ⟨(map4 (by first | assumption | exact (okW_with (by assumption)).1 | exact (okW_less (by assumption)).1 | exact (ofW_ok _).1 | exact (fullW_W _).1 | (refine okLen ?_; (repeat (first | assumption | exact ofW_ok _ | exact fullW_W _ | apply okW_with | apply okW_less | refine okW_orS ?_ ?_ | refine okW_andS ?_ ?_ | refine okW_minusS ?_ ?_)); done) | rfl | omega | (simp only [List.length_set]; first | done | assumption | omega) | exact lenW4 _ (by assumption))), (map4 (by first | assumption | exact (okW_with (by assumption)).1 | exact (okW_less (by assumption)).1 | exact (ofW_ok _).1 | exact (fullW_W _).1 | (refine okLen ?_; (repeat (first | assumption | exact ofW_ok _ | exact fullW_W _ | apply okW_with | apply okW_less | refine okW_orS ?_ ?_ | refine okW_andS ?_ ?_ | refine okW_minusS ?_ ?_)); done) | rfl | omega | (simp only [List.length_set]; first | done | assumption | omega) | exact lenW4 _ (by assumption))), (Eq.trans (b := (.bool (decide ((orS s (andS s t) : List Int) = s)) : Value)) (congrArg (fun b => Value.bool b) (w4_eq (by first | assumption | exact (okW_with (by assumption)).1 | exact (okW_less (by assumption)).1 | exact (ofW_ok _).1 | exact (fullW_W _).1 | (refine okLen ?_; (repeat (first | assumption | exact ofW_ok _ | exact fullW_W _ | apply okW_with | apply okW_less | refine okW_orS ?_ ?_ | refine okW_andS ?_ ?_ | refine okW_minusS ?_ ?_)); done) | rfl | omega | (simp only [List.length_set]; first | done | assumption | omega) | exact lenW4 _ (by assumption)) (by first | assumption | exact (okW_with (by assumption)).1 | exact (okW_less (by assumption)).1 | exact (ofW_ok _).1 | exact (fullW_W _).1 | (refine okLen ?_; (repeat (first | assumption | exact ofW_ok _ | exact fullW_W _ | apply okW_with | apply okW_less | refine okW_orS ?_ ?_ | refine okW_andS ?_ ?_ | refine okW_minusS ?_ ?_)); done) | rfl | omega | (simp only [List.length_set]; first | done | assumption | omega) | exact lenW4 _ (by assumption)))) (congrArg Value.bool (alg7 hs ht))), trivial⟩ (fun act561 f560 => ?_)
 clear f550
 refine AtH.rd (by kernel_rfl) (fun d v c a w h => by cases d <;> exact h) hS547 [36] [[]] [(96, .bool true)] #[true, true, true, true, true, true, true, true, true, true, true, true, true, true, true, true, true, true, true, true, true, true, true, true, true, true, true, true, true, true, true, true, true, true, true, true, true, false, false, false, false, false, false, false, false, false, false] [] 10 f560 (by kernel_rfl) trivial (fun act563 f562 => ?_)
 clear f560
 refine AtH.rd (by kernel_rfl) (fun d v c a w h => by cases d <;> exact h) hS547 [37] [[]] [(97, .bool true)] #[true, true, true, true, true, true, true, true, true, true, true, true, true, true, true, true, true, true, true, true, true, true, true, true, true, true, true, true, true, true, true, true, true, true, true, true, true, true, false, false, false, false, false, false, false, false, false] [] 9 f562 (by kernel_rfl) trivial (fun act565 f564 => ?_)
 clear f562
 refine AtH.rd (by kernel_rfl) (fun d v c a w h => by cases d <;> exact h) hS547 [38] [[.cs ((s : List Int).map wV)]] [(98, .agg ((s : List Int).map wV).toArray)] #[true, true, true, true, true, true, true, true, true, true, true, true, true, true, true, true, true, true, true, true, true, true, true, true, true, true, true, true, true, true, true, true, true, true, true, true, true, true, true, false, false, false, false, false, false, false, false] [(((s : List Int).map wV).length = 4), (∀ (j : Nat) (v : Value), ((s : List Int).map wV)[j]? = some v → ∃ j_ : Nat, Cs355[j_]? = some (((⟨w34.heap.size, 0, none⟩ : Addr).add j), v))] 8 f564 (by kernel_rfl) ⟨(by simp only [List.length_map, List.length_set, List.length_replicate, List.length_cons, List.length_nil]; first | done | assumption | exact from_len _ | exact of_len _ | exact ofZ_len _ | exact (ofW_ok _).1 | exact (fullW_W _).1 | exact (okW_with (by assumption)).1 | exact (okW_less (by assumption)).1 | exact put_len (from_len _) | exact orD_len _ _ | exact andD_len _ _ | exact minusD_len _ _ | exact fullD_len _ | (refine okLen ?_; (repeat (first | assumption | exact ofW_ok _ | exact fullW_W _ | apply okW_with | apply okW_less | refine okW_orS ?_ ?_ | refine okW_andS ?_ ?_ | refine okW_minusS ?_ ?_)); done) | omega | rfl), (fun j v hv => List.getElem?_of_mem (by rw [hCs356]; exact List.mem_append.2 (.inr (List.mem_append.2 (.inl (blkC_in hv)))))), trivial⟩ (fun act567 f566 => ?_)
 clear f564
 refine AtH.rd (by kernel_rfl) (fun d v c a w h => by cases d <;> exact h) hS547 [39] [[.cs ((s : List Int).map wV)]] [(99, .agg ((s : List Int).map wV).toArray)] #[true, true, true, true, true, true, true, true, true, true, true, true, true, true, true, true, true, true, true, true, true, true, true, true, true, true, true, true, true, true, true, true, true, true, true, true, true, true, true, true, false, false, false, false, false, false, false] [(((s : List Int).map wV).length = 4), (∀ (j : Nat) (v : Value), ((s : List Int).map wV)[j]? = some v → ∃ j_ : Nat, Cs355[j_]? = some (((⟨w34.heap.size, 0, none⟩ : Addr).add j), v))] 7 f566 (by kernel_rfl) ⟨(by simp only [List.length_map, List.length_set, List.length_replicate, List.length_cons, List.length_nil]; first | done | assumption | exact from_len _ | exact of_len _ | exact ofZ_len _ | exact (ofW_ok _).1 | exact (fullW_W _).1 | exact (okW_with (by assumption)).1 | exact (okW_less (by assumption)).1 | exact put_len (from_len _) | exact orD_len _ _ | exact andD_len _ _ | exact minusD_len _ _ | exact fullD_len _ | (refine okLen ?_; (repeat (first | assumption | exact ofW_ok _ | exact fullW_W _ | apply okW_with | apply okW_less | refine okW_orS ?_ ?_ | refine okW_andS ?_ ?_ | refine okW_minusS ?_ ?_)); done) | omega | rfl), (fun j v hv => List.getElem?_of_mem (by rw [hCs356]; exact List.mem_append.2 (.inr (List.mem_append.2 (.inl (blkC_in hv)))))), trivial⟩ (fun act569 f568 => ?_)
 clear f566
 refine AtH.rd (by kernel_rfl) (fun d v c a w h => by cases d <;> exact h) hS547 [40] [[.cs ((t : List Int).map wV)]] [(100, .agg ((t : List Int).map wV).toArray)] #[true, true, true, true, true, true, true, true, true, true, true, true, true, true, true, true, true, true, true, true, true, true, true, true, true, true, true, true, true, true, true, true, true, true, true, true, true, true, true, true, true, false, false, false, false, false, false] [(((t : List Int).map wV).length = 4), (∀ (j : Nat) (v : Value), ((t : List Int).map wV)[j]? = some v → ∃ j_ : Nat, Cs355[j_]? = some (((⟨w60.heap.size, 0, none⟩ : Addr).add j), v))] 6 f568 (by kernel_rfl) ⟨(by simp only [List.length_map, List.length_set, List.length_replicate, List.length_cons, List.length_nil]; first | done | assumption | exact from_len _ | exact of_len _ | exact ofZ_len _ | exact (ofW_ok _).1 | exact (fullW_W _).1 | exact (okW_with (by assumption)).1 | exact (okW_less (by assumption)).1 | exact put_len (from_len _) | exact orD_len _ _ | exact andD_len _ _ | exact minusD_len _ _ | exact fullD_len _ | (refine okLen ?_; (repeat (first | assumption | exact ofW_ok _ | exact fullW_W _ | apply okW_with | apply okW_less | refine okW_orS ?_ ?_ | refine okW_andS ?_ ?_ | refine okW_minusS ?_ ?_)); done) | omega | rfl), (fun j v hv => List.getElem?_of_mem (by rw [hCs356]; exact List.mem_append.2 (.inr (List.mem_append.2 (.inr (List.mem_append.2 (.inl (blkC_in hv)))))))), trivial⟩ (fun act571 f570 => ?_)
 clear f568
 refine AtH.rd (by kernel_rfl) (fun d v c a w h => by cases d <;> exact h) hS547 [43] [[.cs ((s : List Int).map wV)]] [(103, .agg ((s : List Int).map wV).toArray)] #[true, true, true, true, true, true, true, true, true, true, true, true, true, true, true, true, true, true, true, true, true, true, true, true, true, true, true, true, true, true, true, true, true, true, true, true, true, true, true, true, true, false, false, true, false, false, false] [(((s : List Int).map wV).length = 4), (∀ (j : Nat) (v : Value), ((s : List Int).map wV)[j]? = some v → ∃ j_ : Nat, Cs355[j_]? = some (((⟨w34.heap.size, 0, none⟩ : Addr).add j), v))] 5 f570 (by kernel_rfl) ⟨(by simp only [List.length_map, List.length_set, List.length_replicate, List.length_cons, List.length_nil]; first | done | assumption | exact from_len _ | exact of_len _ | exact ofZ_len _ | exact (ofW_ok _).1 | exact (fullW_W _).1 | exact (okW_with (by assumption)).1 | exact (okW_less (by assumption)).1 | exact put_len (from_len _) | exact orD_len _ _ | exact andD_len _ _ | exact minusD_len _ _ | exact fullD_len _ | (refine okLen ?_; (repeat (first | assumption | exact ofW_ok _ | exact fullW_W _ | apply okW_with | apply okW_less | refine okW_orS ?_ ?_ | refine okW_andS ?_ ?_ | refine okW_minusS ?_ ?_)); done) | omega | rfl), (fun j v hv => List.getElem?_of_mem (by rw [hCs356]; exact List.mem_append.2 (.inr (List.mem_append.2 (.inl (blkC_in hv)))))), trivial⟩ (fun act573 f572 => ?_)
 clear f570
 refine AtH.all [41] 4 (by kernel_rfl) (by simp) ⟨?_, trivial⟩
 refine OneH.call f572 32 #[.agg ((s : List Int).map wV).toArray, .agg ((t : List Int).map wV).toArray] (some 101) #[true, true, true, true, true, true, true, true, true, true, true, true, true, true, true, true, true, true, true, true, true, true, true, true, true, true, true, true, true, true, true, true, true, true, true, true, true, true, true, true, true, true, false, true, false, false, false] (by kernel_rfl) (by kernel_rfl) (orS_any (s := s) (t := t) (by repeat (first | assumption | exact ofW_ok _ | exact fullW_W _ | exact wordsD_W _ | exact okW_0 | exact okW_00 | apply okW_orS | apply okW_andS | apply okW_minusS | apply okW_with | apply okW_less | apply okW_or | apply okW_and | apply okW_minus | (apply okW_lit <;> exact ⟨by omega, by omega⟩))) (by repeat (first | assumption | exact ofW_ok _ | exact fullW_W _ | exact wordsD_W _ | exact okW_0 | exact okW_00 | apply okW_orS | apply okW_andS | apply okW_minusS | apply okW_with | apply okW_less | apply okW_or | apply okW_and | apply okW_minus | (apply okW_lit <;> exact ⟨by omega, by omega⟩)))) ?_
 rintro e_ w575 ⟨rfl, he⟩
 refine ⟨_, rfl, _, rfl, fun act576 f577 => ?_⟩
 clear f572
 have g578 := gr_ext he
 have hS574 := hS547.gr g578
 have szw575 := g578.size
 have e579 := e552.gr g578 no_row
 clear e552
 have r580 := r553.gr g578 (fun _ h => by cases h)
 clear r553
 have bx581 := bx554.gr g578 (by simp)
 clear bx554
 have bx582 := bx555.gr g578 (by simp)
 clear bx555
 have bx583 := bx556.gr g578 (by simp)
 clear bx556
 have bx584 := bx557.gr g578 (by simp)
 clear bx557
 have bx585 := bx558.gr g578 (by simp)
 clear bx558
 have bx586 := bx559.gr g578 (by simp)
 clear bx559
 clear g578 he
 refine ⟨hS574, ?_⟩
 refine AtH.all [42] 3 (by kernel_rfl) (by simp) ⟨?_, trivial⟩
 refine OneH.call f577 35 #[.agg ((s : List Int).map wV).toArray, .agg ((orS s t : List Int).map wV).toArray] (some 102) #[true, true, true, true, true, true, true, true, true, true, true, true, true, true, true, true, true, true, true, true, true, true, true, true, true, true, true, true, true, true, true, true, true, true, true, true, true, true, true, true, true, true, true, true, false, false, false] (by kernel_rfl) (by kernel_rfl) (andS_any (s := s) (t := orS s t) (by repeat (first | assumption | exact ofW_ok _ | exact fullW_W _ | exact wordsD_W _ | exact okW_0 | exact okW_00 | apply okW_orS | apply okW_andS | apply okW_minusS | apply okW_with | apply okW_less | apply okW_or | apply okW_and | apply okW_minus | (apply okW_lit <;> exact ⟨by omega, by omega⟩))) (by repeat (first | assumption | exact ofW_ok _ | exact fullW_W _ | exact wordsD_W _ | exact okW_0 | exact okW_00 | apply okW_orS | apply okW_andS | apply okW_minusS | apply okW_with | apply okW_less | apply okW_or | apply okW_and | apply okW_minus | (apply okW_lit <;> exact ⟨by omega, by omega⟩)))) ?_
 rintro e_ w588 ⟨rfl, he⟩
 refine ⟨_, rfl, _, rfl, fun act589 f590 => ?_⟩
 clear f577
 have g591 := gr_ext he
 have hS587 := hS574.gr g591
 have szw588 := g591.size
 have e592 := e579.gr g591 no_row
 clear e579
 have r593 := r580.gr g591 (fun _ h => by cases h)
 clear r580
 have bx594 := bx581.gr g591 (by simp)
 clear bx581
 have bx595 := bx582.gr g591 (by simp)
 clear bx582
 have bx596 := bx583.gr g591 (by simp)
 clear bx583
 have bx597 := bx584.gr g591 (by simp)
 clear bx584
 have bx598 := bx585.gr g591 (by simp)
 clear bx585
 have bx599 := bx586.gr g591 (by simp)
 clear bx586
 clear g591 he
 refine ⟨hS587, ?_⟩
 refine AtH.rd (by kernel_rfl) (fun d v c a w h => by cases d <;> exact h) hS587 [44] [[.cs [wV (gI (andS s (orS s t)) 0), wV (gI (andS s (orS s t)) 1), wV (gI (andS s (orS s t)) 2), wV (gI (andS s (orS s t)) 3)], .cs [wV (gI s 0), wV (gI s 1), wV (gI s 2), wV (gI s 3)], .as_ (.bool true)]] [(104, .bool true)] #[true, true, true, true, true, true, true, true, true, true, true, true, true, true, true, true, true, true, true, true, true, true, true, true, true, true, true, true, true, true, true, true, true, true, true, true, true, true, true, true, true, true, true, true, true, false, false] [(((andS s (orS s t) : List Int).map wV).toArray = ([wV (gI (andS s (orS s t)) 0), wV (gI (andS s (orS s t)) 1), wV (gI (andS s (orS s t)) 2), wV (gI (andS s (orS s t)) 3)] : List Value).toArray), (((s : List Int).map wV).toArray = ([wV (gI s 0), wV (gI s 1), wV (gI s 2), wV (gI s 3)] : List Value).toArray), ((.bool ((((gI (andS s (orS s t)) 0 : Int) == gI s 0) && (((gI (andS s (orS s t)) 1 : Int) == gI s 1) && (((gI (andS s (orS s t)) 2 : Int) == gI s 2) && (((gI (andS s (orS s t)) 3 : Int) == gI s 3) && true))))) : Value) = .bool true)] 2 f590 (by kernel_rfl) ⟨(map4 (by first | assumption | exact (okW_with (by assumption)).1 | exact (okW_less (by assumption)).1 | exact (ofW_ok _).1 | exact (fullW_W _).1 | (refine okLen ?_; (repeat (first | assumption | exact ofW_ok _ | exact fullW_W _ | apply okW_with | apply okW_less | refine okW_orS ?_ ?_ | refine okW_andS ?_ ?_ | refine okW_minusS ?_ ?_)); done) | rfl | omega | (simp only [List.length_set]; first | done | assumption | omega) | exact lenW4 _ (by assumption))), (map4 (by first | assumption | exact (okW_with (by assumption)).1 | exact (okW_less (by assumption)).1 | exact (ofW_ok _).1 | exact (fullW_W _).1 | (refine okLen ?_; (repeat (first | assumption | exact ofW_ok _ | exact fullW_W _ | apply okW_with | apply okW_less | refine okW_orS ?_ ?_ | refine okW_andS ?_ ?_ | refine okW_minusS ?_ ?_)); done) | rfl | omega | (simp only [List.length_set]; first | done | assumption | omega) | exact lenW4 _ (by assumption))), (Eq.trans (b := (.bool (decide ((andS s (orS s t) : List Int) = s)) : Value)) (congrArg (fun b => Value.bool b) (w4_eq (by first | assumption | exact (okW_with (by assumption)).1 | exact (okW_less (by assumption)).1 | exact (ofW_ok _).1 | exact (fullW_W _).1 | (refine okLen ?_; (repeat (first | assumption | exact ofW_ok _ | exact fullW_W _ | apply okW_with | apply okW_less | refine okW_orS ?_ ?_ | refine okW_andS ?_ ?_ | refine okW_minusS ?_ ?_)); done) | rfl | omega | (simp only [List.length_set]; first | done | assumption | omega) | exact lenW4 _ (by assumption)) (by first | assumption | exact (okW_with (by assumption)).1 | exact (okW_less (by assumption)).1 | exact (ofW_ok _).1 | exact (fullW_W _).1 | (refine okLen ?_; (repeat (first | assumption | exact ofW_ok _ | exact fullW_W _ | apply okW_with | apply okW_less | refine okW_orS ?_ ?_ | refine okW_andS ?_ ?_ | refine okW_minusS ?_ ?_)); done) | rfl | omega | (simp only [List.length_set]; first | done | assumption | omega) | exact lenW4 _ (by assumption)))) (congrArg Value.bool (alg8 hs ht))), trivial⟩ (fun act601 f600 => ?_)
 clear f590
 refine AtH.rd (by kernel_rfl) (fun d v c a w h => by cases d <;> exact h) hS587 [45] [[]] [(105, .bool true)] #[true, true, true, true, true, true, true, true, true, true, true, true, true, true, true, true, true, true, true, true, true, true, true, true, true, true, true, true, true, true, true, true, true, true, true, true, true, true, true, true, true, true, true, true, true, true, false] [] 1 f600 (by kernel_rfl) trivial (fun act603 f602 => ?_)
 clear f600
 refine AtH.rd (by kernel_rfl) (fun d v c a w h => by cases d <;> exact h) hS587 [46] [[]] [(12, .bool true)] #[true, true, true, true, true, true, true, true, true, true, true, true, true, true, true, true, true, true, true, true, true, true, true, true, true, true, true, true, true, true, true, true, true, true, true, true, true, true, true, true, true, true, true, true, true, true, true] [] 0 f602 (by kernel_rfl) trivial (fun act605 f604 => ?_)
 clear f602
 refine AtH.done (by kernel_rfl) ?_
 clear hS587
 refine t_n ?_
 have f606 := f604.sub (r := [(12, .bool true), (11, .bool true), (10, .pointer (some ⟨w86.heap.size, 0, none⟩)), (9, .pointer (some ⟨w60.heap.size, 0, none⟩)), (8, .pointer (some ⟨w34.heap.size, 0, none⟩)), (7, .bool true)]) ⟨rfl, rfl, rfl, rfl, rfl, rfl, trivial⟩
 clear f604
 refine wp_seq ?_
 obtain ⟨Cs607, hCs608⟩ : ∃ c : List (Addr × Value), c = ([] : List (Addr × Value)) ++ (blkC (w34.heap.size) ((s : List Int).map wV) ++ (blkC (w60.heap.size) ((t : List Int).map wV) ++ blkC (w86.heap.size) ((u : List Int).map wV))) := ⟨_, rfl⟩
 have hS609 : HoldsC Cs607 w588 := by rw [hCs608]; exact (holdsA (show HoldsC [] w588 from trivial) (holdsA (holds_blk bx597) (holdsA (holds_blk bx598) (holds_blk bx599))))
 refine AtH.start Cs607 43 #[false, false, false, false, false, false, false, false, false, false, false, false, false, false, false, false, false, false, false, false, false, false, false, false, false, false, false, false, false, false, false, false, false, false, false, false, false, false, false, false, false, false, false] (by kernel_rfl) rfl rfl (fun w611 hw612 => ?_)
 have g610 := gr_drew hw612
 have hS613 := hS609.gr g610
 have szw611 := g610.size
 have e614 := e592.gr g610 no_row
 clear e592
 have r615 := r593.gr g610 (fun _ h => by cases h)
 clear r593
 have bx616 := bx594.gr g610 (by simp)
 clear bx594
 have bx617 := bx595.gr g610 (by simp)
 clear bx595
 have bx618 := bx596.gr g610 (by simp)
 clear bx596
 have bx619 := bx597.gr g610 (by simp)
 clear bx597
 have bx620 := bx598.gr g610 (by simp)
 clear bx598
 have bx621 := bx599.gr g610 (by simp)
 clear bx599
 clear g610 hw612 hS609
 refine AtH.rd (by kernel_rfl) (fun d v c a w h => by cases d <;> exact h) hS613 [0, 1, 3, 4, 5] [[.cs ((s : List Int).map wV)], [.cs ((t : List Int).map wV)], [.cs ((s : List Int).map wV)], [.cs ((s : List Int).map wV)], [.cs ((t : List Int).map wV)]] [(111, .agg ((t : List Int).map wV).toArray), (110, .agg ((s : List Int).map wV).toArray), (109, .agg ((s : List Int).map wV).toArray), (107, .agg ((t : List Int).map wV).toArray), (106, .agg ((s : List Int).map wV).toArray)] #[true, true, false, true, true, true, false, false, false, false, false, false, false, false, false, false, false, false, false, false, false, false, false, false, false, false, false, false, false, false, false, false, false, false, false, false, false, false, false, false, false, false, false] [(((s : List Int).map wV).length = 4), (∀ (j : Nat) (v : Value), ((s : List Int).map wV)[j]? = some v → ∃ j_ : Nat, Cs607[j_]? = some (((⟨w34.heap.size, 0, none⟩ : Addr).add j), v)), (((t : List Int).map wV).length = 4), (∀ (j : Nat) (v : Value), ((t : List Int).map wV)[j]? = some v → ∃ j_ : Nat, Cs607[j_]? = some (((⟨w60.heap.size, 0, none⟩ : Addr).add j), v)), (((s : List Int).map wV).length = 4), (∀ (j : Nat) (v : Value), ((s : List Int).map wV)[j]? = some v → ∃ j_ : Nat, Cs607[j_]? = some (((⟨w34.heap.size, 0, none⟩ : Addr).add j), v)), (((s : List Int).map wV).length = 4), (∀ (j : Nat) (v : Value), ((s : List Int).map wV)[j]? = some v → ∃ j_ : Nat, Cs607[j_]? = some (((⟨w34.heap.size, 0, none⟩ : Addr).add j), v)), (((t : List Int).map wV).length = 4), (∀ (j : Nat) (v : Value), ((t : List Int).map wV)[j]? = some v → ∃ j_ : Nat, Cs607[j_]? = some (((⟨w60.heap.size, 0, none⟩ : Addr).add j), v))] 38 f606 (by kernel_rfl) ⟨(by simp only [List.length_map, List.length_set, List.length_replicate, List.length_cons, List.length_nil]; first | done | assumption | exact from_len _ | exact of_len _ | exact ofZ_len _ | exact (ofW_ok _).1 | exact (fullW_W _).1 | exact (okW_with (by assumption)).1 | exact (okW_less (by assumption)).1 | exact put_len (from_len _) | exact orD_len _ _ | exact andD_len _ _ | exact minusD_len _ _ | exact fullD_len _ | (refine okLen ?_; (repeat (first | assumption | exact ofW_ok _ | exact fullW_W _ | apply okW_with | apply okW_less | refine okW_orS ?_ ?_ | refine okW_andS ?_ ?_ | refine okW_minusS ?_ ?_)); done) | omega | rfl), (fun j v hv => List.getElem?_of_mem (by rw [hCs608]; exact List.mem_append.2 (.inr (List.mem_append.2 (.inl (blkC_in hv)))))), (by simp only [List.length_map, List.length_set, List.length_replicate, List.length_cons, List.length_nil]; first | done | assumption | exact from_len _ | exact of_len _ | exact ofZ_len _ | exact (ofW_ok _).1 | exact (fullW_W _).1 | exact (okW_with (by assumption)).1 | exact (okW_less (by assumption)).1 | exact put_len (from_len _) | exact orD_len _ _ | exact andD_len _ _ | exact minusD_len _ _ | exact fullD_len _ | (refine okLen ?_; (repeat (first | assumption | exact ofW_ok _ | exact fullW_W _ | apply okW_with | apply okW_less | refine okW_orS ?_ ?_ | refine okW_andS ?_ ?_ | refine okW_minusS ?_ ?_)); done) | omega | rfl), (fun j v hv => List.getElem?_of_mem (by rw [hCs608]; exact List.mem_append.2 (.inr (List.mem_append.2 (.inr (List.mem_append.2 (.inl (blkC_in hv)))))))), (by simp only [List.length_map, List.length_set, List.length_replicate, List.length_cons, List.length_nil]; first | done | assumption | exact from_len _ | exact of_len _ | exact ofZ_len _ | exact (ofW_ok _).1 | exact (fullW_W _).1 | exact (okW_with (by assumption)).1 | exact (okW_less (by assumption)).1 | exact put_len (from_len _) | exact orD_len _ _ | exact andD_len _ _ | exact minusD_len _ _ | exact fullD_len _ | (refine okLen ?_; (repeat (first | assumption | exact ofW_ok _ | exact fullW_W _ | apply okW_with | apply okW_less | refine okW_orS ?_ ?_ | refine okW_andS ?_ ?_ | refine okW_minusS ?_ ?_)); done) | omega | rfl), (fun j v hv => List.getElem?_of_mem (by rw [hCs608]; exact List.mem_append.2 (.inr (List.mem_append.2 (.inl (blkC_in hv)))))), (by simp only [List.length_map, List.length_set, List.length_replicate, List.length_cons, List.length_nil]; first | done | assumption | exact from_len _ | exact of_len _ | exact ofZ_len _ | exact (ofW_ok _).1 | exact (fullW_W _).1 | exact (okW_with (by assumption)).1 | exact (okW_less (by assumption)).1 | exact put_len (from_len _) | exact orD_len _ _ | exact andD_len _ _ | exact minusD_len _ _ | exact fullD_len _ | (refine okLen ?_; (repeat (first | assumption | exact ofW_ok _ | exact fullW_W _ | apply okW_with | apply okW_less | refine okW_orS ?_ ?_ | refine okW_andS ?_ ?_ | refine okW_minusS ?_ ?_)); done) | omega | rfl), (fun j v hv => List.getElem?_of_mem (by rw [hCs608]; exact List.mem_append.2 (.inr (List.mem_append.2 (.inl (blkC_in hv)))))), (by simp only [List.length_map, List.length_set, List.length_replicate, List.length_cons, List.length_nil]; first | done | assumption | exact from_len _ | exact of_len _ | exact ofZ_len _ | exact (ofW_ok _).1 | exact (fullW_W _).1 | exact (okW_with (by assumption)).1 | exact (okW_less (by assumption)).1 | exact put_len (from_len _) | exact orD_len _ _ | exact andD_len _ _ | exact minusD_len _ _ | exact fullD_len _ | (refine okLen ?_; (repeat (first | assumption | exact ofW_ok _ | exact fullW_W _ | apply okW_with | apply okW_less | refine okW_orS ?_ ?_ | refine okW_andS ?_ ?_ | refine okW_minusS ?_ ?_)); done) | omega | rfl), (fun j v hv => List.getElem?_of_mem (by rw [hCs608]; exact List.mem_append.2 (.inr (List.mem_append.2 (.inr (List.mem_append.2 (.inl (blkC_in hv)))))))), trivial⟩ (fun act623 f622 => ?_)
 clear f606
 refine AtH.all [2] 37 (by kernel_rfl) (by simp) ⟨?_, trivial⟩
 refine OneH.call f622 37 #[.agg ((s : List Int).map wV).toArray, .agg ((t : List Int).map wV).toArray] (some 108) #[true, true, true, true, true, true, false, false, false, false, false, false, false, false, false, false, false, false, false, false, false, false, false, false, false, false, false, false, false, false, false, false, false, false, false, false, false, false, false, false, false, false, false] (by kernel_rfl) (by kernel_rfl) (minusS_any (s := s) (t := t) (by repeat (first | assumption | exact ofW_ok _ | exact fullW_W _ | exact wordsD_W _ | exact okW_0 | exact okW_00 | apply okW_orS | apply okW_andS | apply okW_minusS | apply okW_with | apply okW_less | apply okW_or | apply okW_and | apply okW_minus | (apply okW_lit <;> exact ⟨by omega, by omega⟩))) (by repeat (first | assumption | exact ofW_ok _ | exact fullW_W _ | exact wordsD_W _ | exact okW_0 | exact okW_00 | apply okW_orS | apply okW_andS | apply okW_minusS | apply okW_with | apply okW_less | apply okW_or | apply okW_and | apply okW_minus | (apply okW_lit <;> exact ⟨by omega, by omega⟩)))) ?_
 rintro e_ w625 ⟨rfl, he⟩
 refine ⟨_, rfl, _, rfl, fun act626 f627 => ?_⟩
 clear f622
 have g628 := gr_ext he
 have hS624 := hS613.gr g628
 have szw625 := g628.size
 have e629 := e614.gr g628 no_row
 clear e614
 have r630 := r615.gr g628 (fun _ h => by cases h)
 clear r615
 have bx631 := bx616.gr g628 (by simp)
 clear bx616
 have bx632 := bx617.gr g628 (by simp)
 clear bx617
 have bx633 := bx618.gr g628 (by simp)
 clear bx618
 have bx634 := bx619.gr g628 (by simp)
 clear bx619
 have bx635 := bx620.gr g628 (by simp)
 clear bx620
 have bx636 := bx621.gr g628 (by simp)
 clear bx621
 clear g628 he
 refine ⟨hS624, ?_⟩
 refine AtH.all [6] 36 (by kernel_rfl) (by simp) ⟨?_, trivial⟩
 refine OneH.call f627 35 #[.agg ((s : List Int).map wV).toArray, .agg ((t : List Int).map wV).toArray] (some 112) #[true, true, true, true, true, true, true, false, false, false, false, false, false, false, false, false, false, false, false, false, false, false, false, false, false, false, false, false, false, false, false, false, false, false, false, false, false, false, false, false, false, false, false] (by kernel_rfl) (by kernel_rfl) (andS_any (s := s) (t := t) (by repeat (first | assumption | exact ofW_ok _ | exact fullW_W _ | exact wordsD_W _ | exact okW_0 | exact okW_00 | apply okW_orS | apply okW_andS | apply okW_minusS | apply okW_with | apply okW_less | apply okW_or | apply okW_and | apply okW_minus | (apply okW_lit <;> exact ⟨by omega, by omega⟩))) (by repeat (first | assumption | exact ofW_ok _ | exact fullW_W _ | exact wordsD_W _ | exact okW_0 | exact okW_00 | apply okW_orS | apply okW_andS | apply okW_minusS | apply okW_with | apply okW_less | apply okW_or | apply okW_and | apply okW_minus | (apply okW_lit <;> exact ⟨by omega, by omega⟩)))) ?_
 rintro e_ w638 ⟨rfl, he⟩
 refine ⟨_, rfl, _, rfl, fun act639 f640 => ?_⟩
 clear f627
 have g641 := gr_ext he
 have hS637 := hS624.gr g641
 have szw638 := g641.size
 have e642 := e629.gr g641 no_row
 clear e629
 have r643 := r630.gr g641 (fun _ h => by cases h)
 clear r630
 have bx644 := bx631.gr g641 (by simp)
 clear bx631
 have bx645 := bx632.gr g641 (by simp)
 clear bx632
 have bx646 := bx633.gr g641 (by simp)
 clear bx633
 have bx647 := bx634.gr g641 (by simp)
 clear bx634
 have bx648 := bx635.gr g641 (by simp)
 clear bx635
 have bx649 := bx636.gr g641 (by simp)
 clear bx636
 clear g641 he
 refine ⟨hS637, ?_⟩
 refine AtH.all [7] 35 (by kernel_rfl) (by simp) ⟨?_, trivial⟩
 refine OneH.call f640 37 #[.agg ((s : List Int).map wV).toArray, .agg ((andS s t : List Int).map wV).toArray] (some 113) #[true, true, true, true, true, true, true, true, false, false, false, false, false, false, false, false, false, false, false, false, false, false, false, false, false, false, false, false, false, false, false, false, false, false, false, false, false, false, false, false, false, false, false] (by kernel_rfl) (by kernel_rfl) (minusS_any (s := s) (t := andS s t) (by repeat (first | assumption | exact ofW_ok _ | exact fullW_W _ | exact wordsD_W _ | exact okW_0 | exact okW_00 | apply okW_orS | apply okW_andS | apply okW_minusS | apply okW_with | apply okW_less | apply okW_or | apply okW_and | apply okW_minus | (apply okW_lit <;> exact ⟨by omega, by omega⟩))) (by repeat (first | assumption | exact ofW_ok _ | exact fullW_W _ | exact wordsD_W _ | exact okW_0 | exact okW_00 | apply okW_orS | apply okW_andS | apply okW_minusS | apply okW_with | apply okW_less | apply okW_or | apply okW_and | apply okW_minus | (apply okW_lit <;> exact ⟨by omega, by omega⟩)))) ?_
 rintro e_ w651 ⟨rfl, he⟩
 refine ⟨_, rfl, _, rfl, fun act652 f653 => ?_⟩
 clear f640
 have g654 := gr_ext he
 have hS650 := hS637.gr g654
 have szw651 := g654.size
 have e655 := e642.gr g654 no_row
 clear e642
 have r656 := r643.gr g654 (fun _ h => by cases h)
 clear r643
 have bx657 := bx644.gr g654 (by simp)
 clear bx644
 have bx658 := bx645.gr g654 (by simp)
 clear bx645
 have bx659 := bx646.gr g654 (by simp)
 clear bx646
 have bx660 := bx647.gr g654 (by simp)
 clear bx647
 have bx661 := bx648.gr g654 (by simp)
 clear bx648
 have bx662 := bx649.gr g654 (by simp)
 clear bx649
 clear g654 he
 refine ⟨hS650, ?_⟩
 refine AtH.rd (by kernel_rfl) (fun d v c a w h => by cases d <;> exact h) hS650 [8] [[.cs [wV (gI (minusS s t) 0), wV (gI (minusS s t) 1), wV (gI (minusS s t) 2), wV (gI (minusS s t) 3)], .cs [wV (gI (minusS s (andS s t)) 0), wV (gI (minusS s (andS s t)) 1), wV (gI (minusS s (andS s t)) 2), wV (gI (minusS s (andS s t)) 3)], .as_ (.bool true)]] [(114, .bool true)] #[true, true, true, true, true, true, true, true, true, false, false, false, false, false, false, false, false, false, false, false, false, false, false, false, false, false, false, false, false, false, false, false, false, false, false, false, false, false, false, false, false, false, false] [(((minusS s t : List Int).map wV).toArray = ([wV (gI (minusS s t) 0), wV (gI (minusS s t) 1), wV (gI (minusS s t) 2), wV (gI (minusS s t) 3)] : List Value).toArray), (((minusS s (andS s t) : List Int).map wV).toArray = ([wV (gI (minusS s (andS s t)) 0), wV (gI (minusS s (andS s t)) 1), wV (gI (minusS s (andS s t)) 2), wV (gI (minusS s (andS s t)) 3)] : List Value).toArray), ((.bool ((((gI (minusS s t) 0 : Int) == gI (minusS s (andS s t)) 0) && (((gI (minusS s t) 1 : Int) == gI (minusS s (andS s t)) 1) && (((gI (minusS s t) 2 : Int) == gI (minusS s (andS s t)) 2) && (((gI (minusS s t) 3 : Int) == gI (minusS s (andS s t)) 3) && true))))) : Value) = .bool true)] 34 f653 (by kernel_rfl) ⟨(map4 (by first | assumption | exact (okW_with (by assumption)).1 | exact (okW_less (by assumption)).1 | exact (ofW_ok _).1 | exact (fullW_W _).1 | (refine okLen ?_; (repeat (first | assumption | exact ofW_ok _ | exact fullW_W _ | apply okW_with | apply okW_less | refine okW_orS ?_ ?_ | refine okW_andS ?_ ?_ | refine okW_minusS ?_ ?_)); done) | rfl | omega | (simp only [List.length_set]; first | done | assumption | omega) | exact lenW4 _ (by assumption))), (map4 (by first | assumption | exact (okW_with (by assumption)).1 | exact (okW_less (by assumption)).1 | exact (ofW_ok _).1 | exact (fullW_W _).1 | (refine okLen ?_; (repeat (first | assumption | exact ofW_ok _ | exact fullW_W _ | apply okW_with | apply okW_less | refine okW_orS ?_ ?_ | refine okW_andS ?_ ?_ | refine okW_minusS ?_ ?_)); done) | rfl | omega | (simp only [List.length_set]; first | done | assumption | omega) | exact lenW4 _ (by assumption))), (Eq.trans (b := (.bool (decide ((minusS s t : List Int) = (minusS s (andS s t)))) : Value)) (congrArg (fun b => Value.bool b) (w4_eq (by first | assumption | exact (okW_with (by assumption)).1 | exact (okW_less (by assumption)).1 | exact (ofW_ok _).1 | exact (fullW_W _).1 | (refine okLen ?_; (repeat (first | assumption | exact ofW_ok _ | exact fullW_W _ | apply okW_with | apply okW_less | refine okW_orS ?_ ?_ | refine okW_andS ?_ ?_ | refine okW_minusS ?_ ?_)); done) | rfl | omega | (simp only [List.length_set]; first | done | assumption | omega) | exact lenW4 _ (by assumption)) (by first | assumption | exact (okW_with (by assumption)).1 | exact (okW_less (by assumption)).1 | exact (ofW_ok _).1 | exact (fullW_W _).1 | (refine okLen ?_; (repeat (first | assumption | exact ofW_ok _ | exact fullW_W _ | apply okW_with | apply okW_less | refine okW_orS ?_ ?_ | refine okW_andS ?_ ?_ | refine okW_minusS ?_ ?_)); done) | rfl | omega | (simp only [List.length_set]; first | done | assumption | omega) | exact lenW4 _ (by assumption)))) (congrArg Value.bool (alg9 hs ht))), trivial⟩ (fun act664 f663 => ?_)
 clear f653
 refine AtH.rd (by kernel_rfl) (fun d v c a w h => by cases d <;> exact h) hS650 [9] [[]] [(115, .bool true)] #[true, true, true, true, true, true, true, true, true, true, false, false, false, false, false, false, false, false, false, false, false, false, false, false, false, false, false, false, false, false, false, false, false, false, false, false, false, false, false, false, false, false, false] [] 33 f663 (by kernel_rfl) trivial (fun act666 f665 => ?_)
 clear f663
 refine AtH.rd (by kernel_rfl) (fun d v c a w h => by cases d <;> exact h) hS650 [10] [[.cs ((s : List Int).map wV)]] [(116, .agg ((s : List Int).map wV).toArray)] #[true, true, true, true, true, true, true, true, true, true, true, false, false, false, false, false, false, false, false, false, false, false, false, false, false, false, false, false, false, false, false, false, false, false, false, false, false, false, false, false, false, false, false] [(((s : List Int).map wV).length = 4), (∀ (j : Nat) (v : Value), ((s : List Int).map wV)[j]? = some v → ∃ j_ : Nat, Cs607[j_]? = some (((⟨w34.heap.size, 0, none⟩ : Addr).add j), v))] 32 f665 (by kernel_rfl) ⟨(by simp only [List.length_map, List.length_set, List.length_replicate, List.length_cons, List.length_nil]; first | done | assumption | exact from_len _ | exact of_len _ | exact ofZ_len _ | exact (ofW_ok _).1 | exact (fullW_W _).1 | exact (okW_with (by assumption)).1 | exact (okW_less (by assumption)).1 | exact put_len (from_len _) | exact orD_len _ _ | exact andD_len _ _ | exact minusD_len _ _ | exact fullD_len _ | (refine okLen ?_; (repeat (first | assumption | exact ofW_ok _ | exact fullW_W _ | apply okW_with | apply okW_less | refine okW_orS ?_ ?_ | refine okW_andS ?_ ?_ | refine okW_minusS ?_ ?_)); done) | omega | rfl), (fun j v hv => List.getElem?_of_mem (by rw [hCs608]; exact List.mem_append.2 (.inr (List.mem_append.2 (.inl (blkC_in hv)))))), trivial⟩ (fun act668 f667 => ?_)
 clear f665
 refine AtH.rd (by kernel_rfl) (fun d v c a w h => by cases d <;> exact h) hS650 [11] [[.cs ((t : List Int).map wV)]] [(117, .agg ((t : List Int).map wV).toArray)] #[true, true, true, true, true, true, true, true, true, true, true, true, false, false, false, false, false, false, false, false, false, false, false, false, false, false, false, false, false, false, false, false, false, false, false, false, false, false, false, false, false, false, false] [(((t : List Int).map wV).length = 4), (∀ (j : Nat) (v : Value), ((t : List Int).map wV)[j]? = some v → ∃ j_ : Nat, Cs607[j_]? = some (((⟨w60.heap.size, 0, none⟩ : Addr).add j), v))] 31 f667 (by kernel_rfl) ⟨(by simp only [List.length_map, List.length_set, List.length_replicate, List.length_cons, List.length_nil]; first | done | assumption | exact from_len _ | exact of_len _ | exact ofZ_len _ | exact (ofW_ok _).1 | exact (fullW_W _).1 | exact (okW_with (by assumption)).1 | exact (okW_less (by assumption)).1 | exact put_len (from_len _) | exact orD_len _ _ | exact andD_len _ _ | exact minusD_len _ _ | exact fullD_len _ | (refine okLen ?_; (repeat (first | assumption | exact ofW_ok _ | exact fullW_W _ | apply okW_with | apply okW_less | refine okW_orS ?_ ?_ | refine okW_andS ?_ ?_ | refine okW_minusS ?_ ?_)); done) | omega | rfl), (fun j v hv => List.getElem?_of_mem (by rw [hCs608]; exact List.mem_append.2 (.inr (List.mem_append.2 (.inr (List.mem_append.2 (.inl (blkC_in hv)))))))), trivial⟩ (fun act670 f669 => ?_)
 clear f667
 refine AtH.rd (by kernel_rfl) (fun d v c a w h => by cases d <;> exact h) hS650 [13] [[.cs ((t : List Int).map wV)]] [(119, .agg ((t : List Int).map wV).toArray)] #[true, true, true, true, true, true, true, true, true, true, true, true, false, true, false, false, false, false, false, false, false, false, false, false, false, false, false, false, false, false, false, false, false, false, false, false, false, false, false, false, false, false, false] [(((t : List Int).map wV).length = 4), (∀ (j : Nat) (v : Value), ((t : List Int).map wV)[j]? = some v → ∃ j_ : Nat, Cs607[j_]? = some (((⟨w60.heap.size, 0, none⟩ : Addr).add j), v))] 30 f669 (by kernel_rfl) ⟨(by simp only [List.length_map, List.length_set, List.length_replicate, List.length_cons, List.length_nil]; first | done | assumption | exact from_len _ | exact of_len _ | exact ofZ_len _ | exact (ofW_ok _).1 | exact (fullW_W _).1 | exact (okW_with (by assumption)).1 | exact (okW_less (by assumption)).1 | exact put_len (from_len _) | exact orD_len _ _ | exact andD_len _ _ | exact minusD_len _ _ | exact fullD_len _ | (refine okLen ?_; (repeat (first | assumption | exact ofW_ok _ | exact fullW_W _ | apply okW_with | apply okW_less | refine okW_orS ?_ ?_ | refine okW_andS ?_ ?_ | refine okW_minusS ?_ ?_)); done) | omega | rfl), (fun j v hv => List.getElem?_of_mem (by rw [hCs608]; exact List.mem_append.2 (.inr (List.mem_append.2 (.inr (List.mem_append.2 (.inl (blkC_in hv)))))))), trivial⟩ (fun act672 f671 => ?_)
 clear f669
 refine AtH.rd (by kernel_rfl) (fun d v c a w h => by cases d <;> exact h) hS650 [15] [[]] [(121, .agg (([0, 0, 0, 0] : List Int).map wV).toArray)] #[true, true, true, true, true, true, true, true, true, true, true, true, false, true, false, true, false, false, false, false, false, false, false, false, false, false, false, false, false, false, false, false, false, false, false, false, false, false, false, false, false, false, false] [] 29 f671 (by kernel_rfl) trivial (fun act674 f673 => ?_)
 clear f671
 refine AtH.all [12] 28 (by kernel_rfl) (by simp) ⟨?_, trivial⟩
 refine OneH.call f673 37 #[.agg ((s : List Int).map wV).toArray, .agg ((t : List Int).map wV).toArray] (some 118) #[true, true, true, true, true, true, true, true, true, true, true, true, true, true, false, true, false, false, false, false, false, false, false, false, false, false, false, false, false, false, false, false, false, false, false, false, false, false, false, false, false, false, false] (by kernel_rfl) (by kernel_rfl) (minusS_any (s := s) (t := t) (by repeat (first | assumption | exact ofW_ok _ | exact fullW_W _ | exact wordsD_W _ | exact okW_0 | exact okW_00 | apply okW_orS | apply okW_andS | apply okW_minusS | apply okW_with | apply okW_less | apply okW_or | apply okW_and | apply okW_minus | (apply okW_lit <;> exact ⟨by omega, by omega⟩))) (by repeat (first | assumption | exact ofW_ok _ | exact fullW_W _ | exact wordsD_W _ | exact okW_0 | exact okW_00 | apply okW_orS | apply okW_andS | apply okW_minusS | apply okW_with | apply okW_less | apply okW_or | apply okW_and | apply okW_minus | (apply okW_lit <;> exact ⟨by omega, by omega⟩)))) ?_
 rintro e_ w676 ⟨rfl, he⟩
 refine ⟨_, rfl, _, rfl, fun act677 f678 => ?_⟩
 clear f673
 have g679 := gr_ext he
 have hS675 := hS650.gr g679
 have szw676 := g679.size
 have e680 := e655.gr g679 no_row
 clear e655
 have r681 := r656.gr g679 (fun _ h => by cases h)
 clear r656
 have bx682 := bx657.gr g679 (by simp)
 clear bx657
 have bx683 := bx658.gr g679 (by simp)
 clear bx658
 have bx684 := bx659.gr g679 (by simp)
 clear bx659
 have bx685 := bx660.gr g679 (by simp)
 clear bx660
 have bx686 := bx661.gr g679 (by simp)
 clear bx661
 have bx687 := bx662.gr g679 (by simp)
 clear bx662
 clear g679 he
 refine ⟨hS675, ?_⟩
 refine AtH.all [14] 27 (by kernel_rfl) (by simp) ⟨?_, trivial⟩
 refine OneH.call f678 35 #[.agg ((minusS s t : List Int).map wV).toArray, .agg ((t : List Int).map wV).toArray] (some 120) #[true, true, true, true, true, true, true, true, true, true, true, true, true, true, true, true, false, false, false, false, false, false, false, false, false, false, false, false, false, false, false, false, false, false, false, false, false, false, false, false, false, false, false] (by kernel_rfl) (by kernel_rfl) (andS_any (s := minusS s t) (t := t) (by repeat (first | assumption | exact ofW_ok _ | exact fullW_W _ | exact wordsD_W _ | exact okW_0 | exact okW_00 | apply okW_orS | apply okW_andS | apply okW_minusS | apply okW_with | apply okW_less | apply okW_or | apply okW_and | apply okW_minus | (apply okW_lit <;> exact ⟨by omega, by omega⟩))) (by repeat (first | assumption | exact ofW_ok _ | exact fullW_W _ | exact wordsD_W _ | exact okW_0 | exact okW_00 | apply okW_orS | apply okW_andS | apply okW_minusS | apply okW_with | apply okW_less | apply okW_or | apply okW_and | apply okW_minus | (apply okW_lit <;> exact ⟨by omega, by omega⟩)))) ?_
 rintro e_ w689 ⟨rfl, he⟩
 refine ⟨_, rfl, _, rfl, fun act690 f691 => ?_⟩
 clear f678
 have g692 := gr_ext he
 have hS688 := hS675.gr g692
 have szw689 := g692.size
 have e693 := e680.gr g692 no_row
 clear e680
 have r694 := r681.gr g692 (fun _ h => by cases h)
 clear r681
 have bx695 := bx682.gr g692 (by simp)
 clear bx682
 have bx696 := bx683.gr g692 (by simp)
 clear bx683
 have bx697 := bx684.gr g692 (by simp)
 clear bx684
 have bx698 := bx685.gr g692 (by simp)
 clear bx685
 have bx699 := bx686.gr g692 (by simp)
 clear bx686
 have bx700 := bx687.gr g692 (by simp)
 clear bx687
 clear g692 he
 refine ⟨hS688, ?_⟩
 refine AtH.rd (by kernel_rfl) (fun d v c a w h => by cases d <;> exact h) hS688 [16] [[.cs [wV (gI (andS (minusS s t) t) 0), wV (gI (andS (minusS s t) t) 1), wV (gI (andS (minusS s t) t) 2), wV (gI (andS (minusS s t) t) 3)], .cs [wV (gI ([0, 0, 0, 0]) 0), wV (gI ([0, 0, 0, 0]) 1), wV (gI ([0, 0, 0, 0]) 2), wV (gI ([0, 0, 0, 0]) 3)], .as_ (.bool true)]] [(122, .bool true)] #[true, true, true, true, true, true, true, true, true, true, true, true, true, true, true, true, true, false, false, false, false, false, false, false, false, false, false, false, false, false, false, false, false, false, false, false, false, false, false, false, false, false, false] [(((andS (minusS s t) t : List Int).map wV).toArray = ([wV (gI (andS (minusS s t) t) 0), wV (gI (andS (minusS s t) t) 1), wV (gI (andS (minusS s t) t) 2), wV (gI (andS (minusS s t) t) 3)] : List Value).toArray), ((([0, 0, 0, 0] : List Int).map wV).toArray = ([wV (gI ([0, 0, 0, 0]) 0), wV (gI ([0, 0, 0, 0]) 1), wV (gI ([0, 0, 0, 0]) 2), wV (gI ([0, 0, 0, 0]) 3)] : List Value).toArray), ((.bool ((((gI (andS (minusS s t) t) 0 : Int) == gI ([0, 0, 0, 0]) 0) && (((gI (andS (minusS s t) t) 1 : Int) == gI ([0, 0, 0, 0]) 1) && (((gI (andS (minusS s t) t) 2 : Int) == gI ([0, 0, 0, 0]) 2) && (((gI (andS (minusS s t) t) 3 : Int) == gI ([0, 0, 0, 0]) 3) && true))))) : Value) = .bool true)] 26 f691 (by kernel_rfl) ⟨(map4 (by first | assumption | exact (okW_with (by assumption)).1 | exact (okW_less (by assumption)).1 | exact (ofW_ok _).1 | exact (fullW_W _).1 | (refine okLen ?_; (repeat (first | assumption | exact ofW_ok _ | exact fullW_W _ | apply okW_with | apply okW_less | refine okW_orS ?_ ?_ | refine okW_andS ?_ ?_ | refine okW_minusS ?_ ?_)); done) | rfl | omega | (simp only [List.length_set]; first | done | assumption | omega) | exact lenW4 _ (by assumption))), (map4 (by first | assumption | exact (okW_with (by assumption)).1 | exact (okW_less (by assumption)).1 | exact (ofW_ok _).1 | exact (fullW_W _).1 | (refine okLen ?_; (repeat (first | assumption | exact ofW_ok _ | exact fullW_W _ | apply okW_with | apply okW_less | refine okW_orS ?_ ?_ | refine okW_andS ?_ ?_ | refine okW_minusS ?_ ?_)); done) | rfl | omega | (simp only [List.length_set]; first | done | assumption | omega) | exact lenW4 _ (by assumption))), (Eq.trans (b := (.bool (decide ((andS (minusS s t) t : List Int) = ([0, 0, 0, 0]))) : Value)) (congrArg (fun b => Value.bool b) (w4_eq (by first | assumption | exact (okW_with (by assumption)).1 | exact (okW_less (by assumption)).1 | exact (ofW_ok _).1 | exact (fullW_W _).1 | (refine okLen ?_; (repeat (first | assumption | exact ofW_ok _ | exact fullW_W _ | apply okW_with | apply okW_less | refine okW_orS ?_ ?_ | refine okW_andS ?_ ?_ | refine okW_minusS ?_ ?_)); done) | rfl | omega | (simp only [List.length_set]; first | done | assumption | omega) | exact lenW4 _ (by assumption)) (by first | assumption | exact (okW_with (by assumption)).1 | exact (okW_less (by assumption)).1 | exact (ofW_ok _).1 | exact (fullW_W _).1 | (refine okLen ?_; (repeat (first | assumption | exact ofW_ok _ | exact fullW_W _ | apply okW_with | apply okW_less | refine okW_orS ?_ ?_ | refine okW_andS ?_ ?_ | refine okW_minusS ?_ ?_)); done) | rfl | omega | (simp only [List.length_set]; first | done | assumption | omega) | exact lenW4 _ (by assumption)))) (congrArg Value.bool (alg10 hs ht))), trivial⟩ (fun act702 f701 => ?_)
 clear f691
 refine AtH.rd (by kernel_rfl) (fun d v c a w h => by cases d <;> exact h) hS688 [17] [[]] [(123, .bool true)] #[true, true, true, true, true, true, true, true, true, true, true, true, true, true, true, true, true, true, false, false, false, false, false, false, false, false, false, false, false, false, false, false, false, false, false, false, false, false, false, false, false, false, false] [] 25 f701 (by kernel_rfl) trivial (fun act704 f703 => ?_)
 clear f701
 refine AtH.rd (by kernel_rfl) (fun d v c a w h => by cases d <;> exact h) hS688 [18] [[]] [(124, .bool true)] #[true, true, true, true, true, true, true, true, true, true, true, true, true, true, true, true, true, true, true, false, false, false, false, false, false, false, false, false, false, false, false, false, false, false, false, false, false, false, false, false, false, false, false] [] 24 f703 (by kernel_rfl) trivial (fun act706 f705 => ?_)
 clear f703
 refine AtH.rd (by kernel_rfl) (fun d v c a w h => by cases d <;> exact h) hS688 [19] [[.cs ((s : List Int).map wV)]] [(125, .agg ((s : List Int).map wV).toArray)] #[true, true, true, true, true, true, true, true, true, true, true, true, true, true, true, true, true, true, true, true, false, false, false, false, false, false, false, false, false, false, false, false, false, false, false, false, false, false, false, false, false, false, false] [(((s : List Int).map wV).length = 4), (∀ (j : Nat) (v : Value), ((s : List Int).map wV)[j]? = some v → ∃ j_ : Nat, Cs607[j_]? = some (((⟨w34.heap.size, 0, none⟩ : Addr).add j), v))] 23 f705 (by kernel_rfl) ⟨(by simp only [List.length_map, List.length_set, List.length_replicate, List.length_cons, List.length_nil]; first | done | assumption | exact from_len _ | exact of_len _ | exact ofZ_len _ | exact (ofW_ok _).1 | exact (fullW_W _).1 | exact (okW_with (by assumption)).1 | exact (okW_less (by assumption)).1 | exact put_len (from_len _) | exact orD_len _ _ | exact andD_len _ _ | exact minusD_len _ _ | exact fullD_len _ | (refine okLen ?_; (repeat (first | assumption | exact ofW_ok _ | exact fullW_W _ | apply okW_with | apply okW_less | refine okW_orS ?_ ?_ | refine okW_andS ?_ ?_ | refine okW_minusS ?_ ?_)); done) | omega | rfl), (fun j v hv => List.getElem?_of_mem (by rw [hCs608]; exact List.mem_append.2 (.inr (List.mem_append.2 (.inl (blkC_in hv)))))), trivial⟩ (fun act708 f707 => ?_)
 clear f705
 refine AtH.rd (by kernel_rfl) (fun d v c a w h => by cases d <;> exact h) hS688 [20] [[.cs ((t : List Int).map wV)]] [(126, .agg ((t : List Int).map wV).toArray)] #[true, true, true, true, true, true, true, true, true, true, true, true, true, true, true, true, true, true, true, true, true, false, false, false, false, false, false, false, false, false, false, false, false, false, false, false, false, false, false, false, false, false, false] [(((t : List Int).map wV).length = 4), (∀ (j : Nat) (v : Value), ((t : List Int).map wV)[j]? = some v → ∃ j_ : Nat, Cs607[j_]? = some (((⟨w60.heap.size, 0, none⟩ : Addr).add j), v))] 22 f707 (by kernel_rfl) ⟨(by simp only [List.length_map, List.length_set, List.length_replicate, List.length_cons, List.length_nil]; first | done | assumption | exact from_len _ | exact of_len _ | exact ofZ_len _ | exact (ofW_ok _).1 | exact (fullW_W _).1 | exact (okW_with (by assumption)).1 | exact (okW_less (by assumption)).1 | exact put_len (from_len _) | exact orD_len _ _ | exact andD_len _ _ | exact minusD_len _ _ | exact fullD_len _ | (refine okLen ?_; (repeat (first | assumption | exact ofW_ok _ | exact fullW_W _ | apply okW_with | apply okW_less | refine okW_orS ?_ ?_ | refine okW_andS ?_ ?_ | refine okW_minusS ?_ ?_)); done) | omega | rfl), (fun j v hv => List.getElem?_of_mem (by rw [hCs608]; exact List.mem_append.2 (.inr (List.mem_append.2 (.inr (List.mem_append.2 (.inl (blkC_in hv)))))))), trivial⟩ (fun act710 f709 => ?_)
 clear f707
 refine AtH.rd (by kernel_rfl) (fun d v c a w h => by cases d <;> exact h) hS688 [22] [[.cs ((s : List Int).map wV)]] [(128, .agg ((s : List Int).map wV).toArray)] #[true, true, true, true, true, true, true, true, true, true, true, true, true, true, true, true, true, true, true, true, true, false, true, false, false, false, false, false, false, false, false, false, false, false, false, false, false, false, false, false, false, false, false] [(((s : List Int).map wV).length = 4), (∀ (j : Nat) (v : Value), ((s : List Int).map wV)[j]? = some v → ∃ j_ : Nat, Cs607[j_]? = some (((⟨w34.heap.size, 0, none⟩ : Addr).add j), v))] 21 f709 (by kernel_rfl) ⟨(by simp only [List.length_map, List.length_set, List.length_replicate, List.length_cons, List.length_nil]; first | done | assumption | exact from_len _ | exact of_len _ | exact ofZ_len _ | exact (ofW_ok _).1 | exact (fullW_W _).1 | exact (okW_with (by assumption)).1 | exact (okW_less (by assumption)).1 | exact put_len (from_len _) | exact orD_len _ _ | exact andD_len _ _ | exact minusD_len _ _ | exact fullD_len _ | (refine okLen ?_; (repeat (first | assumption | exact ofW_ok _ | exact fullW_W _ | apply okW_with | apply okW_less | refine okW_orS ?_ ?_ | refine okW_andS ?_ ?_ | refine okW_minusS ?_ ?_)); done) | omega | rfl), (fun j v hv => List.getElem?_of_mem (by rw [hCs608]; exact List.mem_append.2 (.inr (List.mem_append.2 (.inl (blkC_in hv)))))), trivial⟩ (fun act712 f711 => ?_)
 clear f709
 refine AtH.rd (by kernel_rfl) (fun d v c a w h => by cases d <;> exact h) hS688 [23] [[.cs ((t : List Int).map wV)]] [(129, .agg ((t : List Int).map wV).toArray)] #[true, true, true, true, true, true, true, true, true, true, true, true, true, true, true, true, true, true, true, true, true, false, true, true, false, false, false, false, false, false, false, false, false, false, false, false, false, false, false, false, false, false, false] [(((t : List Int).map wV).length = 4), (∀ (j : Nat) (v : Value), ((t : List Int).map wV)[j]? = some v → ∃ j_ : Nat, Cs607[j_]? = some (((⟨w60.heap.size, 0, none⟩ : Addr).add j), v))] 20 f711 (by kernel_rfl) ⟨(by simp only [List.length_map, List.length_set, List.length_replicate, List.length_cons, List.length_nil]; first | done | assumption | exact from_len _ | exact of_len _ | exact ofZ_len _ | exact (ofW_ok _).1 | exact (fullW_W _).1 | exact (okW_with (by assumption)).1 | exact (okW_less (by assumption)).1 | exact put_len (from_len _) | exact orD_len _ _ | exact andD_len _ _ | exact minusD_len _ _ | exact fullD_len _ | (refine okLen ?_; (repeat (first | assumption | exact ofW_ok _ | exact fullW_W _ | apply okW_with | apply okW_less | refine okW_orS ?_ ?_ | refine okW_andS ?_ ?_ | refine okW_minusS ?_ ?_)); done) | omega | rfl), (fun j v hv => List.getElem?_of_mem (by rw [hCs608]; exact List.mem_append.2 (.inr (List.mem_append.2 (.inr (List.mem_append.2 (.inl (blkC_in hv)))))))), trivial⟩ (fun act714 f713 => ?_)
 clear f711
 refine AtH.rd (by kernel_rfl) (fun d v c a w h => by cases d <;> exact h) hS688 [26] [[.cs ((s : List Int).map wV)]] [(132, .agg ((s : List Int).map wV).toArray)] #[true, true, true, true, true, true, true, true, true, true, true, true, true, true, true, true, true, true, true, true, true, false, true, true, false, false, true, false, false, false, false, false, false, false, false, false, false, false, false, false, false, false, false] [(((s : List Int).map wV).length = 4), (∀ (j : Nat) (v : Value), ((s : List Int).map wV)[j]? = some v → ∃ j_ : Nat, Cs607[j_]? = some (((⟨w34.heap.size, 0, none⟩ : Addr).add j), v))] 19 f713 (by kernel_rfl) ⟨(by simp only [List.length_map, List.length_set, List.length_replicate, List.length_cons, List.length_nil]; first | done | assumption | exact from_len _ | exact of_len _ | exact ofZ_len _ | exact (ofW_ok _).1 | exact (fullW_W _).1 | exact (okW_with (by assumption)).1 | exact (okW_less (by assumption)).1 | exact put_len (from_len _) | exact orD_len _ _ | exact andD_len _ _ | exact minusD_len _ _ | exact fullD_len _ | (refine okLen ?_; (repeat (first | assumption | exact ofW_ok _ | exact fullW_W _ | apply okW_with | apply okW_less | refine okW_orS ?_ ?_ | refine okW_andS ?_ ?_ | refine okW_minusS ?_ ?_)); done) | omega | rfl), (fun j v hv => List.getElem?_of_mem (by rw [hCs608]; exact List.mem_append.2 (.inr (List.mem_append.2 (.inl (blkC_in hv)))))), trivial⟩ (fun act716 f715 => ?_)
 clear f713
 refine AtH.all [21] 18 (by kernel_rfl) (by simp) ⟨?_, trivial⟩
 refine OneH.call f715 37 #[.agg ((s : List Int).map wV).toArray, .agg ((t : List Int).map wV).toArray] (some 127) #[true, true, true, true, true, true, true, true, true, true, true, true, true, true, true, true, true, true, true, true, true, true, true, true, false, false, true, false, false, false, false, false, false, false, false, false, false, false, false, false, false, false, false] (by kernel_rfl) (by kernel_rfl) (minusS_any (s := s) (t := t) (by repeat (first | assumption | exact ofW_ok _ | exact fullW_W _ | exact wordsD_W _ | exact okW_0 | exact okW_00 | apply okW_orS | apply okW_andS | apply okW_minusS | apply okW_with | apply okW_less | apply okW_or | apply okW_and | apply okW_minus | (apply okW_lit <;> exact ⟨by omega, by omega⟩))) (by repeat (first | assumption | exact ofW_ok _ | exact fullW_W _ | exact wordsD_W _ | exact okW_0 | exact okW_00 | apply okW_orS | apply okW_andS | apply okW_minusS | apply okW_with | apply okW_less | apply okW_or | apply okW_and | apply okW_minus | (apply okW_lit <;> exact ⟨by omega, by omega⟩)))) ?_
 rintro e_ w718 ⟨rfl, he⟩
 refine ⟨_, rfl, _, rfl, fun act719 f720 => ?_⟩
 clear f715
 have g721 := gr_ext he
 have hS717 := hS688.gr g721
 have szw718 := g721.size
 have e722 := e693.gr g721 no_row
 clear e693
 have r723 := r694.gr g721 (fun _ h => by cases h)
 clear r694
 have bx724 := bx695.gr g721 (by simp)
 clear bx695
 have bx725 := bx696.gr g721 (by simp)
 clear bx696
 have bx726 := bx697.gr g721 (by simp)
 clear bx697
 have bx727 := bx698.gr g721 (by simp)
 clear bx698
 have bx728 := bx699.gr g721 (by simp)
 clear bx699
 have bx729 := bx700.gr g721 (by simp)
 clear bx700
 clear g721 he
 refine ⟨hS717, ?_⟩
 refine AtH.all [24] 17 (by kernel_rfl) (by simp) ⟨?_, trivial⟩
 refine OneH.call f720 35 #[.agg ((s : List Int).map wV).toArray, .agg ((t : List Int).map wV).toArray] (some 130) #[true, true, true, true, true, true, true, true, true, true, true, true, true, true, true, true, true, true, true, true, true, true, true, true, true, false, true, false, false, false, false, false, false, false, false, false, false, false, false, false, false, false, false] (by kernel_rfl) (by kernel_rfl) (andS_any (s := s) (t := t) (by repeat (first | assumption | exact ofW_ok _ | exact fullW_W _ | exact wordsD_W _ | exact okW_0 | exact okW_00 | apply okW_orS | apply okW_andS | apply okW_minusS | apply okW_with | apply okW_less | apply okW_or | apply okW_and | apply okW_minus | (apply okW_lit <;> exact ⟨by omega, by omega⟩))) (by repeat (first | assumption | exact ofW_ok _ | exact fullW_W _ | exact wordsD_W _ | exact okW_0 | exact okW_00 | apply okW_orS | apply okW_andS | apply okW_minusS | apply okW_with | apply okW_less | apply okW_or | apply okW_and | apply okW_minus | (apply okW_lit <;> exact ⟨by omega, by omega⟩)))) ?_
 rintro e_ w731 ⟨rfl, he⟩
 refine ⟨_, rfl, _, rfl, fun act732 f733 => ?_⟩
 clear f720
 have g734 := gr_ext he
 have hS730 := hS717.gr g734
 have szw731 := g734.size
 have e735 := e722.gr g734 no_row
 clear e722
 have r736 := r723.gr g734 (fun _ h => by cases h)
 clear r723
 have bx737 := bx724.gr g734 (by simp)
 clear bx724
 have bx738 := bx725.gr g734 (by simp)
 clear bx725
 have bx739 := bx726.gr g734 (by simp)
 clear bx726
 have bx740 := bx727.gr g734 (by simp)
 clear bx727
 have bx741 := bx728.gr g734 (by simp)
 clear bx728
 have bx742 := bx729.gr g734 (by simp)
 clear bx729
 clear g734 he
 refine ⟨hS730, ?_⟩
 refine AtH.all [25] 16 (by kernel_rfl) (by simp) ⟨?_, trivial⟩
 refine OneH.call f733 32 #[.agg ((minusS s t : List Int).map wV).toArray, .agg ((andS s t : List Int).map wV).toArray] (some 131) #[true, true, true, true, true, true, true, true, true, true, true, true, true, true, true, true, true, true, true, true, true, true, true, true, true, true, true, false, false, false, false, false, false, false, false, false, false, false, false, false, false, false, false] (by kernel_rfl) (by kernel_rfl) (orS_any (s := minusS s t) (t := andS s t) (by repeat (first | assumption | exact ofW_ok _ | exact fullW_W _ | exact wordsD_W _ | exact okW_0 | exact okW_00 | apply okW_orS | apply okW_andS | apply okW_minusS | apply okW_with | apply okW_less | apply okW_or | apply okW_and | apply okW_minus | (apply okW_lit <;> exact ⟨by omega, by omega⟩))) (by repeat (first | assumption | exact ofW_ok _ | exact fullW_W _ | exact wordsD_W _ | exact okW_0 | exact okW_00 | apply okW_orS | apply okW_andS | apply okW_minusS | apply okW_with | apply okW_less | apply okW_or | apply okW_and | apply okW_minus | (apply okW_lit <;> exact ⟨by omega, by omega⟩)))) ?_
 rintro e_ w744 ⟨rfl, he⟩
 refine ⟨_, rfl, _, rfl, fun act745 f746 => ?_⟩
 clear f733
 have g747 := gr_ext he
 have hS743 := hS730.gr g747
 have szw744 := g747.size
 have e748 := e735.gr g747 no_row
 clear e735
 have r749 := r736.gr g747 (fun _ h => by cases h)
 clear r736
 have bx750 := bx737.gr g747 (by simp)
 clear bx737
 have bx751 := bx738.gr g747 (by simp)
 clear bx738
 have bx752 := bx739.gr g747 (by simp)
 clear bx739
 have bx753 := bx740.gr g747 (by simp)
 clear bx740
 have bx754 := bx741.gr g747 (by simp)
 clear bx741
 have bx755 := bx742.gr g747 (by simp)
 clear bx742
 clear g747 he
 refine ⟨hS743, ?_⟩
 refine AtH.rd (by kernel_rfl) (fun d v c a w h => by cases d <;> exact h) hS743 [27] [[.cs [wV (gI (orS (minusS s t) (andS s t)) 0), wV (gI (orS (minusS s t) (andS s t)) 1), wV (gI (orS (minusS s t) (andS s t)) 2), wV (gI (orS (minusS s t) (andS s t)) 3)], .cs [wV (gI s 0), wV (gI s 1), wV (gI s 2), wV (gI s 3)], .as_ (.bool true)]] [(133, .bool true)] #[true, true, true, true, true, true, true, true, true, true, true, true, true, true, true, true, true, true, true, true, true, true, true, true, true, true, true, true, false, false, false, false, false, false, false, false, false, false, false, false, false, false, false] [(((orS (minusS s t) (andS s t) : List Int).map wV).toArray = ([wV (gI (orS (minusS s t) (andS s t)) 0), wV (gI (orS (minusS s t) (andS s t)) 1), wV (gI (orS (minusS s t) (andS s t)) 2), wV (gI (orS (minusS s t) (andS s t)) 3)] : List Value).toArray), (((s : List Int).map wV).toArray = ([wV (gI s 0), wV (gI s 1), wV (gI s 2), wV (gI s 3)] : List Value).toArray), ((.bool ((((gI (orS (minusS s t) (andS s t)) 0 : Int) == gI s 0) && (((gI (orS (minusS s t) (andS s t)) 1 : Int) == gI s 1) && (((gI (orS (minusS s t) (andS s t)) 2 : Int) == gI s 2) && (((gI (orS (minusS s t) (andS s t)) 3 : Int) == gI s 3) && true))))) : Value) = .bool true)] 15 f746 (by kernel_rfl) ⟨(map4 (by first | assumption | exact (okW_with (by assumption)).1 | exact (okW_less (by assumption)).1 | exact (ofW_ok _).1 | exact (fullW_W _).1 | (refine okLen ?_; (repeat (first | assumption | exact ofW_ok _ | exact fullW_W _ | apply okW_with | apply okW_less | refine okW_orS ?_ ?_ | refine okW_andS ?_ ?_ | refine okW_minusS ?_ ?_)); done) | rfl | omega | (simp only [List.length_set]; first | done | assumption | omega) | exact lenW4 _ (by assumption))), (map4 (by first | assumption | exact (okW_with (by assumption)).1 | exact (okW_less (by assumption)).1 | exact (ofW_ok _).1 | exact (fullW_W _).1 | (refine okLen ?_; (repeat (first | assumption | exact ofW_ok _ | exact fullW_W _ | apply okW_with | apply okW_less | refine okW_orS ?_ ?_ | refine okW_andS ?_ ?_ | refine okW_minusS ?_ ?_)); done) | rfl | omega | (simp only [List.length_set]; first | done | assumption | omega) | exact lenW4 _ (by assumption))), (Eq.trans (b := (.bool (decide ((orS (minusS s t) (andS s t) : List Int) = s)) : Value)) (congrArg (fun b => Value.bool b) (w4_eq (by first | assumption | exact (okW_with (by assumption)).1 | exact (okW_less (by assumption)).1 | exact (ofW_ok _).1 | exact (fullW_W _).1 | (refine okLen ?_; (repeat (first | assumption | exact ofW_ok _ | exact fullW_W _ | apply okW_with | apply okW_less | refine okW_orS ?_ ?_ | refine okW_andS ?_ ?_ | refine okW_minusS ?_ ?_)); done) | rfl | omega | (simp only [List.length_set]; first | done | assumption | omega) | exact lenW4 _ (by assumption)) (by first | assumption | exact (okW_with (by assumption)).1 | exact (okW_less (by assumption)).1 | exact (ofW_ok _).1 | exact (fullW_W _).1 | (refine okLen ?_; (repeat (first | assumption | exact ofW_ok _ | exact fullW_W _ | apply okW_with | apply okW_less | refine okW_orS ?_ ?_ | refine okW_andS ?_ ?_ | refine okW_minusS ?_ ?_)); done) | rfl | omega | (simp only [List.length_set]; first | done | assumption | omega) | exact lenW4 _ (by assumption)))) (congrArg Value.bool (alg11 hs ht))), trivial⟩ (fun act757 f756 => ?_)
 clear f746
 refine AtH.rd (by kernel_rfl) (fun d v c a w h => by cases d <;> exact h) hS743 [28] [[]] [(134, .bool true)] #[true, true, true, true, true, true, true, true, true, true, true, true, true, true, true, true, true, true, true, true, true, true, true, true, true, true, true, true, true, false, false, false, false, false, false, false, false, false, false, false, false, false, false] [] 14 f756 (by kernel_rfl) trivial (fun act759 f758 => ?_)
 clear f756
 refine AtH.rd (by kernel_rfl) (fun d v c a w h => by cases d <;> exact h) hS743 [29] [[]] [(135, .bool true)] #[true, true, true, true, true, true, true, true, true, true, true, true, true, true, true, true, true, true, true, true, true, true, true, true, true, true, true, true, true, true, false, false, false, false, false, false, false, false, false, false, false, false, false] [] 13 f758 (by kernel_rfl) trivial (fun act761 f760 => ?_)
 clear f758
 refine AtH.rd (by kernel_rfl) (fun d v c a w h => by cases d <;> exact h) hS743 [30] [[.cs ((s : List Int).map wV)]] [(136, .agg ((s : List Int).map wV).toArray)] #[true, true, true, true, true, true, true, true, true, true, true, true, true, true, true, true, true, true, true, true, true, true, true, true, true, true, true, true, true, true, true, false, false, false, false, false, false, false, false, false, false, false, false] [(((s : List Int).map wV).length = 4), (∀ (j : Nat) (v : Value), ((s : List Int).map wV)[j]? = some v → ∃ j_ : Nat, Cs607[j_]? = some (((⟨w34.heap.size, 0, none⟩ : Addr).add j), v))] 12 f760 (by kernel_rfl) ⟨(by simp only [List.length_map, List.length_set, List.length_replicate, List.length_cons, List.length_nil]; first | done | assumption | exact from_len _ | exact of_len _ | exact ofZ_len _ | exact (ofW_ok _).1 | exact (fullW_W _).1 | exact (okW_with (by assumption)).1 | exact (okW_less (by assumption)).1 | exact put_len (from_len _) | exact orD_len _ _ | exact andD_len _ _ | exact minusD_len _ _ | exact fullD_len _ | (refine okLen ?_; (repeat (first | assumption | exact ofW_ok _ | exact fullW_W _ | apply okW_with | apply okW_less | refine okW_orS ?_ ?_ | refine okW_andS ?_ ?_ | refine okW_minusS ?_ ?_)); done) | omega | rfl), (fun j v hv => List.getElem?_of_mem (by rw [hCs608]; exact List.mem_append.2 (.inr (List.mem_append.2 (.inl (blkC_in hv)))))), trivial⟩ (fun act763 f762 => ?_)
 clear f760
 refine AtH.rd (by kernel_rfl) (fun d v c a w h => by cases d <;> exact h) hS743 [31] [[.cs ((t : List Int).map wV)]] [(137, .agg ((t : List Int).map wV).toArray)] #[true, true, true, true, true, true, true, true, true, true, true, true, true, true, true, true, true, true, true, true, true, true, true, true, true, true, true, true, true, true, true, true, false, false, false, false, false, false, false, false, false, false, false] [(((t : List Int).map wV).length = 4), (∀ (j : Nat) (v : Value), ((t : List Int).map wV)[j]? = some v → ∃ j_ : Nat, Cs607[j_]? = some (((⟨w60.heap.size, 0, none⟩ : Addr).add j), v))] 11 f762 (by kernel_rfl) ⟨(by simp only [List.length_map, List.length_set, List.length_replicate, List.length_cons, List.length_nil]; first | done | assumption | exact from_len _ | exact of_len _ | exact ofZ_len _ | exact (ofW_ok _).1 | exact (fullW_W _).1 | exact (okW_with (by assumption)).1 | exact (okW_less (by assumption)).1 | exact put_len (from_len _) | exact orD_len _ _ | exact andD_len _ _ | exact minusD_len _ _ | exact fullD_len _ | (refine okLen ?_; (repeat (first | assumption | exact ofW_ok _ | exact fullW_W _ | apply okW_with | apply okW_less | refine okW_orS ?_ ?_ | refine okW_andS ?_ ?_ | refine okW_minusS ?_ ?_)); done) | omega | rfl), (fun j v hv => List.getElem?_of_mem (by rw [hCs608]; exact List.mem_append.2 (.inr (List.mem_append.2 (.inr (List.mem_append.2 (.inl (blkC_in hv)))))))), trivial⟩ (fun act765 f764 => ?_)
 clear f762
 refine AtH.rd (by kernel_rfl) (fun d v c a w h => by cases d <;> exact h) hS743 [32] [[.cs ((u : List Int).map wV)]] [(138, .agg ((u : List Int).map wV).toArray)] #[true, true, true, true, true, true, true, true, true, true, true, true, true, true, true, true, true, true, true, true, true, true, true, true, true, true, true, true, true, true, true, true, true, false, false, false, false, false, false, false, false, false, false] [(((u : List Int).map wV).length = 4), (∀ (j : Nat) (v : Value), ((u : List Int).map wV)[j]? = some v → ∃ j_ : Nat, Cs607[j_]? = some (((⟨w86.heap.size, 0, none⟩ : Addr).add j), v))] 10 f764 (by kernel_rfl) ⟨(by simp only [List.length_map, List.length_set, List.length_replicate, List.length_cons, List.length_nil]; first | done | assumption | exact from_len _ | exact of_len _ | exact ofZ_len _ | exact (ofW_ok _).1 | exact (fullW_W _).1 | exact (okW_with (by assumption)).1 | exact (okW_less (by assumption)).1 | exact put_len (from_len _) | exact orD_len _ _ | exact andD_len _ _ | exact minusD_len _ _ | exact fullD_len _ | (refine okLen ?_; (repeat (first | assumption | exact ofW_ok _ | exact fullW_W _ | apply okW_with | apply okW_less | refine okW_orS ?_ ?_ | refine okW_andS ?_ ?_ | refine okW_minusS ?_ ?_)); done) | omega | rfl), (fun j v hv => List.getElem?_of_mem (by rw [hCs608]; exact List.mem_append.2 (.inr (List.mem_append.2 (.inr (List.mem_append.2 (.inr (blkC_in hv)))))))), trivial⟩ (fun act767 f766 => ?_)
 clear f764
 refine AtH.rd (by kernel_rfl) (fun d v c a w h => by cases d <;> exact h) hS743 [35] [[.cs ((s : List Int).map wV)]] [(141, .agg ((s : List Int).map wV).toArray)] #[true, true, true, true, true, true, true, true, true, true, true, true, true, true, true, true, true, true, true, true, true, true, true, true, true, true, true, true, true, true, true, true, true, false, false, true, false, false, false, false, false, false, false] [(((s : List Int).map wV).length = 4), (∀ (j : Nat) (v : Value), ((s : List Int).map wV)[j]? = some v → ∃ j_ : Nat, Cs607[j_]? = some (((⟨w34.heap.size, 0, none⟩ : Addr).add j), v))] 9 f766 (by kernel_rfl) ⟨(by simp only [List.length_map, List.length_set, List.length_replicate, List.length_cons, List.length_nil]; first | done | assumption | exact from_len _ | exact of_len _ | exact ofZ_len _ | exact (ofW_ok _).1 | exact (fullW_W _).1 | exact (okW_with (by assumption)).1 | exact (okW_less (by assumption)).1 | exact put_len (from_len _) | exact orD_len _ _ | exact andD_len _ _ | exact minusD_len _ _ | exact fullD_len _ | (refine okLen ?_; (repeat (first | assumption | exact ofW_ok _ | exact fullW_W _ | apply okW_with | apply okW_less | refine okW_orS ?_ ?_ | refine okW_andS ?_ ?_ | refine okW_minusS ?_ ?_)); done) | omega | rfl), (fun j v hv => List.getElem?_of_mem (by rw [hCs608]; exact List.mem_append.2 (.inr (List.mem_append.2 (.inl (blkC_in hv)))))), trivial⟩ (fun act769 f768 => ?_)
 clear f766
 refine AtH.rd (by kernel_rfl) (fun d v c a w h => by cases d <;> exact h) hS743 [36] [[.cs ((t : List Int).map wV)]] [(142, .agg ((t : List Int).map wV).toArray)] #[true, true, true, true, true, true, true, true, true, true, true, true, true, true, true, true, true, true, true, true, true, true, true, true, true, true, true, true, true, true, true, true, true, false, false, true, true, false, false, false, false, false, false] [(((t : List Int).map wV).length = 4), (∀ (j : Nat) (v : Value), ((t : List Int).map wV)[j]? = some v → ∃ j_ : Nat, Cs607[j_]? = some (((⟨w60.heap.size, 0, none⟩ : Addr).add j), v))] 8 f768 (by kernel_rfl) ⟨(by simp only [List.length_map, List.length_set, List.length_replicate, List.length_cons, List.length_nil]; first | done | assumption | exact from_len _ | exact of_len _ | exact ofZ_len _ | exact (ofW_ok _).1 | exact (fullW_W _).1 | exact (okW_with (by assumption)).1 | exact (okW_less (by assumption)).1 | exact put_len (from_len _) | exact orD_len _ _ | exact andD_len _ _ | exact minusD_len _ _ | exact fullD_len _ | (refine okLen ?_; (repeat (first | assumption | exact ofW_ok _ | exact fullW_W _ | apply okW_with | apply okW_less | refine okW_orS ?_ ?_ | refine okW_andS ?_ ?_ | refine okW_minusS ?_ ?_)); done) | omega | rfl), (fun j v hv => List.getElem?_of_mem (by rw [hCs608]; exact List.mem_append.2 (.inr (List.mem_append.2 (.inr (List.mem_append.2 (.inl (blkC_in hv)))))))), trivial⟩ (fun act771 f770 => ?_)
 clear f768
 refine AtH.rd (by kernel_rfl) (fun d v c a w h => by cases d <;> exact h) hS743 [38] [[.cs ((u : List Int).map wV)]] [(144, .agg ((u : List Int).map wV).toArray)] #[true, true, true, true, true, true, true, true, true, true, true, true, true, true, true, true, true, true, true, true, true, true, true, true, true, true, true, true, true, true, true, true, true, false, false, true, true, false, true, false, false, false, false] [(((u : List Int).map wV).length = 4), (∀ (j : Nat) (v : Value), ((u : List Int).map wV)[j]? = some v → ∃ j_ : Nat, Cs607[j_]? = some (((⟨w86.heap.size, 0, none⟩ : Addr).add j), v))] 7 f770 (by kernel_rfl) ⟨(by simp only [List.length_map, List.length_set, List.length_replicate, List.length_cons, List.length_nil]; first | done | assumption | exact from_len _ | exact of_len _ | exact ofZ_len _ | exact (ofW_ok _).1 | exact (fullW_W _).1 | exact (okW_with (by assumption)).1 | exact (okW_less (by assumption)).1 | exact put_len (from_len _) | exact orD_len _ _ | exact andD_len _ _ | exact minusD_len _ _ | exact fullD_len _ | (refine okLen ?_; (repeat (first | assumption | exact ofW_ok _ | exact fullW_W _ | apply okW_with | apply okW_less | refine okW_orS ?_ ?_ | refine okW_andS ?_ ?_ | refine okW_minusS ?_ ?_)); done) | omega | rfl), (fun j v hv => List.getElem?_of_mem (by rw [hCs608]; exact List.mem_append.2 (.inr (List.mem_append.2 (.inr (List.mem_append.2 (.inr (blkC_in hv)))))))), trivial⟩ (fun act773 f772 => ?_)
 clear f770
 refine AtH.all [33] 6 (by kernel_rfl) (by simp) ⟨?_, trivial⟩
 refine OneH.call f772 32 #[.agg ((t : List Int).map wV).toArray, .agg ((u : List Int).map wV).toArray] (some 139) #[true, true, true, true, true, true, true, true, true, true, true, true, true, true, true, true, true, true, true, true, true, true, true, true, true, true, true, true, true, true, true, true, true, true, false, true, true, false, true, false, false, false, false] (by kernel_rfl) (by kernel_rfl) (orS_any (s := t) (t := u) (by repeat (first | assumption | exact ofW_ok _ | exact fullW_W _ | exact wordsD_W _ | exact okW_0 | exact okW_00 | apply okW_orS | apply okW_andS | apply okW_minusS | apply okW_with | apply okW_less | apply okW_or | apply okW_and | apply okW_minus | (apply okW_lit <;> exact ⟨by omega, by omega⟩))) (by repeat (first | assumption | exact ofW_ok _ | exact fullW_W _ | exact wordsD_W _ | exact okW_0 | exact okW_00 | apply okW_orS | apply okW_andS | apply okW_minusS | apply okW_with | apply okW_less | apply okW_or | apply okW_and | apply okW_minus | (apply okW_lit <;> exact ⟨by omega, by omega⟩)))) ?_
 rintro e_ w775 ⟨rfl, he⟩
 refine ⟨_, rfl, _, rfl, fun act776 f777 => ?_⟩
 clear f772
 have g778 := gr_ext he
 have hS774 := hS743.gr g778
 have szw775 := g778.size
 have e779 := e748.gr g778 no_row
 clear e748
 have r780 := r749.gr g778 (fun _ h => by cases h)
 clear r749
 have bx781 := bx750.gr g778 (by simp)
 clear bx750
 have bx782 := bx751.gr g778 (by simp)
 clear bx751
 have bx783 := bx752.gr g778 (by simp)
 clear bx752
 have bx784 := bx753.gr g778 (by simp)
 clear bx753
 have bx785 := bx754.gr g778 (by simp)
 clear bx754
 have bx786 := bx755.gr g778 (by simp)
 clear bx755
 clear g778 he
 refine ⟨hS774, ?_⟩
 refine AtH.all [34] 5 (by kernel_rfl) (by simp) ⟨?_, trivial⟩
 refine OneH.call f777 37 #[.agg ((s : List Int).map wV).toArray, .agg ((orS t u : List Int).map wV).toArray] (some 140) #[true, true, true, true, true, true, true, true, true, true, true, true, true, true, true, true, true, true, true, true, true, true, true, true, true, true, true, true, true, true, true, true, true, true, true, true, true, false, true, false, false, false, false] (by kernel_rfl) (by kernel_rfl) (minusS_any (s := s) (t := orS t u) (by repeat (first | assumption | exact ofW_ok _ | exact fullW_W _ | exact wordsD_W _ | exact okW_0 | exact okW_00 | apply okW_orS | apply okW_andS | apply okW_minusS | apply okW_with | apply okW_less | apply okW_or | apply okW_and | apply okW_minus | (apply okW_lit <;> exact ⟨by omega, by omega⟩))) (by repeat (first | assumption | exact ofW_ok _ | exact fullW_W _ | exact wordsD_W _ | exact okW_0 | exact okW_00 | apply okW_orS | apply okW_andS | apply okW_minusS | apply okW_with | apply okW_less | apply okW_or | apply okW_and | apply okW_minus | (apply okW_lit <;> exact ⟨by omega, by omega⟩)))) ?_
 rintro e_ w788 ⟨rfl, he⟩
 refine ⟨_, rfl, _, rfl, fun act789 f790 => ?_⟩
 clear f777
 have g791 := gr_ext he
 have hS787 := hS774.gr g791
 have szw788 := g791.size
 have e792 := e779.gr g791 no_row
 clear e779
 have r793 := r780.gr g791 (fun _ h => by cases h)
 clear r780
 have bx794 := bx781.gr g791 (by simp)
 clear bx781
 have bx795 := bx782.gr g791 (by simp)
 clear bx782
 have bx796 := bx783.gr g791 (by simp)
 clear bx783
 have bx797 := bx784.gr g791 (by simp)
 clear bx784
 have bx798 := bx785.gr g791 (by simp)
 clear bx785
 have bx799 := bx786.gr g791 (by simp)
 clear bx786
 clear g791 he
 refine ⟨hS787, ?_⟩
 refine AtH.all [37] 4 (by kernel_rfl) (by simp) ⟨?_, trivial⟩
 refine OneH.call f790 37 #[.agg ((s : List Int).map wV).toArray, .agg ((t : List Int).map wV).toArray] (some 143) #[true, true, true, true, true, true, true, true, true, true, true, true, true, true, true, true, true, true, true, true, true, true, true, true, true, true, true, true, true, true, true, true, true, true, true, true, true, true, true, false, false, false, false] (by kernel_rfl) (by kernel_rfl) (minusS_any (s := s) (t := t) (by repeat (first | assumption | exact ofW_ok _ | exact fullW_W _ | exact wordsD_W _ | exact okW_0 | exact okW_00 | apply okW_orS | apply okW_andS | apply okW_minusS | apply okW_with | apply okW_less | apply okW_or | apply okW_and | apply okW_minus | (apply okW_lit <;> exact ⟨by omega, by omega⟩))) (by repeat (first | assumption | exact ofW_ok _ | exact fullW_W _ | exact wordsD_W _ | exact okW_0 | exact okW_00 | apply okW_orS | apply okW_andS | apply okW_minusS | apply okW_with | apply okW_less | apply okW_or | apply okW_and | apply okW_minus | (apply okW_lit <;> exact ⟨by omega, by omega⟩)))) ?_
 rintro e_ w801 ⟨rfl, he⟩
 refine ⟨_, rfl, _, rfl, fun act802 f803 => ?_⟩
 clear f790
 have g804 := gr_ext he
 have hS800 := hS787.gr g804
 have szw801 := g804.size
 have e805 := e792.gr g804 no_row
 clear e792
 have r806 := r793.gr g804 (fun _ h => by cases h)
 clear r793
 have bx807 := bx794.gr g804 (by simp)
 clear bx794
 have bx808 := bx795.gr g804 (by simp)
 clear bx795
 have bx809 := bx796.gr g804 (by simp)
 clear bx796
 have bx810 := bx797.gr g804 (by simp)
 clear bx797
 have bx811 := bx798.gr g804 (by simp)
 clear bx798
 have bx812 := bx799.gr g804 (by simp)
 clear bx799
 clear g804 he
 refine ⟨hS800, ?_⟩
 refine AtH.all [39] 3 (by kernel_rfl) (by simp) ⟨?_, trivial⟩
 refine OneH.call f803 37 #[.agg ((minusS s t : List Int).map wV).toArray, .agg ((u : List Int).map wV).toArray] (some 145) #[true, true, true, true, true, true, true, true, true, true, true, true, true, true, true, true, true, true, true, true, true, true, true, true, true, true, true, true, true, true, true, true, true, true, true, true, true, true, true, true, false, false, false] (by kernel_rfl) (by kernel_rfl) (minusS_any (s := minusS s t) (t := u) (by repeat (first | assumption | exact ofW_ok _ | exact fullW_W _ | exact wordsD_W _ | exact okW_0 | exact okW_00 | apply okW_orS | apply okW_andS | apply okW_minusS | apply okW_with | apply okW_less | apply okW_or | apply okW_and | apply okW_minus | (apply okW_lit <;> exact ⟨by omega, by omega⟩))) (by repeat (first | assumption | exact ofW_ok _ | exact fullW_W _ | exact wordsD_W _ | exact okW_0 | exact okW_00 | apply okW_orS | apply okW_andS | apply okW_minusS | apply okW_with | apply okW_less | apply okW_or | apply okW_and | apply okW_minus | (apply okW_lit <;> exact ⟨by omega, by omega⟩)))) ?_
 rintro e_ w814 ⟨rfl, he⟩
 refine ⟨_, rfl, _, rfl, fun act815 f816 => ?_⟩
 clear f803
 have g817 := gr_ext he
 have hS813 := hS800.gr g817
 have szw814 := g817.size
 have e818 := e805.gr g817 no_row
 clear e805
 have r819 := r806.gr g817 (fun _ h => by cases h)
 clear r806
 have bx820 := bx807.gr g817 (by simp)
 clear bx807
 have bx821 := bx808.gr g817 (by simp)
 clear bx808
 have bx822 := bx809.gr g817 (by simp)
 clear bx809
 have bx823 := bx810.gr g817 (by simp)
 clear bx810
 have bx824 := bx811.gr g817 (by simp)
 clear bx811
 have bx825 := bx812.gr g817 (by simp)
 clear bx812
 clear g817 he
 refine ⟨hS813, ?_⟩
 refine AtH.rd (by kernel_rfl) (fun d v c a w h => by cases d <;> exact h) hS813 [40] [[.cs [wV (gI (minusS s (orS t u)) 0), wV (gI (minusS s (orS t u)) 1), wV (gI (minusS s (orS t u)) 2), wV (gI (minusS s (orS t u)) 3)], .cs [wV (gI (minusS (minusS s t) u) 0), wV (gI (minusS (minusS s t) u) 1), wV (gI (minusS (minusS s t) u) 2), wV (gI (minusS (minusS s t) u) 3)], .as_ (.bool true)]] [(146, .bool true)] #[true, true, true, true, true, true, true, true, true, true, true, true, true, true, true, true, true, true, true, true, true, true, true, true, true, true, true, true, true, true, true, true, true, true, true, true, true, true, true, true, true, false, false] [(((minusS s (orS t u) : List Int).map wV).toArray = ([wV (gI (minusS s (orS t u)) 0), wV (gI (minusS s (orS t u)) 1), wV (gI (minusS s (orS t u)) 2), wV (gI (minusS s (orS t u)) 3)] : List Value).toArray), (((minusS (minusS s t) u : List Int).map wV).toArray = ([wV (gI (minusS (minusS s t) u) 0), wV (gI (minusS (minusS s t) u) 1), wV (gI (minusS (minusS s t) u) 2), wV (gI (minusS (minusS s t) u) 3)] : List Value).toArray), ((.bool ((((gI (minusS s (orS t u)) 0 : Int) == gI (minusS (minusS s t) u) 0) && (((gI (minusS s (orS t u)) 1 : Int) == gI (minusS (minusS s t) u) 1) && (((gI (minusS s (orS t u)) 2 : Int) == gI (minusS (minusS s t) u) 2) && (((gI (minusS s (orS t u)) 3 : Int) == gI (minusS (minusS s t) u) 3) && true))))) : Value) = .bool true)] 2 f816 (by kernel_rfl) ⟨(map4 (by first | assumption | exact (okW_with (by assumption)).1 | exact (okW_less (by assumption)).1 | exact (ofW_ok _).1 | exact (fullW_W _).1 | (refine okLen ?_; (repeat (first | assumption | exact ofW_ok _ | exact fullW_W _ | apply okW_with | apply okW_less | refine okW_orS ?_ ?_ | refine okW_andS ?_ ?_ | refine okW_minusS ?_ ?_)); done) | rfl | omega | (simp only [List.length_set]; first | done | assumption | omega) | exact lenW4 _ (by assumption))), (map4 (by first | assumption | exact (okW_with (by assumption)).1 | exact (okW_less (by assumption)).1 | exact (ofW_ok _).1 | exact (fullW_W _).1 | (refine okLen ?_; (repeat (first | assumption | exact ofW_ok _ | exact fullW_W _ | apply okW_with | apply okW_less | refine okW_orS ?_ ?_ | refine okW_andS ?_ ?_ | refine okW_minusS ?_ ?_)); done) | rfl | omega | (simp only [List.length_set]; first | done | assumption | omega) | exact lenW4 _ (by assumption))), (Eq.trans (b := (.bool (decide ((minusS s (orS t u) : List Int) = (minusS (minusS s t) u))) : Value)) (congrArg (fun b => Value.bool b) (w4_eq (by first | assumption | exact (okW_with (by assumption)).1 | exact (okW_less (by assumption)).1 | exact (ofW_ok _).1 | exact (fullW_W _).1 | (refine okLen ?_; (repeat (first | assumption | exact ofW_ok _ | exact fullW_W _ | apply okW_with | apply okW_less | refine okW_orS ?_ ?_ | refine okW_andS ?_ ?_ | refine okW_minusS ?_ ?_)); done) | rfl | omega | (simp only [List.length_set]; first | done | assumption | omega) | exact lenW4 _ (by assumption)) (by first | assumption | exact (okW_with (by assumption)).1 | exact (okW_less (by assumption)).1 | exact (ofW_ok _).1 | exact (fullW_W _).1 | (refine okLen ?_; (repeat (first | assumption | exact ofW_ok _ | exact fullW_W _ | apply okW_with | apply okW_less | refine okW_orS ?_ ?_ | refine okW_andS ?_ ?_ | refine okW_minusS ?_ ?_)); done) | rfl | omega | (simp only [List.length_set]; first | done | assumption | omega) | exact lenW4 _ (by assumption)))) (congrArg Value.bool (alg12 hs ht hu))), trivial⟩ (fun act827 f826 => ?_)
 clear f816
 refine AtH.rd (by kernel_rfl) (fun d v c a w h => by cases d <;> exact h) hS813 [41] [[]] [(147, .bool true)] #[true, true, true, true, true, true, true, true, true, true, true, true, true, true, true, true, true, true, true, true, true, true, true, true, true, true, true, true, true, true, true, true, true, true, true, true, true, true, true, true, true, true, false] [] 1 f826 (by kernel_rfl) trivial (fun act829 f828 => ?_)
 clear f826
 refine AtH.rd (by kernel_rfl) (fun d v c a w h => by cases d <;> exact h) hS813 [42] [[]] [(13, .bool true)] #[true, true, true, true, true, true, true, true, true, true, true, true, true, true, true, true, true, true, true, true, true, true, true, true, true, true, true, true, true, true, true, true, true, true, true, true, true, true, true, true, true, true, true] [] 0 f828 (by kernel_rfl) trivial (fun act831 f830 => ?_)
 clear f828
 refine AtH.done (by kernel_rfl) ?_
 clear hS813
 refine t_n ?_
 have f832 := f830.sub (r := [(13, .bool true), (12, .bool true), (11, .bool true), (10, .pointer (some ⟨w86.heap.size, 0, none⟩)), (9, .pointer (some ⟨w60.heap.size, 0, none⟩)), (8, .pointer (some ⟨w34.heap.size, 0, none⟩)), (7, .bool true)]) ⟨rfl, rfl, rfl, rfl, rfl, rfl, rfl, trivial⟩
 clear f830
 refine wp_seq ?_
 obtain ⟨Cs833, hCs834⟩ : ∃ c : List (Addr × Value), c = ([] : List (Addr × Value)) ++ (blkC (w34.heap.size) ((s : List Int).map wV) ++ (blkC (w60.heap.size) ((t : List Int).map wV) ++ blkC (w86.heap.size) ((u : List Int).map wV))) := ⟨_, rfl⟩
 have hS835 : HoldsC Cs833 w814 := by rw [hCs834]; exact (holdsA (show HoldsC [] w814 from trivial) (holdsA (holds_blk bx823) (holdsA (holds_blk bx824) (holds_blk bx825))))
 refine AtH.start Cs833 47 #[false, false, false, false, false, false, false, false, false, false, false, false, false, false, false, false, false, false, false, false, false, false, false, false, false, false, false, false, false, false, false, false, false, false, false, false, false, false, false, false, false, false, false, false, false, false, false] (by kernel_rfl) rfl rfl (fun w837 hw838 => ?_)
 have g836 := gr_drew hw838
 have hS839 := hS835.gr g836
 have szw837 := g836.size
 have e840 := e818.gr g836 no_row
 clear e818
 have r841 := r819.gr g836 (fun _ h => by cases h)
 clear r819
 have bx842 := bx820.gr g836 (by simp)
 clear bx820
 have bx843 := bx821.gr g836 (by simp)
 clear bx821
 have bx844 := bx822.gr g836 (by simp)
 clear bx822
 have bx845 := bx823.gr g836 (by simp)
 clear bx823
 have bx846 := bx824.gr g836 (by simp)
 clear bx824
 have bx847 := bx825.gr g836 (by simp)
 clear bx825
 clear g836 hw838 hS835
 refine AtH.rd (by kernel_rfl) (fun d v c a w h => by cases d <;> exact h) hS839 [0, 1, 2, 3, 4, 5, 6, 7, 8, 9, 10, 11, 12, 14, 15, 17] [[], [], [], [], [], [], [], [], [], [], [], [.cs ((s : List Int).map wV)], [.cs ((t : List Int).map wV)], [.cs ((s : List Int).map wV)], [.cs ((t : List Int).map wV)], [.cs ((t : List Int).map wV)]] [(165, .agg ((t : List Int).map wV).toArray), (163, .agg ((t : List Int).map wV).toArray), (162, .agg ((s : List Int).map wV).toArray), (160, .agg ((t : List Int).map wV).toArray), (159, .agg ((s : List Int).map wV).toArray), (158, .bool true), (157, .bool true), (156, .bool true), (155, .bool true), (154, .bool true), (153, .bool true), (152, .bool true), (151, .bool true), (150, .bool true), (149, .bool true), (148, .bool true)] #[true, true, true, true, true, true, true, true, true, true, true, true, true, false, true, true, false, true, false, false, false, false, false, false, false, false, false, false, false, false, false, false, false, false, false, false, false, false, false, false, false, false, false, false, false, false, false] [(((s : List Int).map wV).length = 4), (∀ (j : Nat) (v : Value), ((s : List Int).map wV)[j]? = some v → ∃ j_ : Nat, Cs833[j_]? = some (((⟨w34.heap.size, 0, none⟩ : Addr).add j), v)), (((t : List Int).map wV).length = 4), (∀ (j : Nat) (v : Value), ((t : List Int).map wV)[j]? = some v → ∃ j_ : Nat, Cs833[j_]? = some (((⟨w60.heap.size, 0, none⟩ : Addr).add j), v)), (((s : List Int).map wV).length = 4), (∀ (j : Nat) (v : Value), ((s : List Int).map wV)[j]? = some v → ∃ j_ : Nat, Cs833[j_]? = some (((⟨w34.heap.size, 0, none⟩ : Addr).add j), v)), (((t : List Int).map wV).length = 4), (∀ (j : Nat) (v : Value), ((t : List Int).map wV)[j]? = some v → ∃ j_ : Nat, Cs833[j_]? = some (((⟨w60.heap.size, 0, none⟩ : Addr).add j), v)), (((t : List Int).map wV).length = 4), (∀ (j : Nat) (v : Value), ((t : List Int).map wV)[j]? = some v → ∃ j_ : Nat, Cs833[j_]? = some (((⟨w60.heap.size, 0, none⟩ : Addr).add j), v))] 31 f832 (by kernel_rfl) ⟨(by simp only [List.length_map, List.length_set, List.length_replicate, List.length_cons, List.length_nil]; first | done | assumption | exact from_len _ | exact of_len _ | exact ofZ_len _ | exact (ofW_ok _).1 | exact (fullW_W _).1 | exact (okW_with (by assumption)).1 | exact (okW_less (by assumption)).1 | exact put_len (from_len _) | exact orD_len _ _ | exact andD_len _ _ | exact minusD_len _ _ | exact fullD_len _ | (refine okLen ?_; (repeat (first | assumption | exact ofW_ok _ | exact fullW_W _ | apply okW_with | apply okW_less | refine okW_orS ?_ ?_ | refine okW_andS ?_ ?_ | refine okW_minusS ?_ ?_)); done) | omega | rfl), (fun j v hv => List.getElem?_of_mem (by rw [hCs834]; exact List.mem_append.2 (.inr (List.mem_append.2 (.inl (blkC_in hv)))))), (by simp only [List.length_map, List.length_set, List.length_replicate, List.length_cons, List.length_nil]; first | done | assumption | exact from_len _ | exact of_len _ | exact ofZ_len _ | exact (ofW_ok _).1 | exact (fullW_W _).1 | exact (okW_with (by assumption)).1 | exact (okW_less (by assumption)).1 | exact put_len (from_len _) | exact orD_len _ _ | exact andD_len _ _ | exact minusD_len _ _ | exact fullD_len _ | (refine okLen ?_; (repeat (first | assumption | exact ofW_ok _ | exact fullW_W _ | apply okW_with | apply okW_less | refine okW_orS ?_ ?_ | refine okW_andS ?_ ?_ | refine okW_minusS ?_ ?_)); done) | omega | rfl), (fun j v hv => List.getElem?_of_mem (by rw [hCs834]; exact List.mem_append.2 (.inr (List.mem_append.2 (.inr (List.mem_append.2 (.inl (blkC_in hv)))))))), (by simp only [List.length_map, List.length_set, List.length_replicate, List.length_cons, List.length_nil]; first | done | assumption | exact from_len _ | exact of_len _ | exact ofZ_len _ | exact (ofW_ok _).1 | exact (fullW_W _).1 | exact (okW_with (by assumption)).1 | exact (okW_less (by assumption)).1 | exact put_len (from_len _) | exact orD_len _ _ | exact andD_len _ _ | exact minusD_len _ _ | exact fullD_len _ | (refine okLen ?_; (repeat (first | assumption | exact ofW_ok _ | exact fullW_W _ | apply okW_with | apply okW_less | refine okW_orS ?_ ?_ | refine okW_andS ?_ ?_ | refine okW_minusS ?_ ?_)); done) | omega | rfl), (fun j v hv => List.getElem?_of_mem (by rw [hCs834]; exact List.mem_append.2 (.inr (List.mem_append.2 (.inl (blkC_in hv)))))), (by simp only [List.length_map, List.length_set, List.length_replicate, List.length_cons, List.length_nil]; first | done | assumption | exact from_len _ | exact of_len _ | exact ofZ_len _ | exact (ofW_ok _).1 | exact (fullW_W _).1 | exact (okW_with (by assumption)).1 | exact (okW_less (by assumption)).1 | exact put_len (from_len _) | exact orD_len _ _ | exact andD_len _ _ | exact minusD_len _ _ | exact fullD_len _ | (refine okLen ?_; (repeat (first | assumption | exact ofW_ok _ | exact fullW_W _ | apply okW_with | apply okW_less | refine okW_orS ?_ ?_ | refine okW_andS ?_ ?_ | refine okW_minusS ?_ ?_)); done) | omega | rfl), (fun j v hv => List.getElem?_of_mem (by rw [hCs834]; exact List.mem_append.2 (.inr (List.mem_append.2 (.inr (List.mem_append.2 (.inl (blkC_in hv)))))))), (by simp only [List.length_map, List.length_set, List.length_replicate, List.length_cons, List.length_nil]; first | done | assumption | exact from_len _ | exact of_len _ | exact ofZ_len _ | exact (ofW_ok _).1 | exact (fullW_W _).1 | exact (okW_with (by assumption)).1 | exact (okW_less (by assumption)).1 | exact put_len (from_len _) | exact orD_len _ _ | exact andD_len _ _ | exact minusD_len _ _ | exact fullD_len _ | (refine okLen ?_; (repeat (first | assumption | exact ofW_ok _ | exact fullW_W _ | apply okW_with | apply okW_less | refine okW_orS ?_ ?_ | refine okW_andS ?_ ?_ | refine okW_minusS ?_ ?_)); done) | omega | rfl), (fun j v hv => List.getElem?_of_mem (by rw [hCs834]; exact List.mem_append.2 (.inr (List.mem_append.2 (.inr (List.mem_append.2 (.inl (blkC_in hv)))))))), trivial⟩ (fun act849 f848 => ?_)
 clear f832
 refine AtH.all [13] 30 (by kernel_rfl) (by simp) ⟨?_, trivial⟩
 refine OneH.call f848 28 #[.agg ((s : List Int).map wV).toArray, .agg ((t : List Int).map wV).toArray] (some 161) #[true, true, true, true, true, true, true, true, true, true, true, true, true, true, true, true, false, true, false, false, false, false, false, false, false, false, false, false, false, false, false, false, false, false, false, false, false, false, false, false, false, false, false, false, false, false, false] (by kernel_rfl) (by kernel_rfl) (in_any (s := s) (t := t) (by repeat (first | assumption | exact ofW_ok _ | exact fullW_W _ | exact wordsD_W _ | exact okW_0 | exact okW_00 | apply okW_orS | apply okW_andS | apply okW_minusS | apply okW_with | apply okW_less | apply okW_or | apply okW_and | apply okW_minus | (apply okW_lit <;> exact ⟨by omega, by omega⟩))) (by repeat (first | assumption | exact ofW_ok _ | exact fullW_W _ | exact wordsD_W _ | exact okW_0 | exact okW_00 | apply okW_orS | apply okW_andS | apply okW_minusS | apply okW_with | apply okW_less | apply okW_or | apply okW_and | apply okW_minus | (apply okW_lit <;> exact ⟨by omega, by omega⟩)))) ?_
 rintro e_ w851 ⟨rfl, he⟩
 refine ⟨_, rfl, _, rfl, fun act852 f853 => ?_⟩
 clear f848
 have g854 := gr_ext he
 have hS850 := hS839.gr g854
 have szw851 := g854.size
 have e855 := e840.gr g854 no_row
 clear e840
 have r856 := r841.gr g854 (fun _ h => by cases h)
 clear r841
 have bx857 := bx842.gr g854 (by simp)
 clear bx842
 have bx858 := bx843.gr g854 (by simp)
 clear bx843
 have bx859 := bx844.gr g854 (by simp)
 clear bx844
 have bx860 := bx845.gr g854 (by simp)
 clear bx845
 have bx861 := bx846.gr g854 (by simp)
 clear bx846
 have bx862 := bx847.gr g854 (by simp)
 clear bx847
 clear g854 he
 refine ⟨hS850, ?_⟩
 refine AtH.all [16] 29 (by kernel_rfl) (by simp) ⟨?_, trivial⟩
 refine OneH.call f853 32 #[.agg ((s : List Int).map wV).toArray, .agg ((t : List Int).map wV).toArray] (some 164) #[true, true, true, true, true, true, true, true, true, true, true, true, true, true, true, true, true, true, false, false, false, false, false, false, false, false, false, false, false, false, false, false, false, false, false, false, false, false, false, false, false, false, false, false, false, false, false] (by kernel_rfl) (by kernel_rfl) (orS_any (s := s) (t := t) (by repeat (first | assumption | exact ofW_ok _ | exact fullW_W _ | exact wordsD_W _ | exact okW_0 | exact okW_00 | apply okW_orS | apply okW_andS | apply okW_minusS | apply okW_with | apply okW_less | apply okW_or | apply okW_and | apply okW_minus | (apply okW_lit <;> exact ⟨by omega, by omega⟩))) (by repeat (first | assumption | exact ofW_ok _ | exact fullW_W _ | exact wordsD_W _ | exact okW_0 | exact okW_00 | apply okW_orS | apply okW_andS | apply okW_minusS | apply okW_with | apply okW_less | apply okW_or | apply okW_and | apply okW_minus | (apply okW_lit <;> exact ⟨by omega, by omega⟩)))) ?_
 rintro e_ w864 ⟨rfl, he⟩
 refine ⟨_, rfl, _, rfl, fun act865 f866 => ?_⟩
 clear f853
 have g867 := gr_ext he
 have hS863 := hS850.gr g867
 have szw864 := g867.size
 have e868 := e855.gr g867 no_row
 clear e855
 have r869 := r856.gr g867 (fun _ h => by cases h)
 clear r856
 have bx870 := bx857.gr g867 (by simp)
 clear bx857
 have bx871 := bx858.gr g867 (by simp)
 clear bx858
 have bx872 := bx859.gr g867 (by simp)
 clear bx859
 have bx873 := bx860.gr g867 (by simp)
 clear bx860
 have bx874 := bx861.gr g867 (by simp)
 clear bx861
 have bx875 := bx862.gr g867 (by simp)
 clear bx862
 clear g867 he
 refine ⟨hS863, ?_⟩
 refine AtH.rd (by kernel_rfl) (fun d v c a w h => by cases d <;> exact h) hS863 [18] [[.cs [wV (gI (orS s t) 0), wV (gI (orS s t) 1), wV (gI (orS s t) 2), wV (gI (orS s t) 3)], .cs [wV (gI t 0), wV (gI t 1), wV (gI t 2), wV (gI t 3)], .as_ (.bool (decide ((orS s t : List Int) = t)))]] [(166, .bool (decide ((orS s t : List Int) = t)))] #[true, true, true, true, true, true, true, true, true, true, true, true, true, true, true, true, true, true, true, false, false, false, false, false, false, false, false, false, false, false, false, false, false, false, false, false, false, false, false, false, false, false, false, false, false, false, false] [(((orS s t : List Int).map wV).toArray = ([wV (gI (orS s t) 0), wV (gI (orS s t) 1), wV (gI (orS s t) 2), wV (gI (orS s t) 3)] : List Value).toArray), (((t : List Int).map wV).toArray = ([wV (gI t 0), wV (gI t 1), wV (gI t 2), wV (gI t 3)] : List Value).toArray), ((.bool ((((gI (orS s t) 0 : Int) == gI t 0) && (((gI (orS s t) 1 : Int) == gI t 1) && (((gI (orS s t) 2 : Int) == gI t 2) && (((gI (orS s t) 3 : Int) == gI t 3) && true))))) : Value) = .bool (decide ((orS s t : List Int) = t)))] 28 f866 (by kernel_rfl) ⟨(map4 (by first | assumption | exact (okW_with (by assumption)).1 | exact (okW_less (by assumption)).1 | exact (ofW_ok _).1 | exact (fullW_W _).1 | (refine okLen ?_; (repeat (first | assumption | exact ofW_ok _ | exact fullW_W _ | apply okW_with | apply okW_less | refine okW_orS ?_ ?_ | refine okW_andS ?_ ?_ | refine okW_minusS ?_ ?_)); done) | rfl | omega | (simp only [List.length_set]; first | done | assumption | omega) | exact lenW4 _ (by assumption))), (map4 (by first | assumption | exact (okW_with (by assumption)).1 | exact (okW_less (by assumption)).1 | exact (ofW_ok _).1 | exact (fullW_W _).1 | (refine okLen ?_; (repeat (first | assumption | exact ofW_ok _ | exact fullW_W _ | apply okW_with | apply okW_less | refine okW_orS ?_ ?_ | refine okW_andS ?_ ?_ | refine okW_minusS ?_ ?_)); done) | rfl | omega | (simp only [List.length_set]; first | done | assumption | omega) | exact lenW4 _ (by assumption))), (congrArg (fun b => Value.bool b) (w4_eq (by first | assumption | exact (okW_with (by assumption)).1 | exact (okW_less (by assumption)).1 | exact (ofW_ok _).1 | exact (fullW_W _).1 | (refine okLen ?_; (repeat (first | assumption | exact ofW_ok _ | exact fullW_W _ | apply okW_with | apply okW_less | refine okW_orS ?_ ?_ | refine okW_andS ?_ ?_ | refine okW_minusS ?_ ?_)); done) | rfl | omega | (simp only [List.length_set]; first | done | assumption | omega) | exact lenW4 _ (by assumption)) (by first | assumption | exact (okW_with (by assumption)).1 | exact (okW_less (by assumption)).1 | exact (ofW_ok _).1 | exact (fullW_W _).1 | (refine okLen ?_; (repeat (first | assumption | exact ofW_ok _ | exact fullW_W _ | apply okW_with | apply okW_less | refine okW_orS ?_ ?_ | refine okW_andS ?_ ?_ | refine okW_minusS ?_ ?_)); done) | rfl | omega | (simp only [List.length_set]; first | done | assumption | omega) | exact lenW4 _ (by assumption)))), trivial⟩ (fun act877 f876 => ?_)
 clear f866
 refine AtH.rd (by kernel_rfl) (fun d v c a w h => by cases d <;> exact h) hS863 [19] [[.as_ (.bool true)]] [(167, .bool true)] #[true, true, true, true, true, true, true, true, true, true, true, true, true, true, true, true, true, true, true, true, false, false, false, false, false, false, false, false, false, false, false, false, false, false, false, false, false, false, false, false, false, false, false, false, false, false, false] [((.bool ((inW s t) == (decide ((orS s t : List Int) = t))) : Value) = .bool true)] 27 f876 (by kernel_rfl) ⟨(congrArg Value.bool (alg13 hs ht)), trivial⟩ (fun act879 f878 => ?_)
 clear f876
 refine AtH.rd (by kernel_rfl) (fun d v c a w h => by cases d <;> exact h) hS863 [20] [[]] [(168, .bool true)] #[true, true, true, true, true, true, true, true, true, true, true, true, true, true, true, true, true, true, true, true, true, false, false, false, false, false, false, false, false, false, false, false, false, false, false, false, false, false, false, false, false, false, false, false, false, false, false] [] 26 f878 (by kernel_rfl) trivial (fun act881 f880 => ?_)
 clear f878
 refine AtH.rd (by kernel_rfl) (fun d v c a w h => by cases d <;> exact h) hS863 [21] [[]] [(169, .bool true)] #[true, true, true, true, true, true, true, true, true, true, true, true, true, true, true, true, true, true, true, true, true, true, false, false, false, false, false, false, false, false, false, false, false, false, false, false, false, false, false, false, false, false, false, false, false, false, false] [] 25 f880 (by kernel_rfl) trivial (fun act883 f882 => ?_)
 clear f880
 refine AtH.rd (by kernel_rfl) (fun d v c a w h => by cases d <;> exact h) hS863 [22] [[.cs ((s : List Int).map wV)]] [(170, .agg ((s : List Int).map wV).toArray)] #[true, true, true, true, true, true, true, true, true, true, true, true, true, true, true, true, true, true, true, true, true, true, true, false, false, false, false, false, false, false, false, false, false, false, false, false, false, false, false, false, false, false, false, false, false, false, false] [(((s : List Int).map wV).length = 4), (∀ (j : Nat) (v : Value), ((s : List Int).map wV)[j]? = some v → ∃ j_ : Nat, Cs833[j_]? = some (((⟨w34.heap.size, 0, none⟩ : Addr).add j), v))] 24 f882 (by kernel_rfl) ⟨(by simp only [List.length_map, List.length_set, List.length_replicate, List.length_cons, List.length_nil]; first | done | assumption | exact from_len _ | exact of_len _ | exact ofZ_len _ | exact (ofW_ok _).1 | exact (fullW_W _).1 | exact (okW_with (by assumption)).1 | exact (okW_less (by assumption)).1 | exact put_len (from_len _) | exact orD_len _ _ | exact andD_len _ _ | exact minusD_len _ _ | exact fullD_len _ | (refine okLen ?_; (repeat (first | assumption | exact ofW_ok _ | exact fullW_W _ | apply okW_with | apply okW_less | refine okW_orS ?_ ?_ | refine okW_andS ?_ ?_ | refine okW_minusS ?_ ?_)); done) | omega | rfl), (fun j v hv => List.getElem?_of_mem (by rw [hCs834]; exact List.mem_append.2 (.inr (List.mem_append.2 (.inl (blkC_in hv)))))), trivial⟩ (fun act885 f884 => ?_)
 clear f882
 refine AtH.rd (by kernel_rfl) (fun d v c a w h => by cases d <;> exact h) hS863 [23] [[.cs ((t : List Int).map wV)]] [(171, .agg ((t : List Int).map wV).toArray)] #[true, true, true, true, true, true, true, true, true, true, true, true, true, true, true, true, true, true, true, true, true, true, true, true, false, false, false, false, false, false, false, false, false, false, false, false, false, false, false, false, false, false, false, false, false, false, false] [(((t : List Int).map wV).length = 4), (∀ (j : Nat) (v : Value), ((t : List Int).map wV)[j]? = some v → ∃ j_ : Nat, Cs833[j_]? = some (((⟨w60.heap.size, 0, none⟩ : Addr).add j), v))] 23 f884 (by kernel_rfl) ⟨(by simp only [List.length_map, List.length_set, List.length_replicate, List.length_cons, List.length_nil]; first | done | assumption | exact from_len _ | exact of_len _ | exact ofZ_len _ | exact (ofW_ok _).1 | exact (fullW_W _).1 | exact (okW_with (by assumption)).1 | exact (okW_less (by assumption)).1 | exact put_len (from_len _) | exact orD_len _ _ | exact andD_len _ _ | exact minusD_len _ _ | exact fullD_len _ | (refine okLen ?_; (repeat (first | assumption | exact ofW_ok _ | exact fullW_W _ | apply okW_with | apply okW_less | refine okW_orS ?_ ?_ | refine okW_andS ?_ ?_ | refine okW_minusS ?_ ?_)); done) | omega | rfl), (fun j v hv => List.getElem?_of_mem (by rw [hCs834]; exact List.mem_append.2 (.inr (List.mem_append.2 (.inr (List.mem_append.2 (.inl (blkC_in hv)))))))), trivial⟩ (fun act887 f886 => ?_)
 clear f884
 refine AtH.rd (by kernel_rfl) (fun d v c a w h => by cases d <;> exact h) hS863 [25] [[.cs ((s : List Int).map wV)]] [(173, .agg ((s : List Int).map wV).toArray)] #[true, true, true, true, true, true, true, true, true, true, true, true, true, true, true, true, true, true, true, true, true, true, true, true, false, true, false, false, false, false, false, false, false, false, false, false, false, false, false, false, false, false, false, false, false, false, false] [(((s : List Int).map wV).length = 4), (∀ (j : Nat) (v : Value), ((s : List Int).map wV)[j]? = some v → ∃ j_ : Nat, Cs833[j_]? = some (((⟨w34.heap.size, 0, none⟩ : Addr).add j), v))] 22 f886 (by kernel_rfl) ⟨(by simp only [List.length_map, List.length_set, List.length_replicate, List.length_cons, List.length_nil]; first | done | assumption | exact from_len _ | exact of_len _ | exact ofZ_len _ | exact (ofW_ok _).1 | exact (fullW_W _).1 | exact (okW_with (by assumption)).1 | exact (okW_less (by assumption)).1 | exact put_len (from_len _) | exact orD_len _ _ | exact andD_len _ _ | exact minusD_len _ _ | exact fullD_len _ | (refine okLen ?_; (repeat (first | assumption | exact ofW_ok _ | exact fullW_W _ | apply okW_with | apply okW_less | refine okW_orS ?_ ?_ | refine okW_andS ?_ ?_ | refine okW_minusS ?_ ?_)); done) | omega | rfl), (fun j v hv => List.getElem?_of_mem (by rw [hCs834]; exact List.mem_append.2 (.inr (List.mem_append.2 (.inl (blkC_in hv)))))), trivial⟩ (fun act889 f888 => ?_)
 clear f886
 refine AtH.rd (by kernel_rfl) (fun d v c a w h => by cases d <;> exact h) hS863 [26] [[.cs ((t : List Int).map wV)]] [(174, .agg ((t : List Int).map wV).toArray)] #[true, true, true, true, true, true, true, true, true, true, true, true, true, true, true, true, true, true, true, true, true, true, true, true, false, true, true, false, false, false, false, false, false, false, false, false, false, false, false, false, false, false, false, false, false, false, false] [(((t : List Int).map wV).length = 4), (∀ (j : Nat) (v : Value), ((t : List Int).map wV)[j]? = some v → ∃ j_ : Nat, Cs833[j_]? = some (((⟨w60.heap.size, 0, none⟩ : Addr).add j), v))] 21 f888 (by kernel_rfl) ⟨(by simp only [List.length_map, List.length_set, List.length_replicate, List.length_cons, List.length_nil]; first | done | assumption | exact from_len _ | exact of_len _ | exact ofZ_len _ | exact (ofW_ok _).1 | exact (fullW_W _).1 | exact (okW_with (by assumption)).1 | exact (okW_less (by assumption)).1 | exact put_len (from_len _) | exact orD_len _ _ | exact andD_len _ _ | exact minusD_len _ _ | exact fullD_len _ | (refine okLen ?_; (repeat (first | assumption | exact ofW_ok _ | exact fullW_W _ | apply okW_with | apply okW_less | refine okW_orS ?_ ?_ | refine okW_andS ?_ ?_ | refine okW_minusS ?_ ?_)); done) | omega | rfl), (fun j v hv => List.getElem?_of_mem (by rw [hCs834]; exact List.mem_append.2 (.inr (List.mem_append.2 (.inr (List.mem_append.2 (.inl (blkC_in hv)))))))), trivial⟩ (fun act891 f890 => ?_)
 clear f888
 refine AtH.rd (by kernel_rfl) (fun d v c a w h => by cases d <;> exact h) hS863 [28] [[.cs ((s : List Int).map wV)]] [(176, .agg ((s : List Int).map wV).toArray)] #[true, true, true, true, true, true, true, true, true, true, true, true, true, true, true, true, true, true, true, true, true, true, true, true, false, true, true, false, true, false, false, false, false, false, false, false, false, false, false, false, false, false, false, false, false, false, false] [(((s : List Int).map wV).length = 4), (∀ (j : Nat) (v : Value), ((s : List Int).map wV)[j]? = some v → ∃ j_ : Nat, Cs833[j_]? = some (((⟨w34.heap.size, 0, none⟩ : Addr).add j), v))] 20 f890 (by kernel_rfl) ⟨(by simp only [List.length_map, List.length_set, List.length_replicate, List.length_cons, List.length_nil]; first | done | assumption | exact from_len _ | exact of_len _ | exact ofZ_len _ | exact (ofW_ok _).1 | exact (fullW_W _).1 | exact (okW_with (by assumption)).1 | exact (okW_less (by assumption)).1 | exact put_len (from_len _) | exact orD_len _ _ | exact andD_len _ _ | exact minusD_len _ _ | exact fullD_len _ | (refine okLen ?_; (repeat (first | assumption | exact ofW_ok _ | exact fullW_W _ | apply okW_with | apply okW_less | refine okW_orS ?_ ?_ | refine okW_andS ?_ ?_ | refine okW_minusS ?_ ?_)); done) | omega | rfl), (fun j v hv => List.getElem?_of_mem (by rw [hCs834]; exact List.mem_append.2 (.inr (List.mem_append.2 (.inl (blkC_in hv)))))), trivial⟩ (fun act893 f892 => ?_)
 clear f890
 refine AtH.all [24] 19 (by kernel_rfl) (by simp) ⟨?_, trivial⟩
 refine OneH.call f892 28 #[.agg ((s : List Int).map wV).toArray, .agg ((t : List Int).map wV).toArray] (some 172) #[true, true, true, true, true, true, true, true, true, true, true, true, true, true, true, true, true, true, true, true, true, true, true, true, true, true, true, false, true, false, false, false, false, false, false, false, false, false, false, false, false, false, false, false, false, false, false] (by kernel_rfl) (by kernel_rfl) (in_any (s := s) (t := t) (by repeat (first | assumption | exact ofW_ok _ | exact fullW_W _ | exact wordsD_W _ | exact okW_0 | exact okW_00 | apply okW_orS | apply okW_andS | apply okW_minusS | apply okW_with | apply okW_less | apply okW_or | apply okW_and | apply okW_minus | (apply okW_lit <;> exact ⟨by omega, by omega⟩))) (by repeat (first | assumption | exact ofW_ok _ | exact fullW_W _ | exact wordsD_W _ | exact okW_0 | exact okW_00 | apply okW_orS | apply okW_andS | apply okW_minusS | apply okW_with | apply okW_less | apply okW_or | apply okW_and | apply okW_minus | (apply okW_lit <;> exact ⟨by omega, by omega⟩)))) ?_
 rintro e_ w895 ⟨rfl, he⟩
 refine ⟨_, rfl, _, rfl, fun act896 f897 => ?_⟩
 clear f892
 have g898 := gr_ext he
 have hS894 := hS863.gr g898
 have szw895 := g898.size
 have e899 := e868.gr g898 no_row
 clear e868
 have r900 := r869.gr g898 (fun _ h => by cases h)
 clear r869
 have bx901 := bx870.gr g898 (by simp)
 clear bx870
 have bx902 := bx871.gr g898 (by simp)
 clear bx871
 have bx903 := bx872.gr g898 (by simp)
 clear bx872
 have bx904 := bx873.gr g898 (by simp)
 clear bx873
 have bx905 := bx874.gr g898 (by simp)
 clear bx874
 have bx906 := bx875.gr g898 (by simp)
 clear bx875
 clear g898 he
 refine ⟨hS894, ?_⟩
 refine AtH.all [27] 18 (by kernel_rfl) (by simp) ⟨?_, trivial⟩
 refine OneH.call f897 35 #[.agg ((s : List Int).map wV).toArray, .agg ((t : List Int).map wV).toArray] (some 175) #[true, true, true, true, true, true, true, true, true, true, true, true, true, true, true, true, true, true, true, true, true, true, true, true, true, true, true, true, true, false, false, false, false, false, false, false, false, false, false, false, false, false, false, false, false, false, false] (by kernel_rfl) (by kernel_rfl) (andS_any (s := s) (t := t) (by repeat (first | assumption | exact ofW_ok _ | exact fullW_W _ | exact wordsD_W _ | exact okW_0 | exact okW_00 | apply okW_orS | apply okW_andS | apply okW_minusS | apply okW_with | apply okW_less | apply okW_or | apply okW_and | apply okW_minus | (apply okW_lit <;> exact ⟨by omega, by omega⟩))) (by repeat (first | assumption | exact ofW_ok _ | exact fullW_W _ | exact wordsD_W _ | exact okW_0 | exact okW_00 | apply okW_orS | apply okW_andS | apply okW_minusS | apply okW_with | apply okW_less | apply okW_or | apply okW_and | apply okW_minus | (apply okW_lit <;> exact ⟨by omega, by omega⟩)))) ?_
 rintro e_ w908 ⟨rfl, he⟩
 refine ⟨_, rfl, _, rfl, fun act909 f910 => ?_⟩
 clear f897
 have g911 := gr_ext he
 have hS907 := hS894.gr g911
 have szw908 := g911.size
 have e912 := e899.gr g911 no_row
 clear e899
 have r913 := r900.gr g911 (fun _ h => by cases h)
 clear r900
 have bx914 := bx901.gr g911 (by simp)
 clear bx901
 have bx915 := bx902.gr g911 (by simp)
 clear bx902
 have bx916 := bx903.gr g911 (by simp)
 clear bx903
 have bx917 := bx904.gr g911 (by simp)
 clear bx904
 have bx918 := bx905.gr g911 (by simp)
 clear bx905
 have bx919 := bx906.gr g911 (by simp)
 clear bx906
 clear g911 he
 refine ⟨hS907, ?_⟩
 refine AtH.rd (by kernel_rfl) (fun d v c a w h => by cases d <;> exact h) hS907 [29] [[.cs [wV (gI (andS s t) 0), wV (gI (andS s t) 1), wV (gI (andS s t) 2), wV (gI (andS s t) 3)], .cs [wV (gI s 0), wV (gI s 1), wV (gI s 2), wV (gI s 3)], .as_ (.bool (decide ((andS s t : List Int) = s)))]] [(177, .bool (decide ((andS s t : List Int) = s)))] #[true, true, true, true, true, true, true, true, true, true, true, true, true, true, true, true, true, true, true, true, true, true, true, true, true, true, true, true, true, true, false, false, false, false, false, false, false, false, false, false, false, false, false, false, false, false, false] [(((andS s t : List Int).map wV).toArray = ([wV (gI (andS s t) 0), wV (gI (andS s t) 1), wV (gI (andS s t) 2), wV (gI (andS s t) 3)] : List Value).toArray), (((s : List Int).map wV).toArray = ([wV (gI s 0), wV (gI s 1), wV (gI s 2), wV (gI s 3)] : List Value).toArray), ((.bool ((((gI (andS s t) 0 : Int) == gI s 0) && (((gI (andS s t) 1 : Int) == gI s 1) && (((gI (andS s t) 2 : Int) == gI s 2) && (((gI (andS s t) 3 : Int) == gI s 3) && true))))) : Value) = .bool (decide ((andS s t : List Int) = s)))] 17 f910 (by kernel_rfl) ⟨(map4 (by first | assumption | exact (okW_with (by assumption)).1 | exact (okW_less (by assumption)).1 | exact (ofW_ok _).1 | exact (fullW_W _).1 | (refine okLen ?_; (repeat (first | assumption | exact ofW_ok _ | exact fullW_W _ | apply okW_with | apply okW_less | refine okW_orS ?_ ?_ | refine okW_andS ?_ ?_ | refine okW_minusS ?_ ?_)); done) | rfl | omega | (simp only [List.length_set]; first | done | assumption | omega) | exact lenW4 _ (by assumption))), (map4 (by first | assumption | exact (okW_with (by assumption)).1 | exact (okW_less (by assumption)).1 | exact (ofW_ok _).1 | exact (fullW_W _).1 | (refine okLen ?_; (repeat (first | assumption | exact ofW_ok _ | exact fullW_W _ | apply okW_with | apply okW_less | refine okW_orS ?_ ?_ | refine okW_andS ?_ ?_ | refine okW_minusS ?_ ?_)); done) | rfl | omega | (simp only [List.length_set]; first | done | assumption | omega) | exact lenW4 _ (by assumption))), (congrArg (fun b => Value.bool b) (w4_eq (by first | assumption | exact (okW_with (by assumption)).1 | exact (okW_less (by assumption)).1 | exact (ofW_ok _).1 | exact (fullW_W _).1 | (refine okLen ?_; (repeat (first | assumption | exact ofW_ok _ | exact fullW_W _ | apply okW_with | apply okW_less | refine okW_orS ?_ ?_ | refine okW_andS ?_ ?_ | refine okW_minusS ?_ ?_)); done) | rfl | omega | (simp only [List.length_set]; first | done | assumption | omega) | exact lenW4 _ (by assumption)) (by first | assumption | exact (okW_with (by assumption)).1 | exact (okW_less (by assumption)).1 | exact (ofW_ok _).1 | exact (fullW_W _).1 | (refine okLen ?_; (repeat (first | assumption | exact ofW_ok _ | exact fullW_W _ | apply okW_with | apply okW_less | refine okW_orS ?_ ?_ | refine okW_andS ?_ ?_ | refine okW_minusS ?_ ?_)); done) | rfl | omega | (simp only [List.length_set]; first | done | assumption | omega) | exact lenW4 _ (by assumption)))), trivial⟩ (fun act921 f920 => ?_)
 clear f910
 refine AtH.rd (by kernel_rfl) (fun d v c a w h => by cases d <;> exact h) hS907 [30] [[.as_ (.bool true)]] [(178, .bool true)] #[true, true, true, true, true, true, true, true, true, true, true, true, true, true, true, true, true, true, true, true, true, true, true, true, true, true, true, true, true, true, true, false, false, false, false, false, false, false, false, false, false, false, false, false, false, false, false] [((.bool ((inW s t) == (decide ((andS s t : List Int) = s))) : Value) = .bool true)] 16 f920 (by kernel_rfl) ⟨(congrArg Value.bool (alg14 hs ht)), trivial⟩ (fun act923 f922 => ?_)
 clear f920
 refine AtH.rd (by kernel_rfl) (fun d v c a w h => by cases d <;> exact h) hS907 [31] [[]] [(179, .bool true)] #[true, true, true, true, true, true, true, true, true, true, true, true, true, true, true, true, true, true, true, true, true, true, true, true, true, true, true, true, true, true, true, true, false, false, false, false, false, false, false, false, false, false, false, false, false, false, false] [] 15 f922 (by kernel_rfl) trivial (fun act925 f924 => ?_)
 clear f922
 refine AtH.rd (by kernel_rfl) (fun d v c a w h => by cases d <;> exact h) hS907 [32] [[]] [(180, .bool true)] #[true, true, true, true, true, true, true, true, true, true, true, true, true, true, true, true, true, true, true, true, true, true, true, true, true, true, true, true, true, true, true, true, true, false, false, false, false, false, false, false, false, false, false, false, false, false, false] [] 14 f924 (by kernel_rfl) trivial (fun act927 f926 => ?_)
 clear f924
 refine AtH.rd (by kernel_rfl) (fun d v c a w h => by cases d <;> exact h) hS907 [33] [[.cs ((s : List Int).map wV)]] [(181, .agg ((s : List Int).map wV).toArray)] #[true, true, true, true, true, true, true, true, true, true, true, true, true, true, true, true, true, true, true, true, true, true, true, true, true, true, true, true, true, true, true, true, true, true, false, false, false, false, false, false, false, false, false, false, false, false, false] [(((s : List Int).map wV).length = 4), (∀ (j : Nat) (v : Value), ((s : List Int).map wV)[j]? = some v → ∃ j_ : Nat, Cs833[j_]? = some (((⟨w34.heap.size, 0, none⟩ : Addr).add j), v))] 13 f926 (by kernel_rfl) ⟨(by simp only [List.length_map, List.length_set, List.length_replicate, List.length_cons, List.length_nil]; first | done | assumption | exact from_len _ | exact of_len _ | exact ofZ_len _ | exact (ofW_ok _).1 | exact (fullW_W _).1 | exact (okW_with (by assumption)).1 | exact (okW_less (by assumption)).1 | exact put_len (from_len _) | exact orD_len _ _ | exact andD_len _ _ | exact minusD_len _ _ | exact fullD_len _ | (refine okLen ?_; (repeat (first | assumption | exact ofW_ok _ | exact fullW_W _ | apply okW_with | apply okW_less | refine okW_orS ?_ ?_ | refine okW_andS ?_ ?_ | refine okW_minusS ?_ ?_)); done) | omega | rfl), (fun j v hv => List.getElem?_of_mem (by rw [hCs834]; exact List.mem_append.2 (.inr (List.mem_append.2 (.inl (blkC_in hv)))))), trivial⟩ (fun act929 f928 => ?_)
 clear f926
 refine AtH.rd (by kernel_rfl) (fun d v c a w h => by cases d <;> exact h) hS907 [34] [[.cs ((t : List Int).map wV)]] [(182, .agg ((t : List Int).map wV).toArray)] #[true, true, true, true, true, true, true, true, true, true, true, true, true, true, true, true, true, true, true, true, true, true, true, true, true, true, true, true, true, true, true, true, true, true, true, false, false, false, false, false, false, false, false, false, false, false, false] [(((t : List Int).map wV).length = 4), (∀ (j : Nat) (v : Value), ((t : List Int).map wV)[j]? = some v → ∃ j_ : Nat, Cs833[j_]? = some (((⟨w60.heap.size, 0, none⟩ : Addr).add j), v))] 12 f928 (by kernel_rfl) ⟨(by simp only [List.length_map, List.length_set, List.length_replicate, List.length_cons, List.length_nil]; first | done | assumption | exact from_len _ | exact of_len _ | exact ofZ_len _ | exact (ofW_ok _).1 | exact (fullW_W _).1 | exact (okW_with (by assumption)).1 | exact (okW_less (by assumption)).1 | exact put_len (from_len _) | exact orD_len _ _ | exact andD_len _ _ | exact minusD_len _ _ | exact fullD_len _ | (refine okLen ?_; (repeat (first | assumption | exact ofW_ok _ | exact fullW_W _ | apply okW_with | apply okW_less | refine okW_orS ?_ ?_ | refine okW_andS ?_ ?_ | refine okW_minusS ?_ ?_)); done) | omega | rfl), (fun j v hv => List.getElem?_of_mem (by rw [hCs834]; exact List.mem_append.2 (.inr (List.mem_append.2 (.inr (List.mem_append.2 (.inl (blkC_in hv)))))))), trivial⟩ (fun act931 f930 => ?_)
 clear f928
 refine AtH.rd (by kernel_rfl) (fun d v c a w h => by cases d <;> exact h) hS907 [36] [[.cs ((s : List Int).map wV)]] [(184, .agg ((s : List Int).map wV).toArray)] #[true, true, true, true, true, true, true, true, true, true, true, true, true, true, true, true, true, true, true, true, true, true, true, true, true, true, true, true, true, true, true, true, true, true, true, false, true, false, false, false, false, false, false, false, false, false, false] [(((s : List Int).map wV).length = 4), (∀ (j : Nat) (v : Value), ((s : List Int).map wV)[j]? = some v → ∃ j_ : Nat, Cs833[j_]? = some (((⟨w34.heap.size, 0, none⟩ : Addr).add j), v))] 11 f930 (by kernel_rfl) ⟨(by simp only [List.length_map, List.length_set, List.length_replicate, List.length_cons, List.length_nil]; first | done | assumption | exact from_len _ | exact of_len _ | exact ofZ_len _ | exact (ofW_ok _).1 | exact (fullW_W _).1 | exact (okW_with (by assumption)).1 | exact (okW_less (by assumption)).1 | exact put_len (from_len _) | exact orD_len _ _ | exact andD_len _ _ | exact minusD_len _ _ | exact fullD_len _ | (refine okLen ?_; (repeat (first | assumption | exact ofW_ok _ | exact fullW_W _ | apply okW_with | apply okW_less | refine okW_orS ?_ ?_ | refine okW_andS ?_ ?_ | refine okW_minusS ?_ ?_)); done) | omega | rfl), (fun j v hv => List.getElem?_of_mem (by rw [hCs834]; exact List.mem_append.2 (.inr (List.mem_append.2 (.inl (blkC_in hv)))))), trivial⟩ (fun act933 f932 => ?_)
 clear f930
 refine AtH.all [35] 10 (by kernel_rfl) (by simp) ⟨?_, trivial⟩
 refine OneH.call f932 35 #[.agg ((s : List Int).map wV).toArray, .agg ((t : List Int).map wV).toArray] (some 183) #[true, true, true, true, true, true, true, true, true, true, true, true, true, true, true, true, true, true, true, true, true, true, true, true, true, true, true, true, true, true, true, true, true, true, true, true, true, false, false, false, false, false, false, false, false, false, false] (by kernel_rfl) (by kernel_rfl) (andS_any (s := s) (t := t) (by repeat (first | assumption | exact ofW_ok _ | exact fullW_W _ | exact wordsD_W _ | exact okW_0 | exact okW_00 | apply okW_orS | apply okW_andS | apply okW_minusS | apply okW_with | apply okW_less | apply okW_or | apply okW_and | apply okW_minus | (apply okW_lit <;> exact ⟨by omega, by omega⟩))) (by repeat (first | assumption | exact ofW_ok _ | exact fullW_W _ | exact wordsD_W _ | exact okW_0 | exact okW_00 | apply okW_orS | apply okW_andS | apply okW_minusS | apply okW_with | apply okW_less | apply okW_or | apply okW_and | apply okW_minus | (apply okW_lit <;> exact ⟨by omega, by omega⟩)))) ?_
 rintro e_ w935 ⟨rfl, he⟩
 refine ⟨_, rfl, _, rfl, fun act936 f937 => ?_⟩
 clear f932
 have g938 := gr_ext he
 have hS934 := hS907.gr g938
 have szw935 := g938.size
 have e939 := e912.gr g938 no_row
 clear e912
 have r940 := r913.gr g938 (fun _ h => by cases h)
 clear r913
 have bx941 := bx914.gr g938 (by simp)
 clear bx914
 have bx942 := bx915.gr g938 (by simp)
 clear bx915
 have bx943 := bx916.gr g938 (by simp)
 clear bx916
 have bx944 := bx917.gr g938 (by simp)
 clear bx917
 have bx945 := bx918.gr g938 (by simp)
 clear bx918
 have bx946 := bx919.gr g938 (by simp)
 clear bx919
 clear g938 he
 refine ⟨hS934, ?_⟩
 refine AtH.all [37] 9 (by kernel_rfl) (by simp) ⟨?_, trivial⟩
 refine OneH.call f937 28 #[.agg ((andS s t : List Int).map wV).toArray, .agg ((s : List Int).map wV).toArray] (some 185) #[true, true, true, true, true, true, true, true, true, true, true, true, true, true, true, true, true, true, true, true, true, true, true, true, true, true, true, true, true, true, true, true, true, true, true, true, true, true, false, false, false, false, false, false, false, false, false] (by kernel_rfl) (by kernel_rfl) ((in_any (s := andS s t) (t := s) (by repeat (first | assumption | exact ofW_ok _ | exact fullW_W _ | exact wordsD_W _ | exact okW_0 | exact okW_00 | apply okW_orS | apply okW_andS | apply okW_minusS | apply okW_with | apply okW_less | apply okW_or | apply okW_and | apply okW_minus | (apply okW_lit <;> exact ⟨by omega, by omega⟩))) (by repeat (first | assumption | exact ofW_ok _ | exact fullW_W _ | exact wordsD_W _ | exact okW_0 | exact okW_00 | apply okW_orS | apply okW_andS | apply okW_minusS | apply okW_with | apply okW_less | apply okW_or | apply okW_and | apply okW_minus | (apply okW_lit <;> exact ⟨by omega, by omega⟩)))).mono (R' := fun e w' => e = .returned (.bool true) ∧ Ext _ w') (fun e_ w_ h_ => by rw [show (inW (andS s t) s : Bool) = true from alg15 hs ht] at h_; exact h_)) ?_
 rintro e_ w948 ⟨rfl, he⟩
 refine ⟨_, rfl, _, rfl, fun act949 f950 => ?_⟩
 clear f937
 have g951 := gr_ext he
 have hS947 := hS934.gr g951
 have szw948 := g951.size
 have e952 := e939.gr g951 no_row
 clear e939
 have r953 := r940.gr g951 (fun _ h => by cases h)
 clear r940
 have bx954 := bx941.gr g951 (by simp)
 clear bx941
 have bx955 := bx942.gr g951 (by simp)
 clear bx942
 have bx956 := bx943.gr g951 (by simp)
 clear bx943
 have bx957 := bx944.gr g951 (by simp)
 clear bx944
 have bx958 := bx945.gr g951 (by simp)
 clear bx945
 have bx959 := bx946.gr g951 (by simp)
 clear bx946
 clear g951 he
 refine ⟨hS947, ?_⟩
 refine AtH.rd (by kernel_rfl) (fun d v c a w h => by cases d <;> exact h) hS947 [38] [[]] [(186, .bool true)] #[true, true, true, true, true, true, true, true, true, true, true, true, true, true, true, true, true, true, true, true, true, true, true, true, true, true, true, true, true, true, true, true, true, true, true, true, true, true, true, false, false, false, false, false, false, false, false] [] 8 f950 (by kernel_rfl) trivial (fun act961 f960 => ?_)
 clear f950
 refine AtH.rd (by kernel_rfl) (fun d v c a w h => by cases d <;> exact h) hS947 [39] [[]] [(187, .bool true)] #[true, true, true, true, true, true, true, true, true, true, true, true, true, true, true, true, true, true, true, true, true, true, true, true, true, true, true, true, true, true, true, true, true, true, true, true, true, true, true, true, false, false, false, false, false, false, false] [] 7 f960 (by kernel_rfl) trivial (fun act963 f962 => ?_)
 clear f960
 refine AtH.rd (by kernel_rfl) (fun d v c a w h => by cases d <;> exact h) hS947 [40] [[.cs ((s : List Int).map wV)]] [(188, .agg ((s : List Int).map wV).toArray)] #[true, true, true, true, true, true, true, true, true, true, true, true, true, true, true, true, true, true, true, true, true, true, true, true, true, true, true, true, true, true, true, true, true, true, true, true, true, true, true, true, true, false, false, false, false, false, false] [(((s : List Int).map wV).length = 4), (∀ (j : Nat) (v : Value), ((s : List Int).map wV)[j]? = some v → ∃ j_ : Nat, Cs833[j_]? = some (((⟨w34.heap.size, 0, none⟩ : Addr).add j), v))] 6 f962 (by kernel_rfl) ⟨(by simp only [List.length_map, List.length_set, List.length_replicate, List.length_cons, List.length_nil]; first | done | assumption | exact from_len _ | exact of_len _ | exact ofZ_len _ | exact (ofW_ok _).1 | exact (fullW_W _).1 | exact (okW_with (by assumption)).1 | exact (okW_less (by assumption)).1 | exact put_len (from_len _) | exact orD_len _ _ | exact andD_len _ _ | exact minusD_len _ _ | exact fullD_len _ | (refine okLen ?_; (repeat (first | assumption | exact ofW_ok _ | exact fullW_W _ | apply okW_with | apply okW_less | refine okW_orS ?_ ?_ | refine okW_andS ?_ ?_ | refine okW_minusS ?_ ?_)); done) | omega | rfl), (fun j v hv => List.getElem?_of_mem (by rw [hCs834]; exact List.mem_append.2 (.inr (List.mem_append.2 (.inl (blkC_in hv)))))), trivial⟩ (fun act965 f964 => ?_)
 clear f962
 refine AtH.rd (by kernel_rfl) (fun d v c a w h => by cases d <;> exact h) hS947 [41] [[.cs ((s : List Int).map wV)]] [(189, .agg ((s : List Int).map wV).toArray)] #[true, true, true, true, true, true, true, true, true, true, true, true, true, true, true, true, true, true, true, true, true, true, true, true, true, true, true, true, true, true, true, true, true, true, true, true, true, true, true, true, true, true, false, false, false, false, false] [(((s : List Int).map wV).length = 4), (∀ (j : Nat) (v : Value), ((s : List Int).map wV)[j]? = some v → ∃ j_ : Nat, Cs833[j_]? = some (((⟨w34.heap.size, 0, none⟩ : Addr).add j), v))] 5 f964 (by kernel_rfl) ⟨(by simp only [List.length_map, List.length_set, List.length_replicate, List.length_cons, List.length_nil]; first | done | assumption | exact from_len _ | exact of_len _ | exact ofZ_len _ | exact (ofW_ok _).1 | exact (fullW_W _).1 | exact (okW_with (by assumption)).1 | exact (okW_less (by assumption)).1 | exact put_len (from_len _) | exact orD_len _ _ | exact andD_len _ _ | exact minusD_len _ _ | exact fullD_len _ | (refine okLen ?_; (repeat (first | assumption | exact ofW_ok _ | exact fullW_W _ | apply okW_with | apply okW_less | refine okW_orS ?_ ?_ | refine okW_andS ?_ ?_ | refine okW_minusS ?_ ?_)); done) | omega | rfl), (fun j v hv => List.getElem?_of_mem (by rw [hCs834]; exact List.mem_append.2 (.inr (List.mem_append.2 (.inl (blkC_in hv)))))), trivial⟩ (fun act967 f966 => ?_)
 clear f964
 refine AtH.rd (by kernel_rfl) (fun d v c a w h => by cases d <;> exact h) hS947 [42] [[.cs ((u : List Int).map wV)]] [(190, .agg ((u : List Int).map wV).toArray)] #[true, true, true, true, true, true, true, true, true, true, true, true, true, true, true, true, true, true, true, true, true, true, true, true, true, true, true, true, true, true, true, true, true, true, true, true, true, true, true, true, true, true, true, false, false, false, false] [(((u : List Int).map wV).length = 4), (∀ (j : Nat) (v : Value), ((u : List Int).map wV)[j]? = some v → ∃ j_ : Nat, Cs833[j_]? = some (((⟨w86.heap.size, 0, none⟩ : Addr).add j), v))] 4 f966 (by kernel_rfl) ⟨(by simp only [List.length_map, List.length_set, List.length_replicate, List.length_cons, List.length_nil]; first | done | assumption | exact from_len _ | exact of_len _ | exact ofZ_len _ | exact (ofW_ok _).1 | exact (fullW_W _).1 | exact (okW_with (by assumption)).1 | exact (okW_less (by assumption)).1 | exact put_len (from_len _) | exact orD_len _ _ | exact andD_len _ _ | exact minusD_len _ _ | exact fullD_len _ | (refine okLen ?_; (repeat (first | assumption | exact ofW_ok _ | exact fullW_W _ | apply okW_with | apply okW_less | refine okW_orS ?_ ?_ | refine okW_andS ?_ ?_ | refine okW_minusS ?_ ?_)); done) | omega | rfl), (fun j v hv => List.getElem?_of_mem (by rw [hCs834]; exact List.mem_append.2 (.inr (List.mem_append.2 (.inr (List.mem_append.2 (.inr (blkC_in hv)))))))), trivial⟩ (fun act969 f968 => ?_)
 clear f966
 refine AtH.all [43] 3 (by kernel_rfl) (by simp) ⟨?_, trivial⟩
 refine OneH.call f968 32 #[.agg ((s : List Int).map wV).toArray, .agg ((u : List Int).map wV).toArray] (some 191) #[true, true, true, true, true, true, true, true, true, true, true, true, true, true, true, true, true, true, true, true, true, true, true, true, true, true, true, true, true, true, true, true, true, true, true, true, true, true, true, true, true, true, true, true, false, false, false] (by kernel_rfl) (by kernel_rfl) (orS_any (s := s) (t := u) (by repeat (first | assumption | exact ofW_ok _ | exact fullW_W _ | exact wordsD_W _ | exact okW_0 | exact okW_00 | apply okW_orS | apply okW_andS | apply okW_minusS | apply okW_with | apply okW_less | apply okW_or | apply okW_and | apply okW_minus | (apply okW_lit <;> exact ⟨by omega, by omega⟩))) (by repeat (first | assumption | exact ofW_ok _ | exact fullW_W _ | exact wordsD_W _ | exact okW_0 | exact okW_00 | apply okW_orS | apply okW_andS | apply okW_minusS | apply okW_with | apply okW_less | apply okW_or | apply okW_and | apply okW_minus | (apply okW_lit <;> exact ⟨by omega, by omega⟩)))) ?_
 rintro e_ w971 ⟨rfl, he⟩
 refine ⟨_, rfl, _, rfl, fun act972 f973 => ?_⟩
 clear f968
 have g974 := gr_ext he
 have hS970 := hS947.gr g974
 have szw971 := g974.size
 have e975 := e952.gr g974 no_row
 clear e952
 have r976 := r953.gr g974 (fun _ h => by cases h)
 clear r953
 have bx977 := bx954.gr g974 (by simp)
 clear bx954
 have bx978 := bx955.gr g974 (by simp)
 clear bx955
 have bx979 := bx956.gr g974 (by simp)
 clear bx956
 have bx980 := bx957.gr g974 (by simp)
 clear bx957
 have bx981 := bx958.gr g974 (by simp)
 clear bx958
 have bx982 := bx959.gr g974 (by simp)
 clear bx959
 clear g974 he
 refine ⟨hS970, ?_⟩
 refine AtH.all [44] 2 (by kernel_rfl) (by simp) ⟨?_, trivial⟩
 refine OneH.call f973 28 #[.agg ((s : List Int).map wV).toArray, .agg ((orS s u : List Int).map wV).toArray] (some 192) #[true, true, true, true, true, true, true, true, true, true, true, true, true, true, true, true, true, true, true, true, true, true, true, true, true, true, true, true, true, true, true, true, true, true, true, true, true, true, true, true, true, true, true, true, true, false, false] (by kernel_rfl) (by kernel_rfl) ((in_any (s := s) (t := orS s u) (by repeat (first | assumption | exact ofW_ok _ | exact fullW_W _ | exact wordsD_W _ | exact okW_0 | exact okW_00 | apply okW_orS | apply okW_andS | apply okW_minusS | apply okW_with | apply okW_less | apply okW_or | apply okW_and | apply okW_minus | (apply okW_lit <;> exact ⟨by omega, by omega⟩))) (by repeat (first | assumption | exact ofW_ok _ | exact fullW_W _ | exact wordsD_W _ | exact okW_0 | exact okW_00 | apply okW_orS | apply okW_andS | apply okW_minusS | apply okW_with | apply okW_less | apply okW_or | apply okW_and | apply okW_minus | (apply okW_lit <;> exact ⟨by omega, by omega⟩)))).mono (R' := fun e w' => e = .returned (.bool true) ∧ Ext _ w') (fun e_ w_ h_ => by rw [show (inW s (orS s u) : Bool) = true from alg16 hs hu] at h_; exact h_)) ?_
 rintro e_ w984 ⟨rfl, he⟩
 refine ⟨_, rfl, _, rfl, fun act985 f986 => ?_⟩
 clear f973
 have g987 := gr_ext he
 have hS983 := hS970.gr g987
 have szw984 := g987.size
 have e988 := e975.gr g987 no_row
 clear e975
 have r989 := r976.gr g987 (fun _ h => by cases h)
 clear r976
 have bx990 := bx977.gr g987 (by simp)
 clear bx977
 have bx991 := bx978.gr g987 (by simp)
 clear bx978
 have bx992 := bx979.gr g987 (by simp)
 clear bx979
 have bx993 := bx980.gr g987 (by simp)
 clear bx980
 have bx994 := bx981.gr g987 (by simp)
 clear bx981
 have bx995 := bx982.gr g987 (by simp)
 clear bx982
 clear g987 he
 refine ⟨hS983, ?_⟩
 refine AtH.rd (by kernel_rfl) (fun d v c a w h => by cases d <;> exact h) hS983 [45] [[]] [(193, .bool true)] #[true, true, true, true, true, true, true, true, true, true, true, true, true, true, true, true, true, true, true, true, true, true, true, true, true, true, true, true, true, true, true, true, true, true, true, true, true, true, true, true, true, true, true, true, true, true, false] [] 1 f986 (by kernel_rfl) trivial (fun act997 f996 => ?_)
 clear f986
 refine AtH.rd (by kernel_rfl) (fun d v c a w h => by cases d <;> exact h) hS983 [46] [[]] [(6, .bool true)] #[true, true, true, true, true, true, true, true, true, true, true, true, true, true, true, true, true, true, true, true, true, true, true, true, true, true, true, true, true, true, true, true, true, true, true, true, true, true, true, true, true, true, true, true, true, true, true] [] 0 f996 (by kernel_rfl) trivial (fun act999 f998 => ?_)
 clear f996
 refine AtH.done (by kernel_rfl) ?_
 clear hS983
 refine t_n ?_
 have f1000 := f998.sub (r := [(6, .bool true)]) ⟨rfl, trivial⟩
 clear f998
 refine wp_ret ?_
 refine ret_ f1000 [] [.bool true] [] (by kernel_rfl) trivial ?_
 exact ⟨rfl, e988⟩

end Go.Proofs.YtepekncgknlcjaaDoor
