/-
  A walk of a Go function, printed by a program of this repo. Conditions: what the theorems name.
-/
import Derived.Test.YtepekncgknlcjaaDoorWShown01
import Derived.Test.YtepekncgknlcjaaDoorWSets
set_option linter.unusedVariables false
set_option linter.unusedSimpArgs false
namespace Go.Proofs.YtepekncgknlcjaaDoor
open Go Go.RowKit

attribute [local irreducible] ofZ fromW wordsD ofD ofW lsD lenW lenN fullW withW lessW hasW hasD inW inD leastD putD onI tzI orS andS minusS orD andD minusD fullD emptyD
set_option maxHeartbeats 4000000 in
theorem changes_any {s : List Int} {t : List Int} {n : Int} {w : World} (hs : OkW s) (ht : OkW t) (rT : RdT w 0 w.heap.size) :
    Calls Tryd.prog 9 #[.agg ((s : List Int).map wV).toArray, .agg ((t : List Int).map wV).toArray, .int .i64 (n)] w fun e w' => e = .returned (.bool true) ∧ Ext w w' := by
 have hls := hs.1
 have hlt := ht.1
 refine enter_ (args := [.agg ((s : List Int).map wV).toArray, .agg ((t : List Int).map wV).toArray, .int .i64 (n)]) Tryd.func9 rfl Tryd.ntmps9 (Nat.le_of_ble_eq_true rfl) (fun act0 f0 => ?_)
 have e0 := Ext.refl w
 refine wp_seq ?_
 refine At.start ?_
 refine At.seq f0 1 [[]] [(3, .pointer (some ⟨w.heap.size, 0, none⟩))] (w.alloc (.cells ((s : List Int).map wV).toArray 25 (0, 0))) [] (by kernel_rfl) trivial (fun act4 w1 hw2 f3 => ?_)
 clear f0
 have g5 := gr_alloc hw2
 have szw1 := g5.size
 have e7 := e0.gr g5 no_row
 clear e0
 have r8 := rT.gr g5 (fun _ h => by cases h)
 clear rT
 have bx9 : Bx w1 (w.heap.size) ((s : List Int).map wV) 25 := Bx.new hw2
 have := bx9.lt
 clear g5 hw2
 refine At.seq f3 1 [[]] [(4, .pointer (some ⟨w1.heap.size, 0, none⟩))] (w1.alloc (.cells ((t : List Int).map wV).toArray 25 (0, 0))) [] (by kernel_rfl) trivial (fun act13 w10 hw11 f12 => ?_)
 clear f3
 have g14 := gr_alloc hw11
 have szw10 := g14.size
 have e16 := e7.gr g14 no_row
 clear e7
 have r17 := r8.gr g14 (fun _ h => by cases h)
 clear r8
 have bx18 := bx9.gr g14 (by simp)
 clear bx9
 have bx19 : Bx w10 (w1.heap.size) ((t : List Int).map wV) 25 := Bx.new hw11
 have := bx19.lt
 clear g14 hw11
 refine At.rd f12 1 [[]] [(6, .bool false)] [] (by kernel_rfl) trivial (fun act21 f20 => ?_)
 clear f12
 refine At.done rfl ?_
 refine t_n ?_
 have f22 := f20.sub (r := [(4, .pointer (some ⟨w1.heap.size, 0, none⟩)), (3, .pointer (some ⟨w.heap.size, 0, none⟩)), (2, .int .i64 (n))]) ⟨rfl, rfl, rfl, trivial⟩
 clear f20
 refine wp_seq ?_
 refine At.start ?_
 refine At.call f22 12 #[] (some 14) (by kernel_rfl) (shown01_any (r17.wide (Nat.zero_le _) (by omega))) ?_
 rintro e_ w23 ⟨rfl, he⟩
 refine ⟨_, rfl, _, rfl, fun act24 f25 => ?_⟩
 clear f22
 have g26 := gr_ext he
 have szw23 := g26.size
 have e27 := e16.gr g26 no_row
 clear e16
 have r28 := r17.gr g26 (fun _ h => by cases h)
 clear r17
 have bx29 := bx18.gr g26 (by simp)
 clear bx18
 have bx30 := bx19.gr g26 (by simp)
 clear bx19
 clear g26 he
 refine At.rd f25 1 [[]] [(7, .bool true)] [] (by kernel_rfl) trivial (fun act32 f31 => ?_)
 clear f25
 refine At.done rfl ?_
 refine t_n ?_
 have f33 := f31.sub (r := [(7, .bool true), (4, .pointer (some ⟨w1.heap.size, 0, none⟩)), (3, .pointer (some ⟨w.heap.size, 0, none⟩)), (2, .int .i64 (n))]) ⟨rfl, rfl, rfl, rfl, trivial⟩
 clear f31
 refine wp_seq ?_
 refine At.start ?_
 refine At.rd f33 1 [[.cs ((s : List Int).map wV)]] [(15, .agg ((s : List Int).map wV).toArray)] [(((s : List Int).map wV).length = 4), (∀ (j : Nat) (v : Value), ((s : List Int).map wV)[j]? = some v → w23.cell? ((⟨w.heap.size, 0, none⟩ : Addr).add j) = some v)] (by kernel_rfl) ⟨(by simp only [List.length_map, List.length_set, List.length_replicate, List.length_cons, List.length_nil]; first | done | assumption | exact from_len _ | exact of_len _ | exact ofZ_len _ | exact (ofW_ok _).1 | exact (fullW_W _).1 | exact (okW_with (by assumption)).1 | exact (okW_less (by assumption)).1 | exact put_len (from_len _) | exact orD_len _ _ | exact andD_len _ _ | exact minusD_len _ _ | exact fullD_len _ | (refine okLen ?_; (repeat (first | assumption | exact ofW_ok _ | exact fullW_W _ | apply okW_with | apply okW_less | refine okW_orS ?_ ?_ | refine okW_andS ?_ ?_ | refine okW_minusS ?_ ?_)); done) | omega | rfl), bx29.whole, trivial⟩ (fun act35 f34 => ?_)
 clear f33
 refine At.seq f34 1 [[]] [(8, .pointer (some ⟨w23.heap.size, 0, none⟩))] (w23.alloc (.cells ((List.replicate 4 (0 : Int) : List Int).map wV).toArray 26 (0, 0))) [] (by kernel_rfl) trivial (fun act39 w36 hw37 f38 => ?_)
 clear f34
 have g40 := gr_alloc hw37
 have szw36 := g40.size
 have e42 := e27.gr g40 no_row
 clear e27
 have r43 := r28.gr g40 (fun _ h => by cases h)
 clear r28
 have bx44 := bx29.gr g40 (by simp)
 clear bx29
 have bx45 := bx30.gr g40 (by simp)
 clear bx30
 have bx46 : Bx w36 (w23.heap.size) ((List.replicate 4 (0 : Int) : List Int).map wV) 26 := Bx.new hw37
 have := bx46.lt
 clear g40 hw37
 refine At.act f38 (storeBlk (t := 26) (b := w23.heap.size) (n := 4) (cs' := ((s : List Int).map wV)) (by kernel_rfl) (by kernel_rfl) (by simp only [List.length_map, List.length_set, List.length_replicate, List.length_cons, List.length_nil]; first | done | assumption | exact from_len _ | exact of_len _ | exact ofZ_len _ | exact (ofW_ok _).1 | exact (fullW_W _).1 | exact (okW_with (by assumption)).1 | exact (okW_less (by assumption)).1 | exact put_len (from_len _) | exact orD_len _ _ | exact andD_len _ _ | exact minusD_len _ _ | exact fullD_len _ | (refine okLen ?_; (repeat (first | assumption | exact ofW_ok _ | exact fullW_W _ | apply okW_with | apply okW_less | refine okW_orS ?_ ?_ | refine okW_andS ?_ ?_ | refine okW_minusS ?_ ?_)); done) | omega | rfl) oneW_ ((show ((s : List Int).map wV).length = 4 from (by simp only [List.length_map, List.length_set, List.length_replicate, List.length_cons, List.length_nil]; first | done | assumption | exact from_len _ | exact of_len _ | exact ofZ_len _ | exact (ofW_ok _).1 | exact (fullW_W _).1 | exact (okW_with (by assumption)).1 | exact (okW_less (by assumption)).1 | exact put_len (from_len _) | exact orD_len _ _ | exact andD_len _ _ | exact minusD_len _ _ | exact fullD_len _ | (refine okLen ?_; (repeat (first | assumption | exact ofW_ok _ | exact fullW_W _ | apply okW_with | apply okW_less | refine okW_orS ?_ ?_ | refine okW_andS ?_ ?_ | refine okW_minusS ?_ ?_)); done) | omega | rfl)).trans (show ((List.replicate 4 (0 : Int) : List Int).map wV).length = 4 from (by simp only [List.length_map, List.length_set, List.length_replicate, List.length_cons, List.length_nil]; first | done | assumption | exact from_len _ | exact of_len _ | exact ofZ_len _ | exact (ofW_ok _).1 | exact (fullW_W _).1 | exact (okW_with (by assumption)).1 | exact (okW_less (by assumption)).1 | exact put_len (from_len _) | exact orD_len _ _ | exact andD_len _ _ | exact minusD_len _ _ | exact fullD_len _ | (refine okLen ?_; (repeat (first | assumption | exact ofW_ok _ | exact fullW_W _ | apply okW_with | apply okW_less | refine okW_orS ?_ ?_ | refine okW_andS ?_ ?_ | refine okW_minusS ?_ ?_)); done) | omega | rfl)).symm) bx46) ?_
 rintro d_ v_ w47 ⟨rfl, g48, bx49⟩
 refine ⟨_, rfl, fun act51 f50 => ?_⟩
 clear f38
 have szw47 := g48.size
 have e52 := e42.gr g48 (fun k h => by injection h; omega)
 clear e42
 have r53 := r43.gr g48 (fun k h => by injection h; omega)
 clear r43
 have bx54 := bx44.gr g48 (fun h => by injection h; omega)
 clear bx44
 have bx55 := bx45.gr g48 (fun h => by injection h; omega)
 clear bx45
 clear bx46 g48
 refine At.done rfl ?_
 refine t_n ?_
 have f56 := f50.sub (r := [(8, .pointer (some ⟨w23.heap.size, 0, none⟩)), (7, .bool true), (4, .pointer (some ⟨w1.heap.size, 0, none⟩)), (3, .pointer (some ⟨w.heap.size, 0, none⟩)), (2, .int .i64 (n))]) ⟨rfl, rfl, rfl, rfl, rfl, trivial⟩
 clear f50
 refine wp_seq ?_
 refine At.start ?_
 refine At.rd f56 1 [[.cs ((t : List Int).map wV)]] [(16, .agg ((t : List Int).map wV).toArray)] [(((t : List Int).map wV).length = 4), (∀ (j : Nat) (v : Value), ((t : List Int).map wV)[j]? = some v → w47.cell? ((⟨w1.heap.size, 0, none⟩ : Addr).add j) = some v)] (by kernel_rfl) ⟨(by simp only [List.length_map, List.length_set, List.length_replicate, List.length_cons, List.length_nil]; first | done | assumption | exact from_len _ | exact of_len _ | exact ofZ_len _ | exact (ofW_ok _).1 | exact (fullW_W _).1 | exact (okW_with (by assumption)).1 | exact (okW_less (by assumption)).1 | exact put_len (from_len _) | exact orD_len _ _ | exact andD_len _ _ | exact minusD_len _ _ | exact fullD_len _ | (refine okLen ?_; (repeat (first | assumption | exact ofW_ok _ | exact fullW_W _ | apply okW_with | apply okW_less | refine okW_orS ?_ ?_ | refine okW_andS ?_ ?_ | refine okW_minusS ?_ ?_)); done) | omega | rfl), bx55.whole, trivial⟩ (fun act58 f57 => ?_)
 clear f56
 refine At.seq f57 1 [[]] [(9, .pointer (some ⟨w47.heap.size, 0, none⟩))] (w47.alloc (.cells ((List.replicate 4 (0 : Int) : List Int).map wV).toArray 26 (0, 0))) [] (by kernel_rfl) trivial (fun act62 w59 hw60 f61 => ?_)
 clear f57
 have g63 := gr_alloc hw60
 have szw59 := g63.size
 have e65 := e52.gr g63 no_row
 clear e52
 have r66 := r53.gr g63 (fun _ h => by cases h)
 clear r53
 have bx67 := bx54.gr g63 (by simp)
 clear bx54
 have bx68 := bx55.gr g63 (by simp)
 clear bx55
 have bx69 := bx49.gr g63 (by simp)
 clear bx49
 have bx70 : Bx w59 (w47.heap.size) ((List.replicate 4 (0 : Int) : List Int).map wV) 26 := Bx.new hw60
 have := bx70.lt
 clear g63 hw60
 refine At.act f61 (storeBlk (t := 26) (b := w47.heap.size) (n := 4) (cs' := ((t : List Int).map wV)) (by kernel_rfl) (by kernel_rfl) (by simp only [List.length_map, List.length_set, List.length_replicate, List.length_cons, List.length_nil]; first | done | assumption | exact from_len _ | exact of_len _ | exact ofZ_len _ | exact (ofW_ok _).1 | exact (fullW_W _).1 | exact (okW_with (by assumption)).1 | exact (okW_less (by assumption)).1 | exact put_len (from_len _) | exact orD_len _ _ | exact andD_len _ _ | exact minusD_len _ _ | exact fullD_len _ | (refine okLen ?_; (repeat (first | assumption | exact ofW_ok _ | exact fullW_W _ | apply okW_with | apply okW_less | refine okW_orS ?_ ?_ | refine okW_andS ?_ ?_ | refine okW_minusS ?_ ?_)); done) | omega | rfl) oneW_ ((show ((t : List Int).map wV).length = 4 from (by simp only [List.length_map, List.length_set, List.length_replicate, List.length_cons, List.length_nil]; first | done | assumption | exact from_len _ | exact of_len _ | exact ofZ_len _ | exact (ofW_ok _).1 | exact (fullW_W _).1 | exact (okW_with (by assumption)).1 | exact (okW_less (by assumption)).1 | exact put_len (from_len _) | exact orD_len _ _ | exact andD_len _ _ | exact minusD_len _ _ | exact fullD_len _ | (refine okLen ?_; (repeat (first | assumption | exact ofW_ok _ | exact fullW_W _ | apply okW_with | apply okW_less | refine okW_orS ?_ ?_ | refine okW_andS ?_ ?_ | refine okW_minusS ?_ ?_)); done) | omega | rfl)).trans (show ((List.replicate 4 (0 : Int) : List Int).map wV).length = 4 from (by simp only [List.length_map, List.length_set, List.length_replicate, List.length_cons, List.length_nil]; first | done | assumption | exact from_len _ | exact of_len _ | exact ofZ_len _ | exact (ofW_ok _).1 | exact (fullW_W _).1 | exact (okW_with (by assumption)).1 | exact (okW_less (by assumption)).1 | exact put_len (from_len _) | exact orD_len _ _ | exact andD_len _ _ | exact minusD_len _ _ | exact fullD_len _ | (refine okLen ?_; (repeat (first | assumption | exact ofW_ok _ | exact fullW_W _ | apply okW_with | apply okW_less | refine okW_orS ?_ ?_ | refine okW_andS ?_ ?_ | refine okW_minusS ?_ ?_)); done) | omega | rfl)).symm) bx70) ?_
 rintro d_ v_ w71 ⟨rfl, g72, bx73⟩
 refine ⟨_, rfl, fun act75 f74 => ?_⟩
 clear f61
 have szw71 := g72.size
 have e76 := e65.gr g72 (fun k h => by injection h; omega)
 clear e65
 have r77 := r66.gr g72 (fun k h => by injection h; omega)
 clear r66
 have bx78 := bx67.gr g72 (fun h => by injection h; omega)
 clear bx67
 have bx79 := bx68.gr g72 (fun h => by injection h; omega)
 clear bx68
 have bx80 := bx69.gr g72 (fun h => by injection h; omega)
 clear bx69
 clear bx70 g72
 refine At.done rfl ?_
 refine t_n ?_
 have f81 := f74.sub (r := [(9, .pointer (some ⟨w47.heap.size, 0, none⟩)), (8, .pointer (some ⟨w23.heap.size, 0, none⟩)), (7, .bool true), (4, .pointer (some ⟨w1.heap.size, 0, none⟩)), (3, .pointer (some ⟨w.heap.size, 0, none⟩)), (2, .int .i64 (n))]) ⟨rfl, rfl, rfl, rfl, rfl, rfl, trivial⟩
 clear f74
 refine wp_seq ?_
 refine At.start ?_
 refine At.rd f81 1 [[.cs ((s : List Int).map wV)]] [(17, .agg ((s : List Int).map wV).toArray)] [(((s : List Int).map wV).length = 4), (∀ (j : Nat) (v : Value), ((s : List Int).map wV)[j]? = some v → w71.cell? ((⟨w.heap.size, 0, none⟩ : Addr).add j) = some v)] (by kernel_rfl) ⟨(by simp only [List.length_map, List.length_set, List.length_replicate, List.length_cons, List.length_nil]; first | done | assumption | exact from_len _ | exact of_len _ | exact ofZ_len _ | exact (ofW_ok _).1 | exact (fullW_W _).1 | exact (okW_with (by assumption)).1 | exact (okW_less (by assumption)).1 | exact put_len (from_len _) | exact orD_len _ _ | exact andD_len _ _ | exact minusD_len _ _ | exact fullD_len _ | (refine okLen ?_; (repeat (first | assumption | exact ofW_ok _ | exact fullW_W _ | apply okW_with | apply okW_less | refine okW_orS ?_ ?_ | refine okW_andS ?_ ?_ | refine okW_minusS ?_ ?_)); done) | omega | rfl), bx78.whole, trivial⟩ (fun act83 f82 => ?_)
 clear f81
 refine At.call f82 23 #[.agg ((s : List Int).map wV).toArray] (some 18) (by kernel_rfl) (from_any (s := s) (by repeat (first | assumption | exact ofW_ok _ | exact fullW_W _ | exact wordsD_W _ | exact okW_0 | exact okW_00 | apply okW_orS | apply okW_andS | apply okW_minusS | apply okW_with | apply okW_less | apply okW_or | apply okW_and | apply okW_minus | (apply okW_lit <;> exact ⟨by omega, by omega⟩)))) ?_
 rintro e_ w84 ⟨rfl, he⟩
 refine ⟨_, rfl, _, rfl, fun act85 f86 => ?_⟩
 clear f82
 have g87 := gr_ext he
 have szw84 := g87.size
 have e88 := e76.gr g87 no_row
 clear e76
 have r89 := r77.gr g87 (fun _ h => by cases h)
 clear r77
 have bx90 := bx78.gr g87 (by simp)
 clear bx78
 have bx91 := bx79.gr g87 (by simp)
 clear bx79
 have bx92 := bx80.gr g87 (by simp)
 clear bx80
 have bx93 := bx73.gr g87 (by simp)
 clear bx73
 clear g87 he
 refine At.seq f86 1 [[]] [(10, .pointer (some ⟨w84.heap.size, 0, none⟩))] (w84.alloc (.cells ((List.replicate 256 false : List Bool).map Value.bool).toArray 32 (0, 0))) [] (by kernel_rfl) trivial (fun act97 w94 hw95 f96 => ?_)
 clear f86
 have g98 := gr_alloc hw95
 have szw94 := g98.size
 have e100 := e88.gr g98 no_row
 clear e88
 have r101 := r89.gr g98 (fun _ h => by cases h)
 clear r89
 have bx102 := bx90.gr g98 (by simp)
 clear bx90
 have bx103 := bx91.gr g98 (by simp)
 clear bx91
 have bx104 := bx92.gr g98 (by simp)
 clear bx92
 have bx105 := bx93.gr g98 (by simp)
 clear bx93
 have bx106 : Bx w94 (w84.heap.size) ((List.replicate 256 false : List Bool).map Value.bool) 32 := Bx.new hw95
 have := bx106.lt
 clear g98 hw95
 refine At.act f96 (storeBlk (t := 32) (b := w84.heap.size) (n := 256) (cs' := ((fromW s : List Bool).map Value.bool)) (by kernel_rfl) (by kernel_rfl) (by simp only [List.length_map, List.length_set, List.length_replicate, List.length_cons, List.length_nil]; first | done | assumption | exact from_len _ | exact of_len _ | exact ofZ_len _ | exact (ofW_ok _).1 | exact (fullW_W _).1 | exact (okW_with (by assumption)).1 | exact (okW_less (by assumption)).1 | exact put_len (from_len _) | exact orD_len _ _ | exact andD_len _ _ | exact minusD_len _ _ | exact fullD_len _ | (refine okLen ?_; (repeat (first | assumption | exact ofW_ok _ | exact fullW_W _ | apply okW_with | apply okW_less | refine okW_orS ?_ ?_ | refine okW_andS ?_ ?_ | refine okW_minusS ?_ ?_)); done) | omega | rfl) oneB ((show ((fromW s : List Bool).map Value.bool).length = 256 from (by simp only [List.length_map, List.length_set, List.length_replicate, List.length_cons, List.length_nil]; first | done | assumption | exact from_len _ | exact of_len _ | exact ofZ_len _ | exact (ofW_ok _).1 | exact (fullW_W _).1 | exact (okW_with (by assumption)).1 | exact (okW_less (by assumption)).1 | exact put_len (from_len _) | exact orD_len _ _ | exact andD_len _ _ | exact minusD_len _ _ | exact fullD_len _ | (refine okLen ?_; (repeat (first | assumption | exact ofW_ok _ | exact fullW_W _ | apply okW_with | apply okW_less | refine okW_orS ?_ ?_ | refine okW_andS ?_ ?_ | refine okW_minusS ?_ ?_)); done) | omega | rfl)).trans (show ((List.replicate 256 false : List Bool).map Value.bool).length = 256 from (by simp only [List.length_map, List.length_set, List.length_replicate, List.length_cons, List.length_nil]; first | done | assumption | exact from_len _ | exact of_len _ | exact ofZ_len _ | exact (ofW_ok _).1 | exact (fullW_W _).1 | exact (okW_with (by assumption)).1 | exact (okW_less (by assumption)).1 | exact put_len (from_len _) | exact orD_len _ _ | exact andD_len _ _ | exact minusD_len _ _ | exact fullD_len _ | (refine okLen ?_; (repeat (first | assumption | exact ofW_ok _ | exact fullW_W _ | apply okW_with | apply okW_less | refine okW_orS ?_ ?_ | refine okW_andS ?_ ?_ | refine okW_minusS ?_ ?_)); done) | omega | rfl)).symm) bx106) ?_
 rintro d_ v_ w107 ⟨rfl, g108, bx109⟩
 refine ⟨_, rfl, fun act111 f110 => ?_⟩
 clear f96
 have szw107 := g108.size
 have e112 := e100.gr g108 (fun k h => by injection h; omega)
 clear e100
 have r113 := r101.gr g108 (fun k h => by injection h; omega)
 clear r101
 have bx114 := bx102.gr g108 (fun h => by injection h; omega)
 clear bx102
 have bx115 := bx103.gr g108 (fun h => by injection h; omega)
 clear bx103
 have bx116 := bx104.gr g108 (fun h => by injection h; omega)
 clear bx104
 have bx117 := bx105.gr g108 (fun h => by injection h; omega)
 clear bx105
 clear bx106 g108
 refine At.done rfl ?_
 refine t_n ?_
 have f118 := f110.sub (r := [(10, .pointer (some ⟨w84.heap.size, 0, none⟩)), (9, .pointer (some ⟨w47.heap.size, 0, none⟩)), (8, .pointer (some ⟨w23.heap.size, 0, none⟩)), (7, .bool true), (4, .pointer (some ⟨w1.heap.size, 0, none⟩)), (3, .pointer (some ⟨w.heap.size, 0, none⟩)), (2, .int .i64 (n))]) ⟨rfl, rfl, rfl, rfl, rfl, rfl, rfl, trivial⟩
 clear f110
 refine wp_seq ?_
 refine At.start ?_
 refine At.rd f118 1 [[.cs ((t : List Int).map wV)]] [(19, .agg ((t : List Int).map wV).toArray)] [(((t : List Int).map wV).length = 4), (∀ (j : Nat) (v : Value), ((t : List Int).map wV)[j]? = some v → w107.cell? ((⟨w1.heap.size, 0, none⟩ : Addr).add j) = some v)] (by kernel_rfl) ⟨(by simp only [List.length_map, List.length_set, List.length_replicate, List.length_cons, List.length_nil]; first | done | assumption | exact from_len _ | exact of_len _ | exact ofZ_len _ | exact (ofW_ok _).1 | exact (fullW_W _).1 | exact (okW_with (by assumption)).1 | exact (okW_less (by assumption)).1 | exact put_len (from_len _) | exact orD_len _ _ | exact andD_len _ _ | exact minusD_len _ _ | exact fullD_len _ | (refine okLen ?_; (repeat (first | assumption | exact ofW_ok _ | exact fullW_W _ | apply okW_with | apply okW_less | refine okW_orS ?_ ?_ | refine okW_andS ?_ ?_ | refine okW_minusS ?_ ?_)); done) | omega | rfl), bx115.whole, trivial⟩ (fun act120 f119 => ?_)
 clear f118
 refine At.call f119 23 #[.agg ((t : List Int).map wV).toArray] (some 20) (by kernel_rfl) (from_any (s := t) (by repeat (first | assumption | exact ofW_ok _ | exact fullW_W _ | exact wordsD_W _ | exact okW_0 | exact okW_00 | apply okW_orS | apply okW_andS | apply okW_minusS | apply okW_with | apply okW_less | apply okW_or | apply okW_and | apply okW_minus | (apply okW_lit <;> exact ⟨by omega, by omega⟩)))) ?_
 rintro e_ w121 ⟨rfl, he⟩
 refine ⟨_, rfl, _, rfl, fun act122 f123 => ?_⟩
 clear f119
 have g124 := gr_ext he
 have szw121 := g124.size
 have e125 := e112.gr g124 no_row
 clear e112
 have r126 := r113.gr g124 (fun _ h => by cases h)
 clear r113
 have bx127 := bx114.gr g124 (by simp)
 clear bx114
 have bx128 := bx115.gr g124 (by simp)
 clear bx115
 have bx129 := bx116.gr g124 (by simp)
 clear bx116
 have bx130 := bx117.gr g124 (by simp)
 clear bx117
 have bx131 := bx109.gr g124 (by simp)
 clear bx109
 clear g124 he
 refine At.seq f123 1 [[]] [(11, .pointer (some ⟨w121.heap.size, 0, none⟩))] (w121.alloc (.cells ((List.replicate 256 false : List Bool).map Value.bool).toArray 32 (0, 0))) [] (by kernel_rfl) trivial (fun act135 w132 hw133 f134 => ?_)
 clear f123
 have g136 := gr_alloc hw133
 have szw132 := g136.size
 have e138 := e125.gr g136 no_row
 clear e125
 have r139 := r126.gr g136 (fun _ h => by cases h)
 clear r126
 have bx140 := bx127.gr g136 (by simp)
 clear bx127
 have bx141 := bx128.gr g136 (by simp)
 clear bx128
 have bx142 := bx129.gr g136 (by simp)
 clear bx129
 have bx143 := bx130.gr g136 (by simp)
 clear bx130
 have bx144 := bx131.gr g136 (by simp)
 clear bx131
 have bx145 : Bx w132 (w121.heap.size) ((List.replicate 256 false : List Bool).map Value.bool) 32 := Bx.new hw133
 have := bx145.lt
 clear g136 hw133
 refine At.act f134 (storeBlk (t := 32) (b := w121.heap.size) (n := 256) (cs' := ((fromW t : List Bool).map Value.bool)) (by kernel_rfl) (by kernel_rfl) (by simp only [List.length_map, List.length_set, List.length_replicate, List.length_cons, List.length_nil]; first | done | assumption | exact from_len _ | exact of_len _ | exact ofZ_len _ | exact (ofW_ok _).1 | exact (fullW_W _).1 | exact (okW_with (by assumption)).1 | exact (okW_less (by assumption)).1 | exact put_len (from_len _) | exact orD_len _ _ | exact andD_len _ _ | exact minusD_len _ _ | exact fullD_len _ | (refine okLen ?_; (repeat (first | assumption | exact ofW_ok _ | exact fullW_W _ | apply okW_with | apply okW_less | refine okW_orS ?_ ?_ | refine okW_andS ?_ ?_ | refine okW_minusS ?_ ?_)); done) | omega | rfl) oneB ((show ((fromW t : List Bool).map Value.bool).length = 256 from (by simp only [List.length_map, List.length_set, List.length_replicate, List.length_cons, List.length_nil]; first | done | assumption | exact from_len _ | exact of_len _ | exact ofZ_len _ | exact (ofW_ok _).1 | exact (fullW_W _).1 | exact (okW_with (by assumption)).1 | exact (okW_less (by assumption)).1 | exact put_len (from_len _) | exact orD_len _ _ | exact andD_len _ _ | exact minusD_len _ _ | exact fullD_len _ | (refine okLen ?_; (repeat (first | assumption | exact ofW_ok _ | exact fullW_W _ | apply okW_with | apply okW_less | refine okW_orS ?_ ?_ | refine okW_andS ?_ ?_ | refine okW_minusS ?_ ?_)); done) | omega | rfl)).trans (show ((List.replicate 256 false : List Bool).map Value.bool).length = 256 from (by simp only [List.length_map, List.length_set, List.length_replicate, List.length_cons, List.length_nil]; first | done | assumption | exact from_len _ | exact of_len _ | exact ofZ_len _ | exact (ofW_ok _).1 | exact (fullW_W _).1 | exact (okW_with (by assumption)).1 | exact (okW_less (by assumption)).1 | exact put_len (from_len _) | exact orD_len _ _ | exact andD_len _ _ | exact minusD_len _ _ | exact fullD_len _ | (refine okLen ?_; (repeat (first | assumption | exact ofW_ok _ | exact fullW_W _ | apply okW_with | apply okW_less | refine okW_orS ?_ ?_ | refine okW_andS ?_ ?_ | refine okW_minusS ?_ ?_)); done) | omega | rfl)).symm) bx145) ?_
 rintro d_ v_ w146 ⟨rfl, g147, bx148⟩
 refine ⟨_, rfl, fun act150 f149 => ?_⟩
 clear f134
 have szw146 := g147.size
 have e151 := e138.gr g147 (fun k h => by injection h; omega)
 clear e138
 have r152 := r139.gr g147 (fun k h => by injection h; omega)
 clear r139
 have bx153 := bx140.gr g147 (fun h => by injection h; omega)
 clear bx140
 have bx154 := bx141.gr g147 (fun h => by injection h; omega)
 clear bx141
 have bx155 := bx142.gr g147 (fun h => by injection h; omega)
 clear bx142
 have bx156 := bx143.gr g147 (fun h => by injection h; omega)
 clear bx143
 have bx157 := bx144.gr g147 (fun h => by injection h; omega)
 clear bx144
 clear bx145 g147
 refine At.done rfl ?_
 refine t_n ?_
 have f158 := f149.sub (r := [(11, .pointer (some ⟨w121.heap.size, 0, none⟩)), (10, .pointer (some ⟨w84.heap.size, 0, none⟩)), (9, .pointer (some ⟨w47.heap.size, 0, none⟩)), (8, .pointer (some ⟨w23.heap.size, 0, none⟩)), (7, .bool true), (4, .pointer (some ⟨w1.heap.size, 0, none⟩)), (3, .pointer (some ⟨w.heap.size, 0, none⟩)), (2, .int .i64 (n))]) ⟨rfl, rfl, rfl, rfl, rfl, rfl, rfl, rfl, trivial⟩
 clear f149
 refine wp_seq ?_
 obtain ⟨Cs159, hCs160⟩ : ∃ c : List (Addr × Value), c = ([] : List (Addr × Value)) ++ (blkC (w23.heap.size) ((s : List Int).map wV) ++ blkC (w84.heap.size) ((fromW s : List Bool).map Value.bool)) := ⟨_, rfl⟩
 have hS161 : HoldsC Cs159 w146 := by rw [hCs160]; exact (holdsA (show HoldsC [] w146 from trivial) (holdsA (holds_blk bx155) (holds_blk bx157)))
 refine AtH.start Cs159 17 #[false, false, false, false, false, false, false, false, false, false, false, false, false, false, false, false, false] (by kernel_rfl) rfl rfl (fun w163 hw164 => ?_)
 have g162 := gr_drew hw164
 have hS165 := hS161.gr g162
 have szw163 := g162.size
 have e166 := e151.gr g162 no_row
 clear e151
 have r167 := r152.gr g162 (fun _ h => by cases h)
 clear r152
 have bx168 := bx153.gr g162 (by simp)
 clear bx153
 have bx169 := bx154.gr g162 (by simp)
 clear bx154
 have bx170 := bx155.gr g162 (by simp)
 clear bx155
 have bx171 := bx156.gr g162 (by simp)
 clear bx156
 have bx172 := bx157.gr g162 (by simp)
 clear bx157
 have bx173 := bx148.gr g162 (by simp)
 clear bx148
 clear g162 hw164 hS161
 refine AtH.rd (by kernel_rfl) (fun d v c a w h => by cases d <;> exact h) hS165 [0, 1, 3, 4] [[.cs ((s : List Int).map wV)], [], [.cs ((fromW s : List Bool).map Value.bool)], []] [(25, .int .i64 (n)), (24, .agg ((fromW s : List Bool).map Value.bool).toArray), (22, .int .i64 (n)), (21, .agg ((s : List Int).map wV).toArray)] #[true, true, false, true, true, false, false, false, false, false, false, false, false, false, false, false, false] [(((s : List Int).map wV).length = 4), (∀ (j : Nat) (v : Value), ((s : List Int).map wV)[j]? = some v → ∃ j_ : Nat, Cs159[j_]? = some (((⟨w23.heap.size, 0, none⟩ : Addr).add j), v)), (((fromW s : List Bool).map Value.bool).length = 256), (∀ (j : Nat) (v : Value), ((fromW s : List Bool).map Value.bool)[j]? = some v → ∃ j_ : Nat, Cs159[j_]? = some (((⟨w84.heap.size, 0, none⟩ : Addr).add j), v))] 13 f158 (by kernel_rfl) ⟨(by simp only [List.length_map, List.length_set, List.length_replicate, List.length_cons, List.length_nil]; first | done | assumption | exact from_len _ | exact of_len _ | exact ofZ_len _ | exact (ofW_ok _).1 | exact (fullW_W _).1 | exact (okW_with (by assumption)).1 | exact (okW_less (by assumption)).1 | exact put_len (from_len _) | exact orD_len _ _ | exact andD_len _ _ | exact minusD_len _ _ | exact fullD_len _ | (refine okLen ?_; (repeat (first | assumption | exact ofW_ok _ | exact fullW_W _ | apply okW_with | apply okW_less | refine okW_orS ?_ ?_ | refine okW_andS ?_ ?_ | refine okW_minusS ?_ ?_)); done) | omega | rfl), (fun j v hv => List.getElem?_of_mem (by rw [hCs160]; exact List.mem_append.2 (.inr (List.mem_append.2 (.inl (blkC_in hv)))))), (by simp only [List.length_map, List.length_set, List.length_replicate, List.length_cons, List.length_nil]; first | done | assumption | exact from_len _ | exact of_len _ | exact ofZ_len _ | exact (ofW_ok _).1 | exact (fullW_W _).1 | exact (okW_with (by assumption)).1 | exact (okW_less (by assumption)).1 | exact put_len (from_len _) | exact orD_len _ _ | exact andD_len _ _ | exact minusD_len _ _ | exact fullD_len _ | (refine okLen ?_; (repeat (first | assumption | exact ofW_ok _ | exact fullW_W _ | apply okW_with | apply okW_less | refine okW_orS ?_ ?_ | refine okW_andS ?_ ?_ | refine okW_minusS ?_ ?_)); done) | omega | rfl), (fun j v hv => List.getElem?_of_mem (by rw [hCs160]; exact List.mem_append.2 (.inr (List.mem_append.2 (.inr (blkC_in hv)))))), trivial⟩ (fun act175 f174 => ?_)
 clear f158
 refine AtH.all [2] 12 (by kernel_rfl) (by simp) ⟨?_, trivial⟩
 refine OneH.call f174 31 #[.agg ((s : List Int).map wV).toArray, .int .i64 (n)] (some 23) #[true, true, true, true, true, false, false, false, false, false, false, false, false, false, false, false, false] (by kernel_rfl) (by kernel_rfl) (with_any (s := s) (n := n) (by repeat (first | assumption | exact ofW_ok _ | exact fullW_W _ | exact wordsD_W _ | exact okW_0 | exact okW_00 | apply okW_orS | apply okW_andS | apply okW_minusS | apply okW_with | apply okW_less | apply okW_or | apply okW_and | apply okW_minus | (apply okW_lit <;> exact ⟨by omega, by omega⟩)))) ?_
 rintro e_ w177 ⟨rfl, he⟩
 refine ⟨_, rfl, _, rfl, fun act178 f179 => ?_⟩
 clear f174
 have g180 := gr_ext he
 have hS176 := hS165.gr g180
 have szw177 := g180.size
 have e181 := e166.gr g180 no_row
 clear e166
 have r182 := r167.gr g180 (fun _ h => by cases h)
 clear r167
 have bx183 := bx168.gr g180 (by simp)
 clear bx168
 have bx184 := bx169.gr g180 (by simp)
 clear bx169
 have bx185 := bx170.gr g180 (by simp)
 clear bx170
 have bx186 := bx171.gr g180 (by simp)
 clear bx171
 have bx187 := bx172.gr g180 (by simp)
 clear bx172
 have bx188 := bx173.gr g180 (by simp)
 clear bx173
 clear g180 he
 refine ⟨hS176, ?_⟩
 refine AtH.all [5] 11 (by kernel_rfl) (by simp) ⟨?_, trivial⟩
 refine OneH.call f179 33 #[.agg ((fromW s : List Bool).map Value.bool).toArray, .int .i64 (n), .bool true] (some 26) #[true, true, true, true, true, true, false, false, false, false, false, false, false, false, false, false, false] (by kernel_rfl) (by kernel_rfl) (put_any (l := fromW s) (n := n) (vv := true) (by first | assumption | exact ofZ_len _ | exact of_len _ | exact from_len _ | exact put_len (from_len _) | exact orD_len _ _ | exact andD_len _ _ | exact minusD_len _ _ | exact fullD_len _ | exact put_len (by assumption) | exact put_len (ofZ_len _) | rfl)) ?_
 rintro e_ w190 ⟨rfl, he⟩
 refine ⟨_, rfl, _, rfl, fun act191 f192 => ?_⟩
 clear f179
 have g193 := gr_ext he
 have hS189 := hS176.gr g193
 have szw190 := g193.size
 have e194 := e181.gr g193 no_row
 clear e181
 have r195 := r182.gr g193 (fun _ h => by cases h)
 clear r182
 have bx196 := bx183.gr g193 (by simp)
 clear bx183
 have bx197 := bx184.gr g193 (by simp)
 clear bx184
 have bx198 := bx185.gr g193 (by simp)
 clear bx185
 have bx199 := bx186.gr g193 (by simp)
 clear bx186
 have bx200 := bx187.gr g193 (by simp)
 clear bx187
 have bx201 := bx188.gr g193 (by simp)
 clear bx188
 clear g193 he
 refine ⟨hS189, ?_⟩
 refine AtH.all [6] 10 (by kernel_rfl) (by simp) ⟨?_, trivial⟩
 refine OneH.call f192 16 #[.agg ((withW s n : List Int).map wV).toArray, .agg ((putD (fromW s) n true : List Bool).map Value.bool).toArray] (some 27) #[true, true, true, true, true, true, true, false, false, false, false, false, false, false, false, false, false] (by kernel_rfl) (by kernel_rfl) ((same01_any (s := withW s n) (l := putD (fromW s) n true) (by repeat (first | assumption | exact ofW_ok _ | exact fullW_W _ | exact wordsD_W _ | exact okW_0 | exact okW_00 | apply okW_orS | apply okW_andS | apply okW_minusS | apply okW_with | apply okW_less | apply okW_or | apply okW_and | apply okW_minus | (apply okW_lit <;> exact ⟨by omega, by omega⟩))) (by first | assumption | exact ofZ_len _ | exact of_len _ | exact from_len _ | exact put_len (from_len _) | exact orD_len _ _ | exact andD_len _ _ | exact minusD_len _ _ | exact fullD_len _ | exact put_len (by assumption) | exact put_len (ofZ_len _) | rfl)).mono (R' := fun e w' => e = .returned (.bool true) ∧ Ext _ w') (fun e_ w_ h_ => by rw [show (decide ((withW s n) = wordsD (putD (fromW s) n true)) : Bool) = true from same_with hs] at h_; exact h_)) ?_
 rintro e_ w203 ⟨rfl, he⟩
 refine ⟨_, rfl, _, rfl, fun act204 f205 => ?_⟩
 clear f192
 have g206 := gr_ext he
 have hS202 := hS189.gr g206
 have szw203 := g206.size
 have e207 := e194.gr g206 no_row
 clear e194
 have r208 := r195.gr g206 (fun _ h => by cases h)
 clear r195
 have bx209 := bx196.gr g206 (by simp)
 clear bx196
 have bx210 := bx197.gr g206 (by simp)
 clear bx197
 have bx211 := bx198.gr g206 (by simp)
 clear bx198
 have bx212 := bx199.gr g206 (by simp)
 clear bx199
 have bx213 := bx200.gr g206 (by simp)
 clear bx200
 have bx214 := bx201.gr g206 (by simp)
 clear bx201
 clear g206 he
 refine ⟨hS202, ?_⟩
 refine AtH.rd (by kernel_rfl) (fun d v c a w h => by cases d <;> exact h) hS202 [7] [[]] [(28, .bool true)] #[true, true, true, true, true, true, true, true, false, false, false, false, false, false, false, false, false] [] 9 f205 (by kernel_rfl) trivial (fun act216 f215 => ?_)
 clear f205
 refine AtH.rd (by kernel_rfl) (fun d v c a w h => by cases d <;> exact h) hS202 [8] [[.cs ((s : List Int).map wV)]] [(29, .agg ((s : List Int).map wV).toArray)] #[true, true, true, true, true, true, true, true, true, false, false, false, false, false, false, false, false] [(((s : List Int).map wV).length = 4), (∀ (j : Nat) (v : Value), ((s : List Int).map wV)[j]? = some v → ∃ j_ : Nat, Cs159[j_]? = some (((⟨w23.heap.size, 0, none⟩ : Addr).add j), v))] 8 f215 (by kernel_rfl) ⟨(by simp only [List.length_map, List.length_set, List.length_replicate, List.length_cons, List.length_nil]; first | done | assumption | exact from_len _ | exact of_len _ | exact ofZ_len _ | exact (ofW_ok _).1 | exact (fullW_W _).1 | exact (okW_with (by assumption)).1 | exact (okW_less (by assumption)).1 | exact put_len (from_len _) | exact orD_len _ _ | exact andD_len _ _ | exact minusD_len _ _ | exact fullD_len _ | (refine okLen ?_; (repeat (first | assumption | exact ofW_ok _ | exact fullW_W _ | apply okW_with | apply okW_less | refine okW_orS ?_ ?_ | refine okW_andS ?_ ?_ | refine okW_minusS ?_ ?_)); done) | omega | rfl), (fun j v hv => List.getElem?_of_mem (by rw [hCs160]; exact List.mem_append.2 (.inr (List.mem_append.2 (.inl (blkC_in hv)))))), trivial⟩ (fun act218 f217 => ?_)
 clear f215
 refine AtH.rd (by kernel_rfl) (fun d v c a w h => by cases d <;> exact h) hS202 [9] [[]] [(30, .int .i64 (n))] #[true, true, true, true, true, true, true, true, true, true, false, false, false, false, false, false, false] [] 7 f217 (by kernel_rfl) trivial (fun act220 f219 => ?_)
 clear f217
 refine AtH.rd (by kernel_rfl) (fun d v c a w h => by cases d <;> exact h) hS202 [11] [[.cs ((fromW s : List Bool).map Value.bool)]] [(32, .agg ((fromW s : List Bool).map Value.bool).toArray)] #[true, true, true, true, true, true, true, true, true, true, false, true, false, false, false, false, false] [(((fromW s : List Bool).map Value.bool).length = 256), (∀ (j : Nat) (v : Value), ((fromW s : List Bool).map Value.bool)[j]? = some v → ∃ j_ : Nat, Cs159[j_]? = some (((⟨w84.heap.size, 0, none⟩ : Addr).add j), v))] 6 f219 (by kernel_rfl) ⟨(by simp only [List.length_map, List.length_set, List.length_replicate, List.length_cons, List.length_nil]; first | done | assumption | exact from_len _ | exact of_len _ | exact ofZ_len _ | exact (ofW_ok _).1 | exact (fullW_W _).1 | exact (okW_with (by assumption)).1 | exact (okW_less (by assumption)).1 | exact put_len (from_len _) | exact orD_len _ _ | exact andD_len _ _ | exact minusD_len _ _ | exact fullD_len _ | (refine okLen ?_; (repeat (first | assumption | exact ofW_ok _ | exact fullW_W _ | apply okW_with | apply okW_less | refine okW_orS ?_ ?_ | refine okW_andS ?_ ?_ | refine okW_minusS ?_ ?_)); done) | omega | rfl), (fun j v hv => List.getElem?_of_mem (by rw [hCs160]; exact List.mem_append.2 (.inr (List.mem_append.2 (.inr (blkC_in hv)))))), trivial⟩ (fun act222 f221 => ?_)
 clear f219
 refine AtH.rd (by kernel_rfl) (fun d v c a w h => by cases d <;> exact h) hS202 [12] [[]] [(33, .int .i64 (n))] #[true, true, true, true, true, true, true, true, true, true, false, true, true, false, false, false, false] [] 5 f221 (by kernel_rfl) trivial (fun act224 f223 => ?_)
 clear f221
 refine AtH.all [10] 4 (by kernel_rfl) (by simp) ⟨?_, trivial⟩
 refine OneH.call f223 30 #[.agg ((s : List Int).map wV).toArray, .int .i64 (n)] (some 31) #[true, true, true, true, true, true, true, true, true, true, true, true, true, false, false, false, false] (by kernel_rfl) (by kernel_rfl) (less_any (s := s) (n := n) (by repeat (first | assumption | exact ofW_ok _ | exact fullW_W _ | exact wordsD_W _ | exact okW_0 | exact okW_00 | apply okW_orS | apply okW_andS | apply okW_minusS | apply okW_with | apply okW_less | apply okW_or | apply okW_and | apply okW_minus | (apply okW_lit <;> exact ⟨by omega, by omega⟩)))) ?_
 rintro e_ w226 ⟨rfl, he⟩
 refine ⟨_, rfl, _, rfl, fun act227 f228 => ?_⟩
 clear f223
 have g229 := gr_ext he
 have hS225 := hS202.gr g229
 have szw226 := g229.size
 have e230 := e207.gr g229 no_row
 clear e207
 have r231 := r208.gr g229 (fun _ h => by cases h)
 clear r208
 have bx232 := bx209.gr g229 (by simp)
 clear bx209
 have bx233 := bx210.gr g229 (by simp)
 clear bx210
 have bx234 := bx211.gr g229 (by simp)
 clear bx211
 have bx235 := bx212.gr g229 (by simp)
 clear bx212
 have bx236 := bx213.gr g229 (by simp)
 clear bx213
 have bx237 := bx214.gr g229 (by simp)
 clear bx214
 clear g229 he
 refine ⟨hS225, ?_⟩
 refine AtH.all [13] 3 (by kernel_rfl) (by simp) ⟨?_, trivial⟩
 refine OneH.call f228 33 #[.agg ((fromW s : List Bool).map Value.bool).toArray, .int .i64 (n), .bool false] (some 34) #[true, true, true, true, true, true, true, true, true, true, true, true, true, true, false, false, false] (by kernel_rfl) (by kernel_rfl) (put_any (l := fromW s) (n := n) (vv := false) (by first | assumption | exact ofZ_len _ | exact of_len _ | exact from_len _ | exact put_len (from_len _) | exact orD_len _ _ | exact andD_len _ _ | exact minusD_len _ _ | exact fullD_len _ | exact put_len (by assumption) | exact put_len (ofZ_len _) | rfl)) ?_
 rintro e_ w239 ⟨rfl, he⟩
 refine ⟨_, rfl, _, rfl, fun act240 f241 => ?_⟩
 clear f228
 have g242 := gr_ext he
 have hS238 := hS225.gr g242
 have szw239 := g242.size
 have e243 := e230.gr g242 no_row
 clear e230
 have r244 := r231.gr g242 (fun _ h => by cases h)
 clear r231
 have bx245 := bx232.gr g242 (by simp)
 clear bx232
 have bx246 := bx233.gr g242 (by simp)
 clear bx233
 have bx247 := bx234.gr g242 (by simp)
 clear bx234
 have bx248 := bx235.gr g242 (by simp)
 clear bx235
 have bx249 := bx236.gr g242 (by simp)
 clear bx236
 have bx250 := bx237.gr g242 (by simp)
 clear bx237
 clear g242 he
 refine ⟨hS238, ?_⟩
 refine AtH.all [14] 2 (by kernel_rfl) (by simp) ⟨?_, trivial⟩
 refine OneH.call f241 16 #[.agg ((lessW s n : List Int).map wV).toArray, .agg ((putD (fromW s) n false : List Bool).map Value.bool).toArray] (some 35) #[true, true, true, true, true, true, true, true, true, true, true, true, true, true, true, false, false] (by kernel_rfl) (by kernel_rfl) ((same01_any (s := lessW s n) (l := putD (fromW s) n false) (by repeat (first | assumption | exact ofW_ok _ | exact fullW_W _ | exact wordsD_W _ | exact okW_0 | exact okW_00 | apply okW_orS | apply okW_andS | apply okW_minusS | apply okW_with | apply okW_less | apply okW_or | apply okW_and | apply okW_minus | (apply okW_lit <;> exact ⟨by omega, by omega⟩))) (by first | assumption | exact ofZ_len _ | exact of_len _ | exact from_len _ | exact put_len (from_len _) | exact orD_len _ _ | exact andD_len _ _ | exact minusD_len _ _ | exact fullD_len _ | exact put_len (by assumption) | exact put_len (ofZ_len _) | rfl)).mono (R' := fun e w' => e = .returned (.bool true) ∧ Ext _ w') (fun e_ w_ h_ => by rw [show (decide ((lessW s n) = wordsD (putD (fromW s) n false)) : Bool) = true from same_less hs] at h_; exact h_)) ?_
 rintro e_ w252 ⟨rfl, he⟩
 refine ⟨_, rfl, _, rfl, fun act253 f254 => ?_⟩
 clear f241
 have g255 := gr_ext he
 have hS251 := hS238.gr g255
 have szw252 := g255.size
 have e256 := e243.gr g255 no_row
 clear e243
 have r257 := r244.gr g255 (fun _ h => by cases h)
 clear r244
 have bx258 := bx245.gr g255 (by simp)
 clear bx245
 have bx259 := bx246.gr g255 (by simp)
 clear bx246
 have bx260 := bx247.gr g255 (by simp)
 clear bx247
 have bx261 := bx248.gr g255 (by simp)
 clear bx248
 have bx262 := bx249.gr g255 (by simp)
 clear bx249
 have bx263 := bx250.gr g255 (by simp)
 clear bx250
 clear g255 he
 refine ⟨hS251, ?_⟩
 refine AtH.rd (by kernel_rfl) (fun d v c a w h => by cases d <;> exact h) hS251 [15] [[]] [(36, .bool true)] #[true, true, true, true, true, true, true, true, true, true, true, true, true, true, true, true, false] [] 1 f254 (by kernel_rfl) trivial (fun act265 f264 => ?_)
 clear f254
 refine AtH.rd (by kernel_rfl) (fun d v c a w h => by cases d <;> exact h) hS251 [16] [[]] [(12, .bool true)] #[true, true, true, true, true, true, true, true, true, true, true, true, true, true, true, true, true] [] 0 f264 (by kernel_rfl) trivial (fun act267 f266 => ?_)
 clear f264
 refine AtH.done (by kernel_rfl) ?_
 clear hS251
 refine t_n ?_
 have f268 := f266.sub (r := [(12, .bool true), (11, .pointer (some ⟨w121.heap.size, 0, none⟩)), (10, .pointer (some ⟨w84.heap.size, 0, none⟩)), (9, .pointer (some ⟨w47.heap.size, 0, none⟩)), (8, .pointer (some ⟨w23.heap.size, 0, none⟩)), (7, .bool true), (4, .pointer (some ⟨w1.heap.size, 0, none⟩)), (3, .pointer (some ⟨w.heap.size, 0, none⟩))]) ⟨rfl, rfl, rfl, rfl, rfl, rfl, rfl, rfl, trivial⟩
 clear f266
 refine wp_seq ?_
 obtain ⟨Cs269, hCs270⟩ : ∃ c : List (Addr × Value), c = ([] : List (Addr × Value)) ++ (blkC (w23.heap.size) ((s : List Int).map wV) ++ (blkC (w47.heap.size) ((t : List Int).map wV) ++ (blkC (w84.heap.size) ((fromW s : List Bool).map Value.bool) ++ blkC (w121.heap.size) ((fromW t : List Bool).map Value.bool)))) := ⟨_, rfl⟩
 have hS271 : HoldsC Cs269 w252 := by rw [hCs270]; exact (holdsA (show HoldsC [] w252 from trivial) (holdsA (holds_blk bx260) (holdsA (holds_blk bx261) (holdsA (holds_blk bx262) (holds_blk bx263)))))
 refine AtH.start Cs269 26 #[false, false, false, false, false, false, false, false, false, false, false, false, false, false, false, false, false, false, false, false, false, false, false, false, false, false] (by kernel_rfl) rfl rfl (fun w273 hw274 => ?_)
 have g272 := gr_drew hw274
 have hS275 := hS271.gr g272
 have szw273 := g272.size
 have e276 := e256.gr g272 no_row
 clear e256
 have r277 := r257.gr g272 (fun _ h => by cases h)
 clear r257
 have bx278 := bx258.gr g272 (by simp)
 clear bx258
 have bx279 := bx259.gr g272 (by simp)
 clear bx259
 have bx280 := bx260.gr g272 (by simp)
 clear bx260
 have bx281 := bx261.gr g272 (by simp)
 clear bx261
 have bx282 := bx262.gr g272 (by simp)
 clear bx262
 have bx283 := bx263.gr g272 (by simp)
 clear bx263
 clear g272 hw274 hS271
 refine AtH.rd (by kernel_rfl) (fun d v c a w h => by cases d <;> exact h) hS275 [0, 1, 3, 4] [[.cs ((s : List Int).map wV)], [.cs ((t : List Int).map wV)], [.cs ((fromW s : List Bool).map Value.bool)], [.cs ((fromW t : List Bool).map Value.bool)]] [(41, .agg ((fromW t : List Bool).map Value.bool).toArray), (40, .agg ((fromW s : List Bool).map Value.bool).toArray), (38, .agg ((t : List Int).map wV).toArray), (37, .agg ((s : List Int).map wV).toArray)] #[true, true, false, true, true, false, false, false, false, false, false, false, false, false, false, false, false, false, false, false, false, false, false, false, false, false] [(((s : List Int).map wV).length = 4), (∀ (j : Nat) (v : Value), ((s : List Int).map wV)[j]? = some v → ∃ j_ : Nat, Cs269[j_]? = some (((⟨w23.heap.size, 0, none⟩ : Addr).add j), v)), (((t : List Int).map wV).length = 4), (∀ (j : Nat) (v : Value), ((t : List Int).map wV)[j]? = some v → ∃ j_ : Nat, Cs269[j_]? = some (((⟨w47.heap.size, 0, none⟩ : Addr).add j), v)), (((fromW s : List Bool).map Value.bool).length = 256), (∀ (j : Nat) (v : Value), ((fromW s : List Bool).map Value.bool)[j]? = some v → ∃ j_ : Nat, Cs269[j_]? = some (((⟨w84.heap.size, 0, none⟩ : Addr).add j), v)), (((fromW t : List Bool).map Value.bool).length = 256), (∀ (j : Nat) (v : Value), ((fromW t : List Bool).map Value.bool)[j]? = some v → ∃ j_ : Nat, Cs269[j_]? = some (((⟨w121.heap.size, 0, none⟩ : Addr).add j), v))] 22 f268 (by kernel_rfl) ⟨(by simp only [List.length_map, List.length_set, List.length_replicate, List.length_cons, List.length_nil]; first | done | assumption | exact from_len _ | exact of_len _ | exact ofZ_len _ | exact (ofW_ok _).1 | exact (fullW_W _).1 | exact (okW_with (by assumption)).1 | exact (okW_less (by assumption)).1 | exact put_len (from_len _) | exact orD_len _ _ | exact andD_len _ _ | exact minusD_len _ _ | exact fullD_len _ | (refine okLen ?_; (repeat (first | assumption | exact ofW_ok _ | exact fullW_W _ | apply okW_with | apply okW_less | refine okW_orS ?_ ?_ | refine okW_andS ?_ ?_ | refine okW_minusS ?_ ?_)); done) | omega | rfl), (fun j v hv => List.getElem?_of_mem (by rw [hCs270]; exact List.mem_append.2 (.inr (List.mem_append.2 (.inl (blkC_in hv)))))), (by simp only [List.length_map, List.length_set, List.length_replicate, List.length_cons, List.length_nil]; first | done | assumption | exact from_len _ | exact of_len _ | exact ofZ_len _ | exact (ofW_ok _).1 | exact (fullW_W _).1 | exact (okW_with (by assumption)).1 | exact (okW_less (by assumption)).1 | exact put_len (from_len _) | exact orD_len _ _ | exact andD_len _ _ | exact minusD_len _ _ | exact fullD_len _ | (refine okLen ?_; (repeat (first | assumption | exact ofW_ok _ | exact fullW_W _ | apply okW_with | apply okW_less | refine okW_orS ?_ ?_ | refine okW_andS ?_ ?_ | refine okW_minusS ?_ ?_)); done) | omega | rfl), (fun j v hv => List.getElem?_of_mem (by rw [hCs270]; exact List.mem_append.2 (.inr (List.mem_append.2 (.inr (List.mem_append.2 (.inl (blkC_in hv)))))))), (by simp only [List.length_map, List.length_set, List.length_replicate, List.length_cons, List.length_nil]; first | done | assumption | exact from_len _ | exact of_len _ | exact ofZ_len _ | exact (ofW_ok _).1 | exact (fullW_W _).1 | exact (okW_with (by assumption)).1 | exact (okW_less (by assumption)).1 | exact put_len (from_len _) | exact orD_len _ _ | exact andD_len _ _ | exact minusD_len _ _ | exact fullD_len _ | (refine okLen ?_; (repeat (first | assumption | exact ofW_ok _ | exact fullW_W _ | apply okW_with | apply okW_less | refine okW_orS ?_ ?_ | refine okW_andS ?_ ?_ | refine okW_minusS ?_ ?_)); done) | omega | rfl), (fun j v hv => List.getElem?_of_mem (by rw [hCs270]; exact List.mem_append.2 (.inr (List.mem_append.2 (.inr (List.mem_append.2 (.inr (List.mem_append.2 (.inl (blkC_in hv)))))))))), (by simp only [List.length_map, List.length_set, List.length_replicate, List.length_cons, List.length_nil]; first | done | assumption | exact from_len _ | exact of_len _ | exact ofZ_len _ | exact (ofW_ok _).1 | exact (fullW_W _).1 | exact (okW_with (by assumption)).1 | exact (okW_less (by assumption)).1 | exact put_len (from_len _) | exact orD_len _ _ | exact andD_len _ _ | exact minusD_len _ _ | exact fullD_len _ | (refine okLen ?_; (repeat (first | assumption | exact ofW_ok _ | exact fullW_W _ | apply okW_with | apply okW_less | refine okW_orS ?_ ?_ | refine okW_andS ?_ ?_ | refine okW_minusS ?_ ?_)); done) | omega | rfl), (fun j v hv => List.getElem?_of_mem (by rw [hCs270]; exact List.mem_append.2 (.inr (List.mem_append.2 (.inr (List.mem_append.2 (.inr (List.mem_append.2 (.inr (blkC_in hv)))))))))), trivial⟩ (fun act285 f284 => ?_)
 clear f268
 refine AtH.all [2] 21 (by kernel_rfl) (by simp) ⟨?_, trivial⟩
 refine OneH.call f284 32 #[.agg ((s : List Int).map wV).toArray, .agg ((t : List Int).map wV).toArray] (some 39) #[true, true, true, true, true, false, false, false, false, false, false, false, false, false, false, false, false, false, false, false, false, false, false, false, false, false] (by kernel_rfl) (by kernel_rfl) (orS_any (s := s) (t := t) (by repeat (first | assumption | exact ofW_ok _ | exact fullW_W _ | exact wordsD_W _ | exact okW_0 | exact okW_00 | apply okW_orS | apply okW_andS | apply okW_minusS | apply okW_with | apply okW_less | apply okW_or | apply okW_and | apply okW_minus | (apply okW_lit <;> exact ⟨by omega, by omega⟩))) (by repeat (first | assumption | exact ofW_ok _ | exact fullW_W _ | exact wordsD_W _ | exact okW_0 | exact okW_00 | apply okW_orS | apply okW_andS | apply okW_minusS | apply okW_with | apply okW_less | apply okW_or | apply okW_and | apply okW_minus | (apply okW_lit <;> exact ⟨by omega, by omega⟩)))) ?_
 rintro e_ w287 ⟨rfl, he⟩
 refine ⟨_, rfl, _, rfl, fun act288 f289 => ?_⟩
 clear f284
 have g290 := gr_ext he
 have hS286 := hS275.gr g290
 have szw287 := g290.size
 have e291 := e276.gr g290 no_row
 clear e276
 have r292 := r277.gr g290 (fun _ h => by cases h)
 clear r277
 have bx293 := bx278.gr g290 (by simp)
 clear bx278
 have bx294 := bx279.gr g290 (by simp)
 clear bx279
 have bx295 := bx280.gr g290 (by simp)
 clear bx280
 have bx296 := bx281.gr g290 (by simp)
 clear bx281
 have bx297 := bx282.gr g290 (by simp)
 clear bx282
 have bx298 := bx283.gr g290 (by simp)
 clear bx283
 clear g290 he
 refine ⟨hS286, ?_⟩
 refine AtH.all [5] 20 (by kernel_rfl) (by simp) ⟨?_, trivial⟩
 refine OneH.call f289 34 #[.agg ((fromW s : List Bool).map Value.bool).toArray, .agg ((fromW t : List Bool).map Value.bool).toArray] (some 42) #[true, true, true, true, true, true, false, false, false, false, false, false, false, false, false, false, false, false, false, false, false, false, false, false, false, false] (by kernel_rfl) (by kernel_rfl) (orD_any (l := fromW s) (r := fromW t) (by first | assumption | exact ofZ_len _ | exact of_len _ | exact from_len _ | exact put_len (from_len _) | exact orD_len _ _ | exact andD_len _ _ | exact minusD_len _ _ | exact fullD_len _ | exact put_len (by assumption) | exact put_len (ofZ_len _) | rfl) (by first | assumption | exact ofZ_len _ | exact of_len _ | exact from_len _ | exact put_len (from_len _) | exact orD_len _ _ | exact andD_len _ _ | exact minusD_len _ _ | exact fullD_len _ | exact put_len (by assumption) | exact put_len (ofZ_len _) | rfl)) ?_
 rintro e_ w300 ⟨rfl, he⟩
 refine ⟨_, rfl, _, rfl, fun act301 f302 => ?_⟩
 clear f289
 have g303 := gr_ext he
 have hS299 := hS286.gr g303
 have szw300 := g303.size
 have e304 := e291.gr g303 no_row
 clear e291
 have r305 := r292.gr g303 (fun _ h => by cases h)
 clear r292
 have bx306 := bx293.gr g303 (by simp)
 clear bx293
 have bx307 := bx294.gr g303 (by simp)
 clear bx294
 have bx308 := bx295.gr g303 (by simp)
 clear bx295
 have bx309 := bx296.gr g303 (by simp)
 clear bx296
 have bx310 := bx297.gr g303 (by simp)
 clear bx297
 have bx311 := bx298.gr g303 (by simp)
 clear bx298
 clear g303 he
 refine ⟨hS299, ?_⟩
 refine AtH.all [6] 19 (by kernel_rfl) (by simp) ⟨?_, trivial⟩
 refine OneH.call f302 16 #[.agg ((orS s t : List Int).map wV).toArray, .agg ((orD (fromW s) (fromW t) : List Bool).map Value.bool).toArray] (some 43) #[true, true, true, true, true, true, true, false, false, false, false, false, false, false, false, false, false, false, false, false, false, false, false, false, false, false] (by kernel_rfl) (by kernel_rfl) ((same01_any (s := orS s t) (l := orD (fromW s) (fromW t)) (by repeat (first | assumption | exact ofW_ok _ | exact fullW_W _ | exact wordsD_W _ | exact okW_0 | exact okW_00 | apply okW_orS | apply okW_andS | apply okW_minusS | apply okW_with | apply okW_less | apply okW_or | apply okW_and | apply okW_minus | (apply okW_lit <;> exact ⟨by omega, by omega⟩))) (by first | assumption | exact ofZ_len _ | exact of_len _ | exact from_len _ | exact put_len (from_len _) | exact orD_len _ _ | exact andD_len _ _ | exact minusD_len _ _ | exact fullD_len _ | exact put_len (by assumption) | exact put_len (ofZ_len _) | rfl)).mono (R' := fun e w' => e = .returned (.bool true) ∧ Ext _ w') (fun e_ w_ h_ => by rw [show (decide ((orS s t) = wordsD (orD (fromW s) (fromW t))) : Bool) = true from same_or hs ht] at h_; exact h_)) ?_
 rintro e_ w313 ⟨rfl, he⟩
 refine ⟨_, rfl, _, rfl, fun act314 f315 => ?_⟩
 clear f302
 have g316 := gr_ext he
 have hS312 := hS299.gr g316
 have szw313 := g316.size
 have e317 := e304.gr g316 no_row
 clear e304
 have r318 := r305.gr g316 (fun _ h => by cases h)
 clear r305
 have bx319 := bx306.gr g316 (by simp)
 clear bx306
 have bx320 := bx307.gr g316 (by simp)
 clear bx307
 have bx321 := bx308.gr g316 (by simp)
 clear bx308
 have bx322 := bx309.gr g316 (by simp)
 clear bx309
 have bx323 := bx310.gr g316 (by simp)
 clear bx310
 have bx324 := bx311.gr g316 (by simp)
 clear bx311
 clear g316 he
 refine ⟨hS312, ?_⟩
 refine AtH.rd (by kernel_rfl) (fun d v c a w h => by cases d <;> exact h) hS312 [7] [[]] [(44, .bool true)] #[true, true, true, true, true, true, true, true, false, false, false, false, false, false, false, false, false, false, false, false, false, false, false, false, false, false] [] 18 f315 (by kernel_rfl) trivial (fun act326 f325 => ?_)
 clear f315
 refine AtH.rd (by kernel_rfl) (fun d v c a w h => by cases d <;> exact h) hS312 [8] [[.cs ((s : List Int).map wV)]] [(45, .agg ((s : List Int).map wV).toArray)] #[true, true, true, true, true, true, true, true, true, false, false, false, false, false, false, false, false, false, false, false, false, false, false, false, false, false] [(((s : List Int).map wV).length = 4), (∀ (j : Nat) (v : Value), ((s : List Int).map wV)[j]? = some v → ∃ j_ : Nat, Cs269[j_]? = some (((⟨w23.heap.size, 0, none⟩ : Addr).add j), v))] 17 f325 (by kernel_rfl) ⟨(by simp only [List.length_map, List.length_set, List.length_replicate, List.length_cons, List.length_nil]; first | done | assumption | exact from_len _ | exact of_len _ | exact ofZ_len _ | exact (ofW_ok _).1 | exact (fullW_W _).1 | exact (okW_with (by assumption)).1 | exact (okW_less (by assumption)).1 | exact put_len (from_len _) | exact orD_len _ _ | exact andD_len _ _ | exact minusD_len _ _ | exact fullD_len _ | (refine okLen ?_; (repeat (first | assumption | exact ofW_ok _ | exact fullW_W _ | apply okW_with | apply okW_less | refine okW_orS ?_ ?_ | refine okW_andS ?_ ?_ | refine okW_minusS ?_ ?_)); done) | omega | rfl), (fun j v hv => List.getElem?_of_mem (by rw [hCs270]; exact List.mem_append.2 (.inr (List.mem_append.2 (.inl (blkC_in hv)))))), trivial⟩ (fun act328 f327 => ?_)
 clear f325
 refine AtH.rd (by kernel_rfl) (fun d v c a w h => by cases d <;> exact h) hS312 [9] [[.cs ((t : List Int).map wV)]] [(46, .agg ((t : List Int).map wV).toArray)] #[true, true, true, true, true, true, true, true, true, true, false, false, false, false, false, false, false, false, false, false, false, false, false, false, false, false] [(((t : List Int).map wV).length = 4), (∀ (j : Nat) (v : Value), ((t : List Int).map wV)[j]? = some v → ∃ j_ : Nat, Cs269[j_]? = some (((⟨w47.heap.size, 0, none⟩ : Addr).add j), v))] 16 f327 (by kernel_rfl) ⟨(by simp only [List.length_map, List.length_set, List.length_replicate, List.length_cons, List.length_nil]; first | done | assumption | exact from_len _ | exact of_len _ | exact ofZ_len _ | exact (ofW_ok _).1 | exact (fullW_W _).1 | exact (okW_with (by assumption)).1 | exact (okW_less (by assumption)).1 | exact put_len (from_len _) | exact orD_len _ _ | exact andD_len _ _ | exact minusD_len _ _ | exact fullD_len _ | (refine okLen ?_; (repeat (first | assumption | exact ofW_ok _ | exact fullW_W _ | apply okW_with | apply okW_less | refine okW_orS ?_ ?_ | refine okW_andS ?_ ?_ | refine okW_minusS ?_ ?_)); done) | omega | rfl), (fun j v hv => List.getElem?_of_mem (by rw [hCs270]; exact List.mem_append.2 (.inr (List.mem_append.2 (.inr (List.mem_append.2 (.inl (blkC_in hv)))))))), trivial⟩ (fun act330 f329 => ?_)
 clear f327
 refine AtH.rd (by kernel_rfl) (fun d v c a w h => by cases d <;> exact h) hS312 [11] [[.cs ((fromW s : List Bool).map Value.bool)]] [(48, .agg ((fromW s : List Bool).map Value.bool).toArray)] #[true, true, true, true, true, true, true, true, true, true, false, true, false, false, false, false, false, false, false, false, false, false, false, false, false, false] [(((fromW s : List Bool).map Value.bool).length = 256), (∀ (j : Nat) (v : Value), ((fromW s : List Bool).map Value.bool)[j]? = some v → ∃ j_ : Nat, Cs269[j_]? = some (((⟨w84.heap.size, 0, none⟩ : Addr).add j), v))] 15 f329 (by kernel_rfl) ⟨(by simp only [List.length_map, List.length_set, List.length_replicate, List.length_cons, List.length_nil]; first | done | assumption | exact from_len _ | exact of_len _ | exact ofZ_len _ | exact (ofW_ok _).1 | exact (fullW_W _).1 | exact (okW_with (by assumption)).1 | exact (okW_less (by assumption)).1 | exact put_len (from_len _) | exact orD_len _ _ | exact andD_len _ _ | exact minusD_len _ _ | exact fullD_len _ | (refine okLen ?_; (repeat (first | assumption | exact ofW_ok _ | exact fullW_W _ | apply okW_with | apply okW_less | refine okW_orS ?_ ?_ | refine okW_andS ?_ ?_ | refine okW_minusS ?_ ?_)); done) | omega | rfl), (fun j v hv => List.getElem?_of_mem (by rw [hCs270]; exact List.mem_append.2 (.inr (List.mem_append.2 (.inr (List.mem_append.2 (.inr (List.mem_append.2 (.inl (blkC_in hv)))))))))), trivial⟩ (fun act332 f331 => ?_)
 clear f329
 refine AtH.rd (by kernel_rfl) (fun d v c a w h => by cases d <;> exact h) hS312 [12] [[.cs ((fromW t : List Bool).map Value.bool)]] [(49, .agg ((fromW t : List Bool).map Value.bool).toArray)] #[true, true, true, true, true, true, true, true, true, true, false, true, true, false, false, false, false, false, false, false, false, false, false, false, false, false] [(((fromW t : List Bool).map Value.bool).length = 256), (∀ (j : Nat) (v : Value), ((fromW t : List Bool).map Value.bool)[j]? = some v → ∃ j_ : Nat, Cs269[j_]? = some (((⟨w121.heap.size, 0, none⟩ : Addr).add j), v))] 14 f331 (by kernel_rfl) ⟨(by simp only [List.length_map, List.length_set, List.length_replicate, List.length_cons, List.length_nil]; first | done | assumption | exact from_len _ | exact of_len _ | exact ofZ_len _ | exact (ofW_ok _).1 | exact (fullW_W _).1 | exact (okW_with (by assumption)).1 | exact (okW_less (by assumption)).1 | exact put_len (from_len _) | exact orD_len _ _ | exact andD_len _ _ | exact minusD_len _ _ | exact fullD_len _ | (refine okLen ?_; (repeat (first | assumption | exact ofW_ok _ | exact fullW_W _ | apply okW_with | apply okW_less | refine okW_orS ?_ ?_ | refine okW_andS ?_ ?_ | refine okW_minusS ?_ ?_)); done) | omega | rfl), (fun j v hv => List.getElem?_of_mem (by rw [hCs270]; exact List.mem_append.2 (.inr (List.mem_append.2 (.inr (List.mem_append.2 (.inr (List.mem_append.2 (.inr (blkC_in hv)))))))))), trivial⟩ (fun act334 f333 => ?_)
 clear f331
 refine AtH.all [10] 13 (by kernel_rfl) (by simp) ⟨?_, trivial⟩
 refine OneH.call f333 35 #[.agg ((s : List Int).map wV).toArray, .agg ((t : List Int).map wV).toArray] (some 47) #[true, true, true, true, true, true, true, true, true, true, true, true, true, false, false, false, false, false, false, false, false, false, false, false, false, false] (by kernel_rfl) (by kernel_rfl) (andS_any (s := s) (t := t) (by repeat (first | assumption | exact ofW_ok _ | exact fullW_W _ | exact wordsD_W _ | exact okW_0 | exact okW_00 | apply okW_orS | apply okW_andS | apply okW_minusS | apply okW_with | apply okW_less | apply okW_or | apply okW_and | apply okW_minus | (apply okW_lit <;> exact ⟨by omega, by omega⟩))) (by repeat (first | assumption | exact ofW_ok _ | exact fullW_W _ | exact wordsD_W _ | exact okW_0 | exact okW_00 | apply okW_orS | apply okW_andS | apply okW_minusS | apply okW_with | apply okW_less | apply okW_or | apply okW_and | apply okW_minus | (apply okW_lit <;> exact ⟨by omega, by omega⟩)))) ?_
 rintro e_ w336 ⟨rfl, he⟩
 refine ⟨_, rfl, _, rfl, fun act337 f338 => ?_⟩
 clear f333
 have g339 := gr_ext he
 have hS335 := hS312.gr g339
 have szw336 := g339.size
 have e340 := e317.gr g339 no_row
 clear e317
 have r341 := r318.gr g339 (fun _ h => by cases h)
 clear r318
 have bx342 := bx319.gr g339 (by simp)
 clear bx319
 have bx343 := bx320.gr g339 (by simp)
 clear bx320
 have bx344 := bx321.gr g339 (by simp)
 clear bx321
 have bx345 := bx322.gr g339 (by simp)
 clear bx322
 have bx346 := bx323.gr g339 (by simp)
 clear bx323
 have bx347 := bx324.gr g339 (by simp)
 clear bx324
 clear g339 he
 refine ⟨hS335, ?_⟩
 refine AtH.all [13] 12 (by kernel_rfl) (by simp) ⟨?_, trivial⟩
 refine OneH.call f338 36 #[.agg ((fromW s : List Bool).map Value.bool).toArray, .agg ((fromW t : List Bool).map Value.bool).toArray] (some 50) #[true, true, true, true, true, true, true, true, true, true, true, true, true, true, false, false, false, false, false, false, false, false, false, false, false, false] (by kernel_rfl) (by kernel_rfl) (andD_any (l := fromW s) (r := fromW t) (by first | assumption | exact ofZ_len _ | exact of_len _ | exact from_len _ | exact put_len (from_len _) | exact orD_len _ _ | exact andD_len _ _ | exact minusD_len _ _ | exact fullD_len _ | exact put_len (by assumption) | exact put_len (ofZ_len _) | rfl) (by first | assumption | exact ofZ_len _ | exact of_len _ | exact from_len _ | exact put_len (from_len _) | exact orD_len _ _ | exact andD_len _ _ | exact minusD_len _ _ | exact fullD_len _ | exact put_len (by assumption) | exact put_len (ofZ_len _) | rfl)) ?_
 rintro e_ w349 ⟨rfl, he⟩
 refine ⟨_, rfl, _, rfl, fun act350 f351 => ?_⟩
 clear f338
 have g352 := gr_ext he
 have hS348 := hS335.gr g352
 have szw349 := g352.size
 have e353 := e340.gr g352 no_row
 clear e340
 have r354 := r341.gr g352 (fun _ h => by cases h)
 clear r341
 have bx355 := bx342.gr g352 (by simp)
 clear bx342
 have bx356 := bx343.gr g352 (by simp)
 clear bx343
 have bx357 := bx344.gr g352 (by simp)
 clear bx344
 have bx358 := bx345.gr g352 (by simp)
 clear bx345
 have bx359 := bx346.gr g352 (by simp)
 clear bx346
 have bx360 := bx347.gr g352 (by simp)
 clear bx347
 clear g352 he
 refine ⟨hS348, ?_⟩
 refine AtH.all [14] 11 (by kernel_rfl) (by simp) ⟨?_, trivial⟩
 refine OneH.call f351 16 #[.agg ((andS s t : List Int).map wV).toArray, .agg ((andD (fromW s) (fromW t) : List Bool).map Value.bool).toArray] (some 51) #[true, true, true, true, true, true, true, true, true, true, true, true, true, true, true, false, false, false, false, false, false, false, false, false, false, false] (by kernel_rfl) (by kernel_rfl) ((same01_any (s := andS s t) (l := andD (fromW s) (fromW t)) (by repeat (first | assumption | exact ofW_ok _ | exact fullW_W _ | exact wordsD_W _ | exact okW_0 | exact okW_00 | apply okW_orS | apply okW_andS | apply okW_minusS | apply okW_with | apply okW_less | apply okW_or | apply okW_and | apply okW_minus | (apply okW_lit <;> exact ⟨by omega, by omega⟩))) (by first | assumption | exact ofZ_len _ | exact of_len _ | exact from_len _ | exact put_len (from_len _) | exact orD_len _ _ | exact andD_len _ _ | exact minusD_len _ _ | exact fullD_len _ | exact put_len (by assumption) | exact put_len (ofZ_len _) | rfl)).mono (R' := fun e w' => e = .returned (.bool true) ∧ Ext _ w') (fun e_ w_ h_ => by rw [show (decide ((andS s t) = wordsD (andD (fromW s) (fromW t))) : Bool) = true from same_and hs ht] at h_; exact h_)) ?_
 rintro e_ w362 ⟨rfl, he⟩
 refine ⟨_, rfl, _, rfl, fun act363 f364 => ?_⟩
 clear f351
 have g365 := gr_ext he
 have hS361 := hS348.gr g365
 have szw362 := g365.size
 have e366 := e353.gr g365 no_row
 clear e353
 have r367 := r354.gr g365 (fun _ h => by cases h)
 clear r354
 have bx368 := bx355.gr g365 (by simp)
 clear bx355
 have bx369 := bx356.gr g365 (by simp)
 clear bx356
 have bx370 := bx357.gr g365 (by simp)
 clear bx357
 have bx371 := bx358.gr g365 (by simp)
 clear bx358
 have bx372 := bx359.gr g365 (by simp)
 clear bx359
 have bx373 := bx360.gr g365 (by simp)
 clear bx360
 clear g365 he
 refine ⟨hS361, ?_⟩
 refine AtH.rd (by kernel_rfl) (fun d v c a w h => by cases d <;> exact h) hS361 [15] [[]] [(52, .bool true)] #[true, true, true, true, true, true, true, true, true, true, true, true, true, true, true, true, false, false, false, false, false, false, false, false, false, false] [] 10 f364 (by kernel_rfl) trivial (fun act375 f374 => ?_)
 clear f364
 refine AtH.rd (by kernel_rfl) (fun d v c a w h => by cases d <;> exact h) hS361 [16] [[]] [(53, .bool true)] #[true, true, true, true, true, true, true, true, true, true, true, true, true, true, true, true, true, false, false, false, false, false, false, false, false, false] [] 9 f374 (by kernel_rfl) trivial (fun act377 f376 => ?_)
 clear f374
 refine AtH.rd (by kernel_rfl) (fun d v c a w h => by cases d <;> exact h) hS361 [17] [[.cs ((s : List Int).map wV)]] [(54, .agg ((s : List Int).map wV).toArray)] #[true, true, true, true, true, true, true, true, true, true, true, true, true, true, true, true, true, true, false, false, false, false, false, false, false, false] [(((s : List Int).map wV).length = 4), (∀ (j : Nat) (v : Value), ((s : List Int).map wV)[j]? = some v → ∃ j_ : Nat, Cs269[j_]? = some (((⟨w23.heap.size, 0, none⟩ : Addr).add j), v))] 8 f376 (by kernel_rfl) ⟨(by simp only [List.length_map, List.length_set, List.length_replicate, List.length_cons, List.length_nil]; first | done | assumption | exact from_len _ | exact of_len _ | exact ofZ_len _ | exact (ofW_ok _).1 | exact (fullW_W _).1 | exact (okW_with (by assumption)).1 | exact (okW_less (by assumption)).1 | exact put_len (from_len _) | exact orD_len _ _ | exact andD_len _ _ | exact minusD_len _ _ | exact fullD_len _ | (refine okLen ?_; (repeat (first | assumption | exact ofW_ok _ | exact fullW_W _ | apply okW_with | apply okW_less | refine okW_orS ?_ ?_ | refine okW_andS ?_ ?_ | refine okW_minusS ?_ ?_)); done) | omega | rfl), (fun j v hv => List.getElem?_of_mem (by rw [hCs270]; exact List.mem_append.2 (.inr (List.mem_append.2 (.inl (blkC_in hv)))))), trivial⟩ (fun act379 f378 => ?_)
 clear f376
 refine AtH.rd (by kernel_rfl) (fun d v c a w h => by cases d <;> exact h) hS361 [18] [[.cs ((t : List Int).map wV)]] [(55, .agg ((t : List Int).map wV).toArray)] #[true, true, true, true, true, true, true, true, true, true, true, true, true, true, true, true, true, true, true, false, false, false, false, false, false, false] [(((t : List Int).map wV).length = 4), (∀ (j : Nat) (v : Value), ((t : List Int).map wV)[j]? = some v → ∃ j_ : Nat, Cs269[j_]? = some (((⟨w47.heap.size, 0, none⟩ : Addr).add j), v))] 7 f378 (by kernel_rfl) ⟨(by simp only [List.length_map, List.length_set, List.length_replicate, List.length_cons, List.length_nil]; first | done | assumption | exact from_len _ | exact of_len _ | exact ofZ_len _ | exact (ofW_ok _).1 | exact (fullW_W _).1 | exact (okW_with (by assumption)).1 | exact (okW_less (by assumption)).1 | exact put_len (from_len _) | exact orD_len _ _ | exact andD_len _ _ | exact minusD_len _ _ | exact fullD_len _ | (refine okLen ?_; (repeat (first | assumption | exact ofW_ok _ | exact fullW_W _ | apply okW_with | apply okW_less | refine okW_orS ?_ ?_ | refine okW_andS ?_ ?_ | refine okW_minusS ?_ ?_)); done) | omega | rfl), (fun j v hv => List.getElem?_of_mem (by rw [hCs270]; exact List.mem_append.2 (.inr (List.mem_append.2 (.inr (List.mem_append.2 (.inl (blkC_in hv)))))))), trivial⟩ (fun act381 f380 => ?_)
 clear f378
 refine AtH.rd (by kernel_rfl) (fun d v c a w h => by cases d <;> exact h) hS361 [20] [[.cs ((fromW s : List Bool).map Value.bool)]] [(57, .agg ((fromW s : List Bool).map Value.bool).toArray)] #[true, true, true, true, true, true, true, true, true, true, true, true, true, true, true, true, true, true, true, false, true, false, false, false, false, false] [(((fromW s : List Bool).map Value.bool).length = 256), (∀ (j : Nat) (v : Value), ((fromW s : List Bool).map Value.bool)[j]? = some v → ∃ j_ : Nat, Cs269[j_]? = some (((⟨w84.heap.size, 0, none⟩ : Addr).add j), v))] 6 f380 (by kernel_rfl) ⟨(by simp only [List.length_map, List.length_set, List.length_replicate, List.length_cons, List.length_nil]; first | done | assumption | exact from_len _ | exact of_len _ | exact ofZ_len _ | exact (ofW_ok _).1 | exact (fullW_W _).1 | exact (okW_with (by assumption)).1 | exact (okW_less (by assumption)).1 | exact put_len (from_len _) | exact orD_len _ _ | exact andD_len _ _ | exact minusD_len _ _ | exact fullD_len _ | (refine okLen ?_; (repeat (first | assumption | exact ofW_ok _ | exact fullW_W _ | apply okW_with | apply okW_less | refine okW_orS ?_ ?_ | refine okW_andS ?_ ?_ | refine okW_minusS ?_ ?_)); done) | omega | rfl), (fun j v hv => List.getElem?_of_mem (by rw [hCs270]; exact List.mem_append.2 (.inr (List.mem_append.2 (.inr (List.mem_append.2 (.inr (List.mem_append.2 (.inl (blkC_in hv)))))))))), trivial⟩ (fun act383 f382 => ?_)
 clear f380
 refine AtH.rd (by kernel_rfl) (fun d v c a w h => by cases d <;> exact h) hS361 [21] [[.cs ((fromW t : List Bool).map Value.bool)]] [(58, .agg ((fromW t : List Bool).map Value.bool).toArray)] #[true, true, true, true, true, true, true, true, true, true, true, true, true, true, true, true, true, true, true, false, true, true, false, false, false, false] [(((fromW t : List Bool).map Value.bool).length = 256), (∀ (j : Nat) (v : Value), ((fromW t : List Bool).map Value.bool)[j]? = some v → ∃ j_ : Nat, Cs269[j_]? = some (((⟨w121.heap.size, 0, none⟩ : Addr).add j), v))] 5 f382 (by kernel_rfl) ⟨(by simp only [List.length_map, List.length_set, List.length_replicate, List.length_cons, List.length_nil]; first | done | assumption | exact from_len _ | exact of_len _ | exact ofZ_len _ | exact (ofW_ok _).1 | exact (fullW_W _).1 | exact (okW_with (by assumption)).1 | exact (okW_less (by assumption)).1 | exact put_len (from_len _) | exact orD_len _ _ | exact andD_len _ _ | exact minusD_len _ _ | exact fullD_len _ | (refine okLen ?_; (repeat (first | assumption | exact ofW_ok _ | exact fullW_W _ | apply okW_with | apply okW_less | refine okW_orS ?_ ?_ | refine okW_andS ?_ ?_ | refine okW_minusS ?_ ?_)); done) | omega | rfl), (fun j v hv => List.getElem?_of_mem (by rw [hCs270]; exact List.mem_append.2 (.inr (List.mem_append.2 (.inr (List.mem_append.2 (.inr (List.mem_append.2 (.inr (blkC_in hv)))))))))), trivial⟩ (fun act385 f384 => ?_)
 clear f382
 refine AtH.all [19] 4 (by kernel_rfl) (by simp) ⟨?_, trivial⟩
 refine OneH.call f384 37 #[.agg ((s : List Int).map wV).toArray, .agg ((t : List Int).map wV).toArray] (some 56) #[true, true, true, true, true, true, true, true, true, true, true, true, true, true, true, true, true, true, true, true, true, true, false, false, false, false] (by kernel_rfl) (by kernel_rfl) (minusS_any (s := s) (t := t) (by repeat (first | assumption | exact ofW_ok _ | exact fullW_W _ | exact wordsD_W _ | exact okW_0 | exact okW_00 | apply okW_orS | apply okW_andS | apply okW_minusS | apply okW_with | apply okW_less | apply okW_or | apply okW_and | apply okW_minus | (apply okW_lit <;> exact ⟨by omega, by omega⟩))) (by repeat (first | assumption | exact ofW_ok _ | exact fullW_W _ | exact wordsD_W _ | exact okW_0 | exact okW_00 | apply okW_orS | apply okW_andS | apply okW_minusS | apply okW_with | apply okW_less | apply okW_or | apply okW_and | apply okW_minus | (apply okW_lit <;> exact ⟨by omega, by omega⟩)))) ?_
 rintro e_ w387 ⟨rfl, he⟩
 refine ⟨_, rfl, _, rfl, fun act388 f389 => ?_⟩
 clear f384
 have g390 := gr_ext he
 have hS386 := hS361.gr g390
 have szw387 := g390.size
 have e391 := e366.gr g390 no_row
 clear e366
 have r392 := r367.gr g390 (fun _ h => by cases h)
 clear r367
 have bx393 := bx368.gr g390 (by simp)
 clear bx368
 have bx394 := bx369.gr g390 (by simp)
 clear bx369
 have bx395 := bx370.gr g390 (by simp)
 clear bx370
 have bx396 := bx371.gr g390 (by simp)
 clear bx371
 have bx397 := bx372.gr g390 (by simp)
 clear bx372
 have bx398 := bx373.gr g390 (by simp)
 clear bx373
 clear g390 he
 refine ⟨hS386, ?_⟩
 refine AtH.all [22] 3 (by kernel_rfl) (by simp) ⟨?_, trivial⟩
 refine OneH.call f389 38 #[.agg ((fromW s : List Bool).map Value.bool).toArray, .agg ((fromW t : List Bool).map Value.bool).toArray] (some 59) #[true, true, true, true, true, true, true, true, true, true, true, true, true, true, true, true, true, true, true, true, true, true, true, false, false, false] (by kernel_rfl) (by kernel_rfl) (minusD_any (l := fromW s) (r := fromW t) (by first | assumption | exact ofZ_len _ | exact of_len _ | exact from_len _ | exact put_len (from_len _) | exact orD_len _ _ | exact andD_len _ _ | exact minusD_len _ _ | exact fullD_len _ | exact put_len (by assumption) | exact put_len (ofZ_len _) | rfl) (by first | assumption | exact ofZ_len _ | exact of_len _ | exact from_len _ | exact put_len (from_len _) | exact orD_len _ _ | exact andD_len _ _ | exact minusD_len _ _ | exact fullD_len _ | exact put_len (by assumption) | exact put_len (ofZ_len _) | rfl)) ?_
 rintro e_ w400 ⟨rfl, he⟩
 refine ⟨_, rfl, _, rfl, fun act401 f402 => ?_⟩
 clear f389
 have g403 := gr_ext he
 have hS399 := hS386.gr g403
 have szw400 := g403.size
 have e404 := e391.gr g403 no_row
 clear e391
 have r405 := r392.gr g403 (fun _ h => by cases h)
 clear r392
 have bx406 := bx393.gr g403 (by simp)
 clear bx393
 have bx407 := bx394.gr g403 (by simp)
 clear bx394
 have bx408 := bx395.gr g403 (by simp)
 clear bx395
 have bx409 := bx396.gr g403 (by simp)
 clear bx396
 have bx410 := bx397.gr g403 (by simp)
 clear bx397
 have bx411 := bx398.gr g403 (by simp)
 clear bx398
 clear g403 he
 refine ⟨hS399, ?_⟩
 refine AtH.all [23] 2 (by kernel_rfl) (by simp) ⟨?_, trivial⟩
 refine OneH.call f402 16 #[.agg ((minusS s t : List Int).map wV).toArray, .agg ((minusD (fromW s) (fromW t) : List Bool).map Value.bool).toArray] (some 60) #[true, true, true, true, true, true, true, true, true, true, true, true, true, true, true, true, true, true, true, true, true, true, true, true, false, false] (by kernel_rfl) (by kernel_rfl) ((same01_any (s := minusS s t) (l := minusD (fromW s) (fromW t)) (by repeat (first | assumption | exact ofW_ok _ | exact fullW_W _ | exact wordsD_W _ | exact okW_0 | exact okW_00 | apply okW_orS | apply okW_andS | apply okW_minusS | apply okW_with | apply okW_less | apply okW_or | apply okW_and | apply okW_minus | (apply okW_lit <;> exact ⟨by omega, by omega⟩))) (by first | assumption | exact ofZ_len _ | exact of_len _ | exact from_len _ | exact put_len (from_len _) | exact orD_len _ _ | exact andD_len _ _ | exact minusD_len _ _ | exact fullD_len _ | exact put_len (by assumption) | exact put_len (ofZ_len _) | rfl)).mono (R' := fun e w' => e = .returned (.bool true) ∧ Ext _ w') (fun e_ w_ h_ => by rw [show (decide ((minusS s t) = wordsD (minusD (fromW s) (fromW t))) : Bool) = true from same_minus hs ht] at h_; exact h_)) ?_
 rintro e_ w413 ⟨rfl, he⟩
 refine ⟨_, rfl, _, rfl, fun act414 f415 => ?_⟩
 clear f402
 have g416 := gr_ext he
 have hS412 := hS399.gr g416
 have szw413 := g416.size
 have e417 := e404.gr g416 no_row
 clear e404
 have r418 := r405.gr g416 (fun _ h => by cases h)
 clear r405
 have bx419 := bx406.gr g416 (by simp)
 clear bx406
 have bx420 := bx407.gr g416 (by simp)
 clear bx407
 have bx421 := bx408.gr g416 (by simp)
 clear bx408
 have bx422 := bx409.gr g416 (by simp)
 clear bx409
 have bx423 := bx410.gr g416 (by simp)
 clear bx410
 have bx424 := bx411.gr g416 (by simp)
 clear bx411
 clear g416 he
 refine ⟨hS412, ?_⟩
 refine AtH.rd (by kernel_rfl) (fun d v c a w h => by cases d <;> exact h) hS412 [24] [[]] [(61, .bool true)] #[true, true, true, true, true, true, true, true, true, true, true, true, true, true, true, true, true, true, true, true, true, true, true, true, true, false] [] 1 f415 (by kernel_rfl) trivial (fun act426 f425 => ?_)
 clear f415
 refine AtH.rd (by kernel_rfl) (fun d v c a w h => by cases d <;> exact h) hS412 [25] [[]] [(13, .bool true)] #[true, true, true, true, true, true, true, true, true, true, true, true, true, true, true, true, true, true, true, true, true, true, true, true, true, true] [] 0 f425 (by kernel_rfl) trivial (fun act428 f427 => ?_)
 clear f425
 refine AtH.done (by kernel_rfl) ?_
 clear hS412
 refine t_n ?_
 have f429 := f427.sub (r := [(13, .bool true), (12, .bool true), (9, .pointer (some ⟨w47.heap.size, 0, none⟩)), (8, .pointer (some ⟨w23.heap.size, 0, none⟩)), (7, .bool true), (4, .pointer (some ⟨w1.heap.size, 0, none⟩)), (3, .pointer (some ⟨w.heap.size, 0, none⟩))]) ⟨rfl, rfl, rfl, rfl, rfl, rfl, rfl, trivial⟩
 clear f427
 refine wp_seq ?_
 refine At.start ?_
 refine At.rd f429 18 [[], [], [], [], [], [], [], [], [.cs ((s : List Int).map wV)], [.cs ((s : List Int).map wV)], [.cs [wV (gI s 0), wV (gI s 1), wV (gI s 2), wV (gI s 3)], .cs [wV (gI s 0), wV (gI s 1), wV (gI s 2), wV (gI s 3)], .as_ (.bool true)], [], [], [.cs ((t : List Int).map wV)], [.cs ((t : List Int).map wV)], [.cs [wV (gI t 0), wV (gI t 1), wV (gI t 2), wV (gI t 3)], .cs [wV (gI t 0), wV (gI t 1), wV (gI t 2), wV (gI t 3)], .as_ (.bool true)], [], []] [(6, .bool true), (78, .bool true), (77, .bool true), (76, .agg ((t : List Int).map wV).toArray), (75, .agg ((t : List Int).map wV).toArray), (74, .bool true), (73, .bool true), (72, .bool true), (71, .agg ((s : List Int).map wV).toArray), (70, .agg ((s : List Int).map wV).toArray), (69, .bool true), (68, .bool true), (67, .bool true), (66, .bool true), (65, .bool true), (64, .bool true), (63, .bool true), (62, .bool true)] [(((s : List Int).map wV).length = 4), (∀ (j : Nat) (v : Value), ((s : List Int).map wV)[j]? = some v → w413.cell? ((⟨w23.heap.size, 0, none⟩ : Addr).add j) = some v), (((s : List Int).map wV).length = 4), (∀ (j : Nat) (v : Value), ((s : List Int).map wV)[j]? = some v → w413.cell? ((⟨w.heap.size, 0, none⟩ : Addr).add j) = some v), (((s : List Int).map wV).toArray = ([wV (gI s 0), wV (gI s 1), wV (gI s 2), wV (gI s 3)] : List Value).toArray), (((s : List Int).map wV).toArray = ([wV (gI s 0), wV (gI s 1), wV (gI s 2), wV (gI s 3)] : List Value).toArray), ((.bool ((((gI s 0 : Int) == gI s 0) && (((gI s 1 : Int) == gI s 1) && (((gI s 2 : Int) == gI s 2) && (((gI s 3 : Int) == gI s 3) && true))))) : Value) = .bool true), (((t : List Int).map wV).length = 4), (∀ (j : Nat) (v : Value), ((t : List Int).map wV)[j]? = some v → w413.cell? ((⟨w47.heap.size, 0, none⟩ : Addr).add j) = some v), (((t : List Int).map wV).length = 4), (∀ (j : Nat) (v : Value), ((t : List Int).map wV)[j]? = some v → w413.cell? ((⟨w1.heap.size, 0, none⟩ : Addr).add j) = some v), (((t : List Int).map wV).toArray = ([wV (gI t 0), wV (gI t 1), wV (gI t 2), wV (gI t 3)] : List Value).toArray), (((t : List Int).map wV).toArray = ([wV (gI t 0), wV (gI t 1), wV (gI t 2), wV (gI t 3)] : List Value).toArray), ((.bool ((((gI t 0 : Int) == gI t 0) && (((gI t 1 : Int) == gI t 1) && (((gI t 2 : Int) == gI t 2) && (((gI t 3 : Int) == gI t 3) && true))))) : Value) = .bool true)] (by kernel_rfl) ⟨(by simp only [List.length_map, List.length_set, List.length_replicate, List.length_cons, List.length_nil]; first | done | assumption | exact from_len _ | exact of_len _ | exact ofZ_len _ | exact (ofW_ok _).1 | exact (fullW_W _).1 | exact (okW_with (by assumption)).1 | exact (okW_less (by assumption)).1 | exact put_len (from_len _) | exact orD_len _ _ | exact andD_len _ _ | exact minusD_len _ _ | exact fullD_len _ | (refine okLen ?_; (repeat (first | assumption | exact ofW_ok _ | exact fullW_W _ | apply okW_with | apply okW_less | refine okW_orS ?_ ?_ | refine okW_andS ?_ ?_ | refine okW_minusS ?_ ?_)); done) | omega | rfl), bx421.whole, (by simp only [List.length_map, List.length_set, List.length_replicate, List.length_cons, List.length_nil]; first | done | assumption | exact from_len _ | exact of_len _ | exact ofZ_len _ | exact (ofW_ok _).1 | exact (fullW_W _).1 | exact (okW_with (by assumption)).1 | exact (okW_less (by assumption)).1 | exact put_len (from_len _) | exact orD_len _ _ | exact andD_len _ _ | exact minusD_len _ _ | exact fullD_len _ | (refine okLen ?_; (repeat (first | assumption | exact ofW_ok _ | exact fullW_W _ | apply okW_with | apply okW_less | refine okW_orS ?_ ?_ | refine okW_andS ?_ ?_ | refine okW_minusS ?_ ?_)); done) | omega | rfl), bx419.whole, (map4 (by first | assumption | exact (okW_with (by assumption)).1 | exact (okW_less (by assumption)).1 | exact (ofW_ok _).1 | exact (fullW_W _).1 | (refine okLen ?_; (repeat (first | assumption | exact ofW_ok _ | exact fullW_W _ | apply okW_with | apply okW_less | refine okW_orS ?_ ?_ | refine okW_andS ?_ ?_ | refine okW_minusS ?_ ?_)); done) | rfl | omega | (simp only [List.length_set]; first | done | assumption | omega) | exact lenW4 _ (by assumption))), (map4 (by first | assumption | exact (okW_with (by assumption)).1 | exact (okW_less (by assumption)).1 | exact (ofW_ok _).1 | exact (fullW_W _).1 | (refine okLen ?_; (repeat (first | assumption | exact ofW_ok _ | exact fullW_W _ | apply okW_with | apply okW_less | refine okW_orS ?_ ?_ | refine okW_andS ?_ ?_ | refine okW_minusS ?_ ?_)); done) | rfl | omega | (simp only [List.length_set]; first | done | assumption | omega) | exact lenW4 _ (by assumption))), (Eq.trans (b := (.bool (decide ((s : List Int) = s)) : Value)) (congrArg (fun b => Value.bool b) (w4_eq (by first | assumption | exact (okW_with (by assumption)).1 | exact (okW_less (by assumption)).1 | exact (ofW_ok _).1 | exact (fullW_W _).1 | (refine okLen ?_; (repeat (first | assumption | exact ofW_ok _ | exact fullW_W _ | apply okW_with | apply okW_less | refine okW_orS ?_ ?_ | refine okW_andS ?_ ?_ | refine okW_minusS ?_ ?_)); done) | rfl | omega | (simp only [List.length_set]; first | done | assumption | omega) | exact lenW4 _ (by assumption)) (by first | assumption | exact (okW_with (by assumption)).1 | exact (okW_less (by assumption)).1 | exact (ofW_ok _).1 | exact (fullW_W _).1 | (refine okLen ?_; (repeat (first | assumption | exact ofW_ok _ | exact fullW_W _ | apply okW_with | apply okW_less | refine okW_orS ?_ ?_ | refine okW_andS ?_ ?_ | refine okW_minusS ?_ ?_)); done) | rfl | omega | (simp only [List.length_set]; first | done | assumption | omega) | exact lenW4 _ (by assumption)))) (congrArg Value.bool (decide_eq_true rfl))), (by simp only [List.length_map, List.length_set, List.length_replicate, List.length_cons, List.length_nil]; first | done | assumption | exact from_len _ | exact of_len _ | exact ofZ_len _ | exact (ofW_ok _).1 | exact (fullW_W _).1 | exact (okW_with (by assumption)).1 | exact (okW_less (by assumption)).1 | exact put_len (from_len _) | exact orD_len _ _ | exact andD_len _ _ | exact minusD_len _ _ | exact fullD_len _ | (refine okLen ?_; (repeat (first | assumption | exact ofW_ok _ | exact fullW_W _ | apply okW_with | apply okW_less | refine okW_orS ?_ ?_ | refine okW_andS ?_ ?_ | refine okW_minusS ?_ ?_)); done) | omega | rfl), bx422.whole, (by simp only [List.length_map, List.length_set, List.length_replicate, List.length_cons, List.length_nil]; first | done | assumption | exact from_len _ | exact of_len _ | exact ofZ_len _ | exact (ofW_ok _).1 | exact (fullW_W _).1 | exact (okW_with (by assumption)).1 | exact (okW_less (by assumption)).1 | exact put_len (from_len _) | exact orD_len _ _ | exact andD_len _ _ | exact minusD_len _ _ | exact fullD_len _ | (refine okLen ?_; (repeat (first | assumption | exact ofW_ok _ | exact fullW_W _ | apply okW_with | apply okW_less | refine okW_orS ?_ ?_ | refine okW_andS ?_ ?_ | refine okW_minusS ?_ ?_)); done) | omega | rfl), bx420.whole, (map4 (by first | assumption | exact (okW_with (by assumption)).1 | exact (okW_less (by assumption)).1 | exact (ofW_ok _).1 | exact (fullW_W _).1 | (refine okLen ?_; (repeat (first | assumption | exact ofW_ok _ | exact fullW_W _ | apply okW_with | apply okW_less | refine okW_orS ?_ ?_ | refine okW_andS ?_ ?_ | refine okW_minusS ?_ ?_)); done) | rfl | omega | (simp only [List.length_set]; first | done | assumption | omega) | exact lenW4 _ (by assumption))), (map4 (by first | assumption | exact (okW_with (by assumption)).1 | exact (okW_less (by assumption)).1 | exact (ofW_ok _).1 | exact (fullW_W _).1 | (refine okLen ?_; (repeat (first | assumption | exact ofW_ok _ | exact fullW_W _ | apply okW_with | apply okW_less | refine okW_orS ?_ ?_ | refine okW_andS ?_ ?_ | refine okW_minusS ?_ ?_)); done) | rfl | omega | (simp only [List.length_set]; first | done | assumption | omega) | exact lenW4 _ (by assumption))), (Eq.trans (b := (.bool (decide ((t : List Int) = t)) : Value)) (congrArg (fun b => Value.bool b) (w4_eq (by first | assumption | exact (okW_with (by assumption)).1 | exact (okW_less (by assumption)).1 | exact (ofW_ok _).1 | exact (fullW_W _).1 | (refine okLen ?_; (repeat (first | assumption | exact ofW_ok _ | exact fullW_W _ | apply okW_with | apply okW_less | refine okW_orS ?_ ?_ | refine okW_andS ?_ ?_ | refine okW_minusS ?_ ?_)); done) | rfl | omega | (simp only [List.length_set]; first | done | assumption | omega) | exact lenW4 _ (by assumption)) (by first | assumption | exact (okW_with (by assumption)).1 | exact (okW_less (by assumption)).1 | exact (ofW_ok _).1 | exact (fullW_W _).1 | (refine okLen ?_; (repeat (first | assumption | exact ofW_ok _ | exact fullW_W _ | apply okW_with | apply okW_less | refine okW_orS ?_ ?_ | refine okW_andS ?_ ?_ | refine okW_minusS ?_ ?_)); done) | rfl | omega | (simp only [List.length_set]; first | done | assumption | omega) | exact lenW4 _ (by assumption)))) (congrArg Value.bool (decide_eq_true rfl))), trivial⟩ (fun act431 f430 => ?_)
 clear f429
 refine At.done rfl ?_
 refine t_n ?_
 have f432 := f430.sub (r := [(6, .bool true)]) ⟨rfl, trivial⟩
 clear f430
 refine wp_ret ?_
 refine ret_ f432 [] [.bool true] [] (by kernel_rfl) trivial ?_
 exact ⟨rfl, e417⟩

end Go.Proofs.YtepekncgknlcjaaDoor
