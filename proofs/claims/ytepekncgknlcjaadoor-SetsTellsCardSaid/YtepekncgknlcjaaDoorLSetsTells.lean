/-
  A walk of a Go function, printed by a program of this repo. Conditions: what the theorems name.
-/
import Derived.Test.YtepekncgknlcjaaDoorWShown01
import Derived.Test.YtepekncgknlcjaaDoorPureAlg
import Derived.Test.YtepekncgknlcjaaDoorPureWays
set_option linter.unusedVariables false
set_option linter.unusedSimpArgs false
namespace Go.Proofs.YtepekncgknlcjaaDoor
open Go Go.RowKit

attribute [local irreducible] ofZ fromW wordsD ofD ofW lsD lenW lenN fullW withW lessW hasW hasD inW inD leastD putD onI tzI orS andS minusS orD andD minusD fullD emptyD
set_option maxHeartbeats 4000000 in
theorem tells01_any {s : List Int} {t : List Int} {n : Int} {w : World} (hs : OkW s) (ht : OkW t) (rT : RdT w 0 w.heap.size) :
    Calls Tryd.prog 5 #[.agg ((s : List Int).map wV).toArray, .agg ((t : List Int).map wV).toArray, .int .i64 (n)] w fun e w' => e = .returned (.bool true) ∧ Ext w w' := by
 have hls := hs.1
 have hlt := ht.1
 have hll := ls_len (fromW s) 256
 refine enter_ (args := [.agg ((s : List Int).map wV).toArray, .agg ((t : List Int).map wV).toArray, .int .i64 (n)]) Tryd.func5 rfl Tryd.ntmps5 (Nat.le_of_ble_eq_true rfl) (fun act0 f0 => ?_)
 have e0 := Ext.refl w
 refine wp_seq ?_
 refine At.start ?_
 refine At.seq f0 1 [[]] [(3, .pointer (some ⟨w.heap.size, 0, none⟩))] (w.alloc (.cells ((s : List Int).map wV).toArray 25 (0, 0))) [] (by kernel_rfl) trivial (fun act4 w1 hw2 f3 => ?_)
 clear f0
 have g5 := gr_alloc hw2
 have szw1 := g5.size
 have e7 := e0.gr g5 no_row
 clear e0
 have r8 := rT.gr g5 (fun _ h => by cases h)
 clear rT
 have bx9 : Bx w1 (w.heap.size) ((s : List Int).map wV) 25 := Bx.new hw2
 have := bx9.lt
 clear g5 hw2
 refine At.seq f3 1 [[]] [(4, .pointer (some ⟨w1.heap.size, 0, none⟩))] (w1.alloc (.cells ((t : List Int).map wV).toArray 25 (0, 0))) [] (by kernel_rfl) trivial (fun act13 w10 hw11 f12 => ?_)
 clear f3
 have g14 := gr_alloc hw11
 have szw10 := g14.size
 have e16 := e7.gr g14 no_row
 clear e7
 have r17 := r8.gr g14 (fun _ h => by cases h)
 clear r8
 have bx18 := bx9.gr g14 (by simp)
 clear bx9
 have bx19 : Bx w10 (w1.heap.size) ((t : List Int).map wV) 25 := Bx.new hw11
 have := bx19.lt
 clear g14 hw11
 refine At.rd f12 1 [[]] [(6, .bool false)] [] (by kernel_rfl) trivial (fun act21 f20 => ?_)
 clear f12
 refine At.done rfl ?_
 refine t_n ?_
 have f22 := f20.sub (r := [(6, .bool false), (4, .pointer (some ⟨w1.heap.size, 0, none⟩)), (3, .pointer (some ⟨w.heap.size, 0, none⟩)), (2, .int .i64 (n))]) ⟨rfl, rfl, rfl, rfl, trivial⟩
 clear f20
 refine wp_seq ?_
 refine At.start ?_
 refine At.call f22 12 #[] (some 16) (by kernel_rfl) (shown01_any (r17.wide (Nat.zero_le _) (by omega))) ?_
 rintro e_ w23 ⟨rfl, he⟩
 refine ⟨_, rfl, _, rfl, fun act24 f25 => ?_⟩
 clear f22
 have g26 := gr_ext he
 have szw23 := g26.size
 have e27 := e16.gr g26 no_row
 clear e16
 have r28 := r17.gr g26 (fun _ h => by cases h)
 clear r17
 have bx29 := bx18.gr g26 (by simp)
 clear bx18
 have bx30 := bx19.gr g26 (by simp)
 clear bx19
 clear g26 he
 refine At.rd f25 1 [[]] [(7, .bool true)] [] (by kernel_rfl) trivial (fun act32 f31 => ?_)
 clear f25
 refine At.done rfl ?_
 refine t_n ?_
 have f33 := f31.sub (r := [(7, .bool true), (6, .bool false), (4, .pointer (some ⟨w1.heap.size, 0, none⟩)), (3, .pointer (some ⟨w.heap.size, 0, none⟩)), (2, .int .i64 (n))]) ⟨rfl, rfl, rfl, rfl, rfl, trivial⟩
 clear f31
 refine wp_seq ?_
 refine At.start ?_
 refine At.rd f33 1 [[.cs ((s : List Int).map wV)]] [(17, .agg ((s : List Int).map wV).toArray)] [(((s : List Int).map wV).length = 4), (∀ (j : Nat) (v : Value), ((s : List Int).map wV)[j]? = some v → w23.cell? ((⟨w.heap.size, 0, none⟩ : Addr).add j) = some v)] (by kernel_rfl) ⟨(by simp only [List.length_map, List.length_set, List.length_replicate, List.length_cons, List.length_nil]; first | done | assumption | exact from_len _ | exact of_len _ | exact ofZ_len _ | exact (ofW_ok _).1 | exact (fullW_W _).1 | exact (okW_with (by assumption)).1 | exact (okW_less (by assumption)).1 | exact put_len (from_len _) | exact orD_len _ _ | exact andD_len _ _ | exact minusD_len _ _ | exact fullD_len _ | (refine okLen ?_; (repeat (first | assumption | exact ofW_ok _ | exact fullW_W _ | apply okW_with | apply okW_less | refine okW_orS ?_ ?_ | refine okW_andS ?_ ?_ | refine okW_minusS ?_ ?_)); done) | omega | rfl), bx29.whole, trivial⟩ (fun act35 f34 => ?_)
 clear f33
 refine At.seq f34 1 [[]] [(8, .pointer (some ⟨w23.heap.size, 0, none⟩))] (w23.alloc (.cells ((List.replicate 4 (0 : Int) : List Int).map wV).toArray 26 (0, 0))) [] (by kernel_rfl) trivial (fun act39 w36 hw37 f38 => ?_)
 clear f34
 have g40 := gr_alloc hw37
 have szw36 := g40.size
 have e42 := e27.gr g40 no_row
 clear e27
 have r43 := r28.gr g40 (fun _ h => by cases h)
 clear r28
 have bx44 := bx29.gr g40 (by simp)
 clear bx29
 have bx45 := bx30.gr g40 (by simp)
 clear bx30
 have bx46 : Bx w36 (w23.heap.size) ((List.replicate 4 (0 : Int) : List Int).map wV) 26 := Bx.new hw37
 have := bx46.lt
 clear g40 hw37
 refine At.act f38 (storeBlk (t := 26) (b := w23.heap.size) (n := 4) (cs' := ((s : List Int).map wV)) (by kernel_rfl) (by kernel_rfl) (by simp only [List.length_map, List.length_set, List.length_replicate, List.length_cons, List.length_nil]; first | done | assumption | exact from_len _ | exact of_len _ | exact ofZ_len _ | exact (ofW_ok _).1 | exact (fullW_W _).1 | exact (okW_with (by assumption)).1 | exact (okW_less (by assumption)).1 | exact put_len (from_len _) | exact orD_len _ _ | exact andD_len _ _ | exact minusD_len _ _ | exact fullD_len _ | (refine okLen ?_; (repeat (first | assumption | exact ofW_ok _ | exact fullW_W _ | apply okW_with | apply okW_less | refine okW_orS ?_ ?_ | refine okW_andS ?_ ?_ | refine okW_minusS ?_ ?_)); done) | omega | rfl) oneW_ ((show ((s : List Int).map wV).length = 4 from (by simp only [List.length_map, List.length_set, List.length_replicate, List.length_cons, List.length_nil]; first | done | assumption | exact from_len _ | exact of_len _ | exact ofZ_len _ | exact (ofW_ok _).1 | exact (fullW_W _).1 | exact (okW_with (by assumption)).1 | exact (okW_less (by assumption)).1 | exact put_len (from_len _) | exact orD_len _ _ | exact andD_len _ _ | exact minusD_len _ _ | exact fullD_len _ | (refine okLen ?_; (repeat (first | assumption | exact ofW_ok _ | exact fullW_W _ | apply okW_with | apply okW_less | refine okW_orS ?_ ?_ | refine okW_andS ?_ ?_ | refine okW_minusS ?_ ?_)); done) | omega | rfl)).trans (show ((List.replicate 4 (0 : Int) : List Int).map wV).length = 4 from (by simp only [List.length_map, List.length_set, List.length_replicate, List.length_cons, List.length_nil]; first | done | assumption | exact from_len _ | exact of_len _ | exact ofZ_len _ | exact (ofW_ok _).1 | exact (fullW_W _).1 | exact (okW_with (by assumption)).1 | exact (okW_less (by assumption)).1 | exact put_len (from_len _) | exact orD_len _ _ | exact andD_len _ _ | exact minusD_len _ _ | exact fullD_len _ | (refine okLen ?_; (repeat (first | assumption | exact ofW_ok _ | exact fullW_W _ | apply okW_with | apply okW_less | refine okW_orS ?_ ?_ | refine okW_andS ?_ ?_ | refine okW_minusS ?_ ?_)); done) | omega | rfl)).symm) bx46) ?_
 rintro d_ v_ w47 ⟨rfl, g48, bx49⟩
 refine ⟨_, rfl, fun act51 f50 => ?_⟩
 clear f38
 have szw47 := g48.size
 have e52 := e42.gr g48 (fun k h => by injection h; omega)
 clear e42
 have r53 := r43.gr g48 (fun k h => by injection h; omega)
 clear r43
 have bx54 := bx44.gr g48 (fun h => by injection h; omega)
 clear bx44
 have bx55 := bx45.gr g48 (fun h => by injection h; omega)
 clear bx45
 clear bx46 g48
 refine At.done rfl ?_
 refine t_n ?_
 have f56 := f50.sub (r := [(8, .pointer (some ⟨w23.heap.size, 0, none⟩)), (7, .bool true), (6, .bool false), (4, .pointer (some ⟨w1.heap.size, 0, none⟩)), (3, .pointer (some ⟨w.heap.size, 0, none⟩)), (2, .int .i64 (n))]) ⟨rfl, rfl, rfl, rfl, rfl, rfl, trivial⟩
 clear f50
 refine wp_seq ?_
 refine At.start ?_
 refine At.rd f56 1 [[.cs ((s : List Int).map wV)]] [(18, .agg ((s : List Int).map wV).toArray)] [(((s : List Int).map wV).length = 4), (∀ (j : Nat) (v : Value), ((s : List Int).map wV)[j]? = some v → w47.cell? ((⟨w.heap.size, 0, none⟩ : Addr).add j) = some v)] (by kernel_rfl) ⟨(by simp only [List.length_map, List.length_set, List.length_replicate, List.length_cons, List.length_nil]; first | done | assumption | exact from_len _ | exact of_len _ | exact ofZ_len _ | exact (ofW_ok _).1 | exact (fullW_W _).1 | exact (okW_with (by assumption)).1 | exact (okW_less (by assumption)).1 | exact put_len (from_len _) | exact orD_len _ _ | exact andD_len _ _ | exact minusD_len _ _ | exact fullD_len _ | (refine okLen ?_; (repeat (first | assumption | exact ofW_ok _ | exact fullW_W _ | apply okW_with | apply okW_less | refine okW_orS ?_ ?_ | refine okW_andS ?_ ?_ | refine okW_minusS ?_ ?_)); done) | omega | rfl), bx54.whole, trivial⟩ (fun act58 f57 => ?_)
 clear f56
 refine At.call f57 23 #[.agg ((s : List Int).map wV).toArray] (some 19) (by kernel_rfl) (from_any (s := s) (by repeat (first | assumption | exact ofW_ok _ | exact fullW_W _ | exact wordsD_W _ | exact okW_0 | exact okW_00 | apply okW_orS | apply okW_andS | apply okW_minusS | apply okW_with | apply okW_less | apply okW_or | apply okW_and | apply okW_minus | (apply okW_lit <;> exact ⟨by omega, by omega⟩)))) ?_
 rintro e_ w59 ⟨rfl, he⟩
 refine ⟨_, rfl, _, rfl, fun act60 f61 => ?_⟩
 clear f57
 have g62 := gr_ext he
 have szw59 := g62.size
 have e63 := e52.gr g62 no_row
 clear e52
 have r64 := r53.gr g62 (fun _ h => by cases h)
 clear r53
 have bx65 := bx54.gr g62 (by simp)
 clear bx54
 have bx66 := bx55.gr g62 (by simp)
 clear bx55
 have bx67 := bx49.gr g62 (by simp)
 clear bx49
 clear g62 he
 refine At.seq f61 1 [[]] [(9, .pointer (some ⟨w59.heap.size, 0, none⟩))] (w59.alloc (.cells ((List.replicate 256 false : List Bool).map Value.bool).toArray 32 (0, 0))) [] (by kernel_rfl) trivial (fun act71 w68 hw69 f70 => ?_)
 clear f61
 have g72 := gr_alloc hw69
 have szw68 := g72.size
 have e74 := e63.gr g72 no_row
 clear e63
 have r75 := r64.gr g72 (fun _ h => by cases h)
 clear r64
 have bx76 := bx65.gr g72 (by simp)
 clear bx65
 have bx77 := bx66.gr g72 (by simp)
 clear bx66
 have bx78 := bx67.gr g72 (by simp)
 clear bx67
 have bx79 : Bx w68 (w59.heap.size) ((List.replicate 256 false : List Bool).map Value.bool) 32 := Bx.new hw69
 have := bx79.lt
 clear g72 hw69
 refine At.act f70 (storeBlk (t := 32) (b := w59.heap.size) (n := 256) (cs' := ((fromW s : List Bool).map Value.bool)) (by kernel_rfl) (by kernel_rfl) ((List.length_map _).trans (from_len _)) oneB ((show ((fromW s : List Bool).map Value.bool).length = 256 from ((List.length_map _).trans (from_len _))).trans (show ((List.replicate 256 false : List Bool).map Value.bool).length = 256 from (by simp only [List.length_map, List.length_set, List.length_replicate, List.length_cons, List.length_nil]; first | done | assumption | exact from_len _ | exact of_len _ | exact ofZ_len _ | exact (ofW_ok _).1 | exact (fullW_W _).1 | exact (okW_with (by assumption)).1 | exact (okW_less (by assumption)).1 | exact put_len (from_len _) | exact orD_len _ _ | exact andD_len _ _ | exact minusD_len _ _ | exact fullD_len _ | (refine okLen ?_; (repeat (first | assumption | exact ofW_ok _ | exact fullW_W _ | apply okW_with | apply okW_less | refine okW_orS ?_ ?_ | refine okW_andS ?_ ?_ | refine okW_minusS ?_ ?_)); done) | omega | rfl)).symm) bx79) ?_
 rintro d_ v_ w80 ⟨rfl, g81, bx82⟩
 refine ⟨_, rfl, fun act84 f83 => ?_⟩
 clear f70
 have szw80 := g81.size
 have e85 := e74.gr g81 (fun k h => by injection h; omega)
 clear e74
 have r86 := r75.gr g81 (fun k h => by injection h; omega)
 clear r75
 have bx87 := bx76.gr g81 (fun h => by injection h; omega)
 clear bx76
 have bx88 := bx77.gr g81 (fun h => by injection h; omega)
 clear bx77
 have bx89 := bx78.gr g81 (fun h => by injection h; omega)
 clear bx78
 clear bx79 g81
 refine At.done rfl ?_
 refine t_n ?_
 have f90 := f83.sub (r := [(9, .pointer (some ⟨w59.heap.size, 0, none⟩)), (8, .pointer (some ⟨w23.heap.size, 0, none⟩)), (7, .bool true), (6, .bool false), (4, .pointer (some ⟨w1.heap.size, 0, none⟩)), (3, .pointer (some ⟨w.heap.size, 0, none⟩)), (2, .int .i64 (n))]) ⟨rfl, rfl, rfl, rfl, rfl, rfl, rfl, trivial⟩
 clear f83
 refine wp_seq ?_
 refine At.start ?_
 refine At.rd f90 1 [[.cs ((s : List Int).map wV)]] [(20, .agg ((s : List Int).map wV).toArray)] [(((s : List Int).map wV).length = 4), (∀ (j : Nat) (v : Value), ((s : List Int).map wV)[j]? = some v → w80.cell? ((⟨w23.heap.size, 0, none⟩ : Addr).add j) = some v)] (by kernel_rfl) ⟨(by simp only [List.length_map, List.length_set, List.length_replicate, List.length_cons, List.length_nil]; first | done | assumption | exact from_len _ | exact of_len _ | exact ofZ_len _ | exact (ofW_ok _).1 | exact (fullW_W _).1 | exact (okW_with (by assumption)).1 | exact (okW_less (by assumption)).1 | exact put_len (from_len _) | exact orD_len _ _ | exact andD_len _ _ | exact minusD_len _ _ | exact fullD_len _ | (refine okLen ?_; (repeat (first | assumption | exact ofW_ok _ | exact fullW_W _ | apply okW_with | apply okW_less | refine okW_orS ?_ ?_ | refine okW_andS ?_ ?_ | refine okW_minusS ?_ ?_)); done) | omega | rfl), bx89.whole, trivial⟩ (fun act92 f91 => ?_)
 clear f90
 refine At.call f91 19 #[.agg ((s : List Int).map wV).toArray] (some 21) (by kernel_rfl) (list_any (s := s) (by repeat (first | assumption | exact ofW_ok _ | exact fullW_W _ | exact wordsD_W _ | exact okW_0 | exact okW_00 | apply okW_orS | apply okW_andS | apply okW_minusS | apply okW_with | apply okW_less | apply okW_or | apply okW_and | apply okW_minus | (apply okW_lit <;> exact ⟨by omega, by omega⟩))) (r86.wide (Nat.zero_le _) (by omega))) ?_
 rintro e_ w97 ⟨A93, c94, rfl, he, ow95⟩
 have := ls_len (fromW s) 256
 refine ⟨_, rfl, _, rfl, fun act98 f99 => ?_⟩
 clear f91
 have g100 := gr_ext he
 have szw97 := g100.size
 have e101 := e85.gr g100 no_row
 clear e85
 have r102 := r86.gr g100 (fun _ h => by cases h)
 clear r86
 have bx103 := bx87.gr g100 (by simp)
 clear bx87
 have bx104 := bx88.gr g100 (by simp)
 clear bx88
 have bx105 := bx89.gr g100 (by simp)
 clear bx89
 have bx106 := bx82.gr g100 (by simp)
 clear bx82
 clear g100 he
 refine At.rd f99 1 [[]] [(10, .slice A93 ((lsD (fromW s) 256).length) c94)] [] (by kernel_rfl) trivial (fun act108 f107 => ?_)
 clear f99
 refine At.done rfl ?_
 refine t_n ?_
 have f109 := f107.sub (r := [(10, .slice A93 ((lsD (fromW s) 256).length) c94), (9, .pointer (some ⟨w59.heap.size, 0, none⟩)), (8, .pointer (some ⟨w23.heap.size, 0, none⟩)), (7, .bool true), (6, .bool false), (4, .pointer (some ⟨w1.heap.size, 0, none⟩)), (3, .pointer (some ⟨w.heap.size, 0, none⟩)), (2, .int .i64 (n))]) ⟨rfl, rfl, rfl, rfl, rfl, rfl, rfl, rfl, trivial⟩
 clear f107
 refine wp_seq ?_
 refine At.start ?_
 refine At.rd f109 1 [[.cs ((s : List Int).map wV)]] [(22, .agg ((s : List Int).map wV).toArray)] [(((s : List Int).map wV).length = 4), (∀ (j : Nat) (v : Value), ((s : List Int).map wV)[j]? = some v → w97.cell? ((⟨w23.heap.size, 0, none⟩ : Addr).add j) = some v)] (by kernel_rfl) ⟨(by simp only [List.length_map, List.length_set, List.length_replicate, List.length_cons, List.length_nil]; first | done | assumption | exact from_len _ | exact of_len _ | exact ofZ_len _ | exact (ofW_ok _).1 | exact (fullW_W _).1 | exact (okW_with (by assumption)).1 | exact (okW_less (by assumption)).1 | exact put_len (from_len _) | exact orD_len _ _ | exact andD_len _ _ | exact minusD_len _ _ | exact fullD_len _ | (refine okLen ?_; (repeat (first | assumption | exact ofW_ok _ | exact fullW_W _ | apply okW_with | apply okW_less | refine okW_orS ?_ ?_ | refine okW_andS ?_ ?_ | refine okW_minusS ?_ ?_)); done) | omega | rfl), bx105.whole, trivial⟩ (fun act111 f110 => ?_)
 clear f109
 refine At.call f110 19 #[.agg ((s : List Int).map wV).toArray] (some 23) (by kernel_rfl) (list_any (s := s) (by repeat (first | assumption | exact ofW_ok _ | exact fullW_W _ | exact wordsD_W _ | exact okW_0 | exact okW_00 | apply okW_orS | apply okW_andS | apply okW_minusS | apply okW_with | apply okW_less | apply okW_or | apply okW_and | apply okW_minus | (apply okW_lit <;> exact ⟨by omega, by omega⟩))) (r102.wide (Nat.zero_le _) (by omega))) ?_
 rintro e_ w116 ⟨A112, c113, rfl, he, ow114⟩
 have := ls_len (fromW s) 256
 refine ⟨_, rfl, _, rfl, fun act117 f118 => ?_⟩
 clear f110
 have g119 := gr_ext he
 have lt120 := ow95.lt
 have szw116 := g119.size
 have e121 := e101.gr g119 no_row
 clear e101
 have r122 := r102.gr g119 (fun _ h => by cases h)
 clear r102
 have bx123 := bx103.gr g119 (by simp)
 clear bx103
 have bx124 := bx104.gr g119 (by simp)
 clear bx104
 have bx125 := bx105.gr g119 (by simp)
 clear bx105
 have bx126 := bx106.gr g119 (by simp)
 clear bx106
 have ow127 : OwnR w116 (Sx (w80.heap.size) [obk (A112)]) A93 c94 3 ((lsD (fromW s) 256) : List Int) := ow95.grA g119 (fun _ _ h => by cases h) (fun k hk hs => ⟨(fun e => by have := ow114.ge _ e; omega), hs⟩)
 clear ow95
 have ow128 : OwnR w116 (Sx (w97.heap.size) [obk (A93)]) A112 c113 3 ((lsD (fromW s) 256) : List Int) := ow114.imp (fun g _ hs => ⟨(fun e => by have := lt120 _ e; have := Sx_base hs; omega), hs⟩)
 clear ow114
 clear lt120
 clear g119 he
 refine At.rd f118 1 [[]] [(11, .slice A112 ((lsD (fromW s) 256).length) c113)] [] (by kernel_rfl) trivial (fun act130 f129 => ?_)
 clear f118
 refine At.done rfl ?_
 refine t_n ?_
 have f131 := f129.sub (r := [(11, .slice A112 ((lsD (fromW s) 256).length) c113), (10, .slice A93 ((lsD (fromW s) 256).length) c94), (9, .pointer (some ⟨w59.heap.size, 0, none⟩)), (8, .pointer (some ⟨w23.heap.size, 0, none⟩)), (7, .bool true), (6, .bool false), (4, .pointer (some ⟨w1.heap.size, 0, none⟩)), (3, .pointer (some ⟨w.heap.size, 0, none⟩)), (2, .int .i64 (n))]) ⟨rfl, rfl, rfl, rfl, rfl, rfl, rfl, rfl, rfl, trivial⟩
 clear f129
 refine wp_seq ?_
 refine At.start ?_
 refine At.rd f131 1 [[.cs ((fromW s : List Bool).map Value.bool)]] [(24, .agg ((fromW s : List Bool).map Value.bool).toArray)] [(((fromW s : List Bool).map Value.bool).length = 256), (∀ (j : Nat) (v : Value), ((fromW s : List Bool).map Value.bool)[j]? = some v → w116.cell? ((⟨w59.heap.size, 0, none⟩ : Addr).add j) = some v)] (by kernel_rfl) ⟨((List.length_map _).trans (from_len _)), bx126.whole, trivial⟩ (fun act133 f132 => ?_)
 clear f131
 refine At.call f132 24 #[.agg ((fromW s : List Bool).map Value.bool).toArray] (some 25) (by kernel_rfl) (listR_any (l := fromW s) (from_len _)) ?_
 rintro e_ w138 ⟨A134, c135, rfl, he, ow136⟩
 have := ls_len (fromW s) 256
 refine ⟨_, rfl, _, rfl, fun act139 f140 => ?_⟩
 clear f132
 have g141 := gr_ext he
 have lt142 := ow127.lt
 have lt143 := ow128.lt
 have szw138 := g141.size
 have e144 := e121.gr g141 no_row
 clear e121
 have r145 := r122.gr g141 (fun _ h => by cases h)
 clear r122
 have bx146 := bx123.gr g141 (by simp)
 clear bx123
 have bx147 := bx124.gr g141 (by simp)
 clear bx124
 have bx148 := bx125.gr g141 (by simp)
 clear bx125
 have bx149 := bx126.gr g141 (by simp)
 clear bx126
 have ow150 : OwnR w138 (Sx (w80.heap.size) [obk (A134), obk (A112)]) A93 c94 3 ((lsD (fromW s) 256) : List Int) := ow127.grA g141 (fun _ _ h => by cases h) (fun k hk hs => ⟨(fun e => by have := ow136.ge _ e; omega), hs.1, hs.2⟩)
 clear ow127
 have ow151 : OwnR w138 (Sx (w97.heap.size) [obk (A134), obk (A93)]) A112 c113 3 ((lsD (fromW s) 256) : List Int) := ow128.grA g141 (fun _ _ h => by cases h) (fun k hk hs => ⟨(fun e => by have := ow136.ge _ e; omega), hs.1, hs.2⟩)
 clear ow128
 have ow152 : OwnR w138 (Sx (w116.heap.size) [obk (A93), obk (A112)]) A134 c135 3 ((lsD (fromW s) 256) : List Int) := ow136.imp (fun g _ hs => ⟨(fun e => by have := lt142 _ e; have := Sx_base hs; omega), (fun e => by have := lt143 _ e; have := Sx_base hs; omega), hs⟩)
 clear ow136
 clear lt142 lt143
 clear g141 he
 refine At.rd f140 1 [[]] [(12, .slice A134 ((lsD (fromW s) 256).length) c135)] [] (by kernel_rfl) trivial (fun act154 f153 => ?_)
 clear f140
 refine At.done rfl ?_
 refine t_n ?_
 have f155 := f153.sub (r := [(12, .slice A134 ((lsD (fromW s) 256).length) c135), (11, .slice A112 ((lsD (fromW s) 256).length) c113), (10, .slice A93 ((lsD (fromW s) 256).length) c94), (9, .pointer (some ⟨w59.heap.size, 0, none⟩)), (8, .pointer (some ⟨w23.heap.size, 0, none⟩)), (7, .bool true), (6, .bool false), (4, .pointer (some ⟨w1.heap.size, 0, none⟩)), (3, .pointer (some ⟨w.heap.size, 0, none⟩)), (2, .int .i64 (n))]) ⟨rfl, rfl, rfl, rfl, rfl, rfl, rfl, rfl, rfl, rfl, trivial⟩
 clear f153
 refine wp_seq ?_
 refine At.start ?_
 refine At.rd f155 2 [[], []] [(27, .slice A134 ((lsD (fromW s) 256).length) c135), (26, .slice A93 ((lsD (fromW s) 256).length) c94)] [] (by kernel_rfl) trivial (fun act157 f156 => ?_)
 clear f155
 refine At.call f156 15 #[.slice A93 ((lsD (fromW s) 256).length) c94, .slice A134 ((lsD (fromW s) 256).length) c135] (some 28) (by kernel_rfl) ((equal01_any (la := (lsD (fromW s) 256)) (lb := (lsD (fromW s) 256)) (ow150.rdI0 (by first | omega | (simp only [List.length_cons, List.length_nil]; omega) | (simp; done) | (simp; omega))) (ow152.rdI0 (by first | omega | (simp only [List.length_cons, List.length_nil]; omega) | (simp; done) | (simp; omega)))).mono (R' := fun e w' => e = .returned (.bool true) ∧ Ext _ w') (fun e_ w_ h_ => by rw [show (decide ((lsD (fromW s) 256) = (lsD (fromW s) 256)) : Bool) = true from decide_eq_true rfl] at h_; exact h_)) ?_
 rintro e_ w158 ⟨rfl, he⟩
 refine ⟨_, rfl, _, rfl, fun act159 f160 => ?_⟩
 clear f156
 have g161 := gr_ext he
 have szw158 := g161.size
 have e162 := e144.gr g161 no_row
 clear e144
 have r163 := r145.gr g161 (fun _ h => by cases h)
 clear r145
 have bx164 := bx146.gr g161 (by simp)
 clear bx146
 have bx165 := bx147.gr g161 (by simp)
 clear bx147
 have bx166 := bx148.gr g161 (by simp)
 clear bx148
 have bx167 := bx149.gr g161 (by simp)
 clear bx149
 have ow168 := ow150.gr g161 (fun _ _ h => by cases h)
 clear ow150
 have ow169 := ow151.gr g161 (fun _ _ h => by cases h)
 clear ow151
 have ow170 := ow152.gr g161 (fun _ _ h => by cases h)
 clear ow152
 clear g161 he
 refine At.rd f160 1 [[]] [(13, .bool true)] [] (by kernel_rfl) trivial (fun act172 f171 => ?_)
 clear f160
 refine At.done rfl ?_
 refine t_n ?_
 have f173 := f171.sub (r := [(13, .bool true), (12, .slice A134 ((lsD (fromW s) 256).length) c135), (11, .slice A112 ((lsD (fromW s) 256).length) c113), (10, .slice A93 ((lsD (fromW s) 256).length) c94), (9, .pointer (some ⟨w59.heap.size, 0, none⟩)), (8, .pointer (some ⟨w23.heap.size, 0, none⟩)), (7, .bool true), (6, .bool false), (4, .pointer (some ⟨w1.heap.size, 0, none⟩)), (3, .pointer (some ⟨w.heap.size, 0, none⟩)), (2, .int .i64 (n))]) ⟨rfl, rfl, rfl, rfl, rfl, rfl, rfl, rfl, rfl, rfl, rfl, trivial⟩
 clear f171
 refine wp_seq ?_
 refine wp_seq ?_
 refine At.start ?_
 refine At.rd f173 1 [[]] [(14, .int .i64 (0))] [] (by kernel_rfl) trivial (fun act175 f174 => ?_)
 clear f173
 refine At.done rfl ?_
 refine t_n ?_
 refine wp_block ?_
 have f179 := f174.as 10 (.slice A93 ((lsD (fromW s) 256).length) c94) (.slice A93 (((lsD (fromW s) 256) : List Int).length) c94) rfl (slice_len (by first | rfl | omega | (simp; done) | (simp; omega)))
 clear f174
 have f178 := f179.sub (r := [(14, .int .i64 (0)), (13, .bool true), (12, .slice A134 ((lsD (fromW s) 256).length) c135), (11, .slice A112 ((lsD (fromW s) 256).length) c113), (10, .slice A93 (((lsD (fromW s) 256) : List Int).length) c94), (9, .pointer (some ⟨w59.heap.size, 0, none⟩)), (8, .pointer (some ⟨w23.heap.size, 0, none⟩)), (7, .bool true), (6, .bool false), (4, .pointer (some ⟨w1.heap.size, 0, none⟩)), (3, .pointer (some ⟨w.heap.size, 0, none⟩)), (2, .int .i64 (n))]) ⟨rfl, rfl, rfl, rfl, rfl, rfl, rfl, rfl, rfl, rfl, rfl, rfl, trivial⟩
 refine loop_g (fun (m_ : Nat) a_ w_ => ∃ (k : Int) (xs : List Int) (A_176 : Option Addr) (c_177 : Nat), m_ = ((xs.length : Int) - k).toNat ∧ (Frm 97 a_ [(14, .int .i64 (k)), (13, .bool true), (12, .slice A134 ((lsD (fromW s) 256).length) c135), (11, .slice A112 ((lsD (fromW s) 256).length) c113), (10, .slice A_176 xs.length c_177), (9, .pointer (some ⟨w59.heap.size, 0, none⟩)), (8, .pointer (some ⟨w23.heap.size, 0, none⟩)), (7, .bool true), (6, .bool false), (4, .pointer (some ⟨w1.heap.size, 0, none⟩)), (3, .pointer (some ⟨w.heap.size, 0, none⟩)), (2, .int .i64 (n))]) ∧ (Ext w w_) ∧ (RdT w_ 0 w.heap.size) ∧ (Bx w_ (w.heap.size) ((s : List Int).map wV) 25) ∧ (Bx w_ (w1.heap.size) ((t : List Int).map wV) 25) ∧ (Bx w_ (w23.heap.size) ((s : List Int).map wV) 26) ∧ (Bx w_ (w59.heap.size) ((fromW s : List Bool).map Value.bool) 32) ∧ (OwnR w_ (Sx (w80.heap.size) [obk (A134), obk (A112)]) A_176 c_177 3 (xs : List Int)) ∧ (OwnR w_ (Sx (w97.heap.size) [obk (A134), obk (A_176)]) A112 c113 3 ((lsD (fromW s) 256) : List Int)) ∧ (OwnR w_ (Sx (w116.heap.size) [obk (A_176), obk (A112)]) A134 c135 3 ((lsD (fromW s) 256) : List Int)) ∧ (0 ≤ k) ∧ (k ≤ ((lsD (fromW s) 256).length : Int)) ∧ (xs.length = (lsD (fromW s) 256).length) ∧ (w80.heap.size ≤ w_.heap.size) ∧ (w97.heap.size ≤ w_.heap.size) ∧ (w116.heap.size ≤ w_.heap.size)) _ ⟨0, ((lsD (fromW s) 256) : List Int), A93, c94, rfl, f178, e162, r163, bx164, bx165, bx166, bx167, ow168, ow169, ow170, (by omega), (by omega), rfl, (by omega), (by omega), (by omega)⟩ ?_
 clear f178 f179
 clear r163
 clear bx164
 clear bx165
 clear bx166
 clear bx167
 clear ow168
 clear ow169
 clear ow170
 clear e162
 intro m_ act180 w181 ⟨k, xs, A_176, c_177, hm183, f184, e182, r185, bx186, bx187, bx188, bx189, ow190, ow191, ow192, i193, i194, hxl, i195, i196, i197⟩
 have szw181 := e182.size
 have := bx186.lt
 have := bx187.lt
 have := bx188.lt
 have := bx189.lt
 refine wp_seq ?_
 refine wp_seq ?_
 refine At.start ?_
 refine At.rd f184 4 [[], [], [], []] [(32, .bool (decide ((k : Int) < ((xs.length : Nat) : Int)))), (31, .int .i64 (((xs.length : Nat) : Int))), (30, .slice A_176 xs.length c_177), (29, .int .i64 (k))] [] (by kernel_rfl) trivial (fun act199 f198 => ?_)
 clear f184
 refine At.done rfl ?_
 refine t_n ?_
 have f200 := f198.sub (r := [(32, .bool (decide ((k : Int) < ((xs.length : Nat) : Int)))), (14, .int .i64 (k)), (13, .bool true), (12, .slice A134 ((lsD (fromW s) 256).length) c135), (11, .slice A112 ((lsD (fromW s) 256).length) c113), (10, .slice A_176 xs.length c_177), (9, .pointer (some ⟨w59.heap.size, 0, none⟩)), (8, .pointer (some ⟨w23.heap.size, 0, none⟩)), (7, .bool true), (6, .bool false), (4, .pointer (some ⟨w1.heap.size, 0, none⟩)), (3, .pointer (some ⟨w.heap.size, 0, none⟩)), (2, .int .i64 (n))]) ⟨rfl, rfl, rfl, rfl, rfl, rfl, rfl, rfl, rfl, rfl, rfl, rfl, rfl, trivial⟩
 clear f198
 refine cond_S f200 (t := decide ((k : Int) < ((xs.length : Nat) : Int))) rfl (fun h201 => ?_) (fun h201 => ?_)
 ·have q202 := of_decide_eq_true h201
  refine wp_skip ?_
  refine t_n ?_
  have f203 := f200.sub (r := [(14, .int .i64 (k)), (13, .bool true), (12, .slice A134 ((lsD (fromW s) 256).length) c135), (11, .slice A112 ((lsD (fromW s) 256).length) c113), (10, .slice A_176 xs.length c_177), (9, .pointer (some ⟨w59.heap.size, 0, none⟩)), (8, .pointer (some ⟨w23.heap.size, 0, none⟩)), (7, .bool true), (6, .bool false), (4, .pointer (some ⟨w1.heap.size, 0, none⟩)), (3, .pointer (some ⟨w.heap.size, 0, none⟩)), (2, .int .i64 (n))]) ⟨rfl, rfl, rfl, rfl, rfl, rfl, rfl, rfl, rfl, rfl, rfl, rfl, trivial⟩
  clear f200
  refine wp_seq ?_
  refine wp_block ?_
  refine At.start ?_
  obtain ⟨ad204, hA205, hb208, hc207, hc206⟩ := ow190.get (k) (by omega) (by omega) (sz := 1) rfl
  refine At.rd f203 3 [[], [], [.ad ad204]] [(37, .pointer (some (ad204.add ((k : Int).toNat * 1)))), (36, .int .i64 (k)), (35, .slice A_176 xs.length c_177)] [(A_176 = some ad204), (0 ≤ (k : Int)), ((k : Int) < (xs.length : Nat))] (by kernel_rfl) ⟨hA205, (by omega), (by omega), trivial⟩ (fun act210 f209 => ?_)
  clear f203
  refine At.act f209 (storeR (α := Int) (t := 3) (i := k) (ad := ad204) (v := .int .i64 (300)) (300) (by kernel_rfl) rfl rfl (by kernel_rfl) hA205 ow190 (by omega) (by omega)) ?_
  rintro d_ v_ w211 ⟨rfl, g212, ow213⟩
  refine ⟨_, rfl, fun act216 f215 => ?_⟩
  clear f209
  have hl214 : ((xs).set (k : Int).toNat 300).length = (xs).length := List.length_set
  have szw211 := g212.size
  have e217 := e182.gr g212 (fun k hk => by have := ow190.ge k hk; omega)
  clear e182
  have r218 := r185.gr g212 (fun k hk => by have := ow190.ge k hk; omega)
  clear r185
  have bx219 := bx186.gr g212 (fun e => by have := ow190.ge _ e; omega)
  clear bx186
  have bx220 := bx187.gr g212 (fun e => by have := ow190.ge _ e; omega)
  clear bx187
  have bx221 := bx188.gr g212 (fun e => by have := ow190.ge _ e; omega)
  clear bx188
  have bx222 := bx189.gr g212 (fun e => by have := ow190.ge _ e; omega)
  clear bx189
  have ow223 := ow191.gr g212 (fun k hk => hk.2.1)
  clear ow191
  have ow224 := ow192.gr g212 (fun k hk => hk.1)
  clear ow192
  clear ow190 g212
  have f225 := f215.as 35 (.slice A_176 xs.length c_177) (.slice A_176 (((xs).set (k : Int).toNat 300 : List Int).length) c_177) rfl (slice_len (by first | rfl | omega | (simp; done) | (simp; omega)))
  clear f215
  have f226 := f225.as 10 (.slice A_176 xs.length c_177) (.slice A_176 (((xs).set (k : Int).toNat 300 : List Int).length) c_177) rfl (slice_len (by first | rfl | omega | (simp; done) | (simp; omega)))
  clear f225
  refine At.done rfl ?_
  refine b_n ?_
  refine t_n ?_
  have f227 := f226.sub (r := [(10, .slice A_176 (((xs).set (k : Int).toNat 300 : List Int).length) c_177), (14, .int .i64 (k)), (13, .bool true), (12, .slice A134 ((lsD (fromW s) 256).length) c135), (11, .slice A112 ((lsD (fromW s) 256).length) c113), (9, .pointer (some ⟨w59.heap.size, 0, none⟩)), (8, .pointer (some ⟨w23.heap.size, 0, none⟩)), (7, .bool true), (6, .bool false), (4, .pointer (some ⟨w1.heap.size, 0, none⟩)), (3, .pointer (some ⟨w.heap.size, 0, none⟩)), (2, .int .i64 (n))]) ⟨rfl, rfl, rfl, rfl, rfl, rfl, rfl, rfl, rfl, rfl, rfl, rfl, trivial⟩
  clear f226
  refine At.start ?_
  refine At.rd f227 3 [[], [.as_ (.int .i64 (k + 1))], []] [(14, .int .i64 (k + 1)), (34, .int .i64 (k + 1)), (33, .int .i64 (k))] [((.int .i64 (IntKind.i64.wrap (k + 1)) : Value) = .int .i64 (k + 1))] (by kernel_rfl) ⟨(w64 (by omega) (by omega)), trivial⟩ (fun act229 f228 => ?_)
  clear f227
  refine At.done rfl ?_
  refine t_n ?_
  have f230 := f228.sub (r := [(14, .int .i64 (k + 1)), (13, .bool true), (12, .slice A134 ((lsD (fromW s) 256).length) c135), (11, .slice A112 ((lsD (fromW s) 256).length) c113), (10, .slice A_176 (((xs).set (k : Int).toNat 300 : List Int).length) c_177), (9, .pointer (some ⟨w59.heap.size, 0, none⟩)), (8, .pointer (some ⟨w23.heap.size, 0, none⟩)), (7, .bool true), (6, .bool false), (4, .pointer (some ⟨w1.heap.size, 0, none⟩)), (3, .pointer (some ⟨w.heap.size, 0, none⟩)), (2, .int .i64 (n))]) ⟨rfl, rfl, rfl, rfl, rfl, rfl, rfl, rfl, rfl, rfl, rfl, rfl, trivial⟩
  exact ⟨_, (by omega), (k + 1), ((xs).set (k : Int).toNat 300 : List Int), A_176, c_177, rfl, f230, e217, r218, bx219, bx220, bx221, bx222, ow213, ow223, ow224, (by omega), (by omega), (by rw [List.length_set]; exact hxl), (by omega), (by omega), (by omega)⟩
 ·have q231 := of_decide_eq_false h201
  refine wp_exit ?_
  refine t_e ?_
  refine t_e ?_
  refine b_e ?_
  refine t_n ?_
  have f232 := f200.sub (r := [(13, .bool true), (12, .slice A134 ((lsD (fromW s) 256).length) c135), (11, .slice A112 ((lsD (fromW s) 256).length) c113), (10, .slice A_176 xs.length c_177), (9, .pointer (some ⟨w59.heap.size, 0, none⟩)), (8, .pointer (some ⟨w23.heap.size, 0, none⟩)), (7, .bool true), (4, .pointer (some ⟨w1.heap.size, 0, none⟩)), (3, .pointer (some ⟨w.heap.size, 0, none⟩)), (2, .int .i64 (n))]) ⟨rfl, rfl, rfl, rfl, rfl, rfl, rfl, rfl, rfl, rfl, trivial⟩
  clear f200
  refine wp_seq ?_
  refine At.start ?_
  refine At.rd f232 1 [[]] [(38, .slice A_176 xs.length c_177)] [] (by kernel_rfl) trivial (fun act234 f233 => ?_)
  clear f232
  refine At.seq f233 1 [[]] [(39, .slice (some ⟨w181.heap.size, 0, none⟩) 2 2)] (w181.alloc (.cells #[.int .i64 (300), .int .i64 (300)] 3 (0, 0))) [] (by kernel_rfl) trivial (fun act238 w235 hw236 f237 => ?_)
  clear f233
  have g239 := gr_alloc hw236
  have szw235 := g239.size
  have e242 := e182.gr g239 no_row
  clear e182
  have r243 := r185.gr g239 (fun _ h => by cases h)
  clear r185
  have bx244 := bx186.gr g239 (by simp)
  clear bx186
  have bx245 := bx187.gr g239 (by simp)
  clear bx187
  have bx246 := bx188.gr g239 (by simp)
  clear bx188
  have bx247 := bx189.gr g239 (by simp)
  clear bx189
  have ow248 : OwnR w235 (Sx (w80.heap.size) [some (w181.heap.size), obk (A134), obk (A112)]) A_176 c_177 3 (xs : List Int) := ow190.grA g239 (fun _ _ h => by cases h) (fun k hk hs => ⟨(fun e => by injection e; omega), hs.1, hs.2.1, hs.2.2⟩)
  clear ow190
  have ow249 : OwnR w235 (Sx (w97.heap.size) [some (w181.heap.size), obk (A134), obk (A_176)]) A112 c113 3 ((lsD (fromW s) 256) : List Int) := ow191.grA g239 (fun _ _ h => by cases h) (fun k hk hs => ⟨(fun e => by injection e; omega), hs.1, hs.2.1, hs.2.2⟩)
  clear ow191
  have ow250 : OwnR w235 (Sx (w116.heap.size) [some (w181.heap.size), obk (A_176), obk (A112)]) A134 c135 3 ((lsD (fromW s) 256) : List Int) := ow192.grA g239 (fun _ _ h => by cases h) (fun k hk hs => ⟨(fun e => by injection e; omega), hs.1, hs.2.1, hs.2.2⟩)
  clear ow192
  have bx241 : Bx w235 (w181.heap.size) [.int .i64 (300), .int .i64 (300)] 3 := Bx.new hw236
  have := bx241.lt
  clear g239 hw236
  have hl255 : (xs ++ ([300, 300])).length = (xs).length + ([300, 300] : List Int).length := List.length_append
  simp only [List.length_cons, List.length_nil] at hl255
  refine At.act f237 (appendR (α := Int) (t := 22) (d := 40) (n := xs.length) (m := 2) (cc := 2) (xs := xs) (ys := [300, 300]) (bytes := 8) (by first | rfl | omega | (simp; done) | (simp; omega)) (by first | rfl | omega | (simp; done) | (simp; omega)) (by kernel_rfl) rfl (by kernel_rfl) ow248 (Bx.srcR (l := ([300, 300] : List Int)) bx241 rfl) (by simp only [List.length_cons, List.length_nil]; omega) (by simp only [List.length_cons, List.length_nil]; omega)) ?_
  rintro d_ v_ w254 ⟨rfl, A251, c252, ha253⟩
  obtain rfl := ha253.val
  have g256 := ha253.gr
  refine ⟨_, rfl, fun act258 f257 => ?_⟩
  clear f237
  clear bx241
  have ow259 := ha253.own (Sx (w80.heap.size) [obk (A134), obk (A112)]) (fun g _ hs => ⟨hs.2.1, hs.2.2.1, hs.2.2.2⟩) ⟨ow250.ne_new, ow249.ne_new, (show w80.heap.size ≤ w235.heap.size by omega)⟩
  have szw254 := g256.size
  have e260 := e242.gr g256 (fun k hk => by have := ow248.ge k hk; omega)
  clear e242
  have r261 := r243.gr g256 (fun k hk => by have := ow248.ge k hk; omega)
  clear r243
  have bx262 := bx244.gr g256 (fun e => by have := ow248.ge _ e; omega)
  clear bx244
  have bx263 := bx245.gr g256 (fun e => by have := ow248.ge _ e; omega)
  clear bx245
  have bx264 := bx246.gr g256 (fun e => by have := ow248.ge _ e; omega)
  clear bx246
  have bx265 := bx247.gr g256 (fun e => by have := ow248.ge _ e; omega)
  clear bx247
  have ow266 : OwnR w254 (Sx (w97.heap.size) [some (w181.heap.size), obk (A134), obk (A251)]) A112 c113 3 ((lsD (fromW s) 256) : List Int) := ow249.grA g256 (fun k hk => hk.2.2.1) (fun k hk hs => ⟨hs.1, hs.2.1, own_repl ha253.at_ hs.2.2.1 hk, hs.2.2.2⟩)
  clear ow249
  have ow267 : OwnR w254 (Sx (w116.heap.size) [some (w181.heap.size), obk (A251), obk (A112)]) A134 c135 3 ((lsD (fromW s) 256) : List Int) := ow250.grA g256 (fun k hk => hk.2.1) (fun k hk hs => ⟨hs.1, own_repl ha253.at_ hs.2.1 hk, hs.2.2.1, hs.2.2.2⟩)
  clear ow250
  clear ow248 g256 ha253
  refine At.rd f257 1 [[]] [(10, .slice A251 ((xs ++ ([300, 300])).length) c252)] [] (by kernel_rfl) trivial (fun act269 f268 => ?_)
  clear f257
  refine At.done rfl ?_
  refine t_n ?_
  have f270 := f268.sub (r := [(10, .slice A251 ((xs ++ ([300, 300])).length) c252), (13, .bool true), (12, .slice A134 ((lsD (fromW s) 256).length) c135), (11, .slice A112 ((lsD (fromW s) 256).length) c113), (9, .pointer (some ⟨w59.heap.size, 0, none⟩)), (8, .pointer (some ⟨w23.heap.size, 0, none⟩)), (7, .bool true), (4, .pointer (some ⟨w1.heap.size, 0, none⟩)), (3, .pointer (some ⟨w.heap.size, 0, none⟩)), (2, .int .i64 (n))]) ⟨rfl, rfl, rfl, rfl, rfl, rfl, rfl, rfl, rfl, rfl, trivial⟩
  clear f268
  refine wp_seq ?_
  refine At.start ?_
  refine At.rd f270 2 [[], []] [(42, .slice A134 ((lsD (fromW s) 256).length) c135), (41, .slice A112 ((lsD (fromW s) 256).length) c113)] [] (by kernel_rfl) trivial (fun act272 f271 => ?_)
  clear f270
  refine At.call f271 15 #[.slice A112 ((lsD (fromW s) 256).length) c113, .slice A134 ((lsD (fromW s) 256).length) c135] (some 43) (by kernel_rfl) ((equal01_any (la := (lsD (fromW s) 256)) (lb := (lsD (fromW s) 256)) (ow266.rdI0 (by first | omega | (simp only [List.length_cons, List.length_nil]; omega) | (simp; done) | (simp; omega))) (ow267.rdI0 (by first | omega | (simp only [List.length_cons, List.length_nil]; omega) | (simp; done) | (simp; omega)))).mono (R' := fun e w' => e = .returned (.bool true) ∧ Ext _ w') (fun e_ w_ h_ => by rw [show (decide ((lsD (fromW s) 256) = (lsD (fromW s) 256)) : Bool) = true from decide_eq_true rfl] at h_; exact h_)) ?_
  rintro e_ w273 ⟨rfl, he⟩
  refine ⟨_, rfl, _, rfl, fun act274 f275 => ?_⟩
  clear f271
  have g276 := gr_ext he
  have szw273 := g276.size
  have e277 := e260.gr g276 no_row
  clear e260
  have r278 := r261.gr g276 (fun _ h => by cases h)
  clear r261
  have bx279 := bx262.gr g276 (by simp)
  clear bx262
  have bx280 := bx263.gr g276 (by simp)
  clear bx263
  have bx281 := bx264.gr g276 (by simp)
  clear bx264
  have bx282 := bx265.gr g276 (by simp)
  clear bx265
  have ow283 := ow259.gr g276 (fun _ _ h => by cases h)
  clear ow259
  have ow284 := ow266.gr g276 (fun _ _ h => by cases h)
  clear ow266
  have ow285 := ow267.gr g276 (fun _ _ h => by cases h)
  clear ow267
  clear g276 he
  refine At.rd f275 1 [[]] [(15, .bool true)] [] (by kernel_rfl) trivial (fun act287 f286 => ?_)
  clear f275
  refine At.done rfl ?_
  refine t_n ?_
  have f288 := f286.sub (r := [(15, .bool true), (10, .slice A251 ((xs ++ ([300, 300])).length) c252), (13, .bool true), (12, .slice A134 ((lsD (fromW s) 256).length) c135), (9, .pointer (some ⟨w59.heap.size, 0, none⟩)), (8, .pointer (some ⟨w23.heap.size, 0, none⟩)), (7, .bool true), (4, .pointer (some ⟨w1.heap.size, 0, none⟩)), (3, .pointer (some ⟨w.heap.size, 0, none⟩)), (2, .int .i64 (n))]) ⟨rfl, rfl, rfl, rfl, rfl, rfl, rfl, rfl, rfl, rfl, trivial⟩
  clear f286
  refine wp_seq ?_
  obtain ⟨Cs289, hCs290⟩ : ∃ c : List (Addr × Value), c = ([] : List (Addr × Value)) ++ (blkC (w23.heap.size) ((s : List Int).map wV) ++ (blkC (w59.heap.size) ((fromW s : List Bool).map Value.bool) ++ (blkC (w1.heap.size) ((t : List Int).map wV) ++ blkC (w.heap.size) ((s : List Int).map wV)))) := ⟨_, rfl⟩
  have hS291 : HoldsC Cs289 w273 := by rw [hCs290]; exact (holdsA (show HoldsC [] w273 from trivial) (holdsA (holds_blk bx281) (holdsA (holds_blk bx282) (holdsA (holds_blk bx280) (holds_blk bx279)))))
  refine AtH.start Cs289 54 #[false, false, false, false, false, false, false, false, false, false, false, false, false, false, false, false, false, false, false, false, false, false, false, false, false, false, false, false, false, false, false, false, false, false, false, false, false, false, false, false, false, false, false, false, false, false, false, false, false, false, false, false, false, false] (by kernel_rfl) rfl rfl (fun w293 hw294 => ?_)
  have g292 := gr_drew hw294
  have hS295 := hS291.gr g292
  have szw293 := g292.size
  have e296 := e277.gr g292 no_row
  clear e277
  have r297 := r278.gr g292 (fun _ h => by cases h)
  clear r278
  have bx298 := bx279.gr g292 (by simp)
  clear bx279
  have bx299 := bx280.gr g292 (by simp)
  clear bx280
  have bx300 := bx281.gr g292 (by simp)
  clear bx281
  have bx301 := bx282.gr g292 (by simp)
  clear bx282
  have ow302 := ow283.gr g292 (fun _ _ h => by cases h)
  clear ow283
  have ow303 := ow284.gr g292 (fun _ _ h => by cases h)
  clear ow284
  have ow304 := ow285.gr g292 (fun _ _ h => by cases h)
  clear ow285
  clear g292 hw294 hS291
  refine AtH.rd (by kernel_rfl) (fun d v c a w h => by cases d <;> exact h) hS295 [0, 1, 2, 3, 4, 5, 6, 7, 8, 9, 10, 11, 12, 13, 14, 15, 16, 17, 19, 20] [[], [], [], [], [], [], [], [], [], [], [], [], [.as_ (.int .i64 ((((lsD (fromW s) 256).length : Nat) : Int) + 2))], [.as_ (.bool true)], [], [], [.cs ((s : List Int).map wV)], [], [.cs ((fromW s : List Bool).map Value.bool)], []] [(64, .int .i64 (n)), (63, .agg ((fromW s : List Bool).map Value.bool).toArray), (61, .int .i64 (n)), (60, .agg ((s : List Int).map wV).toArray), (59, .bool true), (58, .bool true), (57, .bool true), (56, .int .i64 ((((lsD (fromW s) 256).length : Nat) : Int) + 2)), (55, .int .i64 ((((lsD (fromW s) 256).length : Nat) : Int))), (54, .slice A134 ((lsD (fromW s) 256).length) c135), (53, .int .i64 ((((xs ++ ([300, 300])).length : Nat) : Int))), (52, .slice A251 ((xs ++ ([300, 300])).length) c252), (51, .bool true), (50, .bool true), (49, .bool true), (48, .bool true), (47, .bool true), (46, .bool true), (45, .bool true), (44, .bool true)] #[true, true, true, true, true, true, true, true, true, true, true, true, true, true, true, true, true, true, false, true, true, false, false, false, false, false, false, false, false, false, false, false, false, false, false, false, false, false, false, false, false, false, false, false, false, false, false, false, false, false, false, false, false, false] [((.int .i64 (IntKind.i64.wrap ((((lsD (fromW s) 256).length : Nat) : Int) + 2)) : Value) = .int .i64 ((((lsD (fromW s) 256).length : Nat) : Int) + 2)), ((.bool (((((xs ++ ([300, 300])).length : Nat) : Int) : Int) == ((((lsD (fromW s) 256).length : Nat) : Int) + 2)) : Value) = .bool true), (((s : List Int).map wV).length = 4), (∀ (j : Nat) (v : Value), ((s : List Int).map wV)[j]? = some v → ∃ j_ : Nat, Cs289[j_]? = some (((⟨w23.heap.size, 0, none⟩ : Addr).add j), v)), (((fromW s : List Bool).map Value.bool).length = 256), (∀ (j : Nat) (v : Value), ((fromW s : List Bool).map Value.bool)[j]? = some v → ∃ j_ : Nat, Cs289[j_]? = some (((⟨w59.heap.size, 0, none⟩ : Addr).add j), v))] 34 f288 (by kernel_rfl) ⟨(w64 (by omega) (by omega)), (congrArg Value.bool (beqT (by rw [List.length_append]; show ((_ + 2 : Nat) : Int) = _; omega))), (by simp only [List.length_map, List.length_set, List.length_replicate, List.length_cons, List.length_nil]; first | done | assumption | exact from_len _ | exact of_len _ | exact ofZ_len _ | exact (ofW_ok _).1 | exact (fullW_W _).1 | exact (okW_with (by assumption)).1 | exact (okW_less (by assumption)).1 | exact put_len (from_len _) | exact orD_len _ _ | exact andD_len _ _ | exact minusD_len _ _ | exact fullD_len _ | (refine okLen ?_; (repeat (first | assumption | exact ofW_ok _ | exact fullW_W _ | apply okW_with | apply okW_less | refine okW_orS ?_ ?_ | refine okW_andS ?_ ?_ | refine okW_minusS ?_ ?_)); done) | omega | rfl), (fun j v hv => List.getElem?_of_mem (by rw [hCs290]; exact List.mem_append.2 (.inr (List.mem_append.2 (.inl (blkC_in hv)))))), ((List.length_map _).trans (from_len _)), (fun j v hv => List.getElem?_of_mem (by rw [hCs290]; exact List.mem_append.2 (.inr (List.mem_append.2 (.inr (List.mem_append.2 (.inl (blkC_in hv)))))))), trivial⟩ (fun act306 f305 => ?_)
  clear f288
  refine AtH.all [18] 33 (by kernel_rfl) (by simp) ⟨?_, trivial⟩
  refine OneH.call f305 21 #[.agg ((s : List Int).map wV).toArray, .int .i64 (n)] (some 62) #[true, true, true, true, true, true, true, true, true, true, true, true, true, true, true, true, true, true, true, true, true, false, false, false, false, false, false, false, false, false, false, false, false, false, false, false, false, false, false, false, false, false, false, false, false, false, false, false, false, false, false, false, false, false] (by kernel_rfl) (by kernel_rfl) (has_any (s := s) (n := n) (by repeat (first | assumption | exact ofW_ok _ | exact fullW_W _ | exact wordsD_W _ | exact okW_0 | exact okW_00 | apply okW_orS | apply okW_andS | apply okW_minusS | apply okW_with | apply okW_less | apply okW_or | apply okW_and | apply okW_minus | (apply okW_lit <;> exact ⟨by omega, by omega⟩)))) ?_
  rintro e_ w308 ⟨rfl, he⟩
  refine ⟨_, rfl, _, rfl, fun act309 f310 => ?_⟩
  clear f305
  have g311 := gr_ext he
  have hS307 := hS295.gr g311
  have szw308 := g311.size
  have e312 := e296.gr g311 no_row
  clear e296
  have r313 := r297.gr g311 (fun _ h => by cases h)
  clear r297
  have bx314 := bx298.gr g311 (by simp)
  clear bx298
  have bx315 := bx299.gr g311 (by simp)
  clear bx299
  have bx316 := bx300.gr g311 (by simp)
  clear bx300
  have bx317 := bx301.gr g311 (by simp)
  clear bx301
  have ow318 := ow302.gr g311 (fun _ _ h => by cases h)
  clear ow302
  have ow319 := ow303.gr g311 (fun _ _ h => by cases h)
  clear ow303
  have ow320 := ow304.gr g311 (fun _ _ h => by cases h)
  clear ow304
  clear g311 he
  refine ⟨hS307, ?_⟩
  refine AtH.all [21] 32 (by kernel_rfl) (by simp) ⟨?_, trivial⟩
  refine OneH.call f310 25 #[.agg ((fromW s : List Bool).map Value.bool).toArray, .int .i64 (n)] (some 65) #[true, true, true, true, true, true, true, true, true, true, true, true, true, true, true, true, true, true, true, true, true, true, false, false, false, false, false, false, false, false, false, false, false, false, false, false, false, false, false, false, false, false, false, false, false, false, false, false, false, false, false, false, false, false] (by kernel_rfl) (by kernel_rfl) (hasR_any (l := fromW s) (n := n) (from_len _)) ?_
  rintro e_ w322 ⟨rfl, he⟩
  refine ⟨_, rfl, _, rfl, fun act323 f324 => ?_⟩
  clear f310
  have g325 := gr_ext he
  have hS321 := hS307.gr g325
  have szw322 := g325.size
  have e326 := e312.gr g325 no_row
  clear e312
  have r327 := r313.gr g325 (fun _ h => by cases h)
  clear r313
  have bx328 := bx314.gr g325 (by simp)
  clear bx314
  have bx329 := bx315.gr g325 (by simp)
  clear bx315
  have bx330 := bx316.gr g325 (by simp)
  clear bx316
  have bx331 := bx317.gr g325 (by simp)
  clear bx317
  have ow332 := ow318.gr g325 (fun _ _ h => by cases h)
  clear ow318
  have ow333 := ow319.gr g325 (fun _ _ h => by cases h)
  clear ow319
  have ow334 := ow320.gr g325 (fun _ _ h => by cases h)
  clear ow320
  clear g325 he
  refine ⟨hS321, ?_⟩
  refine AtH.rd (by kernel_rfl) (fun d v c a w h => by cases d <;> exact h) hS321 [22] [[.as_ (.bool true)]] [(66, .bool true)] #[true, true, true, true, true, true, true, true, true, true, true, true, true, true, true, true, true, true, true, true, true, true, true, false, false, false, false, false, false, false, false, false, false, false, false, false, false, false, false, false, false, false, false, false, false, false, false, false, false, false, false, false, false, false] [((.bool ((hasW s n) == (hasD (fromW s) n)) : Value) = .bool true)] 31 f324 (by kernel_rfl) ⟨(congrArg Value.bool (by rw [hasW_from]; simp)), trivial⟩ (fun act336 f335 => ?_)
  clear f324
  refine AtH.rd (by kernel_rfl) (fun d v c a w h => by cases d <;> exact h) hS321 [23] [[]] [(67, .bool true)] #[true, true, true, true, true, true, true, true, true, true, true, true, true, true, true, true, true, true, true, true, true, true, true, true, false, false, false, false, false, false, false, false, false, false, false, false, false, false, false, false, false, false, false, false, false, false, false, false, false, false, false, false, false, false] [] 30 f335 (by kernel_rfl) trivial (fun act338 f337 => ?_)
  clear f335
  refine AtH.rd (by kernel_rfl) (fun d v c a w h => by cases d <;> exact h) hS321 [24] [[]] [(68, .bool true)] #[true, true, true, true, true, true, true, true, true, true, true, true, true, true, true, true, true, true, true, true, true, true, true, true, true, false, false, false, false, false, false, false, false, false, false, false, false, false, false, false, false, false, false, false, false, false, false, false, false, false, false, false, false, false] [] 29 f337 (by kernel_rfl) trivial (fun act340 f339 => ?_)
  clear f337
  refine AtH.rd (by kernel_rfl) (fun d v c a w h => by cases d <;> exact h) hS321 [25] [[.cs ((s : List Int).map wV)]] [(69, .agg ((s : List Int).map wV).toArray)] #[true, true, true, true, true, true, true, true, true, true, true, true, true, true, true, true, true, true, true, true, true, true, true, true, true, true, false, false, false, false, false, false, false, false, false, false, false, false, false, false, false, false, false, false, false, false, false, false, false, false, false, false, false, false] [(((s : List Int).map wV).length = 4), (∀ (j : Nat) (v : Value), ((s : List Int).map wV)[j]? = some v → ∃ j_ : Nat, Cs289[j_]? = some (((⟨w23.heap.size, 0, none⟩ : Addr).add j), v))] 28 f339 (by kernel_rfl) ⟨(by simp only [List.length_map, List.length_set, List.length_replicate, List.length_cons, List.length_nil]; first | done | assumption | exact from_len _ | exact of_len _ | exact ofZ_len _ | exact (ofW_ok _).1 | exact (fullW_W _).1 | exact (okW_with (by assumption)).1 | exact (okW_less (by assumption)).1 | exact put_len (from_len _) | exact orD_len _ _ | exact andD_len _ _ | exact minusD_len _ _ | exact fullD_len _ | (refine okLen ?_; (repeat (first | assumption | exact ofW_ok _ | exact fullW_W _ | apply okW_with | apply okW_less | refine okW_orS ?_ ?_ | refine okW_andS ?_ ?_ | refine okW_minusS ?_ ?_)); done) | omega | rfl), (fun j v hv => List.getElem?_of_mem (by rw [hCs290]; exact List.mem_append.2 (.inr (List.mem_append.2 (.inl (blkC_in hv)))))), trivial⟩ (fun act342 f341 => ?_)
  clear f339
  refine AtH.rd (by kernel_rfl) (fun d v c a w h => by cases d <;> exact h) hS321 [27] [[.cs ((fromW s : List Bool).map Value.bool)]] [(71, .agg ((fromW s : List Bool).map Value.bool).toArray)] #[true, true, true, true, true, true, true, true, true, true, true, true, true, true, true, true, true, true, true, true, true, true, true, true, true, true, false, true, false, false, false, false, false, false, false, false, false, false, false, false, false, false, false, false, false, false, false, false, false, false, false, false, false, false] [(((fromW s : List Bool).map Value.bool).length = 256), (∀ (j : Nat) (v : Value), ((fromW s : List Bool).map Value.bool)[j]? = some v → ∃ j_ : Nat, Cs289[j_]? = some (((⟨w59.heap.size, 0, none⟩ : Addr).add j), v))] 27 f341 (by kernel_rfl) ⟨((List.length_map _).trans (from_len _)), (fun j v hv => List.getElem?_of_mem (by rw [hCs290]; exact List.mem_append.2 (.inr (List.mem_append.2 (.inr (List.mem_append.2 (.inl (blkC_in hv)))))))), trivial⟩ (fun act344 f343 => ?_)
  clear f341
  refine AtH.all [26] 26 (by kernel_rfl) (by simp) ⟨?_, trivial⟩
  refine OneH.call f343 20 #[.agg ((s : List Int).map wV).toArray] (some 70) #[true, true, true, true, true, true, true, true, true, true, true, true, true, true, true, true, true, true, true, true, true, true, true, true, true, true, true, true, false, false, false, false, false, false, false, false, false, false, false, false, false, false, false, false, false, false, false, false, false, false, false, false, false, false] (by kernel_rfl) (by kernel_rfl) (len_any (s := s) (by repeat (first | assumption | exact ofW_ok _ | exact fullW_W _ | exact wordsD_W _ | exact okW_0 | exact okW_00 | apply okW_orS | apply okW_andS | apply okW_minusS | apply okW_with | apply okW_less | apply okW_or | apply okW_and | apply okW_minus | (apply okW_lit <;> exact ⟨by omega, by omega⟩)))) ?_
  rintro e_ w346 ⟨rfl, he⟩
  have := lenW_le s
  refine ⟨_, rfl, _, rfl, fun act347 f348 => ?_⟩
  clear f343
  have g349 := gr_ext he
  have hS345 := hS321.gr g349
  have szw346 := g349.size
  have e350 := e326.gr g349 no_row
  clear e326
  have r351 := r327.gr g349 (fun _ h => by cases h)
  clear r327
  have bx352 := bx328.gr g349 (by simp)
  clear bx328
  have bx353 := bx329.gr g349 (by simp)
  clear bx329
  have bx354 := bx330.gr g349 (by simp)
  clear bx330
  have bx355 := bx331.gr g349 (by simp)
  clear bx331
  have ow356 := ow332.gr g349 (fun _ _ h => by cases h)
  clear ow332
  have ow357 := ow333.gr g349 (fun _ _ h => by cases h)
  clear ow333
  have ow358 := ow334.gr g349 (fun _ _ h => by cases h)
  clear ow334
  clear g349 he
  refine ⟨hS345, ?_⟩
  refine AtH.all [28] 25 (by kernel_rfl) (by simp) ⟨?_, trivial⟩
  refine OneH.call f348 26 #[.agg ((fromW s : List Bool).map Value.bool).toArray] (some 72) #[true, true, true, true, true, true, true, true, true, true, true, true, true, true, true, true, true, true, true, true, true, true, true, true, true, true, true, true, true, false, false, false, false, false, false, false, false, false, false, false, false, false, false, false, false, false, false, false, false, false, false, false, false, false] (by kernel_rfl) (by kernel_rfl) (lenR_any (l := fromW s) (from_len _)) ?_
  rintro e_ w360 ⟨rfl, he⟩
  have := ls_len (fromW s) 256
  refine ⟨_, rfl, _, rfl, fun act361 f362 => ?_⟩
  clear f348
  have g363 := gr_ext he
  have hS359 := hS345.gr g363
  have szw360 := g363.size
  have e364 := e350.gr g363 no_row
  clear e350
  have r365 := r351.gr g363 (fun _ h => by cases h)
  clear r351
  have bx366 := bx352.gr g363 (by simp)
  clear bx352
  have bx367 := bx353.gr g363 (by simp)
  clear bx353
  have bx368 := bx354.gr g363 (by simp)
  clear bx354
  have bx369 := bx355.gr g363 (by simp)
  clear bx355
  have ow370 := ow356.gr g363 (fun _ _ h => by cases h)
  clear ow356
  have ow371 := ow357.gr g363 (fun _ _ h => by cases h)
  clear ow357
  have ow372 := ow358.gr g363 (fun _ _ h => by cases h)
  clear ow358
  clear g363 he
  refine ⟨hS359, ?_⟩
  refine AtH.rd (by kernel_rfl) (fun d v c a w h => by cases d <;> exact h) hS359 [29] [[.as_ (.bool true)]] [(73, .bool true)] #[true, true, true, true, true, true, true, true, true, true, true, true, true, true, true, true, true, true, true, true, true, true, true, true, true, true, true, true, true, true, false, false, false, false, false, false, false, false, false, false, false, false, false, false, false, false, false, false, false, false, false, false, false, false] [((.bool ((lenW s : Int) == ((lsD (fromW s) 256).length : Int)) : Value) = .bool true)] 24 f362 (by kernel_rfl) ⟨(congrArg Value.bool (beqT (lenW_ls s))), trivial⟩ (fun act374 f373 => ?_)
  clear f362
  refine AtH.rd (by kernel_rfl) (fun d v c a w h => by cases d <;> exact h) hS359 [30] [[]] [(74, .bool true)] #[true, true, true, true, true, true, true, true, true, true, true, true, true, true, true, true, true, true, true, true, true, true, true, true, true, true, true, true, true, true, true, false, false, false, false, false, false, false, false, false, false, false, false, false, false, false, false, false, false, false, false, false, false, false] [] 23 f373 (by kernel_rfl) trivial (fun act376 f375 => ?_)
  clear f373
  refine AtH.rd (by kernel_rfl) (fun d v c a w h => by cases d <;> exact h) hS359 [31] [[]] [(75, .bool true)] #[true, true, true, true, true, true, true, true, true, true, true, true, true, true, true, true, true, true, true, true, true, true, true, true, true, true, true, true, true, true, true, true, false, false, false, false, false, false, false, false, false, false, false, false, false, false, false, false, false, false, false, false, false, false] [] 22 f375 (by kernel_rfl) trivial (fun act378 f377 => ?_)
  clear f375
  refine AtH.rd (by kernel_rfl) (fun d v c a w h => by cases d <;> exact h) hS359 [32] [[.cs ((s : List Int).map wV)]] [(76, .agg ((s : List Int).map wV).toArray)] #[true, true, true, true, true, true, true, true, true, true, true, true, true, true, true, true, true, true, true, true, true, true, true, true, true, true, true, true, true, true, true, true, true, false, false, false, false, false, false, false, false, false, false, false, false, false, false, false, false, false, false, false, false, false] [(((s : List Int).map wV).length = 4), (∀ (j : Nat) (v : Value), ((s : List Int).map wV)[j]? = some v → ∃ j_ : Nat, Cs289[j_]? = some (((⟨w23.heap.size, 0, none⟩ : Addr).add j), v))] 21 f377 (by kernel_rfl) ⟨(by simp only [List.length_map, List.length_set, List.length_replicate, List.length_cons, List.length_nil]; first | done | assumption | exact from_len _ | exact of_len _ | exact ofZ_len _ | exact (ofW_ok _).1 | exact (fullW_W _).1 | exact (okW_with (by assumption)).1 | exact (okW_less (by assumption)).1 | exact put_len (from_len _) | exact orD_len _ _ | exact andD_len _ _ | exact minusD_len _ _ | exact fullD_len _ | (refine okLen ?_; (repeat (first | assumption | exact ofW_ok _ | exact fullW_W _ | apply okW_with | apply okW_less | refine okW_orS ?_ ?_ | refine okW_andS ?_ ?_ | refine okW_minusS ?_ ?_)); done) | omega | rfl), (fun j v hv => List.getElem?_of_mem (by rw [hCs290]; exact List.mem_append.2 (.inr (List.mem_append.2 (.inl (blkC_in hv)))))), trivial⟩ (fun act380 f379 => ?_)
  clear f377
  refine AtH.rd (by kernel_rfl) (fun d v c a w h => by cases d <;> exact h) hS359 [34] [[.cs ((fromW s : List Bool).map Value.bool)]] [(78, .agg ((fromW s : List Bool).map Value.bool).toArray)] #[true, true, true, true, true, true, true, true, true, true, true, true, true, true, true, true, true, true, true, true, true, true, true, true, true, true, true, true, true, true, true, true, true, false, true, false, false, false, false, false, false, false, false, false, false, false, false, false, false, false, false, false, false, false] [(((fromW s : List Bool).map Value.bool).length = 256), (∀ (j : Nat) (v : Value), ((fromW s : List Bool).map Value.bool)[j]? = some v → ∃ j_ : Nat, Cs289[j_]? = some (((⟨w59.heap.size, 0, none⟩ : Addr).add j), v))] 20 f379 (by kernel_rfl) ⟨((List.length_map _).trans (from_len _)), (fun j v hv => List.getElem?_of_mem (by rw [hCs290]; exact List.mem_append.2 (.inr (List.mem_append.2 (.inr (List.mem_append.2 (.inl (blkC_in hv)))))))), trivial⟩ (fun act382 f381 => ?_)
  clear f379
  refine AtH.all [33] 19 (by kernel_rfl) (by simp) ⟨?_, trivial⟩
  refine OneH.call f381 22 #[.agg ((s : List Int).map wV).toArray] (some 77) #[true, true, true, true, true, true, true, true, true, true, true, true, true, true, true, true, true, true, true, true, true, true, true, true, true, true, true, true, true, true, true, true, true, true, true, false, false, false, false, false, false, false, false, false, false, false, false, false, false, false, false, false, false, false] (by kernel_rfl) (by kernel_rfl) (least_any (s := s) (by repeat (first | assumption | exact ofW_ok _ | exact fullW_W _ | exact wordsD_W _ | exact okW_0 | exact okW_00 | apply okW_orS | apply okW_andS | apply okW_minusS | apply okW_with | apply okW_less | apply okW_or | apply okW_and | apply okW_minus | (apply okW_lit <;> exact ⟨by omega, by omega⟩))) (r365.wide (Nat.zero_le _) (by omega))) ?_
  rintro e_ w384 ⟨rfl, he⟩
  have := leastD_b (fromW s)
  refine ⟨_, rfl, _, rfl, fun act385 f386 => ?_⟩
  clear f381
  have g387 := gr_ext he
  have hS383 := hS359.gr g387
  have szw384 := g387.size
  have e388 := e364.gr g387 no_row
  clear e364
  have r389 := r365.gr g387 (fun _ h => by cases h)
  clear r365
  have bx390 := bx366.gr g387 (by simp)
  clear bx366
  have bx391 := bx367.gr g387 (by simp)
  clear bx367
  have bx392 := bx368.gr g387 (by simp)
  clear bx368
  have bx393 := bx369.gr g387 (by simp)
  clear bx369
  have ow394 := ow370.gr g387 (fun _ _ h => by cases h)
  clear ow370
  have ow395 := ow371.gr g387 (fun _ _ h => by cases h)
  clear ow371
  have ow396 := ow372.gr g387 (fun _ _ h => by cases h)
  clear ow372
  clear g387 he
  refine ⟨hS383, ?_⟩
  refine AtH.all [35] 18 (by kernel_rfl) (by simp) ⟨?_, trivial⟩
  refine OneH.call f386 27 #[.agg ((fromW s : List Bool).map Value.bool).toArray] (some 79) #[true, true, true, true, true, true, true, true, true, true, true, true, true, true, true, true, true, true, true, true, true, true, true, true, true, true, true, true, true, true, true, true, true, true, true, true, false, false, false, false, false, false, false, false, false, false, false, false, false, false, false, false, false, false] (by kernel_rfl) (by kernel_rfl) (leastR_any (l := fromW s) (from_len _)) ?_
  rintro e_ w398 ⟨rfl, he⟩
  refine ⟨_, rfl, _, rfl, fun act399 f400 => ?_⟩
  clear f386
  have g401 := gr_ext he
  have hS397 := hS383.gr g401
  have szw398 := g401.size
  have e402 := e388.gr g401 no_row
  clear e388
  have r403 := r389.gr g401 (fun _ h => by cases h)
  clear r389
  have bx404 := bx390.gr g401 (by simp)
  clear bx390
  have bx405 := bx391.gr g401 (by simp)
  clear bx391
  have bx406 := bx392.gr g401 (by simp)
  clear bx392
  have bx407 := bx393.gr g401 (by simp)
  clear bx393
  have ow408 := ow394.gr g401 (fun _ _ h => by cases h)
  clear ow394
  have ow409 := ow395.gr g401 (fun _ _ h => by cases h)
  clear ow395
  have ow410 := ow396.gr g401 (fun _ _ h => by cases h)
  clear ow396
  clear g401 he
  refine ⟨hS397, ?_⟩
  refine AtH.rd (by kernel_rfl) (fun d v c a w h => by cases d <;> exact h) hS397 [36] [[.as_ (.bool true)]] [(80, .bool true)] #[true, true, true, true, true, true, true, true, true, true, true, true, true, true, true, true, true, true, true, true, true, true, true, true, true, true, true, true, true, true, true, true, true, true, true, true, true, false, false, false, false, false, false, false, false, false, false, false, false, false, false, false, false, false] [((.bool ((leastD (fromW s) : Int) == (leastD (fromW s))) : Value) = .bool true)] 17 f400 (by kernel_rfl) ⟨(congrArg Value.bool (by simp)), trivial⟩ (fun act412 f411 => ?_)
  clear f400
  refine AtH.rd (by kernel_rfl) (fun d v c a w h => by cases d <;> exact h) hS397 [37] [[]] [(81, .bool true)] #[true, true, true, true, true, true, true, true, true, true, true, true, true, true, true, true, true, true, true, true, true, true, true, true, true, true, true, true, true, true, true, true, true, true, true, true, true, true, false, false, false, false, false, false, false, false, false, false, false, false, false, false, false, false] [] 16 f411 (by kernel_rfl) trivial (fun act414 f413 => ?_)
  clear f411
  refine AtH.rd (by kernel_rfl) (fun d v c a w h => by cases d <;> exact h) hS397 [38] [[]] [(82, .bool true)] #[true, true, true, true, true, true, true, true, true, true, true, true, true, true, true, true, true, true, true, true, true, true, true, true, true, true, true, true, true, true, true, true, true, true, true, true, true, true, true, false, false, false, false, false, false, false, false, false, false, false, false, false, false, false] [] 15 f413 (by kernel_rfl) trivial (fun act416 f415 => ?_)
  clear f413
  refine AtH.rd (by kernel_rfl) (fun d v c a w h => by cases d <;> exact h) hS397 [39] [[.cs ((s : List Int).map wV)]] [(83, .agg ((s : List Int).map wV).toArray)] #[true, true, true, true, true, true, true, true, true, true, true, true, true, true, true, true, true, true, true, true, true, true, true, true, true, true, true, true, true, true, true, true, true, true, true, true, true, true, true, true, false, false, false, false, false, false, false, false, false, false, false, false, false, false] [(((s : List Int).map wV).length = 4), (∀ (j : Nat) (v : Value), ((s : List Int).map wV)[j]? = some v → ∃ j_ : Nat, Cs289[j_]? = some (((⟨w23.heap.size, 0, none⟩ : Addr).add j), v))] 14 f415 (by kernel_rfl) ⟨(by simp only [List.length_map, List.length_set, List.length_replicate, List.length_cons, List.length_nil]; first | done | assumption | exact from_len _ | exact of_len _ | exact ofZ_len _ | exact (ofW_ok _).1 | exact (fullW_W _).1 | exact (okW_with (by assumption)).1 | exact (okW_less (by assumption)).1 | exact put_len (from_len _) | exact orD_len _ _ | exact andD_len _ _ | exact minusD_len _ _ | exact fullD_len _ | (refine okLen ?_; (repeat (first | assumption | exact ofW_ok _ | exact fullW_W _ | apply okW_with | apply okW_less | refine okW_orS ?_ ?_ | refine okW_andS ?_ ?_ | refine okW_minusS ?_ ?_)); done) | omega | rfl), (fun j v hv => List.getElem?_of_mem (by rw [hCs290]; exact List.mem_append.2 (.inr (List.mem_append.2 (.inl (blkC_in hv)))))), trivial⟩ (fun act418 f417 => ?_)
  clear f415
  refine AtH.rd (by kernel_rfl) (fun d v c a w h => by cases d <;> exact h) hS397 [40] [[.cs ((t : List Int).map wV)]] [(84, .agg ((t : List Int).map wV).toArray)] #[true, true, true, true, true, true, true, true, true, true, true, true, true, true, true, true, true, true, true, true, true, true, true, true, true, true, true, true, true, true, true, true, true, true, true, true, true, true, true, true, true, false, false, false, false, false, false, false, false, false, false, false, false, false] [(((t : List Int).map wV).length = 4), (∀ (j : Nat) (v : Value), ((t : List Int).map wV)[j]? = some v → ∃ j_ : Nat, Cs289[j_]? = some (((⟨w1.heap.size, 0, none⟩ : Addr).add j), v))] 13 f417 (by kernel_rfl) ⟨(by simp only [List.length_map, List.length_set, List.length_replicate, List.length_cons, List.length_nil]; first | done | assumption | exact from_len _ | exact of_len _ | exact ofZ_len _ | exact (ofW_ok _).1 | exact (fullW_W _).1 | exact (okW_with (by assumption)).1 | exact (okW_less (by assumption)).1 | exact put_len (from_len _) | exact orD_len _ _ | exact andD_len _ _ | exact minusD_len _ _ | exact fullD_len _ | (refine okLen ?_; (repeat (first | assumption | exact ofW_ok _ | exact fullW_W _ | apply okW_with | apply okW_less | refine okW_orS ?_ ?_ | refine okW_andS ?_ ?_ | refine okW_minusS ?_ ?_)); done) | omega | rfl), (fun j v hv => List.getElem?_of_mem (by rw [hCs290]; exact List.mem_append.2 (.inr (List.mem_append.2 (.inr (List.mem_append.2 (.inr (List.mem_append.2 (.inl (blkC_in hv)))))))))), trivial⟩ (fun act420 f419 => ?_)
  clear f417
  refine AtH.rd (by kernel_rfl) (fun d v c a w h => by cases d <;> exact h) hS397 [42] [[.cs ((fromW s : List Bool).map Value.bool)]] [(86, .agg ((fromW s : List Bool).map Value.bool).toArray)] #[true, true, true, true, true, true, true, true, true, true, true, true, true, true, true, true, true, true, true, true, true, true, true, true, true, true, true, true, true, true, true, true, true, true, true, true, true, true, true, true, true, false, true, false, false, false, false, false, false, false, false, false, false, false] [(((fromW s : List Bool).map Value.bool).length = 256), (∀ (j : Nat) (v : Value), ((fromW s : List Bool).map Value.bool)[j]? = some v → ∃ j_ : Nat, Cs289[j_]? = some (((⟨w59.heap.size, 0, none⟩ : Addr).add j), v))] 12 f419 (by kernel_rfl) ⟨((List.length_map _).trans (from_len _)), (fun j v hv => List.getElem?_of_mem (by rw [hCs290]; exact List.mem_append.2 (.inr (List.mem_append.2 (.inr (List.mem_append.2 (.inl (blkC_in hv)))))))), trivial⟩ (fun act422 f421 => ?_)
  clear f419
  refine AtH.rd (by kernel_rfl) (fun d v c a w h => by cases d <;> exact h) hS397 [43] [[.cs ((t : List Int).map wV)]] [(87, .agg ((t : List Int).map wV).toArray)] #[true, true, true, true, true, true, true, true, true, true, true, true, true, true, true, true, true, true, true, true, true, true, true, true, true, true, true, true, true, true, true, true, true, true, true, true, true, true, true, true, true, false, true, true, false, false, false, false, false, false, false, false, false, false] [(((t : List Int).map wV).length = 4), (∀ (j : Nat) (v : Value), ((t : List Int).map wV)[j]? = some v → ∃ j_ : Nat, Cs289[j_]? = some (((⟨w1.heap.size, 0, none⟩ : Addr).add j), v))] 11 f421 (by kernel_rfl) ⟨(by simp only [List.length_map, List.length_set, List.length_replicate, List.length_cons, List.length_nil]; first | done | assumption | exact from_len _ | exact of_len _ | exact ofZ_len _ | exact (ofW_ok _).1 | exact (fullW_W _).1 | exact (okW_with (by assumption)).1 | exact (okW_less (by assumption)).1 | exact put_len (from_len _) | exact orD_len _ _ | exact andD_len _ _ | exact minusD_len _ _ | exact fullD_len _ | (refine okLen ?_; (repeat (first | assumption | exact ofW_ok _ | exact fullW_W _ | apply okW_with | apply okW_less | refine okW_orS ?_ ?_ | refine okW_andS ?_ ?_ | refine okW_minusS ?_ ?_)); done) | omega | rfl), (fun j v hv => List.getElem?_of_mem (by rw [hCs290]; exact List.mem_append.2 (.inr (List.mem_append.2 (.inr (List.mem_append.2 (.inr (List.mem_append.2 (.inl (blkC_in hv)))))))))), trivial⟩ (fun act424 f423 => ?_)
  clear f421
  refine AtH.all [41] 10 (by kernel_rfl) (by simp) ⟨?_, trivial⟩
  refine OneH.call f423 28 #[.agg ((s : List Int).map wV).toArray, .agg ((t : List Int).map wV).toArray] (some 85) #[true, true, true, true, true, true, true, true, true, true, true, true, true, true, true, true, true, true, true, true, true, true, true, true, true, true, true, true, true, true, true, true, true, true, true, true, true, true, true, true, true, true, true, true, false, false, false, false, false, false, false, false, false, false] (by kernel_rfl) (by kernel_rfl) (in_any (s := s) (t := t) (by repeat (first | assumption | exact ofW_ok _ | exact fullW_W _ | exact wordsD_W _ | exact okW_0 | exact okW_00 | apply okW_orS | apply okW_andS | apply okW_minusS | apply okW_with | apply okW_less | apply okW_or | apply okW_and | apply okW_minus | (apply okW_lit <;> exact ⟨by omega, by omega⟩))) (by repeat (first | assumption | exact ofW_ok _ | exact fullW_W _ | exact wordsD_W _ | exact okW_0 | exact okW_00 | apply okW_orS | apply okW_andS | apply okW_minusS | apply okW_with | apply okW_less | apply okW_or | apply okW_and | apply okW_minus | (apply okW_lit <;> exact ⟨by omega, by omega⟩)))) ?_
  rintro e_ w426 ⟨rfl, he⟩
  refine ⟨_, rfl, _, rfl, fun act427 f428 => ?_⟩
  clear f423
  have g429 := gr_ext he
  have hS425 := hS397.gr g429
  have szw426 := g429.size
  have e430 := e402.gr g429 no_row
  clear e402
  have r431 := r403.gr g429 (fun _ h => by cases h)
  clear r403
  have bx432 := bx404.gr g429 (by simp)
  clear bx404
  have bx433 := bx405.gr g429 (by simp)
  clear bx405
  have bx434 := bx406.gr g429 (by simp)
  clear bx406
  have bx435 := bx407.gr g429 (by simp)
  clear bx407
  have ow436 := ow408.gr g429 (fun _ _ h => by cases h)
  clear ow408
  have ow437 := ow409.gr g429 (fun _ _ h => by cases h)
  clear ow409
  have ow438 := ow410.gr g429 (fun _ _ h => by cases h)
  clear ow410
  clear g429 he
  refine ⟨hS425, ?_⟩
  refine AtH.all [44] 9 (by kernel_rfl) (by simp) ⟨?_, trivial⟩
  refine OneH.call f428 23 #[.agg ((t : List Int).map wV).toArray] (some 88) #[true, true, true, true, true, true, true, true, true, true, true, true, true, true, true, true, true, true, true, true, true, true, true, true, true, true, true, true, true, true, true, true, true, true, true, true, true, true, true, true, true, true, true, true, true, false, false, false, false, false, false, false, false, false] (by kernel_rfl) (by kernel_rfl) (from_any (s := t) (by repeat (first | assumption | exact ofW_ok _ | exact fullW_W _ | exact wordsD_W _ | exact okW_0 | exact okW_00 | apply okW_orS | apply okW_andS | apply okW_minusS | apply okW_with | apply okW_less | apply okW_or | apply okW_and | apply okW_minus | (apply okW_lit <;> exact ⟨by omega, by omega⟩)))) ?_
  rintro e_ w440 ⟨rfl, he⟩
  refine ⟨_, rfl, _, rfl, fun act441 f442 => ?_⟩
  clear f428
  have g443 := gr_ext he
  have hS439 := hS425.gr g443
  have szw440 := g443.size
  have e444 := e430.gr g443 no_row
  clear e430
  have r445 := r431.gr g443 (fun _ h => by cases h)
  clear r431
  have bx446 := bx432.gr g443 (by simp)
  clear bx432
  have bx447 := bx433.gr g443 (by simp)
  clear bx433
  have bx448 := bx434.gr g443 (by simp)
  clear bx434
  have bx449 := bx435.gr g443 (by simp)
  clear bx435
  have ow450 := ow436.gr g443 (fun _ _ h => by cases h)
  clear ow436
  have ow451 := ow437.gr g443 (fun _ _ h => by cases h)
  clear ow437
  have ow452 := ow438.gr g443 (fun _ _ h => by cases h)
  clear ow438
  clear g443 he
  refine ⟨hS439, ?_⟩
  refine AtH.all [45] 8 (by kernel_rfl) (by simp) ⟨?_, trivial⟩
  refine OneH.call f442 29 #[.agg ((fromW s : List Bool).map Value.bool).toArray, .agg ((fromW t : List Bool).map Value.bool).toArray] (some 89) #[true, true, true, true, true, true, true, true, true, true, true, true, true, true, true, true, true, true, true, true, true, true, true, true, true, true, true, true, true, true, true, true, true, true, true, true, true, true, true, true, true, true, true, true, true, true, false, false, false, false, false, false, false, false] (by kernel_rfl) (by kernel_rfl) (inR_any (l := fromW s) (r := fromW t) (from_len _) (from_len _)) ?_
  rintro e_ w454 ⟨rfl, he⟩
  refine ⟨_, rfl, _, rfl, fun act455 f456 => ?_⟩
  clear f442
  have g457 := gr_ext he
  have hS453 := hS439.gr g457
  have szw454 := g457.size
  have e458 := e444.gr g457 no_row
  clear e444
  have r459 := r445.gr g457 (fun _ h => by cases h)
  clear r445
  have bx460 := bx446.gr g457 (by simp)
  clear bx446
  have bx461 := bx447.gr g457 (by simp)
  clear bx447
  have bx462 := bx448.gr g457 (by simp)
  clear bx448
  have bx463 := bx449.gr g457 (by simp)
  clear bx449
  have ow464 := ow450.gr g457 (fun _ _ h => by cases h)
  clear ow450
  have ow465 := ow451.gr g457 (fun _ _ h => by cases h)
  clear ow451
  have ow466 := ow452.gr g457 (fun _ _ h => by cases h)
  clear ow452
  clear g457 he
  refine ⟨hS453, ?_⟩
  refine AtH.rd (by kernel_rfl) (fun d v c a w h => by cases d <;> exact h) hS453 [46] [[.as_ (.bool true)]] [(90, .bool true)] #[true, true, true, true, true, true, true, true, true, true, true, true, true, true, true, true, true, true, true, true, true, true, true, true, true, true, true, true, true, true, true, true, true, true, true, true, true, true, true, true, true, true, true, true, true, true, true, false, false, false, false, false, false, false] [((.bool ((inW s t) == (inD (fromW s) (fromW t))) : Value) = .bool true)] 7 f456 (by kernel_rfl) ⟨(congrArg Value.bool (by rw [inW_from hs ht]; simp)), trivial⟩ (fun act468 f467 => ?_)
  clear f456
  refine AtH.rd (by kernel_rfl) (fun d v c a w h => by cases d <;> exact h) hS453 [47] [[]] [(91, .bool true)] #[true, true, true, true, true, true, true, true, true, true, true, true, true, true, true, true, true, true, true, true, true, true, true, true, true, true, true, true, true, true, true, true, true, true, true, true, true, true, true, true, true, true, true, true, true, true, true, true, false, false, false, false, false, false] [] 6 f467 (by kernel_rfl) trivial (fun act470 f469 => ?_)
  clear f467
  refine AtH.rd (by kernel_rfl) (fun d v c a w h => by cases d <;> exact h) hS453 [48] [[]] [(92, .bool true)] #[true, true, true, true, true, true, true, true, true, true, true, true, true, true, true, true, true, true, true, true, true, true, true, true, true, true, true, true, true, true, true, true, true, true, true, true, true, true, true, true, true, true, true, true, true, true, true, true, true, false, false, false, false, false] [] 5 f469 (by kernel_rfl) trivial (fun act472 f471 => ?_)
  clear f469
  refine AtH.rd (by kernel_rfl) (fun d v c a w h => by cases d <;> exact h) hS453 [49] [[.cs ((s : List Int).map wV)]] [(93, .agg ((s : List Int).map wV).toArray)] #[true, true, true, true, true, true, true, true, true, true, true, true, true, true, true, true, true, true, true, true, true, true, true, true, true, true, true, true, true, true, true, true, true, true, true, true, true, true, true, true, true, true, true, true, true, true, true, true, true, true, false, false, false, false] [(((s : List Int).map wV).length = 4), (∀ (j : Nat) (v : Value), ((s : List Int).map wV)[j]? = some v → ∃ j_ : Nat, Cs289[j_]? = some (((⟨w23.heap.size, 0, none⟩ : Addr).add j), v))] 4 f471 (by kernel_rfl) ⟨(by simp only [List.length_map, List.length_set, List.length_replicate, List.length_cons, List.length_nil]; first | done | assumption | exact from_len _ | exact of_len _ | exact ofZ_len _ | exact (ofW_ok _).1 | exact (fullW_W _).1 | exact (okW_with (by assumption)).1 | exact (okW_less (by assumption)).1 | exact put_len (from_len _) | exact orD_len _ _ | exact andD_len _ _ | exact minusD_len _ _ | exact fullD_len _ | (refine okLen ?_; (repeat (first | assumption | exact ofW_ok _ | exact fullW_W _ | apply okW_with | apply okW_less | refine okW_orS ?_ ?_ | refine okW_andS ?_ ?_ | refine okW_minusS ?_ ?_)); done) | omega | rfl), (fun j v hv => List.getElem?_of_mem (by rw [hCs290]; exact List.mem_append.2 (.inr (List.mem_append.2 (.inl (blkC_in hv)))))), trivial⟩ (fun act474 f473 => ?_)
  clear f471
  refine AtH.rd (by kernel_rfl) (fun d v c a w h => by cases d <;> exact h) hS453 [50] [[.cs ((s : List Int).map wV)]] [(94, .agg ((s : List Int).map wV).toArray)] #[true, true, true, true, true, true, true, true, true, true, true, true, true, true, true, true, true, true, true, true, true, true, true, true, true, true, true, true, true, true, true, true, true, true, true, true, true, true, true, true, true, true, true, true, true, true, true, true, true, true, true, false, false, false] [(((s : List Int).map wV).length = 4), (∀ (j : Nat) (v : Value), ((s : List Int).map wV)[j]? = some v → ∃ j_ : Nat, Cs289[j_]? = some (((⟨w.heap.size, 0, none⟩ : Addr).add j), v))] 3 f473 (by kernel_rfl) ⟨(by simp only [List.length_map, List.length_set, List.length_replicate, List.length_cons, List.length_nil]; first | done | assumption | exact from_len _ | exact of_len _ | exact ofZ_len _ | exact (ofW_ok _).1 | exact (fullW_W _).1 | exact (okW_with (by assumption)).1 | exact (okW_less (by assumption)).1 | exact put_len (from_len _) | exact orD_len _ _ | exact andD_len _ _ | exact minusD_len _ _ | exact fullD_len _ | (refine okLen ?_; (repeat (first | assumption | exact ofW_ok _ | exact fullW_W _ | apply okW_with | apply okW_less | refine okW_orS ?_ ?_ | refine okW_andS ?_ ?_ | refine okW_minusS ?_ ?_)); done) | omega | rfl), (fun j v hv => List.getElem?_of_mem (by rw [hCs290]; exact List.mem_append.2 (.inr (List.mem_append.2 (.inr (List.mem_append.2 (.inr (List.mem_append.2 (.inr (blkC_in hv)))))))))), trivial⟩ (fun act476 f475 => ?_)
  clear f473
  refine AtH.rd (by kernel_rfl) (fun d v c a w h => by cases d <;> exact h) hS453 [51] [[.cs [wV (gI s 0), wV (gI s 1), wV (gI s 2), wV (gI s 3)], .cs [wV (gI s 0), wV (gI s 1), wV (gI s 2), wV (gI s 3)], .as_ (.bool true)]] [(95, .bool true)] #[true, true, true, true, true, true, true, true, true, true, true, true, true, true, true, true, true, true, true, true, true, true, true, true, true, true, true, true, true, true, true, true, true, true, true, true, true, true, true, true, true, true, true, true, true, true, true, true, true, true, true, true, false, false] [(((s : List Int).map wV).toArray = ([wV (gI s 0), wV (gI s 1), wV (gI s 2), wV (gI s 3)] : List Value).toArray), (((s : List Int).map wV).toArray = ([wV (gI s 0), wV (gI s 1), wV (gI s 2), wV (gI s 3)] : List Value).toArray), ((.bool ((((gI s 0 : Int) == gI s 0) && (((gI s 1 : Int) == gI s 1) && (((gI s 2 : Int) == gI s 2) && (((gI s 3 : Int) == gI s 3) && true))))) : Value) = .bool true)] 2 f475 (by kernel_rfl) ⟨(map4 (by first | assumption | exact (okW_with (by assumption)).1 | exact (okW_less (by assumption)).1 | exact (ofW_ok _).1 | exact (fullW_W _).1 | (refine okLen ?_; (repeat (first | assumption | exact ofW_ok _ | exact fullW_W _ | apply okW_with | apply okW_less | refine okW_orS ?_ ?_ | refine okW_andS ?_ ?_ | refine okW_minusS ?_ ?_)); done) | rfl | omega | (simp only [List.length_set]; first | done | assumption | omega) | exact lenW4 _ (by assumption))), (map4 (by first | assumption | exact (okW_with (by assumption)).1 | exact (okW_less (by assumption)).1 | exact (ofW_ok _).1 | exact (fullW_W _).1 | (refine okLen ?_; (repeat (first | assumption | exact ofW_ok _ | exact fullW_W _ | apply okW_with | apply okW_less | refine okW_orS ?_ ?_ | refine okW_andS ?_ ?_ | refine okW_minusS ?_ ?_)); done) | rfl | omega | (simp only [List.length_set]; first | done | assumption | omega) | exact lenW4 _ (by assumption))), (Eq.trans (b := (.bool (decide ((s : List Int) = s)) : Value)) (congrArg (fun b => Value.bool b) (w4_eq (by first | assumption | exact (okW_with (by assumption)).1 | exact (okW_less (by assumption)).1 | exact (ofW_ok _).1 | exact (fullW_W _).1 | (refine okLen ?_; (repeat (first | assumption | exact ofW_ok _ | exact fullW_W _ | apply okW_with | apply okW_less | refine okW_orS ?_ ?_ | refine okW_andS ?_ ?_ | refine okW_minusS ?_ ?_)); done) | rfl | omega | (simp only [List.length_set]; first | done | assumption | omega) | exact lenW4 _ (by assumption)) (by first | assumption | exact (okW_with (by assumption)).1 | exact (okW_less (by assumption)).1 | exact (ofW_ok _).1 | exact (fullW_W _).1 | (refine okLen ?_; (repeat (first | assumption | exact ofW_ok _ | exact fullW_W _ | apply okW_with | apply okW_less | refine okW_orS ?_ ?_ | refine okW_andS ?_ ?_ | refine okW_minusS ?_ ?_)); done) | rfl | omega | (simp only [List.length_set]; first | done | assumption | omega) | exact lenW4 _ (by assumption)))) (congrArg Value.bool (decide_eq_true rfl))), trivial⟩ (fun act478 f477 => ?_)
  clear f475
  refine AtH.rd (by kernel_rfl) (fun d v c a w h => by cases d <;> exact h) hS453 [52] [[]] [(96, .bool true)] #[true, true, true, true, true, true, true, true, true, true, true, true, true, true, true, true, true, true, true, true, true, true, true, true, true, true, true, true, true, true, true, true, true, true, true, true, true, true, true, true, true, true, true, true, true, true, true, true, true, true, true, true, true, false] [] 1 f477 (by kernel_rfl) trivial (fun act480 f479 => ?_)
  clear f477
  refine AtH.rd (by kernel_rfl) (fun d v c a w h => by cases d <;> exact h) hS453 [53] [[]] [(6, .bool true)] #[true, true, true, true, true, true, true, true, true, true, true, true, true, true, true, true, true, true, true, true, true, true, true, true, true, true, true, true, true, true, true, true, true, true, true, true, true, true, true, true, true, true, true, true, true, true, true, true, true, true, true, true, true, true] [] 0 f479 (by kernel_rfl) trivial (fun act482 f481 => ?_)
  clear f479
  refine AtH.done (by kernel_rfl) ?_
  clear hS453
  refine t_n ?_
  have f483 := f481.sub (r := [(6, .bool true)]) ⟨rfl, trivial⟩
  clear f481
  refine wp_ret ?_
  refine ret_ f483 [] [.bool true] [] (by kernel_rfl) trivial ?_
  exact ⟨rfl, e458⟩

end Go.Proofs.YtepekncgknlcjaaDoor
