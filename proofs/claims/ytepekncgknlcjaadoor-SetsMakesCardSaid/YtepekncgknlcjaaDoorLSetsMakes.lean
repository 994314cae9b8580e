/-
  A walk of a Go function, printed by a program of this repo. Conditions: what the theorems name.
-/
import Derived.Test.YtepekncgknlcjaaDoorWShown01
import Derived.Test.YtepekncgknlcjaaDoorPureAlg
import Derived.Test.YtepekncgknlcjaaDoorPureWays
import Derived.Test.YtepekncgknlcjaaDoorRow
set_option linter.unusedVariables false
set_option linter.unusedSimpArgs false
namespace Go.Proofs.YtepekncgknlcjaaDoor
open Go Go.RowKit

attribute [local irreducible] ofZ fromW wordsD ofD ofW lsD lenW lenN fullW withW lessW hasW hasD inW inD leastD putD onI tzI orS andS minusS orD andD minusD fullD emptyD
set_option maxHeartbeats 4000000 in
theorem makes01_any {n : Int} {Aa : Option Addr} {ca : Nat} {la : List Int} {w : World} (hn : I64 n) (ra : RdI w 0 w.heap.size Aa la) (rT : RdT w 0 w.heap.size) :
    Calls Tryd.prog 3 #[.int .i64 (n), .slice Aa la.length ca] w fun e w' => e = .returned (.bool true) ∧ Ext w w' := by
 unfold I64 at hn
 have hla := ra.len
 refine enter_ (args := [.int .i64 (n), .slice Aa la.length ca]) Tryd.func3 rfl Tryd.ntmps3 (Nat.le_of_ble_eq_true rfl) (fun act0 f0 => ?_)
 have e0 := Ext.refl w
 refine wp_seq ?_
 refine At.start ?_
 refine At.rd f0 1 [[]] [(4, .bool false)] [] (by kernel_rfl) trivial (fun act2 f1 => ?_)
 clear f0
 refine At.done rfl ?_
 refine t_n ?_
 have f3 := f1.sub (r := [(0, .int .i64 (n)), (1, .slice Aa la.length ca)]) ⟨rfl, rfl, trivial⟩
 clear f1
 refine wp_seq ?_
 refine At.start ?_
 refine At.call f3 12 #[] (some 12) (by kernel_rfl) (shown01_any (rT.wide (Nat.zero_le _) (by omega))) ?_
 rintro e_ w4 ⟨rfl, he⟩
 refine ⟨_, rfl, _, rfl, fun act5 f6 => ?_⟩
 clear f3
 have g7 := gr_ext he
 have szw4 := g7.size
 have e8 := e0.gr g7 no_row
 clear e0
 have r9 := ra.gr g7 (fun _ h => by cases h)
 clear ra
 have r10 := rT.gr g7 (fun _ h => by cases h)
 clear rT
 clear g7 he
 refine At.rd f6 1 [[]] [(5, .bool true)] [] (by kernel_rfl) trivial (fun act12 f11 => ?_)
 clear f6
 refine At.done rfl ?_
 refine t_n ?_
 have f13 := f11.sub (r := [(5, .bool true), (0, .int .i64 (n)), (1, .slice Aa la.length ca)]) ⟨rfl, rfl, rfl, trivial⟩
 clear f11
 refine wp_seq ?_
 refine At.start ?_
 refine At.seq f13 1 [[]] [(13, .slice (some ⟨w4.heap.size, 0, none⟩) 0 0)] (w4.alloc (.cells #[] 3 (0, 0))) [] (by kernel_rfl) trivial (fun act17 w14 hw15 f16 => ?_)
 clear f13
 have g18 := gr_alloc hw15
 have szw14 := g18.size
 have e21 := e8.gr g18 no_row
 clear e8
 have r22 := r9.gr g18 (fun _ h => by cases h)
 clear r9
 have r23 := r10.gr g18 (fun _ h => by cases h)
 clear r10
 have bx20 : Bx w14 (w4.heap.size) [] 3 := Bx.new hw15
 have := bx20.lt
 clear g18 hw15
 refine At.rd f16 1 [[]] [(14, .slice Aa la.length ca)] [] (by kernel_rfl) trivial (fun act25 f24 => ?_)
 clear f16
 have ow26 : OwnR w14 (Sx (w4.heap.size) []) (some ⟨w4.heap.size, 0, none⟩) 0 3 ([] : List Int) := Bx.own0 bx20 (Nat.le_refl _)
 clear bx20
 have hl31 : (([] : List Int) ++ la).length = (([] : List Int)).length + (la : List Int).length := List.length_append
 simp only [List.length_cons, List.length_nil] at hl31
 refine At.act f24 (appendR (α := Int) (t := 22) (d := 15) (n := 0) (m := la.length) (cc := ca) (xs := []) (ys := la) (bytes := 8) (by first | rfl | omega | (simp; done) | (simp; omega)) (by first | rfl | omega | (simp; done) | (simp; omega)) (by kernel_rfl) rfl (by kernel_rfl) ow26 r22.srcR (by simp only [List.length_cons, List.length_nil]; omega) (by simp only [List.length_cons, List.length_nil]; omega)) ?_
 rintro d_ v_ w30 ⟨rfl, A27, c28, ha29⟩
 obtain rfl := ha29.val
 have g32 := ha29.gr
 refine ⟨_, rfl, fun act34 f33 => ?_⟩
 clear f24
 have ow35 := ha29.own (Sx (w4.heap.size) []) (fun g _ hs => hs) (show w4.heap.size ≤ w14.heap.size by omega)
 have szw30 := g32.size
 have e36 := e21.gr g32 (fun k hk => by have := ow26.ge k hk; omega)
 clear e21
 have r37 := r22.gr g32 (fun k hk => by have := ow26.ge k hk; omega)
 clear r22
 have r38 := r23.gr g32 (fun k hk => by have := ow26.ge k hk; omega)
 clear r23
 clear ow26 g32 ha29
 replace ow35 : OwnR w30 (Sx (w4.heap.size) []) A27 c28 3 (la : List Int) := ow35
 refine At.seq f33 1 [[]] [(16, .slice (some ⟨w30.heap.size, 0, none⟩) 2 2)] (w30.alloc (.cells #[.int .i64 (7), .int .i64 (8)] 3 (0, 0))) [] (by kernel_rfl) trivial (fun act43 w40 hw41 f42 => ?_)
 clear f33
 have g44 := gr_alloc hw41
 have szw40 := g44.size
 have e47 := e36.gr g44 no_row
 clear e36
 have r48 := r37.gr g44 (fun _ h => by cases h)
 clear r37
 have r49 := r38.gr g44 (fun _ h => by cases h)
 clear r38
 have ow50 : OwnR w40 (Sx (w4.heap.size) [some (w30.heap.size)]) A27 c28 3 (la : List Int) := ow35.grA g44 (fun _ _ h => by cases h) (fun k hk hs => ⟨(fun e => by injection e; omega), hs⟩)
 clear ow35
 have bx46 : Bx w40 (w30.heap.size) [.int .i64 (7), .int .i64 (8)] 3 := Bx.new hw41
 have := bx46.lt
 clear g44 hw41
 have hl55 : (la ++ ([7, 8])).length = (la).length + ([7, 8] : List Int).length := List.length_append
 simp only [List.length_cons, List.length_nil] at hl55
 refine At.act f42 (appendR (α := Int) (t := 22) (d := 17) (n := (([] : List Int) ++ la).length) (m := 2) (cc := 2) (xs := la) (ys := [7, 8]) (bytes := 8) (by first | rfl | omega | (simp; done) | (simp; omega)) (by first | rfl | omega | (simp; done) | (simp; omega)) (by kernel_rfl) rfl (by kernel_rfl) ow50 (Bx.srcR (l := ([7, 8] : List Int)) bx46 rfl) (by simp only [List.length_cons, List.length_nil]; omega) (by simp only [List.length_cons, List.length_nil]; omega)) ?_
 rintro d_ v_ w54 ⟨rfl, A51, c52, ha53⟩
 obtain rfl := ha53.val
 have g56 := ha53.gr
 refine ⟨_, rfl, fun act58 f57 => ?_⟩
 clear f42
 clear bx46
 have ow59 := ha53.own (Sx (w4.heap.size) []) (fun g _ hs => hs.2) (show w4.heap.size ≤ w40.heap.size by omega)
 have szw54 := g56.size
 have e60 := e47.gr g56 (fun k hk => by have := ow50.ge k hk; omega)
 clear e47
 have r61 := r48.gr g56 (fun k hk => by have := ow50.ge k hk; omega)
 clear r48
 have r62 := r49.gr g56 (fun k hk => by have := ow50.ge k hk; omega)
 clear r49
 clear ow50 g56 ha53
 refine At.rd f57 1 [[]] [(6, .slice A51 ((la ++ ([7, 8])).length) c52)] [] (by kernel_rfl) trivial (fun act64 f63 => ?_)
 clear f57
 refine At.done rfl ?_
 refine t_n ?_
 have f65 := f63.sub (r := [(6, .slice A51 ((la ++ ([7, 8])).length) c52), (5, .bool true), (0, .int .i64 (n)), (1, .slice Aa la.length ca)]) ⟨rfl, rfl, rfl, rfl, trivial⟩
 clear f63
 refine wp_seq ?_
 refine At.start ?_
 refine At.rd f65 1 [[]] [(18, .int .i64 (n))] [] (by kernel_rfl) trivial (fun act67 f66 => ?_)
 clear f65
 refine At.call f66 13 #[.int .i64 (n)] (some 19) (by kernel_rfl) (full_any (n := n) (by omega)) ?_
 rintro e_ w68 ⟨rfl, he⟩
 refine ⟨_, rfl, _, rfl, fun act69 f70 => ?_⟩
 clear f66
 have g71 := gr_ext he
 have szw68 := g71.size
 have e72 := e60.gr g71 no_row
 clear e60
 have r73 := r61.gr g71 (fun _ h => by cases h)
 clear r61
 have r74 := r62.gr g71 (fun _ h => by cases h)
 clear r62
 have ow75 := ow59.gr g71 (fun _ _ h => by cases h)
 clear ow59
 clear g71 he
 refine At.seq f70 1 [[]] [(7, .pointer (some ⟨w68.heap.size, 0, none⟩))] (w68.alloc (.cells ((List.replicate 4 (0 : Int) : List Int).map wV).toArray 26 (0, 0))) [] (by kernel_rfl) trivial (fun act79 w76 hw77 f78 => ?_)
 clear f70
 have g80 := gr_alloc hw77
 have szw76 := g80.size
 have e82 := e72.gr g80 no_row
 clear e72
 have r83 := r73.gr g80 (fun _ h => by cases h)
 clear r73
 have r84 := r74.gr g80 (fun _ h => by cases h)
 clear r74
 have ow85 : OwnR w76 (Sx (w4.heap.size) [some (w68.heap.size)]) A51 c52 3 (la ++ ([7, 8]) : List Int) := ow75.grA g80 (fun _ _ h => by cases h) (fun k hk hs => ⟨(fun e => by injection e; omega), hs⟩)
 clear ow75
 have bx86 : Bx w76 (w68.heap.size) ((List.replicate 4 (0 : Int) : List Int).map wV) 26 := Bx.new hw77
 have := bx86.lt
 clear g80 hw77
 refine At.act f78 (storeBlk (t := 26) (b := w68.heap.size) (n := 4) (cs' := ((fullW n : List Int).map wV)) (by kernel_rfl) (by kernel_rfl) ((List.length_map _).trans (okLen (fullW_W _))) oneW_ ((show ((fullW n : List Int).map wV).length = 4 from ((List.length_map _).trans (okLen (fullW_W _)))).trans (show ((List.replicate 4 (0 : Int) : List Int).map wV).length = 4 from (by simp only [List.length_map, List.length_set, List.length_replicate, List.length_cons, List.length_nil]; first | done | assumption | exact from_len _ | exact of_len _ | exact ofZ_len _ | exact (ofW_ok _).1 | exact (fullW_W _).1 | exact (okW_with (by assumption)).1 | exact (okW_less (by assumption)).1 | exact put_len (from_len _) | exact orD_len _ _ | exact andD_len _ _ | exact minusD_len _ _ | exact fullD_len _ | (refine okLen ?_; (repeat (first | assumption | exact ofW_ok _ | exact fullW_W _ | apply okW_with | apply okW_less | refine okW_orS ?_ ?_ | refine okW_andS ?_ ?_ | refine okW_minusS ?_ ?_)); done) | omega | rfl)).symm) bx86) ?_
 rintro d_ v_ w87 ⟨rfl, g88, bx89⟩
 refine ⟨_, rfl, fun act91 f90 => ?_⟩
 clear f78
 have szw87 := g88.size
 have e92 := e82.gr g88 (fun k h => by injection h; omega)
 clear e82
 have r93 := r83.gr g88 (fun k h => by injection h; omega)
 clear r83
 have r94 := r84.gr g88 (fun k h => by injection h; omega)
 clear r84
 have ow95 := ow85.gr g88 (fun k hk => hk.1)
 clear ow85
 clear bx86 g88
 refine At.done rfl ?_
 refine t_n ?_
 have f96 := f90.sub (r := [(7, .pointer (some ⟨w68.heap.size, 0, none⟩)), (6, .slice A51 ((la ++ ([7, 8])).length) c52), (5, .bool true), (0, .int .i64 (n)), (1, .slice Aa la.length ca)]) ⟨rfl, rfl, rfl, rfl, rfl, trivial⟩
 clear f90
 refine wp_seq ?_
 refine At.start ?_
 have := ow95.cap
 refine At.rd f96 4 [[], [], [], [.as_ (.slice A51 ((la).length) c52)]] [(23, .slice A51 ((la).length) c52), (22, .int .i64 (((la.length : Nat) : Int))), (21, .slice Aa la.length ca), (20, .slice A51 ((la ++ ([7, 8])).length) c52)] [(0 ≤ (((la.length : Nat) : Int) : Int)), ((((la.length : Nat) : Int) : Int) ≤ (c52 : Nat)), ((.slice A51 ((((la.length : Nat) : Int) : Int).toNat) c52 : Value) = .slice A51 ((la).length) c52)] (by kernel_rfl) ⟨(by omega), (by simp only [List.length_append] at this; omega), rfl, trivial⟩ (fun act98 f97 => ?_)
 clear f96
 refine At.call f97 14 #[.slice A51 ((la).length) c52] (some 24) (by kernel_rfl) (of_any (la := la) (ow95.rdIpre (la := la) (by first | rfl | (simp only [List.nil_append, List.append_assoc]; rfl)) (by omega))) ?_
 rintro e_ w99 ⟨rfl, he⟩
 refine ⟨_, rfl, _, rfl, fun act100 f101 => ?_⟩
 clear f97
 have g102 := gr_ext he
 have szw99 := g102.size
 have e103 := e92.gr g102 no_row
 clear e92
 have r104 := r93.gr g102 (fun _ h => by cases h)
 clear r93
 have r105 := r94.gr g102 (fun _ h => by cases h)
 clear r94
 have ow106 := ow95.gr g102 (fun _ _ h => by cases h)
 clear ow95
 have bx107 := bx89.gr g102 (by simp)
 clear bx89
 clear g102 he
 refine At.seq f101 1 [[]] [(8, .pointer (some ⟨w99.heap.size, 0, none⟩))] (w99.alloc (.cells ((List.replicate 4 (0 : Int) : List Int).map wV).toArray 26 (0, 0))) [] (by kernel_rfl) trivial (fun act111 w108 hw109 f110 => ?_)
 clear f101
 have g112 := gr_alloc hw109
 have szw108 := g112.size
 have e114 := e103.gr g112 no_row
 clear e103
 have r115 := r104.gr g112 (fun _ h => by cases h)
 clear r104
 have r116 := r105.gr g112 (fun _ h => by cases h)
 clear r105
 have ow117 : OwnR w108 (Sx (w4.heap.size) [some (w99.heap.size), some (w68.heap.size)]) A51 c52 3 (la ++ ([7, 8]) : List Int) := ow106.grA g112 (fun _ _ h => by cases h) (fun k hk hs => ⟨(fun e => by injection e; omega), hs.1, hs.2⟩)
 clear ow106
 have bx118 := bx107.gr g112 (by simp)
 clear bx107
 have bx119 : Bx w108 (w99.heap.size) ((List.replicate 4 (0 : Int) : List Int).map wV) 26 := Bx.new hw109
 have := bx119.lt
 clear g112 hw109
 refine At.act f110 (storeBlk (t := 26) (b := w99.heap.size) (n := 4) (cs' := ((ofW la : List Int).map wV)) (by kernel_rfl) (by kernel_rfl) ((List.length_map _).trans (okLen (ofW_ok _))) oneW_ ((show ((ofW la : List Int).map wV).length = 4 from ((List.length_map _).trans (okLen (ofW_ok _)))).trans (show ((List.replicate 4 (0 : Int) : List Int).map wV).length = 4 from (by simp only [List.length_map, List.length_set, List.length_replicate, List.length_cons, List.length_nil]; first | done | assumption | exact from_len _ | exact of_len _ | exact ofZ_len _ | exact (ofW_ok _).1 | exact (fullW_W _).1 | exact (okW_with (by assumption)).1 | exact (okW_less (by assumption)).1 | exact put_len (from_len _) | exact orD_len _ _ | exact andD_len _ _ | exact minusD_len _ _ | exact fullD_len _ | (refine okLen ?_; (repeat (first | assumption | exact ofW_ok _ | exact fullW_W _ | apply okW_with | apply okW_less | refine okW_orS ?_ ?_ | refine okW_andS ?_ ?_ | refine okW_minusS ?_ ?_)); done) | omega | rfl)).symm) bx119) ?_
 rintro d_ v_ w120 ⟨rfl, g121, bx122⟩
 refine ⟨_, rfl, fun act124 f123 => ?_⟩
 clear f110
 have szw120 := g121.size
 have e125 := e114.gr g121 (fun k h => by injection h; omega)
 clear e114
 have r126 := r115.gr g121 (fun k h => by injection h; omega)
 clear r115
 have r127 := r116.gr g121 (fun k h => by injection h; omega)
 clear r116
 have ow128 := ow117.gr g121 (fun k hk => hk.1)
 clear ow117
 have bx129 := bx118.gr g121 (fun h => by injection h; omega)
 clear bx118
 clear bx119 g121
 refine At.done rfl ?_
 refine t_n ?_
 have f130 := f123.sub (r := [(8, .pointer (some ⟨w99.heap.size, 0, none⟩)), (7, .pointer (some ⟨w68.heap.size, 0, none⟩)), (6, .slice A51 ((la ++ ([7, 8])).length) c52), (5, .bool true), (0, .int .i64 (n)), (1, .slice Aa la.length ca)]) ⟨rfl, rfl, rfl, rfl, rfl, rfl, trivial⟩
 clear f123
 refine wp_seq ?_
 refine At.start ?_
 have := ow128.cap
 refine At.rd f130 5 [[], [], [], [.as_ (.slice A51 ((la).length) c52)], []] [(29, .slice Aa la.length ca), (28, .slice A51 ((la).length) c52), (27, .int .i64 (((la.length : Nat) : Int))), (26, .slice Aa la.length ca), (25, .slice A51 ((la ++ ([7, 8])).length) c52)] [(0 ≤ (((la.length : Nat) : Int) : Int)), ((((la.length : Nat) : Int) : Int) ≤ (c52 : Nat)), ((.slice A51 ((((la.length : Nat) : Int) : Int).toNat) c52 : Value) = .slice A51 ((la).length) c52)] (by kernel_rfl) ⟨(by omega), (by simp only [List.length_append] at this; omega), rfl, trivial⟩ (fun act132 f131 => ?_)
 clear f130
 refine At.call f131 15 #[.slice A51 ((la).length) c52, .slice Aa la.length ca] (some 30) (by kernel_rfl) ((equal01_any (la := la) (lb := la) (ow128.rdIpre (la := la) (by first | rfl | (simp only [List.nil_append, List.append_assoc]; rfl)) (by omega)) (r126.wide (Nat.zero_le _) (by omega))).mono (R' := fun e w' => e = .returned (.bool true) ∧ Ext _ w') (fun e_ w_ h_ => by rw [show (decide (la = la) : Bool) = true from decide_eq_true rfl] at h_; exact h_)) ?_
 rintro e_ w133 ⟨rfl, he⟩
 refine ⟨_, rfl, _, rfl, fun act134 f135 => ?_⟩
 clear f131
 have g136 := gr_ext he
 have szw133 := g136.size
 have e137 := e125.gr g136 no_row
 clear e125
 have r138 := r126.gr g136 (fun _ h => by cases h)
 clear r126
 have r139 := r127.gr g136 (fun _ h => by cases h)
 clear r127
 have ow140 := ow128.gr g136 (fun _ _ h => by cases h)
 clear ow128
 have bx141 := bx129.gr g136 (by simp)
 clear bx129
 have bx142 := bx122.gr g136 (by simp)
 clear bx122
 clear g136 he
 obtain ⟨ad143, hA144, hb147, hc146, hc145⟩ := ow140.get (((la.length : Nat) : Int)) (by omega) (by omega) (sz := 1) rfl
 obtain ⟨ad148, hA149, hb152, hc151, hc150⟩ := ow140.get (((la.length : Nat) : Int) + 1) (by omega) (by omega) (sz := 1) rfl
 refine At.rd f135 18 [[], [], [], [], [.ad ad143], [.ld (.int .i64 (gI (la ++ ([7, 8])) ((la.length : Nat) : Int)))], [.as_ (.bool true)], [], [], [], [], [], [.as_ (.int .i64 (((la.length : Nat) : Int) + 1))], [.ad ad148], [.ld (.int .i64 (gI (la ++ ([7, 8])) (((la.length : Nat) : Int) + 1)))], [.as_ (.bool true)], [], []] [(9, .bool true), (47, .bool true), (46, .bool true), (45, .int .i64 (gI (la ++ ([7, 8])) (((la.length : Nat) : Int) + 1))), (44, .pointer (some (ad148.add ((((la.length : Nat) : Int) + 1 : Int).toNat * 1)))), (43, .int .i64 (((la.length : Nat) : Int) + 1)), (42, .int .i64 (((la.length : Nat) : Int))), (41, .slice Aa la.length ca), (40, .slice A51 ((la ++ ([7, 8])).length) c52), (39, .bool true), (38, .bool true), (37, .bool true), (36, .int .i64 (gI (la ++ ([7, 8])) ((la.length : Nat) : Int))), (35, .pointer (some (ad143.add ((((la.length : Nat) : Int) : Int).toNat * 1)))), (34, .int .i64 (((la.length : Nat) : Int))), (33, .slice Aa la.length ca), (32, .slice A51 ((la ++ ([7, 8])).length) c52), (31, .bool true)] [(A51 = some ad143), (0 ≤ (((la.length : Nat) : Int) : Int)), ((((la.length : Nat) : Int) : Int) < ((la ++ ([7, 8])).length : Nat)), (w133.cell? (ad143.add ((((la.length : Nat) : Int) : Int).toNat * 1)) = some (.int .i64 (gI (la ++ ([7, 8])) ((la.length : Nat) : Int)))), ((.bool ((gI (la ++ ([7, 8])) ((la.length : Nat) : Int) : Int) == 7) : Value) = .bool true), ((.int .i64 (IntKind.i64.wrap (((la.length : Nat) : Int) + 1)) : Value) = .int .i64 (((la.length : Nat) : Int) + 1)), (A51 = some ad148), (0 ≤ (((la.length : Nat) : Int) + 1 : Int)), ((((la.length : Nat) : Int) + 1 : Int) < ((la ++ ([7, 8])).length : Nat)), (w133.cell? (ad148.add ((((la.length : Nat) : Int) + 1 : Int).toNat * 1)) = some (.int .i64 (gI (la ++ ([7, 8])) (((la.length : Nat) : Int) + 1)))), ((.bool ((gI (la ++ ([7, 8])) (((la.length : Nat) : Int) + 1) : Int) == 8) : Value) = .bool true)] (by kernel_rfl) ⟨hA144, (by omega), (by omega), hc146, (congrArg Value.bool (beqT (gI_app7 la))), (w64 (by omega) (by omega)), hA149, (by omega), (by omega), hc151, (congrArg Value.bool (beqT (gI_app8 la))), trivial⟩ (fun act154 f153 => ?_)
 clear f135
 refine At.done rfl ?_
 refine t_n ?_
 have f155 := f153.sub (r := [(9, .bool true), (8, .pointer (some ⟨w99.heap.size, 0, none⟩)), (7, .pointer (some ⟨w68.heap.size, 0, none⟩)), (5, .bool true), (0, .int .i64 (n)), (1, .slice Aa la.length ca)]) ⟨rfl, rfl, rfl, rfl, rfl, rfl, trivial⟩
 clear f153
 refine wp_seq ?_
 obtain ⟨Cs156, hCs157⟩ : ∃ c : List (Addr × Value), c = ([] : List (Addr × Value)) ++ blkC (w68.heap.size) ((fullW n : List Int).map wV) := ⟨_, rfl⟩
 have hS158 : HoldsC Cs156 w133 := by rw [hCs157]; exact (holdsA (show HoldsC [] w133 from trivial) (holds_blk bx141))
 refine AtH.start Cs156 5 #[false, false, false, false, false] (by kernel_rfl) rfl rfl (fun w160 hw161 => ?_)
 have g159 := gr_drew hw161
 have hS162 := hS158.gr g159
 have szw160 := g159.size
 have e163 := e137.gr g159 no_row
 clear e137
 have r164 := r138.gr g159 (fun _ h => by cases h)
 clear r138
 have r165 := r139.gr g159 (fun _ h => by cases h)
 clear r139
 have ow166 := ow140.gr g159 (fun _ _ h => by cases h)
 clear ow140
 have bx167 := bx141.gr g159 (by simp)
 clear bx141
 have bx168 := bx142.gr g159 (by simp)
 clear bx142
 clear g159 hw161 hS158
 refine AtH.rd (by kernel_rfl) (fun d v c a w h => by cases d <;> exact h) hS162 [0, 1] [[.cs ((fullW n : List Int).map wV)], []] [(49, .int .i64 (n)), (48, .agg ((fullW n : List Int).map wV).toArray)] #[true, true, false, false, false] [(((fullW n : List Int).map wV).length = 4), (∀ (j : Nat) (v : Value), ((fullW n : List Int).map wV)[j]? = some v → ∃ j_ : Nat, Cs156[j_]? = some (((⟨w68.heap.size, 0, none⟩ : Addr).add j), v))] 3 f155 (by kernel_rfl) ⟨((List.length_map _).trans (okLen (fullW_W _))), (fun j v hv => List.getElem?_of_mem (by rw [hCs157]; exact List.mem_append.2 (.inr (blkC_in hv)))), trivial⟩ (fun act170 f169 => ?_)
 clear f155
 refine AtH.all [2] 2 (by kernel_rfl) (by simp) ⟨?_, trivial⟩
 refine OneH.call f169 17 #[.int .i64 (n)] (some 50) #[true, true, true, false, false] (by kernel_rfl) (by kernel_rfl) (fullD_any (n := n)) ?_
 rintro e_ w172 ⟨rfl, he⟩
 refine ⟨_, rfl, _, rfl, fun act173 f174 => ?_⟩
 clear f169
 have g175 := gr_ext he
 have hS171 := hS162.gr g175
 have szw172 := g175.size
 have e176 := e163.gr g175 no_row
 clear e163
 have r177 := r164.gr g175 (fun _ h => by cases h)
 clear r164
 have r178 := r165.gr g175 (fun _ h => by cases h)
 clear r165
 have ow179 := ow166.gr g175 (fun _ _ h => by cases h)
 clear ow166
 have bx180 := bx167.gr g175 (by simp)
 clear bx167
 have bx181 := bx168.gr g175 (by simp)
 clear bx168
 clear g175 he
 refine ⟨hS171, ?_⟩
 refine AtH.all [3] 1 (by kernel_rfl) (by simp) ⟨?_, trivial⟩
 refine OneH.call f174 16 #[.agg ((fullW n : List Int).map wV).toArray, .agg ((fullD n : List Bool).map Value.bool).toArray] (some 51) #[true, true, true, true, false] (by kernel_rfl) (by kernel_rfl) ((same01_any (s := fullW n) (l := fullD n) (fullW_W _) (fullD_len _)).mono (R' := fun e w' => e = .returned (.bool true) ∧ Ext _ w') (fun e_ w_ h_ => by rw [show (decide ((fullW n) = wordsD (fullD n)) : Bool) = true from same_full] at h_; exact h_)) ?_
 rintro e_ w183 ⟨rfl, he⟩
 refine ⟨_, rfl, _, rfl, fun act184 f185 => ?_⟩
 clear f174
 have g186 := gr_ext he
 have hS182 := hS171.gr g186
 have szw183 := g186.size
 have e187 := e176.gr g186 no_row
 clear e176
 have r188 := r177.gr g186 (fun _ h => by cases h)
 clear r177
 have r189 := r178.gr g186 (fun _ h => by cases h)
 clear r178
 have ow190 := ow179.gr g186 (fun _ _ h => by cases h)
 clear ow179
 have bx191 := bx180.gr g186 (by simp)
 clear bx180
 have bx192 := bx181.gr g186 (by simp)
 clear bx181
 clear g186 he
 refine ⟨hS182, ?_⟩
 refine AtH.rd (by kernel_rfl) (fun d v c a w h => by cases d <;> exact h) hS182 [4] [[]] [(10, .bool true)] #[true, true, true, true, true] [] 0 f185 (by kernel_rfl) trivial (fun act194 f193 => ?_)
 clear f185
 refine AtH.done (by kernel_rfl) ?_
 clear hS182
 refine t_n ?_
 have f195 := f193.sub (r := [(10, .bool true), (9, .bool true), (8, .pointer (some ⟨w99.heap.size, 0, none⟩)), (5, .bool true), (1, .slice Aa la.length ca)]) ⟨rfl, rfl, rfl, rfl, rfl, trivial⟩
 clear f193
 refine wp_seq ?_
 obtain ⟨Cs196, hCs197⟩ : ∃ c : List (Addr × Value), c = ([] : List (Addr × Value)) ++ blkC (w99.heap.size) ((ofW la : List Int).map wV) := ⟨_, rfl⟩
 have hS198 : HoldsC Cs196 w183 := by rw [hCs197]; exact (holdsA (show HoldsC [] w183 from trivial) (holds_blk bx192))
 refine AtH.start Cs196 5 #[false, false, false, false, false] (by kernel_rfl) rfl rfl (fun w200 hw201 => ?_)
 have g199 := gr_drew hw201
 have hS202 := hS198.gr g199
 have szw200 := g199.size
 have e203 := e187.gr g199 no_row
 clear e187
 have r204 := r188.gr g199 (fun _ h => by cases h)
 clear r188
 have r205 := r189.gr g199 (fun _ h => by cases h)
 clear r189
 have ow206 := ow190.gr g199 (fun _ _ h => by cases h)
 clear ow190
 have bx207 := bx191.gr g199 (by simp)
 clear bx191
 have bx208 := bx192.gr g199 (by simp)
 clear bx192
 clear g199 hw201 hS198
 refine AtH.rd (by kernel_rfl) (fun d v c a w h => by cases d <;> exact h) hS202 [0, 1] [[.cs ((ofW la : List Int).map wV)], []] [(53, .slice Aa la.length ca), (52, .agg ((ofW la : List Int).map wV).toArray)] #[true, true, false, false, false] [(((ofW la : List Int).map wV).length = 4), (∀ (j : Nat) (v : Value), ((ofW la : List Int).map wV)[j]? = some v → ∃ j_ : Nat, Cs196[j_]? = some (((⟨w99.heap.size, 0, none⟩ : Addr).add j), v))] 3 f195 (by kernel_rfl) ⟨((List.length_map _).trans (okLen (ofW_ok _))), (fun j v hv => List.getElem?_of_mem (by rw [hCs197]; exact List.mem_append.2 (.inr (blkC_in hv)))), trivial⟩ (fun act210 f209 => ?_)
 clear f195
 refine AtH.all [2] 2 (by kernel_rfl) (by simp) ⟨?_, trivial⟩
 refine OneH.call f209 18 #[.slice Aa la.length ca] (some 54) #[true, true, true, false, false] (by kernel_rfl) (by kernel_rfl) (ofR_any (la := la) (r204.wide (Nat.zero_le _) (by omega))) ?_
 rintro e_ w212 ⟨rfl, he⟩
 refine ⟨_, rfl, _, rfl, fun act213 f214 => ?_⟩
 clear f209
 have g215 := gr_ext he
 have hS211 := hS202.gr g215
 have szw212 := g215.size
 have e216 := e203.gr g215 no_row
 clear e203
 have r217 := r204.gr g215 (fun _ h => by cases h)
 clear r204
 have r218 := r205.gr g215 (fun _ h => by cases h)
 clear r205
 have ow219 := ow206.gr g215 (fun _ _ h => by cases h)
 clear ow206
 have bx220 := bx207.gr g215 (by simp)
 clear bx207
 have bx221 := bx208.gr g215 (by simp)
 clear bx208
 clear g215 he
 refine ⟨hS211, ?_⟩
 refine AtH.all [3] 1 (by kernel_rfl) (by simp) ⟨?_, trivial⟩
 refine OneH.call f214 16 #[.agg ((ofW la : List Int).map wV).toArray, .agg ((ofD la : List Bool).map Value.bool).toArray] (some 55) #[true, true, true, true, false] (by kernel_rfl) (by kernel_rfl) ((same01_any (s := ofW la) (l := ofD la) (ofW_ok _) (of_len _)).mono (R' := fun e w' => e = .returned (.bool true) ∧ Ext _ w') (fun e_ w_ h_ => by rw [show (decide ((ofW la) = wordsD (ofD la)) : Bool) = true from same_of la] at h_; exact h_)) ?_
 rintro e_ w223 ⟨rfl, he⟩
 refine ⟨_, rfl, _, rfl, fun act224 f225 => ?_⟩
 clear f214
 have g226 := gr_ext he
 have hS222 := hS211.gr g226
 have szw223 := g226.size
 have e227 := e216.gr g226 no_row
 clear e216
 have r228 := r217.gr g226 (fun _ h => by cases h)
 clear r217
 have r229 := r218.gr g226 (fun _ h => by cases h)
 clear r218
 have ow230 := ow219.gr g226 (fun _ _ h => by cases h)
 clear ow219
 have bx231 := bx220.gr g226 (by simp)
 clear bx220
 have bx232 := bx221.gr g226 (by simp)
 clear bx221
 clear g226 he
 refine ⟨hS222, ?_⟩
 refine AtH.rd (by kernel_rfl) (fun d v c a w h => by cases d <;> exact h) hS222 [4] [[]] [(11, .bool true)] #[true, true, true, true, true] [] 0 f225 (by kernel_rfl) trivial (fun act234 f233 => ?_)
 clear f225
 refine AtH.done (by kernel_rfl) ?_
 clear hS222
 refine t_n ?_
 have f235 := f233.sub (r := [(11, .bool true), (10, .bool true), (9, .bool true), (5, .bool true)]) ⟨rfl, rfl, rfl, rfl, trivial⟩
 clear f233
 refine wp_seq ?_
 refine At.start ?_
 refine At.rd f235 11 [[], [], [], [], [], [], [], [], [], [], []] [(4, .bool true), (65, .bool true), (64, .bool true), (63, .bool true), (62, .bool true), (61, .bool true), (60, .bool true), (59, .bool true), (58, .bool true), (57, .bool true), (56, .bool true)] [] (by kernel_rfl) trivial (fun act237 f236 => ?_)
 clear f235
 refine At.done rfl ?_
 refine t_n ?_
 have f238 := f236.sub (r := [(4, .bool true)]) ⟨rfl, trivial⟩
 clear f236
 refine wp_ret ?_
 refine ret_ f238 [] [.bool true] [] (by kernel_rfl) trivial ?_
 exact ⟨rfl, e227⟩

end Go.Proofs.YtepekncgknlcjaaDoor
