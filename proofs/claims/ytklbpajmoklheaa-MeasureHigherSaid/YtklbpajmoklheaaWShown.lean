/-
  A walk of a Go function, printed by a program of this repo. Conditions: what the theorems name.
-/
import Derived.Test.YtklbpajmoklheaaPureShown
import Derived.Test.YtklbpajmoklheaaWSolveM
import Derived.Test.YtklbpajmoklheaaWEven
set_option linter.unusedVariables false
set_option linter.unusedSimpArgs false
namespace Go.Proofs.Ytklbpajmoklheaa
open Go Go.RowKit

set_option maxHeartbeats 4000000 in
theorem shown_any {w : World} :
    Calls Try.prog 22 #[] w fun e w' => e = .returned (.bool true) ∧ Ext w w' := by
 refine enter_ (args := []) Try.func22 rfl Try.ntmps22 (Nat.le_of_ble_eq_true rfl) (fun act0 f0 => ?_)
 have e0 := Ext.refl w
 refine wp_seq ?_
 refine At.start ?_
 refine At.rd f0 1 [[]] [(0, .bool false)] [] (by kernel_rfl) trivial (fun act2 f1 => ?_)
 clear f0
 refine At.done rfl ?_
 refine t_n ?_
 have f3 := f1.sub (r := []) trivial
 clear f1
 refine wp_seq ?_
 refine At.start ?_
 refine At.seq f3 1 [[]] [(5, .slice (some ⟨w.heap.size, 0, none⟩) 2 2)] (w.alloc (.cells #[.int .i64 (0), .int .i64 (1)] 3 (0, 0))) [] (by kernel_rfl) trivial (fun act7 w4 hw5 f6 => ?_)
 clear f3
 have g8 := gr_alloc hw5
 have szw4 := g8.size
 have e11 := e0.gr g8 no_row
 clear e0
 have bx10 : Bx w4 (w.heap.size) [.int .i64 (0), .int .i64 (1)] 3 := Bx.new hw5
 have := bx10.lt
 clear g8 hw5
 refine At.seq f6 1 [[]] [(6, .slice (some ⟨w4.heap.size, 0, none⟩) 2 2)] (w4.alloc (.cells #[.int .i64 (1), .int .i64 (2)] 3 (0, 0))) [] (by kernel_rfl) trivial (fun act15 w12 hw13 f14 => ?_)
 clear f6
 have g16 := gr_alloc hw13
 have szw12 := g16.size
 have e19 := e11.gr g16 no_row
 clear e11
 have bx20 := bx10.gr g16 (by simp)
 clear bx10
 have bx18 : Bx w12 (w4.heap.size) [.int .i64 (1), .int .i64 (2)] 3 := Bx.new hw13
 have := bx18.lt
 clear g16 hw13
 refine At.seq f14 1 [[]] [(7, .slice (some ⟨w12.heap.size, 0, none⟩) 2 2)] (w12.alloc (.cells #[.int .i64 (0), .int .i64 (1)] 3 (0, 0))) [] (by kernel_rfl) trivial (fun act24 w21 hw22 f23 => ?_)
 clear f14
 have g25 := gr_alloc hw22
 have szw21 := g25.size
 have e28 := e19.gr g25 no_row
 clear e19
 have bx29 := bx20.gr g25 (by simp)
 clear bx20
 have bx30 := bx18.gr g25 (by simp)
 clear bx18
 have bx27 : Bx w21 (w12.heap.size) [.int .i64 (0), .int .i64 (1)] 3 := Bx.new hw22
 have := bx27.lt
 clear g25 hw22
 refine At.seq f23 1 [[]] [(8, .slice (some ⟨w21.heap.size, 0, none⟩) 1 1)] (w21.alloc (.cells #[.int .i64 (0)] 3 (0, 0))) [] (by kernel_rfl) trivial (fun act34 w31 hw32 f33 => ?_)
 clear f23
 have g35 := gr_alloc hw32
 have szw31 := g35.size
 have e38 := e28.gr g35 no_row
 clear e28
 have bx39 := bx29.gr g35 (by simp)
 clear bx29
 have bx40 := bx30.gr g35 (by simp)
 clear bx30
 have bx41 := bx27.gr g35 (by simp)
 clear bx27
 have bx37 : Bx w31 (w21.heap.size) [.int .i64 (0)] 3 := Bx.new hw32
 have := bx37.lt
 clear g35 hw32
 refine At.seq f33 1 [[]] [(9, .slice (some ⟨w31.heap.size, 0, none⟩) 2 2)] (w31.alloc (.cells #[.slice (some ⟨w12.heap.size, 0, none⟩) 2 2, .slice (some ⟨w21.heap.size, 0, none⟩) 1 1] 22 (0, 0))) [] (by kernel_rfl) trivial (fun act45 w42 hw43 f44 => ?_)
 clear f33
 have g46 := gr_alloc hw43
 have szw42 := g46.size
 have e49 := e38.gr g46 no_row
 clear e38
 have bx50 := bx39.gr g46 (by simp)
 clear bx39
 have bx51 := bx40.gr g46 (by simp)
 clear bx40
 have bx52 := bx41.gr g46 (by simp)
 clear bx41
 have bx53 := bx37.gr g46 (by simp)
 clear bx37
 have bx48 : Bx w42 (w31.heap.size) [.slice (some ⟨w12.heap.size, 0, none⟩) 2 2, .slice (some ⟨w21.heap.size, 0, none⟩) 1 1] 22 := Bx.new hw43
 have := bx48.lt
 clear g46 hw43
 refine At.rd f44 1 [[]] [(10, .agg #[.slice (some ⟨w.heap.size, 0, none⟩) 2 2, .slice (some ⟨w4.heap.size, 0, none⟩) 2 2, .slice (some ⟨w31.heap.size, 0, none⟩) 2 2])] [] (by kernel_rfl) trivial (fun act55 f54 => ?_)
 clear f44
 refine At.seq f54 1 [[]] [(1, .pointer (some ⟨w42.heap.size, 0, none⟩))] (w42.alloc (.cells #[.slice none 0 0, .slice none 0 0, .slice none 0 0] 25 (0, 0))) [] (by kernel_rfl) trivial (fun act59 w56 hw57 f58 => ?_)
 clear f54
 have g60 := gr_alloc hw57
 have szw56 := g60.size
 have e62 := e49.gr g60 no_row
 clear e49
 have bx63 := bx50.gr g60 (by simp)
 clear bx50
 have bx64 := bx51.gr g60 (by simp)
 clear bx51
 have bx65 := bx52.gr g60 (by simp)
 clear bx52
 have bx66 := bx53.gr g60 (by simp)
 clear bx53
 have bx67 := bx48.gr g60 (by simp)
 clear bx48
 have bx68 : Bx w56 (w42.heap.size) [.slice none 0 0, .slice none 0 0, .slice none 0 0] 25 := Bx.new hw57
 have := bx68.lt
 clear g60 hw57
 refine At.store f58 (t := 25) (b := w42.heap.size) (off := 0) (v := .agg #[.slice (some ⟨w.heap.size, 0, none⟩) 2 2, .slice (some ⟨w4.heap.size, 0, none⟩) 2 2, .slice (some ⟨w31.heap.size, 0, none⟩) 2 2]) (by kernel_rfl) bx68 (by kernel_rfl) (fun act73 w69 g70 bx71 f72 => ?_)
 clear f58
 replace bx71 : Bx w69 (w42.heap.size) [.slice (some ⟨w.heap.size, 0, none⟩) 2 2, .slice (some ⟨w4.heap.size, 0, none⟩) 2 2, .slice (some ⟨w31.heap.size, 0, none⟩) 2 2] 25 := bx71
 have szw69 := g70.size
 have e74 := e62.gr g70 (fun k h => by injection h; omega)
 clear e62
 have bx75 := bx63.gr g70 (fun h => by injection h; omega)
 clear bx63
 have bx76 := bx64.gr g70 (fun h => by injection h; omega)
 clear bx64
 have bx77 := bx65.gr g70 (fun h => by injection h; omega)
 clear bx65
 have bx78 := bx66.gr g70 (fun h => by injection h; omega)
 clear bx66
 have bx79 := bx67.gr g70 (fun h => by injection h; omega)
 clear bx67
 clear bx68 g70
 refine At.done rfl ?_
 refine t_n ?_
 have f80 := f72.sub (r := [(1, .pointer (some ⟨w42.heap.size, 0, none⟩))]) ⟨rfl, trivial⟩
 clear f72
 refine wp_seq ?_
 refine At.start ?_
 refine At.rd f80 1 [[.ld (.slice (some ⟨w.heap.size, 0, none⟩) 2 2), .ld (.slice (some ⟨w4.heap.size, 0, none⟩) 2 2), .ld (.slice (some ⟨w31.heap.size, 0, none⟩) 2 2)]] [(11, .agg #[.slice (some ⟨w.heap.size, 0, none⟩) 2 2, .slice (some ⟨w4.heap.size, 0, none⟩) 2 2, .slice (some ⟨w31.heap.size, 0, none⟩) 2 2])] [(w69.cell? ⟨w42.heap.size, 0, none⟩ = some (.slice (some ⟨w.heap.size, 0, none⟩) 2 2)), (w69.cell? ⟨w42.heap.size, 1, none⟩ = some (.slice (some ⟨w4.heap.size, 0, none⟩) 2 2)), (w69.cell? ⟨w42.heap.size, 2, none⟩ = some (.slice (some ⟨w31.heap.size, 0, none⟩) 2 2))] (by kernel_rfl) ⟨(bx71.cell (i := 0) rfl), (bx71.cell (i := 1) rfl), (bx71.cell (i := 2) rfl), trivial⟩ (fun act82 f81 => ?_)
 clear f80
 refine At.call f81 28 #[.agg #[.slice (some ⟨w.heap.size, 0, none⟩) 2 2, .slice (some ⟨w4.heap.size, 0, none⟩) 2 2, .slice (some ⟨w31.heap.size, 0, none⟩) 2 2]] (some 12) (by kernel_rfl) (solveM_any (g := shownG) (RdG.mk (G := shownG) (Bx.rdI (l := ([0, 1] : List Int)) bx75 rfl (by decide)) (Bx.rdI (l := ([1, 2] : List Int)) bx76 rfl (by decide)) (Bx.rdII (ls := ([([0, 1] : List Int), ([0] : List Int)] : List (List Int))) bx79 ⟨⟨_, _, rfl, (by decide), (Bx.rdI (l := ([0, 1] : List Int)) bx77 rfl (by decide))⟩, ⟨_, _, rfl, (by decide), (Bx.rdI (l := ([0] : List Int)) bx78 rfl (by decide))⟩, trivial⟩ (by decide)) (by decide) (by decide) (by decide)) (by first | omega | decide)) ?_
 rintro e_ w89 ⟨A83, c84, l85, rfl, he, ow86, hsv87⟩
 have hqs := shown_solved hsv87
 have hsl : l85.length = 2 := by rw [hqs]; rfl
 have hsv_M := hsv87
 have := solved_len hsv87
 refine ⟨_, rfl, _, rfl, fun act90 f91 => ?_⟩
 clear f81
 have g92 := gr_ext he
 have szw89 := g92.size
 have e93 := e74.gr g92 no_row
 clear e74
 have bx94 := bx75.gr g92 (by simp)
 clear bx75
 have bx95 := bx76.gr g92 (by simp)
 clear bx76
 have bx96 := bx77.gr g92 (by simp)
 clear bx77
 have bx97 := bx78.gr g92 (by simp)
 clear bx78
 have bx98 := bx79.gr g92 (by simp)
 clear bx79
 have bx99 := bx71.gr g92 (by simp)
 clear bx71
 clear g92 he
 refine At.rd f91 1 [[]] [(2, .slice A83 l85.length c84)] [] (by kernel_rfl) trivial (fun act101 f100 => ?_)
 clear f91
 refine At.done rfl ?_
 refine t_n ?_
 have f102 := f100.sub (r := [(2, .slice A83 l85.length c84), (1, .pointer (some ⟨w42.heap.size, 0, none⟩))]) ⟨rfl, rfl, trivial⟩
 clear f100
 refine wp_seq ?_
 refine At.start ?_
 refine At.rd f102 2 [[.ld (.slice (some ⟨w.heap.size, 0, none⟩) 2 2), .ld (.slice (some ⟨w4.heap.size, 0, none⟩) 2 2), .ld (.slice (some ⟨w31.heap.size, 0, none⟩) 2 2)], []] [(15, .slice A83 l85.length c84), (14, .agg #[.slice (some ⟨w.heap.size, 0, none⟩) 2 2, .slice (some ⟨w4.heap.size, 0, none⟩) 2 2, .slice (some ⟨w31.heap.size, 0, none⟩) 2 2])] [(w89.cell? ⟨w42.heap.size, 0, none⟩ = some (.slice (some ⟨w.heap.size, 0, none⟩) 2 2)), (w89.cell? ⟨w42.heap.size, 1, none⟩ = some (.slice (some ⟨w4.heap.size, 0, none⟩) 2 2)), (w89.cell? ⟨w42.heap.size, 2, none⟩ = some (.slice (some ⟨w31.heap.size, 0, none⟩) 2 2))] (by kernel_rfl) ⟨(bx99.cell (i := 0) rfl), (bx99.cell (i := 1) rfl), (bx99.cell (i := 2) rfl), trivial⟩ (fun act104 f103 => ?_)
 clear f102
 refine At.call f103 30 #[.agg #[.slice (some ⟨w.heap.size, 0, none⟩) 2 2, .slice (some ⟨w4.heap.size, 0, none⟩) 2 2, .slice (some ⟨w31.heap.size, 0, none⟩) 2 2], .slice A83 l85.length c84] (some 16) (by kernel_rfl) (evenM_any (g := shownG) (ls := l85) (RdG.mk (G := shownG) (Bx.rdI (l := ([0, 1] : List Int)) bx94 rfl (by decide)) (Bx.rdI (l := ([1, 2] : List Int)) bx95 rfl (by decide)) (Bx.rdII (ls := ([([0, 1] : List Int), ([0] : List Int)] : List (List Int))) bx98 ⟨⟨_, _, rfl, (by decide), (Bx.rdI (l := ([0, 1] : List Int)) bx96 rfl (by decide))⟩, ⟨_, _, rfl, (by decide), (Bx.rdI (l := ([0] : List Int)) bx97 rfl (by decide))⟩, trivial⟩ (by decide)) (by decide) (by decide) (by decide)) ((ow86.rdR (by simp only [Enc.bytes]; omega)).wide (Nat.zero_le _) (by omega)) (shown_ok hqs)) ?_
 rintro e_ w116 ⟨A105, c106, A107, c108, a109, b110, rfl, he, ow111, ow112, hev115⟩
 have hqe := shown_even hqs hev115
 have hal : a109.length = 2 := by rw [hqe.1]; rfl
 have hbl : b110.length = 2 := by rw [hqe.2]; rfl
 have hEv_M := hev115
 refine ⟨_, rfl, _, rfl, fun act117 f118 => ?_⟩
 clear f103
 have g119 := gr_ext he
 have lt120 := ow86.lt
 have szw116 := g119.size
 have e121 := e93.gr g119 no_row
 clear e93
 have bx122 := bx94.gr g119 (by simp)
 clear bx94
 have bx123 := bx95.gr g119 (by simp)
 clear bx95
 have bx124 := bx96.gr g119 (by simp)
 clear bx96
 have bx125 := bx97.gr g119 (by simp)
 clear bx97
 have bx126 := bx98.gr g119 (by simp)
 clear bx98
 have bx127 := bx99.gr g119 (by simp)
 clear bx99
 have ow128 : OwnR w116 (Sx (w69.heap.size) [obk (A105), obk (A107)]) A83 c84 41 (l85 : List Tup) := ow86.grA g119 (fun _ _ h => by cases h) (fun k hk hs => ⟨(fun e => by have := ow111.ge _ e; omega), (fun e => by have := ow112.ge _ e; omega), hs⟩)
 clear ow86
 have ow129 : OwnR w116 (Sx (w89.heap.size) [obk (A83), obk (A107)]) A105 c106 3 (a109 : List Int) := ow111.imp (fun g _ hs => ⟨(fun e => by have := lt120 _ e; have := Sx_base hs; omega), hs⟩)
 clear ow111
 have ow130 : OwnR w116 (Sx (w89.heap.size) [obk (A83), obk (A105)]) A107 c108 3 (b110 : List Int) := ow112.imp (fun g _ hs => ⟨(fun e => by have := lt120 _ e; have := Sx_base hs; omega), hs⟩)
 clear ow112
 clear lt120
 clear g119 he
 refine At.rd f118 5 [[], [], [], [], []] [(4, .slice A107 b110.length c108), (3, .slice A105 a109.length c106), (18, .slice A107 b110.length c108), (17, .slice A105 a109.length c106), (13, .tuple #[.slice A105 a109.length c106, .slice A107 b110.length c108])] [] (by kernel_rfl) trivial (fun act132 f131 => ?_)
 clear f118
 refine At.done rfl ?_
 refine t_n ?_
 have f133 := f131.sub (r := [(4, .slice A107 b110.length c108), (3, .slice A105 a109.length c106), (2, .slice A83 l85.length c84)]) ⟨rfl, rfl, rfl, trivial⟩
 clear f131
 refine wp_seq ?_
 refine At.start ?_
 rcases Bool.eq_false_or_eq_true ((((l85.length : Nat) : Int) : Int) == 2) with h134 | h134
 ·have q135 := eq_of_beq h134
  obtain ⟨ad136, hA137, hb140, hc139, hc138⟩ := ow128.get (0) (by omega) (by omega) (sz := 5) rfl
  rcases Bool.eq_false_or_eq_true (decide ((gT l85 0) = (⟨false, 1, 0, 0, 0⟩ : Tup))) with h141 | h141
  ·have q142 := of_decide_eq_true h141
   obtain ⟨ad143, hA144, hb147, hc146, hc145⟩ := ow128.get (1) (by omega) (by omega) (sz := 5) rfl
   rcases Bool.eq_false_or_eq_true (decide ((gT l85 1) = (⟨false, 0, 0, 0, 0⟩ : Tup))) with h148 | h148
   ·have q149 := of_decide_eq_true h148
    rcases Bool.eq_false_or_eq_true ((((a109.length : Nat) : Int) : Int) == 2) with h150 | h150
    ·have q151 := eq_of_beq h150
     rcases Bool.eq_false_or_eq_true ((((b110.length : Nat) : Int) : Int) == 2) with h152 | h152
     ·have q153 := eq_of_beq h152
      obtain ⟨ad154, hA155, hb158, hc157, hc156⟩ := ow130.get (0) (by omega) (by omega) (sz := 1) rfl
      refine At.rd f133 35 [[], [], [], [.as_ (.bool true)], [], [.ad ad136], [.ld (.bool ((gT l85 0).top)), .ld (.int .i64 ((gT l85 0).c0)), .ld (.int .i64 ((gT l85 0).c1)), .ld (.int .i64 ((gT l85 0).c2)), .ld (.int .i64 ((gT l85 0).c3))], [], [], [.as_ (.bool (decide ((gT l85 0) = (⟨false, 1, 0, 0, 0⟩ : Tup))))], [], [.as_ (.bool true)], [], [.ad ad143], [.ld (.bool ((gT l85 1).top)), .ld (.int .i64 ((gT l85 1).c0)), .ld (.int .i64 ((gT l85 1).c1)), .ld (.int .i64 ((gT l85 1).c2)), .ld (.int .i64 ((gT l85 1).c3))], [], [.as_ (.bool (decide ((gT l85 1) = (⟨false, 0, 0, 0, 0⟩ : Tup))))], [], [.as_ (.bool true)], [], [], [], [], [.as_ (.bool true)], [], [], [], [], [.as_ (.bool true)], [], [.ad ad154], [.ld (.int .i64 (gI b110 0))], [], [], []] [(0, .bool ((gI b110 0 : Int) == 1)), (52, .bool ((gI b110 0 : Int) == 1)), (51, .bool ((gI b110 0 : Int) == 1)), (50, .int .i64 (gI b110 0)), (49, .pointer (some (ad154.add ((0 : Int).toNat * 1)))), (48, .slice A107 b110.length c108), (47, .bool true), (46, .bool ((((b110.length : Nat) : Int) : Int) == 2)), (45, .bool ((((b110.length : Nat) : Int) : Int) == 2)), (44, .int .i64 (((b110.length : Nat) : Int))), (43, .slice A107 b110.length c108), (42, .bool true), (41, .bool ((((a109.length : Nat) : Int) : Int) == 2)), (40, .bool ((((a109.length : Nat) : Int) : Int) == 2)), (39, .int .i64 (((a109.length : Nat) : Int))), (38, .slice A105 a109.length c106), (37, .bool true), (36, .bool (decide ((gT l85 1) = (⟨false, 0, 0, 0, 0⟩ : Tup)))), (35, .bool (decide ((gT l85 1) = (⟨false, 0, 0, 0, 0⟩ : Tup)))), (34, .agg #[.bool false, .int .i64 (0), .int .i64 (0), .int .i64 (0), .int .i64 (0)]), (33, tupV (gT l85 1)), (32, .pointer (some (ad143.add ((1 : Int).toNat * 5)))), (31, .slice A83 l85.length c84), (30, .bool true), (29, .bool (decide ((gT l85 0) = (⟨false, 1, 0, 0, 0⟩ : Tup)))), (28, .bool (decide ((gT l85 0) = (⟨false, 1, 0, 0, 0⟩ : Tup)))), (27, .agg #[.bool false, .int .i64 (1), .int .i64 (0), .int .i64 (0), .int .i64 (0)]), (26, .agg #[.int .i64 (1), .int .i64 (0), .int .i64 (0), .int .i64 (0)]), (25, tupV (gT l85 0)), (24, .pointer (some (ad136.add ((0 : Int).toNat * 5)))), (23, .slice A83 l85.length c84), (22, .bool true), (21, .bool ((((l85.length : Nat) : Int) : Int) == 2)), (20, .int .i64 (((l85.length : Nat) : Int))), (19, .slice A83 l85.length c84)] [((.bool ((((l85.length : Nat) : Int) : Int) == 2) : Value) = .bool true), (A83 = some ad136), (0 ≤ (0 : Int)), ((0 : Int) < (l85.length : Nat)), (w116.cell? (ad136.add ((0 : Int).toNat * 5)) = some (.bool ((gT l85 0).top))), (w116.cell? ((ad136.add ((0 : Int).toNat * 5)).add 1) = some (.int .i64 ((gT l85 0).c0))), (w116.cell? ((ad136.add ((0 : Int).toNat * 5)).add 2) = some (.int .i64 ((gT l85 0).c1))), (w116.cell? ((ad136.add ((0 : Int).toNat * 5)).add 3) = some (.int .i64 ((gT l85 0).c2))), (w116.cell? ((ad136.add ((0 : Int).toNat * 5)).add 4) = some (.int .i64 ((gT l85 0).c3))), ((.bool (((((gT l85 0).top) == false) && (((((gT l85 0).c0 : Int) == 1) && ((((gT l85 0).c1 : Int) == 0) && ((((gT l85 0).c2 : Int) == 0) && ((((gT l85 0).c3 : Int) == 0) && true)))) && true))) : Value) = .bool (decide ((gT l85 0) = (⟨false, 1, 0, 0, 0⟩ : Tup)))), ((.bool (decide ((gT l85 0) = (⟨false, 1, 0, 0, 0⟩ : Tup))) : Value) = .bool true), (A83 = some ad143), (0 ≤ (1 : Int)), ((1 : Int) < (l85.length : Nat)), (w116.cell? (ad143.add ((1 : Int).toNat * 5)) = some (.bool ((gT l85 1).top))), (w116.cell? ((ad143.add ((1 : Int).toNat * 5)).add 1) = some (.int .i64 ((gT l85 1).c0))), (w116.cell? ((ad143.add ((1 : Int).toNat * 5)).add 2) = some (.int .i64 ((gT l85 1).c1))), (w116.cell? ((ad143.add ((1 : Int).toNat * 5)).add 3) = some (.int .i64 ((gT l85 1).c2))), (w116.cell? ((ad143.add ((1 : Int).toNat * 5)).add 4) = some (.int .i64 ((gT l85 1).c3))), ((.bool (((((gT l85 1).top) == false) && (((((gT l85 1).c0 : Int) == 0) && ((((gT l85 1).c1 : Int) == 0) && ((((gT l85 1).c2 : Int) == 0) && ((((gT l85 1).c3 : Int) == 0) && true)))) && true))) : Value) = .bool (decide ((gT l85 1) = (⟨false, 0, 0, 0, 0⟩ : Tup)))), ((.bool (decide ((gT l85 1) = (⟨false, 0, 0, 0, 0⟩ : Tup))) : Value) = .bool true), ((.bool ((((a109.length : Nat) : Int) : Int) == 2) : Value) = .bool true), ((.bool ((((b110.length : Nat) : Int) : Int) == 2) : Value) = .bool true), (A107 = some ad154), (0 ≤ (0 : Int)), ((0 : Int) < (b110.length : Nat)), (w116.cell? (ad154.add ((0 : Int).toNat * 1)) = some (.int .i64 (gI b110 0)))] (by kernel_rfl) ⟨(congrArg Value.bool h134), hA137, (by omega), (by omega), hc139, (hc138 1 _ rfl), (hc138 2 _ rfl), (hc138 3 _ rfl), (hc138 4 _ rfl), (congrArg (fun b => Value.bool b) (tup_beq (gT l85 0) (⟨false, 1, 0, 0, 0⟩ : Tup))), (congrArg Value.bool h141), hA144, (by omega), (by omega), hc146, (hc145 1 _ rfl), (hc145 2 _ rfl), (hc145 3 _ rfl), (hc145 4 _ rfl), (congrArg (fun b => Value.bool b) (tup_beq (gT l85 1) (⟨false, 0, 0, 0, 0⟩ : Tup))), (congrArg Value.bool h148), (congrArg Value.bool h150), (congrArg Value.bool h152), hA155, (by omega), (by omega), hc157, trivial⟩ (fun act160 f159 => ?_)
      clear f133
      refine At.done rfl ?_
      refine t_n ?_
      have f161 := f159.sub (r := [(0, .bool ((gI b110 0 : Int) == 1))]) ⟨rfl, trivial⟩
      clear f159
      refine wp_ret ?_
      refine ret_ f161 [] [.bool ((gI b110 0 : Int) == 1)] [] (by kernel_rfl) trivial ?_
      exact ⟨ret_eq (congrArg Value.bool (by subst hqs; obtain ⟨rfl, rfl⟩ := hqe; decide)), e121⟩
     ·have q162 := ne_of_beq_false h152
      refine At.rd f133 35 [[], [], [], [.as_ (.bool true)], [], [.ad ad136], [.ld (.bool ((gT l85 0).top)), .ld (.int .i64 ((gT l85 0).c0)), .ld (.int .i64 ((gT l85 0).c1)), .ld (.int .i64 ((gT l85 0).c2)), .ld (.int .i64 ((gT l85 0).c3))], [], [], [.as_ (.bool (decide ((gT l85 0) = (⟨false, 1, 0, 0, 0⟩ : Tup))))], [], [.as_ (.bool true)], [], [.ad ad143], [.ld (.bool ((gT l85 1).top)), .ld (.int .i64 ((gT l85 1).c0)), .ld (.int .i64 ((gT l85 1).c1)), .ld (.int .i64 ((gT l85 1).c2)), .ld (.int .i64 ((gT l85 1).c3))], [], [.as_ (.bool (decide ((gT l85 1) = (⟨false, 0, 0, 0, 0⟩ : Tup))))], [], [.as_ (.bool true)], [], [], [], [], [.as_ (.bool true)], [], [], [], [], [.as_ (.bool false)], [], [], [], [], [], []] [(0, .bool false), (52, .bool false), (51, undef), (50, undef), (49, undef), (48, undef), (47, .bool false), (46, .bool ((((b110.length : Nat) : Int) : Int) == 2)), (45, .bool ((((b110.length : Nat) : Int) : Int) == 2)), (44, .int .i64 (((b110.length : Nat) : Int))), (43, .slice A107 b110.length c108), (42, .bool true), (41, .bool ((((a109.length : Nat) : Int) : Int) == 2)), (40, .bool ((((a109.length : Nat) : Int) : Int) == 2)), (39, .int .i64 (((a109.length : Nat) : Int))), (38, .slice A105 a109.length c106), (37, .bool true), (36, .bool (decide ((gT l85 1) = (⟨false, 0, 0, 0, 0⟩ : Tup)))), (35, .bool (decide ((gT l85 1) = (⟨false, 0, 0, 0, 0⟩ : Tup)))), (34, .agg #[.bool false, .int .i64 (0), .int .i64 (0), .int .i64 (0), .int .i64 (0)]), (33, tupV (gT l85 1)), (32, .pointer (some (ad143.add ((1 : Int).toNat * 5)))), (31, .slice A83 l85.length c84), (30, .bool true), (29, .bool (decide ((gT l85 0) = (⟨false, 1, 0, 0, 0⟩ : Tup)))), (28, .bool (decide ((gT l85 0) = (⟨false, 1, 0, 0, 0⟩ : Tup)))), (27, .agg #[.bool false, .int .i64 (1), .int .i64 (0), .int .i64 (0), .int .i64 (0)]), (26, .agg #[.int .i64 (1), .int .i64 (0), .int .i64 (0), .int .i64 (0)]), (25, tupV (gT l85 0)), (24, .pointer (some (ad136.add ((0 : Int).toNat * 5)))), (23, .slice A83 l85.length c84), (22, .bool true), (21, .bool ((((l85.length : Nat) : Int) : Int) == 2)), (20, .int .i64 (((l85.length : Nat) : Int))), (19, .slice A83 l85.length c84)] [((.bool ((((l85.length : Nat) : Int) : Int) == 2) : Value) = .bool true), (A83 = some ad136), (0 ≤ (0 : Int)), ((0 : Int) < (l85.length : Nat)), (w116.cell? (ad136.add ((0 : Int).toNat * 5)) = some (.bool ((gT l85 0).top))), (w116.cell? ((ad136.add ((0 : Int).toNat * 5)).add 1) = some (.int .i64 ((gT l85 0).c0))), (w116.cell? ((ad136.add ((0 : Int).toNat * 5)).add 2) = some (.int .i64 ((gT l85 0).c1))), (w116.cell? ((ad136.add ((0 : Int).toNat * 5)).add 3) = some (.int .i64 ((gT l85 0).c2))), (w116.cell? ((ad136.add ((0 : Int).toNat * 5)).add 4) = some (.int .i64 ((gT l85 0).c3))), ((.bool (((((gT l85 0).top) == false) && (((((gT l85 0).c0 : Int) == 1) && ((((gT l85 0).c1 : Int) == 0) && ((((gT l85 0).c2 : Int) == 0) && ((((gT l85 0).c3 : Int) == 0) && true)))) && true))) : Value) = .bool (decide ((gT l85 0) = (⟨false, 1, 0, 0, 0⟩ : Tup)))), ((.bool (decide ((gT l85 0) = (⟨false, 1, 0, 0, 0⟩ : Tup))) : Value) = .bool true), (A83 = some ad143), (0 ≤ (1 : Int)), ((1 : Int) < (l85.length : Nat)), (w116.cell? (ad143.add ((1 : Int).toNat * 5)) = some (.bool ((gT l85 1).top))), (w116.cell? ((ad143.add ((1 : Int).toNat * 5)).add 1) = some (.int .i64 ((gT l85 1).c0))), (w116.cell? ((ad143.add ((1 : Int).toNat * 5)).add 2) = some (.int .i64 ((gT l85 1).c1))), (w116.cell? ((ad143.add ((1 : Int).toNat * 5)).add 3) = some (.int .i64 ((gT l85 1).c2))), (w116.cell? ((ad143.add ((1 : Int).toNat * 5)).add 4) = some (.int .i64 ((gT l85 1).c3))), ((.bool (((((gT l85 1).top) == false) && (((((gT l85 1).c0 : Int) == 0) && ((((gT l85 1).c1 : Int) == 0) && ((((gT l85 1).c2 : Int) == 0) && ((((gT l85 1).c3 : Int) == 0) && true)))) && true))) : Value) = .bool (decide ((gT l85 1) = (⟨false, 0, 0, 0, 0⟩ : Tup)))), ((.bool (decide ((gT l85 1) = (⟨false, 0, 0, 0, 0⟩ : Tup))) : Value) = .bool true), ((.bool ((((a109.length : Nat) : Int) : Int) == 2) : Value) = .bool true), ((.bool ((((b110.length : Nat) : Int) : Int) == 2) : Value) = .bool false)] (by kernel_rfl) ⟨(congrArg Value.bool h134), hA137, (by omega), (by omega), hc139, (hc138 1 _ rfl), (hc138 2 _ rfl), (hc138 3 _ rfl), (hc138 4 _ rfl), (congrArg (fun b => Value.bool b) (tup_beq (gT l85 0) (⟨false, 1, 0, 0, 0⟩ : Tup))), (congrArg Value.bool h141), hA144, (by omega), (by omega), hc146, (hc145 1 _ rfl), (hc145 2 _ rfl), (hc145 3 _ rfl), (hc145 4 _ rfl), (congrArg (fun b => Value.bool b) (tup_beq (gT l85 1) (⟨false, 0, 0, 0, 0⟩ : Tup))), (congrArg Value.bool h148), (congrArg Value.bool h150), (congrArg Value.bool h152), trivial⟩ (fun act164 f163 => ?_)
      clear f133
      refine At.done rfl ?_
      refine t_n ?_
      have f165 := f163.sub (r := [(0, .bool false)]) ⟨rfl, trivial⟩
      clear f163
      refine wp_ret ?_
      refine ret_ f165 [] [.bool false] [] (by kernel_rfl) trivial ?_
      exact absurd h152 (by subst hqs; obtain ⟨rfl, rfl⟩ := hqe; decide)
    ·have q166 := ne_of_beq_false h150
     refine At.rd f133 35 [[], [], [], [.as_ (.bool true)], [], [.ad ad136], [.ld (.bool ((gT l85 0).top)), .ld (.int .i64 ((gT l85 0).c0)), .ld (.int .i64 ((gT l85 0).c1)), .ld (.int .i64 ((gT l85 0).c2)), .ld (.int .i64 ((gT l85 0).c3))], [], [], [.as_ (.bool (decide ((gT l85 0) = (⟨false, 1, 0, 0, 0⟩ : Tup))))], [], [.as_ (.bool true)], [], [.ad ad143], [.ld (.bool ((gT l85 1).top)), .ld (.int .i64 ((gT l85 1).c0)), .ld (.int .i64 ((gT l85 1).c1)), .ld (.int .i64 ((gT l85 1).c2)), .ld (.int .i64 ((gT l85 1).c3))], [], [.as_ (.bool (decide ((gT l85 1) = (⟨false, 0, 0, 0, 0⟩ : Tup))))], [], [.as_ (.bool true)], [], [], [], [], [.as_ (.bool false)], [], [], [], [], [], [], [], [], [], [], []] [(0, .bool false), (52, .bool false), (51, undef), (50, undef), (49, undef), (48, undef), (47, .bool false), (46, .bool false), (45, undef), (44, undef), (43, undef), (42, .bool false), (41, .bool ((((a109.length : Nat) : Int) : Int) == 2)), (40, .bool ((((a109.length : Nat) : Int) : Int) == 2)), (39, .int .i64 (((a109.length : Nat) : Int))), (38, .slice A105 a109.length c106), (37, .bool true), (36, .bool (decide ((gT l85 1) = (⟨false, 0, 0, 0, 0⟩ : Tup)))), (35, .bool (decide ((gT l85 1) = (⟨false, 0, 0, 0, 0⟩ : Tup)))), (34, .agg #[.bool false, .int .i64 (0), .int .i64 (0), .int .i64 (0), .int .i64 (0)]), (33, tupV (gT l85 1)), (32, .pointer (some (ad143.add ((1 : Int).toNat * 5)))), (31, .slice A83 l85.length c84), (30, .bool true), (29, .bool (decide ((gT l85 0) = (⟨false, 1, 0, 0, 0⟩ : Tup)))), (28, .bool (decide ((gT l85 0) = (⟨false, 1, 0, 0, 0⟩ : Tup)))), (27, .agg #[.bool false, .int .i64 (1), .int .i64 (0), .int .i64 (0), .int .i64 (0)]), (26, .agg #[.int .i64 (1), .int .i64 (0), .int .i64 (0), .int .i64 (0)]), (25, tupV (gT l85 0)), (24, .pointer (some (ad136.add ((0 : Int).toNat * 5)))), (23, .slice A83 l85.length c84), (22, .bool true), (21, .bool ((((l85.length : Nat) : Int) : Int) == 2)), (20, .int .i64 (((l85.length : Nat) : Int))), (19, .slice A83 l85.length c84)] [((.bool ((((l85.length : Nat) : Int) : Int) == 2) : Value) = .bool true), (A83 = some ad136), (0 ≤ (0 : Int)), ((0 : Int) < (l85.length : Nat)), (w116.cell? (ad136.add ((0 : Int).toNat * 5)) = some (.bool ((gT l85 0).top))), (w116.cell? ((ad136.add ((0 : Int).toNat * 5)).add 1) = some (.int .i64 ((gT l85 0).c0))), (w116.cell? ((ad136.add ((0 : Int).toNat * 5)).add 2) = some (.int .i64 ((gT l85 0).c1))), (w116.cell? ((ad136.add ((0 : Int).toNat * 5)).add 3) = some (.int .i64 ((gT l85 0).c2))), (w116.cell? ((ad136.add ((0 : Int).toNat * 5)).add 4) = some (.int .i64 ((gT l85 0).c3))), ((.bool (((((gT l85 0).top) == false) && (((((gT l85 0).c0 : Int) == 1) && ((((gT l85 0).c1 : Int) == 0) && ((((gT l85 0).c2 : Int) == 0) && ((((gT l85 0).c3 : Int) == 0) && true)))) && true))) : Value) = .bool (decide ((gT l85 0) = (⟨false, 1, 0, 0, 0⟩ : Tup)))), ((.bool (decide ((gT l85 0) = (⟨false, 1, 0, 0, 0⟩ : Tup))) : Value) = .bool true), (A83 = some ad143), (0 ≤ (1 : Int)), ((1 : Int) < (l85.length : Nat)), (w116.cell? (ad143.add ((1 : Int).toNat * 5)) = some (.bool ((gT l85 1).top))), (w116.cell? ((ad143.add ((1 : Int).toNat * 5)).add 1) = some (.int .i64 ((gT l85 1).c0))), (w116.cell? ((ad143.add ((1 : Int).toNat * 5)).add 2) = some (.int .i64 ((gT l85 1).c1))), (w116.cell? ((ad143.add ((1 : Int).toNat * 5)).add 3) = some (.int .i64 ((gT l85 1).c2))), (w116.cell? ((ad143.add ((1 : Int).toNat * 5)).add 4) = some (.int .i64 ((gT l85 1).c3))), ((.bool (((((gT l85 1).top) == false) && (((((gT l85 1).c0 : Int) == 0) && ((((gT l85 1).c1 : Int) == 0) && ((((gT l85 1).c2 : Int) == 0) && ((((gT l85 1).c3 : Int) == 0) && true)))) && true))) : Value) = .bool (decide ((gT l85 1) = (⟨false, 0, 0, 0, 0⟩ : Tup)))), ((.bool (decide ((gT l85 1) = (⟨false, 0, 0, 0, 0⟩ : Tup))) : Value) = .bool true), ((.bool ((((a109.length : Nat) : Int) : Int) == 2) : Value) = .bool false)] (by kernel_rfl) ⟨(congrArg Value.bool h134), hA137, (by omega), (by omega), hc139, (hc138 1 _ rfl), (hc138 2 _ rfl), (hc138 3 _ rfl), (hc138 4 _ rfl), (congrArg (fun b => Value.bool b) (tup_beq (gT l85 0) (⟨false, 1, 0, 0, 0⟩ : Tup))), (congrArg Value.bool h141), hA144, (by omega), (by omega), hc146, (hc145 1 _ rfl), (hc145 2 _ rfl), (hc145 3 _ rfl), (hc145 4 _ rfl), (congrArg (fun b => Value.bool b) (tup_beq (gT l85 1) (⟨false, 0, 0, 0, 0⟩ : Tup))), (congrArg Value.bool h148), (congrArg Value.bool h150), trivial⟩ (fun act168 f167 => ?_)
     clear f133
     refine At.done rfl ?_
     refine t_n ?_
     have f169 := f167.sub (r := [(0, .bool false)]) ⟨rfl, trivial⟩
     clear f167
     refine wp_ret ?_
     refine ret_ f169 [] [.bool false] [] (by kernel_rfl) trivial ?_
     exact absurd h150 (by subst hqs; obtain ⟨rfl, rfl⟩ := hqe; decide)
   ·have q170 := of_decide_eq_false h148
    refine At.rd f133 35 [[], [], [], [.as_ (.bool true)], [], [.ad ad136], [.ld (.bool ((gT l85 0).top)), .ld (.int .i64 ((gT l85 0).c0)), .ld (.int .i64 ((gT l85 0).c1)), .ld (.int .i64 ((gT l85 0).c2)), .ld (.int .i64 ((gT l85 0).c3))], [], [], [.as_ (.bool (decide ((gT l85 0) = (⟨false, 1, 0, 0, 0⟩ : Tup))))], [], [.as_ (.bool true)], [], [.ad ad143], [.ld (.bool ((gT l85 1).top)), .ld (.int .i64 ((gT l85 1).c0)), .ld (.int .i64 ((gT l85 1).c1)), .ld (.int .i64 ((gT l85 1).c2)), .ld (.int .i64 ((gT l85 1).c3))], [], [.as_ (.bool (decide ((gT l85 1) = (⟨false, 0, 0, 0, 0⟩ : Tup))))], [], [.as_ (.bool false)], [], [], [], [], [], [], [], [], [], [], [], [], [], [], [], []] [(0, .bool false), (52, .bool false), (51, undef), (50, undef), (49, undef), (48, undef), (47, .bool false), (46, .bool false), (45, undef), (44, undef), (43, undef), (42, .bool false), (41, .bool false), (40, undef), (39, undef), (38, undef), (37, .bool false), (36, .bool (decide ((gT l85 1) = (⟨false, 0, 0, 0, 0⟩ : Tup)))), (35, .bool (decide ((gT l85 1) = (⟨false, 0, 0, 0, 0⟩ : Tup)))), (34, .agg #[.bool false, .int .i64 (0), .int .i64 (0), .int .i64 (0), .int .i64 (0)]), (33, tupV (gT l85 1)), (32, .pointer (some (ad143.add ((1 : Int).toNat * 5)))), (31, .slice A83 l85.length c84), (30, .bool true), (29, .bool (decide ((gT l85 0) = (⟨false, 1, 0, 0, 0⟩ : Tup)))), (28, .bool (decide ((gT l85 0) = (⟨false, 1, 0, 0, 0⟩ : Tup)))), (27, .agg #[.bool false, .int .i64 (1), .int .i64 (0), .int .i64 (0), .int .i64 (0)]), (26, .agg #[.int .i64 (1), .int .i64 (0), .int .i64 (0), .int .i64 (0)]), (25, tupV (gT l85 0)), (24, .pointer (some (ad136.add ((0 : Int).toNat * 5)))), (23, .slice A83 l85.length c84), (22, .bool true), (21, .bool ((((l85.length : Nat) : Int) : Int) == 2)), (20, .int .i64 (((l85.length : Nat) : Int))), (19, .slice A83 l85.length c84)] [((.bool ((((l85.length : Nat) : Int) : Int) == 2) : Value) = .bool true), (A83 = some ad136), (0 ≤ (0 : Int)), ((0 : Int) < (l85.length : Nat)), (w116.cell? (ad136.add ((0 : Int).toNat * 5)) = some (.bool ((gT l85 0).top))), (w116.cell? ((ad136.add ((0 : Int).toNat * 5)).add 1) = some (.int .i64 ((gT l85 0).c0))), (w116.cell? ((ad136.add ((0 : Int).toNat * 5)).add 2) = some (.int .i64 ((gT l85 0).c1))), (w116.cell? ((ad136.add ((0 : Int).toNat * 5)).add 3) = some (.int .i64 ((gT l85 0).c2))), (w116.cell? ((ad136.add ((0 : Int).toNat * 5)).add 4) = some (.int .i64 ((gT l85 0).c3))), ((.bool (((((gT l85 0).top) == false) && (((((gT l85 0).c0 : Int) == 1) && ((((gT l85 0).c1 : Int) == 0) && ((((gT l85 0).c2 : Int) == 0) && ((((gT l85 0).c3 : Int) == 0) && true)))) && true))) : Value) = .bool (decide ((gT l85 0) = (⟨false, 1, 0, 0, 0⟩ : Tup)))), ((.bool (decide ((gT l85 0) = (⟨false, 1, 0, 0, 0⟩ : Tup))) : Value) = .bool true), (A83 = some ad143), (0 ≤ (1 : Int)), ((1 : Int) < (l85.length : Nat)), (w116.cell? (ad143.add ((1 : Int).toNat * 5)) = some (.bool ((gT l85 1).top))), (w116.cell? ((ad143.add ((1 : Int).toNat * 5)).add 1) = some (.int .i64 ((gT l85 1).c0))), (w116.cell? ((ad143.add ((1 : Int).toNat * 5)).add 2) = some (.int .i64 ((gT l85 1).c1))), (w116.cell? ((ad143.add ((1 : Int).toNat * 5)).add 3) = some (.int .i64 ((gT l85 1).c2))), (w116.cell? ((ad143.add ((1 : Int).toNat * 5)).add 4) = some (.int .i64 ((gT l85 1).c3))), ((.bool (((((gT l85 1).top) == false) && (((((gT l85 1).c0 : Int) == 0) && ((((gT l85 1).c1 : Int) == 0) && ((((gT l85 1).c2 : Int) == 0) && ((((gT l85 1).c3 : Int) == 0) && true)))) && true))) : Value) = .bool (decide ((gT l85 1) = (⟨false, 0, 0, 0, 0⟩ : Tup)))), ((.bool (decide ((gT l85 1) = (⟨false, 0, 0, 0, 0⟩ : Tup))) : Value) = .bool false)] (by kernel_rfl) ⟨(congrArg Value.bool h134), hA137, (by omega), (by omega), hc139, (hc138 1 _ rfl), (hc138 2 _ rfl), (hc138 3 _ rfl), (hc138 4 _ rfl), (congrArg (fun b => Value.bool b) (tup_beq (gT l85 0) (⟨false, 1, 0, 0, 0⟩ : Tup))), (congrArg Value.bool h141), hA144, (by omega), (by omega), hc146, (hc145 1 _ rfl), (hc145 2 _ rfl), (hc145 3 _ rfl), (hc145 4 _ rfl), (congrArg (fun b => Value.bool b) (tup_beq (gT l85 1) (⟨false, 0, 0, 0, 0⟩ : Tup))), (congrArg Value.bool h148), trivial⟩ (fun act172 f171 => ?_)
    clear f133
    refine At.done rfl ?_
    refine t_n ?_
    have f173 := f171.sub (r := [(0, .bool false)]) ⟨rfl, trivial⟩
    clear f171
    refine wp_ret ?_
    refine ret_ f173 [] [.bool false] [] (by kernel_rfl) trivial ?_
    exact absurd h148 (by subst hqs; obtain ⟨rfl, rfl⟩ := hqe; decide)
  ·have q174 := of_decide_eq_false h141
   refine At.rd f133 35 [[], [], [], [.as_ (.bool true)], [], [.ad ad136], [.ld (.bool ((gT l85 0).top)), .ld (.int .i64 ((gT l85 0).c0)), .ld (.int .i64 ((gT l85 0).c1)), .ld (.int .i64 ((gT l85 0).c2)), .ld (.int .i64 ((gT l85 0).c3))], [], [], [.as_ (.bool (decide ((gT l85 0) = (⟨false, 1, 0, 0, 0⟩ : Tup))))], [], [.as_ (.bool false)], [], [], [], [], [], [], [], [], [], [], [], [], [], [], [], [], [], [], [], [], [], [], []] [(0, .bool false), (52, .bool false), (51, undef), (50, undef), (49, undef), (48, undef), (47, .bool false), (46, .bool false), (45, undef), (44, undef), (43, undef), (42, .bool false), (41, .bool false), (40, undef), (39, undef), (38, undef), (37, .bool false), (36, .bool false), (35, undef), (34, undef), (33, undef), (32, undef), (31, undef), (30, .bool false), (29, .bool (decide ((gT l85 0) = (⟨false, 1, 0, 0, 0⟩ : Tup)))), (28, .bool (decide ((gT l85 0) = (⟨false, 1, 0, 0, 0⟩ : Tup)))), (27, .agg #[.bool false, .int .i64 (1), .int .i64 (0), .int .i64 (0), .int .i64 (0)]), (26, .agg #[.int .i64 (1), .int .i64 (0), .int .i64 (0), .int .i64 (0)]), (25, tupV (gT l85 0)), (24, .pointer (some (ad136.add ((0 : Int).toNat * 5)))), (23, .slice A83 l85.length c84), (22, .bool true), (21, .bool ((((l85.length : Nat) : Int) : Int) == 2)), (20, .int .i64 (((l85.length : Nat) : Int))), (19, .slice A83 l85.length c84)] [((.bool ((((l85.length : Nat) : Int) : Int) == 2) : Value) = .bool true), (A83 = some ad136), (0 ≤ (0 : Int)), ((0 : Int) < (l85.length : Nat)), (w116.cell? (ad136.add ((0 : Int).toNat * 5)) = some (.bool ((gT l85 0).top))), (w116.cell? ((ad136.add ((0 : Int).toNat * 5)).add 1) = some (.int .i64 ((gT l85 0).c0))), (w116.cell? ((ad136.add ((0 : Int).toNat * 5)).add 2) = some (.int .i64 ((gT l85 0).c1))), (w116.cell? ((ad136.add ((0 : Int).toNat * 5)).add 3) = some (.int .i64 ((gT l85 0).c2))), (w116.cell? ((ad136.add ((0 : Int).toNat * 5)).add 4) = some (.int .i64 ((gT l85 0).c3))), ((.bool (((((gT l85 0).top) == false) && (((((gT l85 0).c0 : Int) == 1) && ((((gT l85 0).c1 : Int) == 0) && ((((gT l85 0).c2 : Int) == 0) && ((((gT l85 0).c3 : Int) == 0) && true)))) && true))) : Value) = .bool (decide ((gT l85 0) = (⟨false, 1, 0, 0, 0⟩ : Tup)))), ((.bool (decide ((gT l85 0) = (⟨false, 1, 0, 0, 0⟩ : Tup))) : Value) = .bool false)] (by kernel_rfl) ⟨(congrArg Value.bool h134), hA137, (by omega), (by omega), hc139, (hc138 1 _ rfl), (hc138 2 _ rfl), (hc138 3 _ rfl), (hc138 4 _ rfl), (congrArg (fun b => Value.bool b) (tup_beq (gT l85 0) (⟨false, 1, 0, 0, 0⟩ : Tup))), (congrArg Value.bool h141), trivial⟩ (fun act176 f175 => ?_)
   clear f133
   refine At.done rfl ?_
   refine t_n ?_
   have f177 := f175.sub (r := [(0, .bool false)]) ⟨rfl, trivial⟩
   clear f175
   refine wp_ret ?_
   refine ret_ f177 [] [.bool false] [] (by kernel_rfl) trivial ?_
   exact absurd h141 (by subst hqs; obtain ⟨rfl, rfl⟩ := hqe; decide)
 ·have q178 := ne_of_beq_false h134
  refine At.rd f133 35 [[], [], [], [.as_ (.bool false)], [], [], [], [], [], [], [], [], [], [], [], [], [], [], [], [], [], [], [], [], [], [], [], [], [], [], [], [], [], [], []] [(0, .bool false), (52, .bool false), (51, undef), (50, undef), (49, undef), (48, undef), (47, .bool false), (46, .bool false), (45, undef), (44, undef), (43, undef), (42, .bool false), (41, .bool false), (40, undef), (39, undef), (38, undef), (37, .bool false), (36, .bool false), (35, undef), (34, undef), (33, undef), (32, undef), (31, undef), (30, .bool false), (29, .bool false), (28, undef), (27, undef), (26, undef), (25, undef), (24, undef), (23, undef), (22, .bool false), (21, .bool ((((l85.length : Nat) : Int) : Int) == 2)), (20, .int .i64 (((l85.length : Nat) : Int))), (19, .slice A83 l85.length c84)] [((.bool ((((l85.length : Nat) : Int) : Int) == 2) : Value) = .bool false)] (by kernel_rfl) ⟨(congrArg Value.bool h134), trivial⟩ (fun act180 f179 => ?_)
  clear f133
  refine At.done rfl ?_
  refine t_n ?_
  have f181 := f179.sub (r := [(0, .bool false)]) ⟨rfl, trivial⟩
  clear f179
  refine wp_ret ?_
  refine ret_ f181 [] [.bool false] [] (by kernel_rfl) trivial ?_
  exact absurd h134 (by subst hqs; obtain ⟨rfl, rfl⟩ := hqe; decide)

end Go.Proofs.Ytklbpajmoklheaa
