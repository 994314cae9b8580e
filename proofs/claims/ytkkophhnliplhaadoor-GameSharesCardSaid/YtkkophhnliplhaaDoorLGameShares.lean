/-
  A walk of a Go function, printed by a program of this repo. Conditions: what the theorems name.
-/
import Derived.Test.YtkkophhnliplhaaDoorWShown09
import Derived.Test.YtkkophhnliplhaaDoorPureGameB
set_option linter.unusedVariables false
set_option linter.unusedSimpArgs false
namespace Go.Proofs.YtkkophhnliplhaaDoor
open Go Go.RowKit

attribute [local irreducible] ofZ fromW wordsD ofD ofW lsD lenW lenN fullW withW lessW hasW hasD inW inD leastD putD onI tzI orS andS minusS orD andD minusD fullD emptyD
set_option maxHeartbeats 4000000 in
theorem shares09_any {Ag0 Ag1 Ag2 : Option Addr} {cg0 cg1 cg2 : Nat} {g : GameL} {w : World} (rg : RdG w 0 w.heap.size Ag0 Ag1 Ag2 cg0 cg1 cg2 g) (rT : RdT w 0 w.heap.size) :
    Calls Tryd.prog 10 #[.agg #[.slice Ag0 g.ow.length cg0, .slice Ag1 g.pr.length cg1, .slice Ag2 g.mv.length cg2]] w fun e w' => e = .returned (.bool true) ∧ Ext w w' := by
 have hlg0 := rg.ow.len
 have hlg1 := rg.pr.len
 have hlg2 := rg.mv.len
 have hkg0 := rg.k0
 have hkg1 := rg.k1
 have hkg2 := rg.k2
 refine enter_ (args := [.agg #[.slice Ag0 g.ow.length cg0, .slice Ag1 g.pr.length cg1, .slice Ag2 g.mv.length cg2]]) Tryd.func10 rfl Tryd.ntmps10 (Nat.le_of_ble_eq_true rfl) (fun act0 f0 => ?_)
 have e0 := Ext.refl w
 refine wp_seq ?_
 refine At.start ?_
 refine At.seq f0 1 [[]] [(1, .pointer (some ⟨w.heap.size, 0, none⟩))] (w.alloc (.cells #[.slice Ag0 g.ow.length cg0, .slice Ag1 g.pr.length cg1, .slice Ag2 g.mv.length cg2] 25 (0, 0))) [] (by kernel_rfl) trivial (fun act4 w1 hw2 f3 => ?_)
 clear f0
 have g5 := gr_alloc hw2
 have szw1 := g5.size
 replace e0 := e0.gr g5 no_row
 have r8 := rg.gr g5 (fun _ h => by cases h)
 clear rg
 have r9 := rT.gr g5 (fun _ h => by cases h)
 clear rT
 have bx10 : Bx w1 (w.heap.size) [.slice Ag0 g.ow.length cg0, .slice Ag1 g.pr.length cg1, .slice Ag2 g.mv.length cg2] 25 := Bx.new hw2
 have := bx10.lt
 clear g5 hw2
 refine At.rd f3 1 [[]] [(2, .bool false)] [] (by kernel_rfl) trivial (fun act12 f11 => ?_)
 clear f3
 refine At.done rfl ?_
 refine t_n ?_
 refine wp_seq ?_
 refine At.start ?_
 refine At.call f11 12 #[] (some 13) (by kernel_rfl) (shown09_any (r9.wide (Nat.zero_le _) (by omega))) ?_
 rintro e_ w13 ⟨rfl, he⟩
 refine ⟨_, rfl, _, rfl, fun act14 f15 => ?_⟩
 clear f11
 have g16 := gr_ext he
 have szw13 := g16.size
 replace e0 := e0.gr g16 no_row
 replace r8 := r8.gr g16 (fun _ h => by cases h)
 replace r9 := r9.gr g16 (fun _ h => by cases h)
 replace bx10 := bx10.gr g16 (by simp)
 clear g16 he
 refine At.rd f15 1 [[]] [(3, .bool true)] [] (by kernel_rfl) trivial (fun act22 f21 => ?_)
 clear f15
 refine At.done rfl ?_
 refine t_n ?_
 refine wp_seq ?_
 refine At.start ?_
 refine At.rd f21 1 [[.ld (.slice Ag0 g.ow.length cg0), .ld (.slice Ag1 g.pr.length cg1), .ld (.slice Ag2 g.mv.length cg2)]] [(15, .agg #[.slice Ag0 g.ow.length cg0, .slice Ag1 g.pr.length cg1, .slice Ag2 g.mv.length cg2])] [(w13.cell? ⟨w.heap.size, 0, none⟩ = some (.slice Ag0 g.ow.length cg0)), (w13.cell? ⟨w.heap.size, 1, none⟩ = some (.slice Ag1 g.pr.length cg1)), (w13.cell? ⟨w.heap.size, 2, none⟩ = some (.slice Ag2 g.mv.length cg2))] (by kernel_rfl) ⟨(bx10.cell (i := 0) rfl), (bx10.cell (i := 1) rfl), (bx10.cell (i := 2) rfl), trivial⟩ (fun act24 f23 => ?_)
 clear f21
 refine At.call f23 14 #[.agg #[.slice Ag0 g.ow.length cg0, .slice Ag1 g.pr.length cg1, .slice Ag2 g.mv.length cg2]] (some 16) (by kernel_rfl) (right_any (r8.wide (Nat.zero_le _) (by omega))) ?_
 rintro e_ w25 ⟨rfl, he⟩
 refine ⟨_, rfl, _, rfl, fun act26 f27 => ?_⟩
 clear f23
 have g28 := gr_ext he
 have szw25 := g28.size
 replace e0 := e0.gr g28 no_row
 replace r8 := r8.gr g28 (fun _ h => by cases h)
 replace r9 := r9.gr g28 (fun _ h => by cases h)
 replace bx10 := bx10.gr g28 (by simp)
 clear g28 he
 refine At.rd f27 5 [[], [], [], [], []] [(5, .int .i64 ((rightP g).2)), (4, .int .i64 ((rightP g).1)), (18, .int .i64 ((rightP g).2)), (17, .int .i64 ((rightP g).1)), (14, .tuple #[.int .i64 ((rightP g).1), .int .i64 ((rightP g).2)])] [] (by kernel_rfl) trivial (fun act34 f33 => ?_)
 clear f27
 refine At.done rfl ?_
 refine t_n ?_
 refine wp_seq ?_
 refine wp_seq ?_
 refine At.start ?_
 refine At.rd f33 6 [[], [], [], [], [], []] [(24, .bool (((rightP g).2 : Int) != 0)), (23, .bool (((rightP g).2 : Int) != 0)), (22, .int .i64 ((rightP g).2)), (21, .bool false), (20, .bool false), (19, .bool true)] [] (by kernel_rfl) trivial (fun act36 f35 => ?_)
 clear f33
 refine At.done rfl ?_
 refine t_n ?_
 refine cond_S f35 (t := ((rightP g).2 : Int) != 0) rfl (fun h37 => ?_) (fun h37 => ?_)
 ·have q38 := bne_iff_ne.1 h37
  refine wp_seq ?_
  refine At.start ?_
  refine At.rd f35 2 [[], []] [(2, .bool true), (25, .bool true)] [] (by kernel_rfl) trivial (fun act40 f39 => ?_)
  clear f35
  refine At.done rfl ?_
  refine t_n ?_
  have f41 := f39.sub (r := [(2, .bool true)]) ⟨rfl, trivial⟩
  clear f39
  refine wp_ret ?_
  refine t_r ?_
  refine ret_ f41 [] [.bool true] [] (by kernel_rfl) trivial ?_
  exact ⟨rfl, e0⟩
 ·have q42 := bne_eq_false_iff_eq.1 h37
  refine wp_skip ?_
  refine t_n ?_
  refine wp_seq ?_
  have hR : isR g = true := right_of2 (by omega)
  have hG := isR_ok hR
  have hn1 := hG.n1
  have hpl := hG.pl
  have hml := hG.ml
  refine At.start ?_
  refine At.rd f35 1 [[.ld (.slice Ag0 g.ow.length cg0), .ld (.slice Ag1 g.pr.length cg1), .ld (.slice Ag2 g.mv.length cg2)]] [(26, .agg #[.slice Ag0 g.ow.length cg0, .slice Ag1 g.pr.length cg1, .slice Ag2 g.mv.length cg2])] [(w25.cell? ⟨w.heap.size, 0, none⟩ = some (.slice Ag0 g.ow.length cg0)), (w25.cell? ⟨w.heap.size, 1, none⟩ = some (.slice Ag1 g.pr.length cg1)), (w25.cell? ⟨w.heap.size, 2, none⟩ = some (.slice Ag2 g.mv.length cg2))] (by kernel_rfl) ⟨(bx10.cell (i := 0) rfl), (bx10.cell (i := 1) rfl), (bx10.cell (i := 2) rfl), trivial⟩ (fun act44 f43 => ?_)
  clear f35
  refine At.call f43 27 #[.agg #[.slice Ag0 g.ow.length cg0, .slice Ag1 g.pr.length cg1, .slice Ag2 g.mv.length cg2], .int .i64 (0)] (some 27) (by kernel_rfl) (ownG_any (g := g) (p := 0) (r8.wide (Nat.zero_le _) (by omega))) ?_
  rintro e_ w45 ⟨rfl, he⟩
  refine ⟨_, rfl, _, rfl, fun act46 f47 => ?_⟩
  clear f43
  have g48 := gr_ext he
  have szw45 := g48.size
  replace e0 := e0.gr g48 no_row
  replace r8 := r8.gr g48 (fun _ h => by cases h)
  replace r9 := r9.gr g48 (fun _ h => by cases h)
  replace bx10 := bx10.gr g48 (by simp)
  clear g48 he
  refine At.seq f47 1 [[]] [(6, .pointer (some ⟨w45.heap.size, 0, none⟩))] (w45.alloc (.cells ((List.replicate 4 (0 : Int) : List Int).map wV).toArray 47 (0, 0))) [] (by kernel_rfl) trivial (fun act56 w53 hw54 f55 => ?_)
  clear f47
  have g57 := gr_alloc hw54
  have szw53 := g57.size
  replace e0 := e0.gr g57 no_row
  replace r8 := r8.gr g57 (fun _ h => by cases h)
  replace r9 := r9.gr g57 (fun _ h => by cases h)
  replace bx10 := bx10.gr g57 (by simp)
  have bx63 : Bx w53 (w45.heap.size) ((List.replicate 4 (0 : Int) : List Int).map wV) 47 := Bx.new hw54
  have := bx63.lt
  clear g57 hw54
  refine At.act f55 (storeBlk (t := 47) (b := w45.heap.size) (n := 4) (cs' := ((wordsD (amoD g.ow 0) : List Int).map wV)) (by kernel_rfl) (by kernel_rfl) ((List.length_map _).trans (okLen (wordsD_W _))) oneW_ ((show ((wordsD (amoD g.ow 0) : List Int).map wV).length = 4 from ((List.length_map _).trans (okLen (wordsD_W _)))).trans (show ((List.replicate 4 (0 : Int) : List Int).map wV).length = 4 from (by simp only [List.length_map, List.length_set, List.length_replicate, List.length_cons, List.length_nil]; first | done | assumption | exact from_len _ | exact of_len _ | exact ofZ_len _ | exact (ofW_ok _).1 | exact (fullW_W _).1 | exact (okW_with (by assumption)).1 | exact (okW_less (by assumption)).1 | exact put_len (from_len _) | exact orD_len _ _ | exact andD_len _ _ | exact minusD_len _ _ | exact fullD_len _ | (refine okLen ?_; (repeat (first | assumption | exact ofW_ok _ | exact fullW_W _ | apply okW_with | apply okW_less | refine okW_orS ?_ ?_ | refine okW_andS ?_ ?_ | refine okW_minusS ?_ ?_)); done) | omega | rfl)).symm) bx63) ?_
  rintro d_ v_ w65 ⟨rfl, g66, bx67⟩
  refine ⟨_, rfl, fun act69 f68 => ?_⟩
  clear f55
  have szw65 := g66.size
  replace e0 := e0.gr g66 (fun k h => by injection h; omega)
  replace r8 := r8.gr g66 (fun k h => by injection h; omega)
  replace r9 := r9.gr g66 (fun k h => by injection h; omega)
  replace bx10 := bx10.gr g66 (fun h => by injection h; omega)
  clear bx63 g66
  refine At.done rfl ?_
  refine t_n ?_
  have f74 := f68.sub (r := [(6, .pointer (some ⟨w45.heap.size, 0, none⟩)), (4, .int .i64 ((rightP g).1)), (2, .bool false), (1, .pointer (some ⟨w.heap.size, 0, none⟩))]) ⟨rfl, rfl, rfl, rfl, trivial⟩
  clear f68
  refine wp_seq ?_
  refine At.start ?_
  refine At.rd f74 1 [[.ld (.slice Ag0 g.ow.length cg0), .ld (.slice Ag1 g.pr.length cg1), .ld (.slice Ag2 g.mv.length cg2)]] [(28, .agg #[.slice Ag0 g.ow.length cg0, .slice Ag1 g.pr.length cg1, .slice Ag2 g.mv.length cg2])] [(w65.cell? ⟨w.heap.size, 0, none⟩ = some (.slice Ag0 g.ow.length cg0)), (w65.cell? ⟨w.heap.size, 1, none⟩ = some (.slice Ag1 g.pr.length cg1)), (w65.cell? ⟨w.heap.size, 2, none⟩ = some (.slice Ag2 g.mv.length cg2))] (by kernel_rfl) ⟨(bx10.cell (i := 0) rfl), (bx10.cell (i := 1) rfl), (bx10.cell (i := 2) rfl), trivial⟩ (fun act76 f75 => ?_)
  clear f74
  refine At.call f75 27 #[.agg #[.slice Ag0 g.ow.length cg0, .slice Ag1 g.pr.length cg1, .slice Ag2 g.mv.length cg2], .int .i64 (1)] (some 29) (by kernel_rfl) (ownG_any (g := g) (p := 1) (r8.wide (Nat.zero_le _) (by omega))) ?_
  rintro e_ w77 ⟨rfl, he⟩
  refine ⟨_, rfl, _, rfl, fun act78 f79 => ?_⟩
  clear f75
  have g80 := gr_ext he
  have szw77 := g80.size
  replace e0 := e0.gr g80 no_row
  replace r8 := r8.gr g80 (fun _ h => by cases h)
  replace r9 := r9.gr g80 (fun _ h => by cases h)
  replace bx10 := bx10.gr g80 (by simp)
  replace bx67 := bx67.gr g80 (by simp)
  clear g80 he
  refine At.seq f79 1 [[]] [(7, .pointer (some ⟨w77.heap.size, 0, none⟩))] (w77.alloc (.cells ((List.replicate 4 (0 : Int) : List Int).map wV).toArray 47 (0, 0))) [] (by kernel_rfl) trivial (fun act89 w86 hw87 f88 => ?_)
  clear f79
  have g90 := gr_alloc hw87
  have szw86 := g90.size
  replace e0 := e0.gr g90 no_row
  replace r8 := r8.gr g90 (fun _ h => by cases h)
  replace r9 := r9.gr g90 (fun _ h => by cases h)
  replace bx10 := bx10.gr g90 (by simp)
  replace bx67 := bx67.gr g90 (by simp)
  have bx97 : Bx w86 (w77.heap.size) ((List.replicate 4 (0 : Int) : List Int).map wV) 47 := Bx.new hw87
  have := bx97.lt
  clear g90 hw87
  refine At.act f88 (storeBlk (t := 47) (b := w77.heap.size) (n := 4) (cs' := ((wordsD (amoD g.ow 1) : List Int).map wV)) (by kernel_rfl) (by kernel_rfl) ((List.length_map _).trans (okLen (wordsD_W _))) oneW_ ((show ((wordsD (amoD g.ow 1) : List Int).map wV).length = 4 from ((List.length_map _).trans (okLen (wordsD_W _)))).trans (show ((List.replicate 4 (0 : Int) : List Int).map wV).length = 4 from (by simp only [List.length_map, List.length_set, List.length_replicate, List.length_cons, List.length_nil]; first | done | assumption | exact from_len _ | exact of_len _ | exact ofZ_len _ | exact (ofW_ok _).1 | exact (fullW_W _).1 | exact (okW_with (by assumption)).1 | exact (okW_less (by assumption)).1 | exact put_len (from_len _) | exact orD_len _ _ | exact andD_len _ _ | exact minusD_len _ _ | exact fullD_len _ | (refine okLen ?_; (repeat (first | assumption | exact ofW_ok _ | exact fullW_W _ | apply okW_with | apply okW_less | refine okW_orS ?_ ?_ | refine okW_andS ?_ ?_ | refine okW_minusS ?_ ?_)); done) | omega | rfl)).symm) bx97) ?_
  rintro d_ v_ w98 ⟨rfl, g99, bx100⟩
  refine ⟨_, rfl, fun act102 f101 => ?_⟩
  clear f88
  have szw98 := g99.size
  replace e0 := e0.gr g99 (fun k h => by injection h; omega)
  replace r8 := r8.gr g99 (fun k h => by injection h; omega)
  replace r9 := r9.gr g99 (fun k h => by injection h; omega)
  replace bx10 := bx10.gr g99 (fun h => by injection h; omega)
  replace bx67 := bx67.gr g99 (fun h => by injection h; omega)
  clear bx97 g99
  refine At.done rfl ?_
  refine t_n ?_
  refine wp_seq ?_
  refine At.start ?_
  refine At.rd f101 3 [[], [.ld (.slice Ag0 g.ow.length cg0)], []] [(32, .int .i64 (((g.ow.length : Nat) : Int))), (31, .slice Ag0 g.ow.length cg0), (30, .pointer (some ⟨w.heap.size, 0, none⟩))] [(w98.cell? ⟨w.heap.size, 0, none⟩ = some (.slice Ag0 g.ow.length cg0))] (by kernel_rfl) ⟨(bx10.cell (i := 0) rfl), trivial⟩ (fun act109 f108 => ?_)
  clear f101
  refine At.call f108 30 #[.int .i64 (((g.ow.length : Nat) : Int))] (some 33) (by kernel_rfl) (full_any (n := ((g.ow.length : Nat) : Int)) (by omega)) ?_
  rintro e_ w110 ⟨rfl, he⟩
  refine ⟨_, rfl, _, rfl, fun act111 f112 => ?_⟩
  clear f108
  have g113 := gr_ext he
  have szw110 := g113.size
  replace e0 := e0.gr g113 no_row
  replace r8 := r8.gr g113 (fun _ h => by cases h)
  replace r9 := r9.gr g113 (fun _ h => by cases h)
  replace bx10 := bx10.gr g113 (by simp)
  replace bx67 := bx67.gr g113 (by simp)
  replace bx100 := bx100.gr g113 (by simp)
  clear g113 he
  refine At.seq f112 1 [[]] [(8, .pointer (some ⟨w110.heap.size, 0, none⟩))] (w110.alloc (.cells ((List.replicate 4 (0 : Int) : List Int).map wV).toArray 47 (0, 0))) [] (by kernel_rfl) trivial (fun act123 w120 hw121 f122 => ?_)
  clear f112
  have g124 := gr_alloc hw121
  have szw120 := g124.size
  replace e0 := e0.gr g124 no_row
  replace r8 := r8.gr g124 (fun _ h => by cases h)
  replace r9 := r9.gr g124 (fun _ h => by cases h)
  replace bx10 := bx10.gr g124 (by simp)
  replace bx67 := bx67.gr g124 (by simp)
  replace bx100 := bx100.gr g124 (by simp)
  have bx132 : Bx w120 (w110.heap.size) ((List.replicate 4 (0 : Int) : List Int).map wV) 47 := Bx.new hw121
  have := bx132.lt
  clear g124 hw121
  refine At.act f122 (storeBlk (t := 47) (b := w110.heap.size) (n := 4) (cs' := ((fullW ((g.ow.length : Nat) : Int) : List Int).map wV)) (by kernel_rfl) (by kernel_rfl) ((List.length_map _).trans (okLen (fullW_W _))) oneW_ ((show ((fullW ((g.ow.length : Nat) : Int) : List Int).map wV).length = 4 from ((List.length_map _).trans (okLen (fullW_W _)))).trans (show ((List.replicate 4 (0 : Int) : List Int).map wV).length = 4 from (by simp only [List.length_map, List.length_set, List.length_replicate, List.length_cons, List.length_nil]; first | done | assumption | exact from_len _ | exact of_len _ | exact ofZ_len _ | exact (ofW_ok _).1 | exact (fullW_W _).1 | exact (okW_with (by assumption)).1 | exact (okW_less (by assumption)).1 | exact put_len (from_len _) | exact orD_len _ _ | exact andD_len _ _ | exact minusD_len _ _ | exact fullD_len _ | (refine okLen ?_; (repeat (first | assumption | exact ofW_ok _ | exact fullW_W _ | apply okW_with | apply okW_less | refine okW_orS ?_ ?_ | refine okW_andS ?_ ?_ | refine okW_minusS ?_ ?_)); done) | omega | rfl)).symm) bx132) ?_
  rintro d_ v_ w133 ⟨rfl, g134, bx135⟩
  refine ⟨_, rfl, fun act137 f136 => ?_⟩
  clear f122
  have szw133 := g134.size
  replace e0 := e0.gr g134 (fun k h => by injection h; omega)
  replace r8 := r8.gr g134 (fun k h => by injection h; omega)
  replace r9 := r9.gr g134 (fun k h => by injection h; omega)
  replace bx10 := bx10.gr g134 (fun h => by injection h; omega)
  replace bx67 := bx67.gr g134 (fun h => by injection h; omega)
  replace bx100 := bx100.gr g134 (fun h => by injection h; omega)
  clear bx132 g134
  refine At.done rfl ?_
  refine t_n ?_
  refine wp_seq ?_
  refine At.start ?_
  refine At.seq f136 1 [[]] [(9, .pointer (some ⟨w133.heap.size, 0, none⟩))] (w133.alloc (.cells ((List.replicate 4 (0 : Int) : List Int).map wV).toArray 47 (0, 0))) [] (by kernel_rfl) trivial (fun act147 w144 hw145 f146 => ?_)
  clear f136
  have g148 := gr_alloc hw145
  have szw144 := g148.size
  replace e0 := e0.gr g148 no_row
  replace r8 := r8.gr g148 (fun _ h => by cases h)
  replace r9 := r9.gr g148 (fun _ h => by cases h)
  replace bx10 := bx10.gr g148 (by simp)
  replace bx67 := bx67.gr g148 (by simp)
  replace bx100 := bx100.gr g148 (by simp)
  replace bx135 := bx135.gr g148 (by simp)
  have bx157 : Bx w144 (w133.heap.size) ((List.replicate 4 (0 : Int) : List Int).map wV) 47 := Bx.new hw145
  have := bx157.lt
  clear g148 hw145
  refine At.done rfl ?_
  refine t_n ?_
  refine wp_seq ?_
  refine wp_seq ?_
  refine At.start ?_
  refine At.rd f146 1 [[]] [(10, .int .i64 (0))] [] (by kernel_rfl) trivial (fun act159 f158 => ?_)
  clear f146
  refine At.done rfl ?_
  refine t_n ?_
  refine wp_block ?_
  have f160 := f158.sub (r := [(10, .int .i64 (0)), (9, .pointer (some ⟨w133.heap.size, 0, none⟩)), (8, .pointer (some ⟨w110.heap.size, 0, none⟩)), (7, .pointer (some ⟨w77.heap.size, 0, none⟩)), (6, .pointer (some ⟨w45.heap.size, 0, none⟩)), (4, .int .i64 ((rightP g).1)), (1, .pointer (some ⟨w.heap.size, 0, none⟩))]) ⟨rfl, rfl, rfl, rfl, rfl, rfl, rfl, trivial⟩
  refine loop_g (fun (m_ : Nat) a_ w_ => ∃ (p : Int) (sm : List Int), m_ = (8 - p).toNat ∧ (Frm 100 a_ [(10, .int .i64 (p)), (9, .pointer (some ⟨w133.heap.size, 0, none⟩)), (8, .pointer (some ⟨w110.heap.size, 0, none⟩)), (7, .pointer (some ⟨w77.heap.size, 0, none⟩)), (6, .pointer (some ⟨w45.heap.size, 0, none⟩)), (4, .int .i64 ((rightP g).1)), (1, .pointer (some ⟨w.heap.size, 0, none⟩))]) ∧ (Ext w w_) ∧ (RdG w_ 0 w.heap.size Ag0 Ag1 Ag2 cg0 cg1 cg2 g) ∧ (RdT w_ 0 w.heap.size) ∧ (Bx w_ (w.heap.size) [.slice Ag0 g.ow.length cg0, .slice Ag1 g.pr.length cg1, .slice Ag2 g.mv.length cg2] 25) ∧ (Bx w_ (w45.heap.size) ((wordsD (amoD g.ow 0) : List Int).map wV) 47) ∧ (Bx w_ (w77.heap.size) ((wordsD (amoD g.ow 1) : List Int).map wV) 47) ∧ (Bx w_ (w110.heap.size) ((fullW ((g.ow.length : Nat) : Int) : List Int).map wV) 47) ∧ (Bx w_ (w133.heap.size) ((sm : List Int).map wV) 47) ∧ (0 ≤ p) ∧ (p ≤ 8) ∧ (SomeAt g sm p) ∧ (sm.length = 4)) _ ⟨0, List.replicate 4 (0 : Int), rfl, f160, e0, r8, r9, bx10, bx67, bx100, bx135, bx157, (by omega), (by omega), (someAt_0 hG), rfl⟩ ?_
  clear f160 f158
  clear r8
  clear r9
  clear bx10
  clear bx67
  clear bx100
  clear bx135
  clear bx157
  clear e0
  intro m_ act161 w162 ⟨p, sm, hm164, f165, e163, r166, r167, bx168, bx169, bx170, bx171, bx172, i173, i174, hsa, i175⟩
  have szw162 := e163.size
  have := bx168.lt
  have := bx169.lt
  have := bx170.lt
  have := bx171.lt
  have := bx172.lt
  have hok_ := hsa.1
  refine wp_seq ?_
  refine wp_seq ?_
  refine At.start ?_
  refine At.rd f165 2 [[], []] [(35, .bool (decide ((p : Int) ≤ 7))), (34, .int .i64 (p))] [] (by kernel_rfl) trivial (fun act177 f176 => ?_)
  clear f165
  refine At.done rfl ?_
  refine t_n ?_
  refine cond_S f176 (t := decide ((p : Int) ≤ 7)) rfl (fun h178 => ?_) (fun h178 => ?_)
  ·have q179 := of_decide_eq_true h178
   refine wp_skip ?_
   refine t_n ?_
   refine wp_seq ?_
   refine wp_block ?_
   refine wp_seq ?_
   refine At.start ?_
   refine At.rd f176 2 [[.ld (.slice Ag0 g.ow.length cg0), .ld (.slice Ag1 g.pr.length cg1), .ld (.slice Ag2 g.mv.length cg2)], []] [(39, .int .i64 (p)), (38, .agg #[.slice Ag0 g.ow.length cg0, .slice Ag1 g.pr.length cg1, .slice Ag2 g.mv.length cg2])] [(w162.cell? ⟨w.heap.size, 0, none⟩ = some (.slice Ag0 g.ow.length cg0)), (w162.cell? ⟨w.heap.size, 1, none⟩ = some (.slice Ag1 g.pr.length cg1)), (w162.cell? ⟨w.heap.size, 2, none⟩ = some (.slice Ag2 g.mv.length cg2))] (by kernel_rfl) ⟨(bx168.cell (i := 0) rfl), (bx168.cell (i := 1) rfl), (bx168.cell (i := 2) rfl), trivial⟩ (fun act181 f180 => ?_)
   clear f176
   refine At.call f180 28 #[.agg #[.slice Ag0 g.ow.length cg0, .slice Ag1 g.pr.length cg1, .slice Ag2 g.mv.length cg2], .int .i64 (p)] (some 40) (by kernel_rfl) (atG_any (g := g) (p := p) (r166.wide (Nat.zero_le _) (by omega))) ?_
   rintro e_ w182 ⟨rfl, he⟩
   refine ⟨_, rfl, _, rfl, fun act183 f184 => ?_⟩
   clear f180
   have g185 := gr_ext he
   have szw182 := g185.size
   replace e163 := e163.gr g185 no_row
   replace r166 := r166.gr g185 (fun _ h => by cases h)
   replace r167 := r167.gr g185 (fun _ h => by cases h)
   replace bx168 := bx168.gr g185 (by simp)
   replace bx169 := bx169.gr g185 (by simp)
   replace bx170 := bx170.gr g185 (by simp)
   replace bx171 := bx171.gr g185 (by simp)
   replace bx172 := bx172.gr g185 (by simp)
   clear g185 he
   refine At.seq f184 1 [[]] [(11, .pointer (some ⟨w182.heap.size, 0, none⟩))] (w182.alloc (.cells ((List.replicate 4 (0 : Int) : List Int).map wV).toArray 47 (0, 0))) [] (by kernel_rfl) trivial (fun act197 w194 hw195 f196 => ?_)
   clear f184
   have g198 := gr_alloc hw195
   have szw194 := g198.size
   replace e163 := e163.gr g198 no_row
   replace r166 := r166.gr g198 (fun _ h => by cases h)
   replace r167 := r167.gr g198 (fun _ h => by cases h)
   replace bx168 := bx168.gr g198 (by simp)
   replace bx169 := bx169.gr g198 (by simp)
   replace bx170 := bx170.gr g198 (by simp)
   replace bx171 := bx171.gr g198 (by simp)
   replace bx172 := bx172.gr g198 (by simp)
   have bx208 : Bx w194 (w182.heap.size) ((List.replicate 4 (0 : Int) : List Int).map wV) 47 := Bx.new hw195
   have := bx208.lt
   clear g198 hw195
   refine At.act f196 (storeBlk (t := 47) (b := w182.heap.size) (n := 4) (cs' := ((wordsD (amoD g.pr p) : List Int).map wV)) (by kernel_rfl) (by kernel_rfl) ((List.length_map _).trans (okLen (wordsD_W _))) oneW_ ((show ((wordsD (amoD g.pr p) : List Int).map wV).length = 4 from ((List.length_map _).trans (okLen (wordsD_W _)))).trans (show ((List.replicate 4 (0 : Int) : List Int).map wV).length = 4 from (by simp only [List.length_map, List.length_set, List.length_replicate, List.length_cons, List.length_nil]; first | done | assumption | exact from_len _ | exact of_len _ | exact ofZ_len _ | exact (ofW_ok _).1 | exact (fullW_W _).1 | exact (okW_with (by assumption)).1 | exact (okW_less (by assumption)).1 | exact put_len (from_len _) | exact orD_len _ _ | exact andD_len _ _ | exact minusD_len _ _ | exact fullD_len _ | (refine okLen ?_; (repeat (first | assumption | exact ofW_ok _ | exact fullW_W _ | apply okW_with | apply okW_less | refine okW_orS ?_ ?_ | refine okW_andS ?_ ?_ | refine okW_minusS ?_ ?_)); done) | omega | rfl)).symm) bx208) ?_
   rintro d_ v_ w209 ⟨rfl, g210, bx211⟩
   refine ⟨_, rfl, fun act213 f212 => ?_⟩
   clear f196
   have szw209 := g210.size
   replace e163 := e163.gr g210 (fun k h => by injection h; omega)
   replace r166 := r166.gr g210 (fun k h => by injection h; omega)
   replace r167 := r167.gr g210 (fun k h => by injection h; omega)
   replace bx168 := bx168.gr g210 (fun h => by injection h; omega)
   replace bx169 := bx169.gr g210 (fun h => by injection h; omega)
   replace bx170 := bx170.gr g210 (fun h => by injection h; omega)
   replace bx171 := bx171.gr g210 (fun h => by injection h; omega)
   replace bx172 := bx172.gr g210 (fun h => by injection h; omega)
   clear bx208 g210
   refine At.done rfl ?_
   refine t_n ?_
   refine wp_seq ?_
   refine wp_seq ?_
   refine At.start ?_
   refine At.rd f212 2 [[.cs ((sm : List Int).map wV)], [.cs ((wordsD (amoD g.pr p) : List Int).map wV)]] [(42, .agg ((wordsD (amoD g.pr p) : List Int).map wV).toArray), (41, .agg ((sm : List Int).map wV).toArray)] [(((sm : List Int).map wV).length = 4), (∀ (j : Nat) (v : Value), ((sm : List Int).map wV)[j]? = some v → w209.cell? ((⟨w133.heap.size, 0, none⟩ : Addr).add j) = some v), (((wordsD (amoD g.pr p) : List Int).map wV).length = 4), (∀ (j : Nat) (v : Value), ((wordsD (amoD g.pr p) : List Int).map wV)[j]? = some v → w209.cell? ((⟨w182.heap.size, 0, none⟩ : Addr).add j) = some v)] (by kernel_rfl) ⟨((List.length_map _).trans (by assumption)), bx172.whole, ((List.length_map _).trans (okLen (wordsD_W _))), bx211.whole, trivial⟩ (fun act223 f222 => ?_)
   clear f212
   refine At.call f222 31 #[.agg ((sm : List Int).map wV).toArray, .agg ((wordsD (amoD g.pr p) : List Int).map wV).toArray] (some 43) (by kernel_rfl) (andS_any (s := sm) (t := wordsD (amoD g.pr p)) (by assumption) (wordsD_W _)) ?_
   rintro e_ w224 ⟨rfl, he⟩
   refine ⟨_, rfl, _, rfl, fun act225 f226 => ?_⟩
   clear f222
   have g227 := gr_ext he
   have szw224 := g227.size
   replace e163 := e163.gr g227 no_row
   replace r166 := r166.gr g227 (fun _ h => by cases h)
   replace r167 := r167.gr g227 (fun _ h => by cases h)
   replace bx168 := bx168.gr g227 (by simp)
   replace bx169 := bx169.gr g227 (by simp)
   replace bx170 := bx170.gr g227 (by simp)
   replace bx171 := bx171.gr g227 (by simp)
   replace bx172 := bx172.gr g227 (by simp)
   replace bx211 := bx211.gr g227 (by simp)
   clear g227 he
   refine At.rd f226 2 [[], [.cs [wV (gI (andS sm (wordsD (amoD g.pr p))) 0), wV (gI (andS sm (wordsD (amoD g.pr p))) 1), wV (gI (andS sm (wordsD (amoD g.pr p))) 2), wV (gI (andS sm (wordsD (amoD g.pr p))) 3)], .cs [wV (gI ([0, 0, 0, 0]) 0), wV (gI ([0, 0, 0, 0]) 1), wV (gI ([0, 0, 0, 0]) 2), wV (gI ([0, 0, 0, 0]) 3)], .as_ (.bool false)]] [(45, .bool false), (44, .agg (([0, 0, 0, 0] : List Int).map wV).toArray)] [(((andS sm (wordsD (amoD g.pr p)) : List Int).map wV).toArray = ([wV (gI (andS sm (wordsD (amoD g.pr p))) 0), wV (gI (andS sm (wordsD (amoD g.pr p))) 1), wV (gI (andS sm (wordsD (amoD g.pr p))) 2), wV (gI (andS sm (wordsD (amoD g.pr p))) 3)] : List Value).toArray), ((([0, 0, 0, 0] : List Int).map wV).toArray = ([wV (gI ([0, 0, 0, 0]) 0), wV (gI ([0, 0, 0, 0]) 1), wV (gI ([0, 0, 0, 0]) 2), wV (gI ([0, 0, 0, 0]) 3)] : List Value).toArray), ((.bool (!(((gI (andS sm (wordsD (amoD g.pr p))) 0 : Int) == gI ([0, 0, 0, 0]) 0) && (((gI (andS sm (wordsD (amoD g.pr p))) 1 : Int) == gI ([0, 0, 0, 0]) 1) && (((gI (andS sm (wordsD (amoD g.pr p))) 2 : Int) == gI ([0, 0, 0, 0]) 2) && (((gI (andS sm (wordsD (amoD g.pr p))) 3 : Int) == gI ([0, 0, 0, 0]) 3) && true))))) : Value) = .bool false)] (by kernel_rfl) ⟨(map4 (okLen (okW_andS (by assumption) (wordsD_W _)))), (map4 (okLen okW_00)), (Eq.trans (b := (.bool (!(decide ((andS sm (wordsD (amoD g.pr p)) : List Int) = ([0, 0, 0, 0])))) : Value)) (congrArg (fun b => Value.bool (!b)) (w4_eq (okLen (okW_andS (by assumption) (wordsD_W _))) (okLen okW_00))) (congrArg Value.bool (nb00 (someAt_no hsa)))), trivial⟩ (fun act238 f237 => ?_)
   clear f226
   refine At.done rfl ?_
   refine t_n ?_
   refine cond_F f237 rfl ?_
   refine wp_skip ?_
   refine t_n ?_
   refine At.start ?_
   refine At.rd f237 2 [[.cs ((sm : List Int).map wV)], [.cs ((wordsD (amoD g.pr p) : List Int).map wV)]] [(47, .agg ((wordsD (amoD g.pr p) : List Int).map wV).toArray), (46, .agg ((sm : List Int).map wV).toArray)] [(((sm : List Int).map wV).length = 4), (∀ (j : Nat) (v : Value), ((sm : List Int).map wV)[j]? = some v → w224.cell? ((⟨w133.heap.size, 0, none⟩ : Addr).add j) = some v), (((wordsD (amoD g.pr p) : List Int).map wV).length = 4), (∀ (j : Nat) (v : Value), ((wordsD (amoD g.pr p) : List Int).map wV)[j]? = some v → w224.cell? ((⟨w182.heap.size, 0, none⟩ : Addr).add j) = some v)] (by kernel_rfl) ⟨((List.length_map _).trans (by assumption)), bx172.whole, ((List.length_map _).trans (okLen (wordsD_W _))), bx211.whole, trivial⟩ (fun act240 f239 => ?_)
   clear f237
   refine At.call f239 32 #[.agg ((sm : List Int).map wV).toArray, .agg ((wordsD (amoD g.pr p) : List Int).map wV).toArray] (some 48) (by kernel_rfl) (orS_any (s := sm) (t := wordsD (amoD g.pr p)) (by assumption) (wordsD_W _)) ?_
   rintro e_ w241 ⟨rfl, he⟩
   refine ⟨_, rfl, _, rfl, fun act242 f243 => ?_⟩
   clear f239
   have g244 := gr_ext he
   have szw241 := g244.size
   replace e163 := e163.gr g244 no_row
   replace r166 := r166.gr g244 (fun _ h => by cases h)
   replace r167 := r167.gr g244 (fun _ h => by cases h)
   replace bx168 := bx168.gr g244 (by simp)
   replace bx169 := bx169.gr g244 (by simp)
   replace bx170 := bx170.gr g244 (by simp)
   replace bx171 := bx171.gr g244 (by simp)
   replace bx172 := bx172.gr g244 (by simp)
   replace bx211 := bx211.gr g244 (by simp)
   clear g244 he
   refine At.act f243 (storeBlk (t := 47) (b := w133.heap.size) (n := 4) (cs' := ((orS sm (wordsD (amoD g.pr p)) : List Int).map wV)) (by kernel_rfl) (by kernel_rfl) ((List.length_map _).trans (okLen (okW_orS (by assumption) (wordsD_W _)))) oneW_ ((show ((orS sm (wordsD (amoD g.pr p)) : List Int).map wV).length = 4 from ((List.length_map _).trans (okLen (okW_orS (by assumption) (wordsD_W _))))).trans (show ((sm : List Int).map wV).length = 4 from ((List.length_map _).trans (by assumption))).symm) bx172) ?_
   rintro d_ v_ w254 ⟨rfl, g255, bx256⟩
   refine ⟨_, rfl, fun act258 f257 => ?_⟩
   clear f243
   have szw254 := g255.size
   replace e163 := e163.gr g255 (fun k h => by injection h; omega)
   replace r166 := r166.gr g255 (fun k h => by injection h; omega)
   replace r167 := r167.gr g255 (fun k h => by injection h; omega)
   replace bx168 := bx168.gr g255 (fun h => by injection h; omega)
   replace bx169 := bx169.gr g255 (fun h => by injection h; omega)
   replace bx170 := bx170.gr g255 (fun h => by injection h; omega)
   replace bx171 := bx171.gr g255 (fun h => by injection h; omega)
   replace bx211 := bx211.gr g255 (fun h => by injection h; omega)
   clear bx172 g255
   refine At.done rfl ?_
   refine b_n ?_
   refine t_n ?_
   refine At.start ?_
   refine At.rd f257 3 [[], [.as_ (.int .i64 (p + 1))], []] [(10, .int .i64 (p + 1)), (37, .int .i64 (p + 1)), (36, .int .i64 (p))] [((.int .i64 (IntKind.i64.wrap (p + 1)) : Value) = .int .i64 (p + 1))] (by kernel_rfl) ⟨(w64 (by omega) (by omega)), trivial⟩ (fun act268 f267 => ?_)
   clear f257
   refine At.done rfl ?_
   refine t_n ?_
   have f269 := f267.sub (r := [(10, .int .i64 (p + 1)), (9, .pointer (some ⟨w133.heap.size, 0, none⟩)), (8, .pointer (some ⟨w110.heap.size, 0, none⟩)), (7, .pointer (some ⟨w77.heap.size, 0, none⟩)), (6, .pointer (some ⟨w45.heap.size, 0, none⟩)), (4, .int .i64 ((rightP g).1)), (1, .pointer (some ⟨w.heap.size, 0, none⟩))]) ⟨rfl, rfl, rfl, rfl, rfl, rfl, rfl, trivial⟩
   exact ⟨_, (by omega), (p + 1), orS sm (wordsD (amoD g.pr p)), rfl, f269, e163, r166, r167, bx168, bx169, bx170, bx171, bx256, (by omega), (by omega), (someAt_next hsa), (someAt_next hsa).1.1⟩
  ·have q270 := of_decide_eq_false h178
   refine wp_exit ?_
   refine t_e ?_
   refine t_e ?_
   refine b_e ?_
   refine t_n ?_
   refine wp_seq ?_
   refine At.start ?_
   refine At.rd f176 1 [[.ld (.slice Ag0 g.ow.length cg0), .ld (.slice Ag1 g.pr.length cg1), .ld (.slice Ag2 g.mv.length cg2)]] [(49, .agg #[.slice Ag0 g.ow.length cg0, .slice Ag1 g.pr.length cg1, .slice Ag2 g.mv.length cg2])] [(w162.cell? ⟨w.heap.size, 0, none⟩ = some (.slice Ag0 g.ow.length cg0)), (w162.cell? ⟨w.heap.size, 1, none⟩ = some (.slice Ag1 g.pr.length cg1)), (w162.cell? ⟨w.heap.size, 2, none⟩ = some (.slice Ag2 g.mv.length cg2))] (by kernel_rfl) ⟨(bx168.cell (i := 0) rfl), (bx168.cell (i := 1) rfl), (bx168.cell (i := 2) rfl), trivial⟩ (fun act272 f271 => ?_)
   clear f176
   refine At.call f271 18 #[.agg #[.slice Ag0 g.ow.length cg0, .slice Ag1 g.pr.length cg1, .slice Ag2 g.mv.length cg2]] (some 50) (by kernel_rfl) (dualM_any (g := g) (r166.wide (Nat.zero_le _) (by omega))) ?_
   rintro e_ w286 ⟨A273, c274, A275, c276, A277, c278, rfl, he, ow279, ow280, ow281⟩
   have hip285 := dual_inner (inner_len (RdG.mv (r166.wide (Nat.zero_le _) (by omega))))
   have := dual_lens g
   refine ⟨_, rfl, _, rfl, fun act287 f288 => ?_⟩
   clear f271
   have g289 := gr_ext he
   have szw286 := g289.size
   replace e163 := e163.gr g289 no_row
   replace r166 := r166.gr g289 (fun _ h => by cases h)
   replace r167 := r167.gr g289 (fun _ h => by cases h)
   replace bx168 := bx168.gr g289 (by simp)
   replace bx169 := bx169.gr g289 (by simp)
   replace bx170 := bx170.gr g289 (by simp)
   replace bx171 := bx171.gr g289 (by simp)
   replace bx172 := bx172.gr g289 (by simp)
   clear g289 he
   refine At.seq f288 1 [[]] [(12, .pointer (some ⟨w286.heap.size, 0, none⟩))] (w286.alloc (.cells #[.slice none 0 0, .slice none 0 0, .slice none 0 0] 25 (0, 0))) [] (by kernel_rfl) trivial (fun act301 w298 hw299 f300 => ?_)
   clear f288
   have g302 := gr_alloc hw299
   have szw298 := g302.size
   replace e163 := e163.gr g302 no_row
   replace r166 := r166.gr g302 (fun _ h => by cases h)
   replace r167 := r167.gr g302 (fun _ h => by cases h)
   replace bx168 := bx168.gr g302 (by simp)
   replace bx169 := bx169.gr g302 (by simp)
   replace bx170 := bx170.gr g302 (by simp)
   replace bx171 := bx171.gr g302 (by simp)
   replace bx172 := bx172.gr g302 (by simp)
   replace ow279 : OwnR w298 (Sx (w162.heap.size) [some (w286.heap.size), obk (A275), obk (A277)]) A273 c274 3 ((dualG g).ow : List Int) := ow279.grA g302 (fun _ _ h => by cases h) (fun k hk hs => ⟨(fun e => by injection e; omega), hs.1, hs.2.1, hs.2.2⟩)
   replace ow280 : OwnR w298 (Sx (w162.heap.size) [some (w286.heap.size), obk (A273), obk (A277)]) A275 c276 3 ((dualG g).pr : List Int) := ow280.grA g302 (fun _ _ h => by cases h) (fun k hk hs => ⟨(fun e => by injection e; omega), hs.1, hs.2.1, hs.2.2⟩)
   replace ow281 : OwnLL w298 (w162.heap.size) [some (w286.heap.size), obk (A273), obk (A275)] A277 c278 22 3 ((dualG g).mv : List (List Int)) := ow281.grA g302 (fun _ _ h => by cases h) (fun k hk hs => ⟨(fun e => by injection e; omega), hs.1, hs.2.1, hs.2.2⟩)
   have bx315 : Bx w298 (w286.heap.size) [.slice none 0 0, .slice none 0 0, .slice none 0 0] 25 := Bx.new hw299
   have := bx315.lt
   clear g302 hw299
   refine At.store f300 (t := 25) (b := w286.heap.size) (off := 0) (v := .agg #[.slice A273 ((dualG g).ow.length) c274, .slice A275 ((dualG g).pr.length) c276, .slice A277 ((dualG g).mv.length) c278]) (by kernel_rfl) bx315 (by kernel_rfl) (fun act320 w316 g317 bx318 f319 => ?_)
   clear f300
   replace bx318 : Bx w316 (w286.heap.size) [.slice A273 ((dualG g).ow.length) c274, .slice A275 ((dualG g).pr.length) c276, .slice A277 ((dualG g).mv.length) c278] 25 := bx318
   have szw316 := g317.size
   replace e163 := e163.gr g317 (fun k h => by injection h; omega)
   replace r166 := r166.gr g317 (fun k h => by injection h; omega)
   replace r167 := r167.gr g317 (fun k h => by injection h; omega)
   replace bx168 := bx168.gr g317 (fun h => by injection h; omega)
   replace bx169 := bx169.gr g317 (fun h => by injection h; omega)
   replace bx170 := bx170.gr g317 (fun h => by injection h; omega)
   replace bx171 := bx171.gr g317 (fun h => by injection h; omega)
   replace bx172 := bx172.gr g317 (fun h => by injection h; omega)
   replace ow279 := ow279.gr g317 (fun k hk => hk.1)
   replace ow280 := ow280.gr g317 (fun k hk => hk.1)
   replace ow281 := ow281.gr g317 (fun k hk => hk.1)
   clear bx315 g317
   refine At.done rfl ?_
   refine t_n ?_
   refine wp_seq ?_
   refine wp_seq (cut (fun a_ w_ => (Frm 100 a_ [(66, .bool false), (9, .pointer (some ⟨w133.heap.size, 0, none⟩)), (8, .pointer (some ⟨w110.heap.size, 0, none⟩)), (7, .pointer (some ⟨w77.heap.size, 0, none⟩)), (6, .pointer (some ⟨w45.heap.size, 0, none⟩)), (4, .int .i64 ((rightP g).1)), (1, .pointer (some ⟨w.heap.size, 0, none⟩))]) ∧ (Ext w w_) ∧ (RdG w_ 0 w.heap.size Ag0 Ag1 Ag2 cg0 cg1 cg2 g) ∧ (RdT w_ 0 w.heap.size) ∧ (Bx w_ (w.heap.size) [.slice Ag0 g.ow.length cg0, .slice Ag1 g.pr.length cg1, .slice Ag2 g.mv.length cg2] 25) ∧ (Bx w_ (w45.heap.size) ((wordsD (amoD g.ow 0) : List Int).map wV) 47) ∧ (Bx w_ (w77.heap.size) ((wordsD (amoD g.ow 1) : List Int).map wV) 47) ∧ (Bx w_ (w110.heap.size) ((fullW ((g.ow.length : Nat) : Int) : List Int).map wV) 47) ∧ (Bx w_ (w133.heap.size) ((sm : List Int).map wV) 47) ∧ (OwnR w_ (Sx (w162.heap.size) [some (w286.heap.size), obk (A275), obk (A277)]) A273 c274 3 ((dualG g).ow : List Int)) ∧ (OwnR w_ (Sx (w162.heap.size) [some (w286.heap.size), obk (A273), obk (A277)]) A275 c276 3 ((dualG g).pr : List Int)) ∧ (OwnLL w_ (w162.heap.size) [some (w286.heap.size), obk (A273), obk (A275)] A277 c278 22 3 ((dualG g).mv : List (List Int))) ∧ (Bx w_ (w286.heap.size) [.slice A273 ((dualG g).ow.length) c274, .slice A275 ((dualG g).pr.length) c276, .slice A277 ((dualG g).mv.length) c278] 25) ∧ (w316.heap.size ≤ w_.heap.size)) ?_ ?_)
   ·rcases Bool.eq_false_or_eq_true (decide (((((dualG g).ow.length : Nat) : Int) : Int) > 0)) with h332 | h332
    ·have q333 := of_decide_eq_true h332
     obtain ⟨Cs334, hCs335⟩ : ∃ c : List (Addr × Value), c = ([(⟨w286.heap.size, 0, none⟩, (.slice A273 ((dualG g).ow.length) c274)), (⟨w286.heap.size, 0, none⟩, (.slice A273 ((dualG g).ow.length) c274)), (⟨w286.heap.size, 1, none⟩, (.slice A275 ((dualG g).pr.length) c276)), (⟨w286.heap.size, 2, none⟩, (.slice A277 ((dualG g).mv.length) c278))] : List (Addr × Value)) ++ (blkC (w77.heap.size) ((wordsD (amoD g.ow 1) : List Int).map wV) ++ blkC (w45.heap.size) ((wordsD (amoD g.ow 0) : List Int).map wV)) := ⟨_, rfl⟩
     have hS336 : HoldsC Cs334 w316 := by rw [hCs335]; exact (holdsA (show HoldsC [(⟨w286.heap.size, 0, none⟩, (.slice A273 ((dualG g).ow.length) c274)), (⟨w286.heap.size, 0, none⟩, (.slice A273 ((dualG g).ow.length) c274)), (⟨w286.heap.size, 1, none⟩, (.slice A275 ((dualG g).pr.length) c276)), (⟨w286.heap.size, 2, none⟩, (.slice A277 ((dualG g).mv.length) c278))] w316 from ⟨(bx318.cell (i := 0) rfl), (bx318.cell (i := 0) rfl), (bx318.cell (i := 1) rfl), (bx318.cell (i := 2) rfl), trivial⟩) (holdsA (holds_blk bx170) (holds_blk bx169)))
     refine AtH.start Cs334 16 #[false, false, false, false, false, false, false, false, false, false, false, false, false, false, false, false] (by kernel_rfl) rfl rfl (fun w338 hw339 => ?_)
     have g337 := gr_drew hw339
     have hS340 := hS336.gr g337
     have szw338 := g337.size
     replace e163 := e163.gr g337 no_row
     replace r166 := r166.gr g337 (fun _ h => by cases h)
     replace r167 := r167.gr g337 (fun _ h => by cases h)
     replace bx168 := bx168.gr g337 (by simp)
     replace bx169 := bx169.gr g337 (by simp)
     replace bx170 := bx170.gr g337 (by simp)
     replace bx171 := bx171.gr g337 (by simp)
     replace bx172 := bx172.gr g337 (by simp)
     replace ow279 := ow279.gr g337 (fun _ _ h => by cases h)
     replace ow280 := ow280.gr g337 (fun _ _ h => by cases h)
     replace ow281 := ow281.gr g337 (fun _ _ h => by cases h)
     replace bx318 := bx318.gr g337 (by simp)
     clear g337 hw339 hS336
     refine AtH.rd (by kernel_rfl) (fun d v c a w h => by cases d <;> exact h) hS340 [0, 1, 2, 3, 4, 5, 7] [[], [.ld (.slice A273 ((dualG g).ow.length) c274)], [], [], [.as_ (.bool true)], [.ld (.slice A273 ((dualG g).ow.length) c274), .ld (.slice A275 ((dualG g).pr.length) c276), .ld (.slice A277 ((dualG g).mv.length) c278)], [.cs ((wordsD (amoD g.ow 1) : List Int).map wV)]] [(58, .agg ((wordsD (amoD g.ow 1) : List Int).map wV).toArray), (56, .agg #[.slice A273 ((dualG g).ow.length) c274, .slice A275 ((dualG g).pr.length) c276, .slice A277 ((dualG g).mv.length) c278]), (55, .bool true), (54, .bool (decide (((((dualG g).ow.length : Nat) : Int) : Int) > 0))), (53, .int .i64 ((((dualG g).ow.length : Nat) : Int))), (52, .slice A273 ((dualG g).ow.length) c274), (51, .pointer (some ⟨w286.heap.size, 0, none⟩))] #[true, true, true, true, true, true, false, true, false, false, false, false, false, false, false, false] [(∃ j_ : Nat, Cs334[j_]? = some (⟨w286.heap.size, 0, none⟩, (.slice A273 ((dualG g).ow.length) c274))), ((.bool (decide (((((dualG g).ow.length : Nat) : Int) : Int) > 0)) : Value) = .bool true), (∃ j_ : Nat, Cs334[j_]? = some (⟨w286.heap.size, 0, none⟩, (.slice A273 ((dualG g).ow.length) c274))), (∃ j_ : Nat, Cs334[j_]? = some (⟨w286.heap.size, 1, none⟩, (.slice A275 ((dualG g).pr.length) c276))), (∃ j_ : Nat, Cs334[j_]? = some (⟨w286.heap.size, 2, none⟩, (.slice A277 ((dualG g).mv.length) c278))), (((wordsD (amoD g.ow 1) : List Int).map wV).length = 4), (∀ (j : Nat) (v : Value), ((wordsD (amoD g.ow 1) : List Int).map wV)[j]? = some v → ∃ j_ : Nat, Cs334[j_]? = some (((⟨w77.heap.size, 0, none⟩ : Addr).add j), v))] 9 f319 (by kernel_rfl) ⟨⟨0, by rw [hCs335]; rfl⟩, (congrArg Value.bool h332), ⟨1, by rw [hCs335]; rfl⟩, ⟨2, by rw [hCs335]; rfl⟩, ⟨3, by rw [hCs335]; rfl⟩, ((List.length_map _).trans (okLen (wordsD_W _))), (fun j v hv => List.getElem?_of_mem (by rw [hCs335]; exact List.mem_append.2 (.inr (List.mem_append.2 (.inl (blkC_in hv)))))), trivial⟩ (fun act354 f353 => ?_)
     clear f319
     refine AtH.all [6] 8 (by kernel_rfl) (by simp) ⟨?_, trivial⟩
     refine OneH.call f353 27 #[.agg #[.slice A273 ((dualG g).ow.length) c274, .slice A275 ((dualG g).pr.length) c276, .slice A277 ((dualG g).mv.length) c278], .int .i64 (0)] (some 57) #[true, true, true, true, true, true, true, true, false, false, false, false, false, false, false, false] (by kernel_rfl) (by kernel_rfl) (ownG_any (g := (dualG g)) (p := 0) (RdG.mk (G := (dualG g)) (ow279.rdI0 (by first | omega | (simp only [List.length_cons, List.length_nil]; omega) | (simp; done) | (simp; omega))) (ow280.rdI0 (by first | omega | (simp only [List.length_cons, List.length_nil]; omega) | (simp; done) | (simp; omega))) (ow281.rdII0 (by first | omega | (simp only [List.length_cons, List.length_nil]; omega) | (simp; done) | (simp; omega)) hip285) ow279.cap ow280.cap ow281.cap)) ?_
     rintro e_ w356 ⟨rfl, he⟩
     refine ⟨_, rfl, _, rfl, fun act357 f358 => ?_⟩
     clear f353
     have g359 := gr_ext he
     have hS355 := hS340.gr g359
     have szw356 := g359.size
     replace e163 := e163.gr g359 no_row
     replace r166 := r166.gr g359 (fun _ h => by cases h)
     replace r167 := r167.gr g359 (fun _ h => by cases h)
     replace bx168 := bx168.gr g359 (by simp)
     replace bx169 := bx169.gr g359 (by simp)
     replace bx170 := bx170.gr g359 (by simp)
     replace bx171 := bx171.gr g359 (by simp)
     replace bx172 := bx172.gr g359 (by simp)
     replace ow279 := ow279.gr g359 (fun _ _ h => by cases h)
     replace ow280 := ow280.gr g359 (fun _ _ h => by cases h)
     replace ow281 := ow281.gr g359 (fun _ _ h => by cases h)
     replace bx318 := bx318.gr g359 (by simp)
     clear g359 he
     refine ⟨hS355, ?_⟩
     refine AtH.rd (by kernel_rfl) (fun d v c a w h => by cases d <;> exact h) hS355 [8] [[.cs [wV (gI (wordsD (amoD (dualG g).ow 0)) 0), wV (gI (wordsD (amoD (dualG g).ow 0)) 1), wV (gI (wordsD (amoD (dualG g).ow 0)) 2), wV (gI (wordsD (amoD (dualG g).ow 0)) 3)], .cs [wV (gI (wordsD (amoD g.ow 1)) 0), wV (gI (wordsD (amoD g.ow 1)) 1), wV (gI (wordsD (amoD g.ow 1)) 2), wV (gI (wordsD (amoD g.ow 1)) 3)], .as_ (.bool false)]] [(59, .bool false)] #[true, true, true, true, true, true, true, true, true, false, false, false, false, false, false, false] [(((wordsD (amoD (dualG g).ow 0) : List Int).map wV).toArray = ([wV (gI (wordsD (amoD (dualG g).ow 0)) 0), wV (gI (wordsD (amoD (dualG g).ow 0)) 1), wV (gI (wordsD (amoD (dualG g).ow 0)) 2), wV (gI (wordsD (amoD (dualG g).ow 0)) 3)] : List Value).toArray), (((wordsD (amoD g.ow 1) : List Int).map wV).toArray = ([wV (gI (wordsD (amoD g.ow 1)) 0), wV (gI (wordsD (amoD g.ow 1)) 1), wV (gI (wordsD (amoD g.ow 1)) 2), wV (gI (wordsD (amoD g.ow 1)) 3)] : List Value).toArray), ((.bool (!(((gI (wordsD (amoD (dualG g).ow 0)) 0 : Int) == gI (wordsD (amoD g.ow 1)) 0) && (((gI (wordsD (amoD (dualG g).ow 0)) 1 : Int) == gI (wordsD (amoD g.ow 1)) 1) && (((gI (wordsD (amoD (dualG g).ow 0)) 2 : Int) == gI (wordsD (amoD g.ow 1)) 2) && (((gI (wordsD (amoD (dualG g).ow 0)) 3 : Int) == gI (wordsD (amoD g.ow 1)) 3) && true))))) : Value) = .bool false)] 7 f358 (by kernel_rfl) ⟨(map4 (okLen (wordsD_W _))), (map4 (okLen (wordsD_W _))), (Eq.trans (b := (.bool (!(decide ((wordsD (amoD (dualG g).ow 0) : List Int) = (wordsD (amoD g.ow 1))))) : Value)) (congrArg (fun b => Value.bool (!b)) (w4_eq (okLen (wordsD_W _)) (okLen (wordsD_W _)))) (congrArg Value.bool (nb00 (dual_own (by omega) (by decide))))), trivial⟩ (fun act373 f372 => ?_)
     clear f358
     refine AtH.rd (by kernel_rfl) (fun d v c a w h => by cases d <;> exact h) hS355 [9] [[]] [(60, .bool false)] #[true, true, true, true, true, true, true, true, true, true, false, false, false, false, false, false] [] 6 f372 (by kernel_rfl) trivial (fun act375 f374 => ?_)
     clear f372
     refine AtH.rd (by kernel_rfl) (fun d v c a w h => by cases d <;> exact h) hS355 [10] [[.ld (.slice A273 ((dualG g).ow.length) c274), .ld (.slice A275 ((dualG g).pr.length) c276), .ld (.slice A277 ((dualG g).mv.length) c278)]] [(61, .agg #[.slice A273 ((dualG g).ow.length) c274, .slice A275 ((dualG g).pr.length) c276, .slice A277 ((dualG g).mv.length) c278])] #[true, true, true, true, true, true, true, true, true, true, true, false, false, false, false, false] [(∃ j_ : Nat, Cs334[j_]? = some (⟨w286.heap.size, 0, none⟩, (.slice A273 ((dualG g).ow.length) c274))), (∃ j_ : Nat, Cs334[j_]? = some (⟨w286.heap.size, 1, none⟩, (.slice A275 ((dualG g).pr.length) c276))), (∃ j_ : Nat, Cs334[j_]? = some (⟨w286.heap.size, 2, none⟩, (.slice A277 ((dualG g).mv.length) c278)))] 5 f374 (by kernel_rfl) ⟨⟨0, by rw [hCs335]; rfl⟩, ⟨2, by rw [hCs335]; rfl⟩, ⟨3, by rw [hCs335]; rfl⟩, trivial⟩ (fun act377 f376 => ?_)
     clear f374
     refine AtH.rd (by kernel_rfl) (fun d v c a w h => by cases d <;> exact h) hS355 [12] [[.cs ((wordsD (amoD g.ow 0) : List Int).map wV)]] [(63, .agg ((wordsD (amoD g.ow 0) : List Int).map wV).toArray)] #[true, true, true, true, true, true, true, true, true, true, true, false, true, false, false, false] [(((wordsD (amoD g.ow 0) : List Int).map wV).length = 4), (∀ (j : Nat) (v : Value), ((wordsD (amoD g.ow 0) : List Int).map wV)[j]? = some v → ∃ j_ : Nat, Cs334[j_]? = some (((⟨w45.heap.size, 0, none⟩ : Addr).add j), v))] 4 f376 (by kernel_rfl) ⟨((List.length_map _).trans (okLen (wordsD_W _))), (fun j v hv => List.getElem?_of_mem (by rw [hCs335]; exact List.mem_append.2 (.inr (List.mem_append.2 (.inr (blkC_in hv)))))), trivial⟩ (fun act379 f378 => ?_)
     clear f376
     refine AtH.all [11] 3 (by kernel_rfl) (by simp) ⟨?_, trivial⟩
     refine OneH.call f378 27 #[.agg #[.slice A273 ((dualG g).ow.length) c274, .slice A275 ((dualG g).pr.length) c276, .slice A277 ((dualG g).mv.length) c278], .int .i64 (1)] (some 62) #[true, true, true, true, true, true, true, true, true, true, true, true, true, false, false, false] (by kernel_rfl) (by kernel_rfl) (ownG_any (g := (dualG g)) (p := 1) (RdG.mk (G := (dualG g)) (ow279.rdI0 (by first | omega | (simp only [List.length_cons, List.length_nil]; omega) | (simp; done) | (simp; omega))) (ow280.rdI0 (by first | omega | (simp only [List.length_cons, List.length_nil]; omega) | (simp; done) | (simp; omega))) (ow281.rdII0 (by first | omega | (simp only [List.length_cons, List.length_nil]; omega) | (simp; done) | (simp; omega)) hip285) ow279.cap ow280.cap ow281.cap)) ?_
     rintro e_ w381 ⟨rfl, he⟩
     refine ⟨_, rfl, _, rfl, fun act382 f383 => ?_⟩
     clear f378
     have g384 := gr_ext he
     have hS380 := hS355.gr g384
     have szw381 := g384.size
     replace e163 := e163.gr g384 no_row
     replace r166 := r166.gr g384 (fun _ h => by cases h)
     replace r167 := r167.gr g384 (fun _ h => by cases h)
     replace bx168 := bx168.gr g384 (by simp)
     replace bx169 := bx169.gr g384 (by simp)
     replace bx170 := bx170.gr g384 (by simp)
     replace bx171 := bx171.gr g384 (by simp)
     replace bx172 := bx172.gr g384 (by simp)
     replace ow279 := ow279.gr g384 (fun _ _ h => by cases h)
     replace ow280 := ow280.gr g384 (fun _ _ h => by cases h)
     replace ow281 := ow281.gr g384 (fun _ _ h => by cases h)
     replace bx318 := bx318.gr g384 (by simp)
     clear g384 he
     refine ⟨hS380, ?_⟩
     refine AtH.rd (by kernel_rfl) (fun d v c a w h => by cases d <;> exact h) hS380 [13] [[.cs [wV (gI (wordsD (amoD (dualG g).ow 1)) 0), wV (gI (wordsD (amoD (dualG g).ow 1)) 1), wV (gI (wordsD (amoD (dualG g).ow 1)) 2), wV (gI (wordsD (amoD (dualG g).ow 1)) 3)], .cs [wV (gI (wordsD (amoD g.ow 0)) 0), wV (gI (wordsD (amoD g.ow 0)) 1), wV (gI (wordsD (amoD g.ow 0)) 2), wV (gI (wordsD (amoD g.ow 0)) 3)], .as_ (.bool false)]] [(64, .bool false)] #[true, true, true, true, true, true, true, true, true, true, true, true, true, true, false, false] [(((wordsD (amoD (dualG g).ow 1) : List Int).map wV).toArray = ([wV (gI (wordsD (amoD (dualG g).ow 1)) 0), wV (gI (wordsD (amoD (dualG g).ow 1)) 1), wV (gI (wordsD (amoD (dualG g).ow 1)) 2), wV (gI (wordsD (amoD (dualG g).ow 1)) 3)] : List Value).toArray), (((wordsD (amoD g.ow 0) : List Int).map wV).toArray = ([wV (gI (wordsD (amoD g.ow 0)) 0), wV (gI (wordsD (amoD g.ow 0)) 1), wV (gI (wordsD (amoD g.ow 0)) 2), wV (gI (wordsD (amoD g.ow 0)) 3)] : List Value).toArray), ((.bool (!(((gI (wordsD (amoD (dualG g).ow 1)) 0 : Int) == gI (wordsD (amoD g.ow 0)) 0) && (((gI (wordsD (amoD (dualG g).ow 1)) 1 : Int) == gI (wordsD (amoD g.ow 0)) 1) && (((gI (wordsD (amoD (dualG g).ow 1)) 2 : Int) == gI (wordsD (amoD g.ow 0)) 2) && (((gI (wordsD (amoD (dualG g).ow 1)) 3 : Int) == gI (wordsD (amoD g.ow 0)) 3) && true))))) : Value) = .bool false)] 2 f383 (by kernel_rfl) ⟨(map4 (okLen (wordsD_W _))), (map4 (okLen (wordsD_W _))), (Eq.trans (b := (.bool (!(decide ((wordsD (amoD (dualG g).ow 1) : List Int) = (wordsD (amoD g.ow 0))))) : Value)) (congrArg (fun b => Value.bool (!b)) (w4_eq (okLen (wordsD_W _)) (okLen (wordsD_W _)))) (congrArg Value.bool (nb00 (dual_own (by omega) (by decide))))), trivial⟩ (fun act398 f397 => ?_)
     clear f383
     refine AtH.rd (by kernel_rfl) (fun d v c a w h => by cases d <;> exact h) hS380 [14] [[]] [(65, .bool false)] #[true, true, true, true, true, true, true, true, true, true, true, true, true, true, true, false] [] 1 f397 (by kernel_rfl) trivial (fun act400 f399 => ?_)
     clear f397
     refine AtH.rd (by kernel_rfl) (fun d v c a w h => by cases d <;> exact h) hS380 [15] [[]] [(66, .bool false)] #[true, true, true, true, true, true, true, true, true, true, true, true, true, true, true, true] [] 0 f399 (by kernel_rfl) trivial (fun act402 f401 => ?_)
     clear f399
     refine AtH.done (by kernel_rfl) ?_
     clear hS380
     refine t_n ?_
     have f403 := f401.sub (r := [(66, .bool false), (9, .pointer (some ⟨w133.heap.size, 0, none⟩)), (8, .pointer (some ⟨w110.heap.size, 0, none⟩)), (7, .pointer (some ⟨w77.heap.size, 0, none⟩)), (6, .pointer (some ⟨w45.heap.size, 0, none⟩)), (4, .int .i64 ((rightP g).1)), (1, .pointer (some ⟨w.heap.size, 0, none⟩))]) ⟨rfl, rfl, rfl, rfl, rfl, rfl, rfl, trivial⟩
     exact ⟨f403, e163, r166, r167, bx168, bx169, bx170, bx171, bx172, ow279, ow280, ow281, bx318, (by omega)⟩
    ·have q404 := of_decide_eq_false h332
     obtain ⟨Cs405, hCs406⟩ : ∃ c : List (Addr × Value), c = ([(⟨w286.heap.size, 0, none⟩, (.slice A273 ((dualG g).ow.length) c274)), (⟨w286.heap.size, 1, none⟩, (.slice A275 ((dualG g).pr.length) c276)), (⟨w286.heap.size, 2, none⟩, (.slice A277 ((dualG g).mv.length) c278))] : List (Addr × Value)) ++ blkC (w45.heap.size) ((wordsD (amoD g.ow 0) : List Int).map wV) := ⟨_, rfl⟩
     have hS407 : HoldsC Cs405 w316 := by rw [hCs406]; exact (holdsA (show HoldsC [(⟨w286.heap.size, 0, none⟩, (.slice A273 ((dualG g).ow.length) c274)), (⟨w286.heap.size, 1, none⟩, (.slice A275 ((dualG g).pr.length) c276)), (⟨w286.heap.size, 2, none⟩, (.slice A277 ((dualG g).mv.length) c278))] w316 from ⟨(bx318.cell (i := 0) rfl), (bx318.cell (i := 1) rfl), (bx318.cell (i := 2) rfl), trivial⟩) (holds_blk bx169))
     refine AtH.start Cs405 16 #[false, false, false, false, false, false, false, false, false, false, false, false, false, false, false, false] (by kernel_rfl) rfl rfl (fun w409 hw410 => ?_)
     have g408 := gr_drew hw410
     have hS411 := hS407.gr g408
     have szw409 := g408.size
     replace e163 := e163.gr g408 no_row
     replace r166 := r166.gr g408 (fun _ h => by cases h)
     replace r167 := r167.gr g408 (fun _ h => by cases h)
     replace bx168 := bx168.gr g408 (by simp)
     replace bx169 := bx169.gr g408 (by simp)
     replace bx170 := bx170.gr g408 (by simp)
     replace bx171 := bx171.gr g408 (by simp)
     replace bx172 := bx172.gr g408 (by simp)
     replace ow279 := ow279.gr g408 (fun _ _ h => by cases h)
     replace ow280 := ow280.gr g408 (fun _ _ h => by cases h)
     replace ow281 := ow281.gr g408 (fun _ _ h => by cases h)
     replace bx318 := bx318.gr g408 (by simp)
     clear g408 hw410 hS407
     refine AtH.rd (by kernel_rfl) (fun d v c a w h => by cases d <;> exact h) hS411 [0, 1, 2, 3, 4, 5, 7] [[], [.ld (.slice A273 ((dualG g).ow.length) c274)], [], [], [.as_ (.bool false)], [], []] [(58, undef), (56, undef), (55, .bool false), (54, .bool (decide (((((dualG g).ow.length : Nat) : Int) : Int) > 0))), (53, .int .i64 ((((dualG g).ow.length : Nat) : Int))), (52, .slice A273 ((dualG g).ow.length) c274), (51, .pointer (some ⟨w286.heap.size, 0, none⟩))] #[true, true, true, true, true, true, false, true, false, false, false, false, false, false, false, false] [(∃ j_ : Nat, Cs405[j_]? = some (⟨w286.heap.size, 0, none⟩, (.slice A273 ((dualG g).ow.length) c274))), ((.bool (decide (((((dualG g).ow.length : Nat) : Int) : Int) > 0)) : Value) = .bool false)] 9 f319 (by kernel_rfl) ⟨⟨0, by rw [hCs406]; rfl⟩, (congrArg Value.bool h332), trivial⟩ (fun act425 f424 => ?_)
     clear f319
     refine AtH.rd (by kernel_rfl) (fun d v c a w h => by cases d <;> exact h) hS411 [6] [[]] [(57, undef)] #[true, true, true, true, true, true, true, true, false, false, false, false, false, false, false, false] [] 8 f424 (by kernel_rfl) trivial (fun act427 f426 => ?_)
     clear f424
     refine AtH.rd (by kernel_rfl) (fun d v c a w h => by cases d <;> exact h) hS411 [8] [[]] [(59, undef)] #[true, true, true, true, true, true, true, true, true, false, false, false, false, false, false, false] [] 7 f426 (by kernel_rfl) trivial (fun act429 f428 => ?_)
     clear f426
     refine AtH.rd (by kernel_rfl) (fun d v c a w h => by cases d <;> exact h) hS411 [9] [[]] [(60, undef)] #[true, true, true, true, true, true, true, true, true, true, false, false, false, false, false, false] [] 6 f428 (by kernel_rfl) trivial (fun act431 f430 => ?_)
     clear f428
     refine AtH.rd (by kernel_rfl) (fun d v c a w h => by cases d <;> exact h) hS411 [10] [[]] [(61, undef)] #[true, true, true, true, true, true, true, true, true, true, true, false, false, false, false, false] [] 5 f430 (by kernel_rfl) trivial (fun act433 f432 => ?_)
     clear f430
     refine AtH.rd (by kernel_rfl) (fun d v c a w h => by cases d <;> exact h) hS411 [11] [[]] [(62, undef)] #[true, true, true, true, true, true, true, true, true, true, true, true, false, false, false, false] [] 4 f432 (by kernel_rfl) trivial (fun act435 f434 => ?_)
     clear f432
     refine AtH.rd (by kernel_rfl) (fun d v c a w h => by cases d <;> exact h) hS411 [12] [[]] [(63, undef)] #[true, true, true, true, true, true, true, true, true, true, true, true, true, false, false, false] [] 3 f434 (by kernel_rfl) trivial (fun act437 f436 => ?_)
     clear f434
     refine AtH.rd (by kernel_rfl) (fun d v c a w h => by cases d <;> exact h) hS411 [13] [[]] [(64, undef)] #[true, true, true, true, true, true, true, true, true, true, true, true, true, true, false, false] [] 2 f436 (by kernel_rfl) trivial (fun act439 f438 => ?_)
     clear f436
     refine AtH.rd (by kernel_rfl) (fun d v c a w h => by cases d <;> exact h) hS411 [14] [[]] [(65, undef)] #[true, true, true, true, true, true, true, true, true, true, true, true, true, true, true, false] [] 1 f438 (by kernel_rfl) trivial (fun act441 f440 => ?_)
     clear f438
     refine AtH.rd (by kernel_rfl) (fun d v c a w h => by cases d <;> exact h) hS411 [15] [[]] [(66, .bool false)] #[true, true, true, true, true, true, true, true, true, true, true, true, true, true, true, true] [] 0 f440 (by kernel_rfl) trivial (fun act443 f442 => ?_)
     clear f440
     refine AtH.done (by kernel_rfl) ?_
     clear hS411
     refine t_n ?_
     have f444 := f442.sub (r := [(66, .bool false), (9, .pointer (some ⟨w133.heap.size, 0, none⟩)), (8, .pointer (some ⟨w110.heap.size, 0, none⟩)), (7, .pointer (some ⟨w77.heap.size, 0, none⟩)), (6, .pointer (some ⟨w45.heap.size, 0, none⟩)), (4, .int .i64 ((rightP g).1)), (1, .pointer (some ⟨w.heap.size, 0, none⟩))]) ⟨rfl, rfl, rfl, rfl, rfl, rfl, rfl, trivial⟩
     exact ⟨f444, e163, r166, r167, bx168, bx169, bx170, bx171, bx172, ow279, ow280, ow281, bx318, (by omega)⟩
   ·clear r166
    clear r167
    clear bx168
    clear bx169
    clear bx170
    clear bx171
    clear bx172
    clear ow279
    clear ow280
    clear ow281
    clear bx318
    clear f319 e163
    intro act445 w446 ⟨f447, e448, r449, r450, bx451, bx452, bx453, bx454, bx455, ow456, ow457, ow458, bx459, szz460⟩
    have szw446 := e448.size
    have := bx451.lt
    have := bx452.lt
    have := bx453.lt
    have := bx454.lt
    have := bx455.lt
    have := bx459.lt
    refine cond_F f447 rfl ?_
    refine wp_skip ?_
    refine t_n ?_
    refine wp_seq ?_
    obtain ⟨Cs461, hCs462⟩ : ∃ c : List (Addr × Value), c = ([(⟨w.heap.size, 0, none⟩, (.slice Ag0 g.ow.length cg0)), (⟨w.heap.size, 1, none⟩, (.slice Ag1 g.pr.length cg1)), (⟨w.heap.size, 2, none⟩, (.slice Ag2 g.mv.length cg2))] : List (Addr × Value)) ++ (blkC (w45.heap.size) ((wordsD (amoD g.ow 0) : List Int).map wV) ++ (blkC (w77.heap.size) ((wordsD (amoD g.ow 1) : List Int).map wV) ++ (blkC (w110.heap.size) ((fullW ((g.ow.length : Nat) : Int) : List Int).map wV) ++ blkC (w133.heap.size) ((sm : List Int).map wV)))) := ⟨_, rfl⟩
    have hS463 : HoldsC Cs461 w446 := by rw [hCs462]; exact (holdsA (show HoldsC [(⟨w.heap.size, 0, none⟩, (.slice Ag0 g.ow.length cg0)), (⟨w.heap.size, 1, none⟩, (.slice Ag1 g.pr.length cg1)), (⟨w.heap.size, 2, none⟩, (.slice Ag2 g.mv.length cg2))] w446 from ⟨(bx451.cell (i := 0) rfl), (bx451.cell (i := 1) rfl), (bx451.cell (i := 2) rfl), trivial⟩) (holdsA (holds_blk bx452) (holdsA (holds_blk bx453) (holdsA (holds_blk bx454) (holds_blk bx455)))))
    refine AtH.start Cs461 34 #[false, false, false, false, false, false, false, false, false, false, false, false, false, false, false, false, false, false, false, false, false, false, false, false, false, false, false, false, false, false, false, false, false, false] (by kernel_rfl) rfl rfl (fun w465 hw466 => ?_)
    have g464 := gr_drew hw466
    have hS467 := hS463.gr g464
    have szw465 := g464.size
    replace e448 := e448.gr g464 no_row
    replace r449 := r449.gr g464 (fun _ h => by cases h)
    replace r450 := r450.gr g464 (fun _ h => by cases h)
    replace bx451 := bx451.gr g464 (by simp)
    replace bx452 := bx452.gr g464 (by simp)
    replace bx453 := bx453.gr g464 (by simp)
    replace bx454 := bx454.gr g464 (by simp)
    replace bx455 := bx455.gr g464 (by simp)
    replace ow456 := ow456.gr g464 (fun _ _ h => by cases h)
    replace ow457 := ow457.gr g464 (fun _ _ h => by cases h)
    replace ow458 := ow458.gr g464 (fun _ _ h => by cases h)
    replace bx459 := bx459.gr g464 (by simp)
    clear g464 hw466 hS463
    refine AtH.rd (by kernel_rfl) (fun d v c a w h => by cases d <;> exact h) hS467 [0, 1, 2, 3, 4, 6] [[], [.as_ (.bool true)], [], [.cs ((wordsD (amoD g.ow 0) : List Int).map wV)], [.cs ((wordsD (amoD g.ow 1) : List Int).map wV)], [.cs ((fullW ((g.ow.length : Nat) : Int) : List Int).map wV)]] [(73, .agg ((fullW ((g.ow.length : Nat) : Int) : List Int).map wV).toArray), (71, .agg ((wordsD (amoD g.ow 1) : List Int).map wV).toArray), (70, .agg ((wordsD (amoD g.ow 0) : List Int).map wV).toArray), (69, .bool true), (68, .bool true), (67, .int .i64 ((rightP g).1))] #[true, true, true, true, true, false, true, false, false, false, false, false, false, false, false, false, false, false, false, false, false, false, false, false, false, false, false, false, false, false, false, false, false, false] [((.bool (((rightP g).1 : Int) == 0) : Value) = .bool true), (((wordsD (amoD g.ow 0) : List Int).map wV).length = 4), (∀ (j : Nat) (v : Value), ((wordsD (amoD g.ow 0) : List Int).map wV)[j]? = some v → ∃ j_ : Nat, Cs461[j_]? = some (((⟨w45.heap.size, 0, none⟩ : Addr).add j), v)), (((wordsD (amoD g.ow 1) : List Int).map wV).length = 4), (∀ (j : Nat) (v : Value), ((wordsD (amoD g.ow 1) : List Int).map wV)[j]? = some v → ∃ j_ : Nat, Cs461[j_]? = some (((⟨w77.heap.size, 0, none⟩ : Addr).add j), v)), (((fullW ((g.ow.length : Nat) : Int) : List Int).map wV).length = 4), (∀ (j : Nat) (v : Value), ((fullW ((g.ow.length : Nat) : Int) : List Int).map wV)[j]? = some v → ∃ j_ : Nat, Cs461[j_]? = some (((⟨w110.heap.size, 0, none⟩ : Addr).add j), v))] 28 f447 (by kernel_rfl) ⟨(congrArg Value.bool (beqT (by rw [rightP_ok hG]))), ((List.length_map _).trans (okLen (wordsD_W _))), (fun j v hv => List.getElem?_of_mem (by rw [hCs462]; exact List.mem_append.2 (.inr (List.mem_append.2 (.inl (blkC_in hv)))))), ((List.length_map _).trans (okLen (wordsD_W _))), (fun j v hv => List.getElem?_of_mem (by rw [hCs462]; exact List.mem_append.2 (.inr (List.mem_append.2 (.inr (List.mem_append.2 (.inl (blkC_in hv)))))))), ((List.length_map _).trans (okLen (fullW_W _))), (fun j v hv => List.getElem?_of_mem (by rw [hCs462]; exact List.mem_append.2 (.inr (List.mem_append.2 (.inr (List.mem_append.2 (.inr (List.mem_append.2 (.inl (blkC_in hv)))))))))), trivial⟩ (fun act481 f480 => ?_)
    clear f447
    refine AtH.all [5] 27 (by kernel_rfl) (by simp) ⟨?_, trivial⟩
    refine OneH.call f480 32 #[.agg ((wordsD (amoD g.ow 0) : List Int).map wV).toArray, .agg ((wordsD (amoD g.ow 1) : List Int).map wV).toArray] (some 72) #[true, true, true, true, true, true, true, false, false, false, false, false, false, false, false, false, false, false, false, false, false, false, false, false, false, false, false, false, false, false, false, false, false, false] (by kernel_rfl) (by kernel_rfl) (orS_any (s := wordsD (amoD g.ow 0)) (t := wordsD (amoD g.ow 1)) (wordsD_W _) (wordsD_W _)) ?_
    rintro e_ w483 ⟨rfl, he⟩
    refine ⟨_, rfl, _, rfl, fun act484 f485 => ?_⟩
    clear f480
    have g486 := gr_ext he
    have hS482 := hS467.gr g486
    have szw483 := g486.size
    replace e448 := e448.gr g486 no_row
    replace r449 := r449.gr g486 (fun _ h => by cases h)
    replace r450 := r450.gr g486 (fun _ h => by cases h)
    replace bx451 := bx451.gr g486 (by simp)
    replace bx452 := bx452.gr g486 (by simp)
    replace bx453 := bx453.gr g486 (by simp)
    replace bx454 := bx454.gr g486 (by simp)
    replace bx455 := bx455.gr g486 (by simp)
    replace ow456 := ow456.gr g486 (fun _ _ h => by cases h)
    replace ow457 := ow457.gr g486 (fun _ _ h => by cases h)
    replace ow458 := ow458.gr g486 (fun _ _ h => by cases h)
    replace bx459 := bx459.gr g486 (by simp)
    clear g486 he
    refine ⟨hS482, ?_⟩
    refine AtH.rd (by kernel_rfl) (fun d v c a w h => by cases d <;> exact h) hS482 [7] [[.cs [wV (gI (orS (wordsD (amoD g.ow 0)) (wordsD (amoD g.ow 1))) 0), wV (gI (orS (wordsD (amoD g.ow 0)) (wordsD (amoD g.ow 1))) 1), wV (gI (orS (wordsD (amoD g.ow 0)) (wordsD (amoD g.ow 1))) 2), wV (gI (orS (wordsD (amoD g.ow 0)) (wordsD (amoD g.ow 1))) 3)], .cs [wV (gI (fullW ((g.ow.length : Nat) : Int)) 0), wV (gI (fullW ((g.ow.length : Nat) : Int)) 1), wV (gI (fullW ((g.ow.length : Nat) : Int)) 2), wV (gI (fullW ((g.ow.length : Nat) : Int)) 3)], .as_ (.bool true)]] [(74, .bool true)] #[true, true, true, true, true, true, true, true, false, false, false, false, false, false, false, false, false, false, false, false, false, false, false, false, false, false, false, false, false, false, false, false, false, false] [(((orS (wordsD (amoD g.ow 0)) (wordsD (amoD g.ow 1)) : List Int).map wV).toArray = ([wV (gI (orS (wordsD (amoD g.ow 0)) (wordsD (amoD g.ow 1))) 0), wV (gI (orS (wordsD (amoD g.ow 0)) (wordsD (amoD g.ow 1))) 1), wV (gI (orS (wordsD (amoD g.ow 0)) (wordsD (amoD g.ow 1))) 2), wV (gI (orS (wordsD (amoD g.ow 0)) (wordsD (amoD g.ow 1))) 3)] : List Value).toArray), (((fullW ((g.ow.length : Nat) : Int) : List Int).map wV).toArray = ([wV (gI (fullW ((g.ow.length : Nat) : Int)) 0), wV (gI (fullW ((g.ow.length : Nat) : Int)) 1), wV (gI (fullW ((g.ow.length : Nat) : Int)) 2), wV (gI (fullW ((g.ow.length : Nat) : Int)) 3)] : List Value).toArray), ((.bool ((((gI (orS (wordsD (amoD g.ow 0)) (wordsD (amoD g.ow 1))) 0 : Int) == gI (fullW ((g.ow.length : Nat) : Int)) 0) && (((gI (orS (wordsD (amoD g.ow 0)) (wordsD (amoD g.ow 1))) 1 : Int) == gI (fullW ((g.ow.length : Nat) : Int)) 1) && (((gI (orS (wordsD (amoD g.ow 0)) (wordsD (amoD g.ow 1))) 2 : Int) == gI (fullW ((g.ow.length : Nat) : Int)) 2) && (((gI (orS (wordsD (amoD g.ow 0)) (wordsD (amoD g.ow 1))) 3 : Int) == gI (fullW ((g.ow.length : Nat) : Int)) 3) && true))))) : Value) = .bool true)] 26 f485 (by kernel_rfl) ⟨(map4 (okLen (okW_orS (wordsD_W _) (wordsD_W _)))), (map4 (okLen (fullW_W _))), (Eq.trans (b := (.bool (decide ((orS (wordsD (amoD g.ow 0)) (wordsD (amoD g.ow 1)) : List Int) = (fullW ((g.ow.length : Nat) : Int)))) : Value)) (congrArg (fun b => Value.bool b) (w4_eq (okLen (okW_orS (wordsD_W _) (wordsD_W _))) (okLen (fullW_W _)))) (congrArg Value.bool (decide_eq_true (amo_all hG)))), trivial⟩ (fun act500 f499 => ?_)
    clear f485
    refine AtH.rd (by kernel_rfl) (fun d v c a w h => by cases d <;> exact h) hS482 [8] [[]] [(75, .bool true)] #[true, true, true, true, true, true, true, true, true, false, false, false, false, false, false, false, false, false, false, false, false, false, false, false, false, false, false, false, false, false, false, false, false, false] [] 25 f499 (by kernel_rfl) trivial (fun act502 f501 => ?_)
    clear f499
    refine AtH.rd (by kernel_rfl) (fun d v c a w h => by cases d <;> exact h) hS482 [9] [[]] [(76, .bool true)] #[true, true, true, true, true, true, true, true, true, true, false, false, false, false, false, false, false, false, false, false, false, false, false, false, false, false, false, false, false, false, false, false, false, false] [] 24 f501 (by kernel_rfl) trivial (fun act504 f503 => ?_)
    clear f501
    refine AtH.rd (by kernel_rfl) (fun d v c a w h => by cases d <;> exact h) hS482 [10] [[.cs ((wordsD (amoD g.ow 0) : List Int).map wV)]] [(77, .agg ((wordsD (amoD g.ow 0) : List Int).map wV).toArray)] #[true, true, true, true, true, true, true, true, true, true, true, false, false, false, false, false, false, false, false, false, false, false, false, false, false, false, false, false, false, false, false, false, false, false] [(((wordsD (amoD g.ow 0) : List Int).map wV).length = 4), (∀ (j : Nat) (v : Value), ((wordsD (amoD g.ow 0) : List Int).map wV)[j]? = some v → ∃ j_ : Nat, Cs461[j_]? = some (((⟨w45.heap.size, 0, none⟩ : Addr).add j), v))] 23 f503 (by kernel_rfl) ⟨((List.length_map _).trans (okLen (wordsD_W _))), (fun j v hv => List.getElem?_of_mem (by rw [hCs462]; exact List.mem_append.2 (.inr (List.mem_append.2 (.inl (blkC_in hv)))))), trivial⟩ (fun act506 f505 => ?_)
    clear f503
    refine AtH.rd (by kernel_rfl) (fun d v c a w h => by cases d <;> exact h) hS482 [11] [[.cs ((wordsD (amoD g.ow 1) : List Int).map wV)]] [(78, .agg ((wordsD (amoD g.ow 1) : List Int).map wV).toArray)] #[true, true, true, true, true, true, true, true, true, true, true, true, false, false, false, false, false, false, false, false, false, false, false, false, false, false, false, false, false, false, false, false, false, false] [(((wordsD (amoD g.ow 1) : List Int).map wV).length = 4), (∀ (j : Nat) (v : Value), ((wordsD (amoD g.ow 1) : List Int).map wV)[j]? = some v → ∃ j_ : Nat, Cs461[j_]? = some (((⟨w77.heap.size, 0, none⟩ : Addr).add j), v))] 22 f505 (by kernel_rfl) ⟨((List.length_map _).trans (okLen (wordsD_W _))), (fun j v hv => List.getElem?_of_mem (by rw [hCs462]; exact List.mem_append.2 (.inr (List.mem_append.2 (.inr (List.mem_append.2 (.inl (blkC_in hv)))))))), trivial⟩ (fun act508 f507 => ?_)
    clear f505
    refine AtH.rd (by kernel_rfl) (fun d v c a w h => by cases d <;> exact h) hS482 [13] [[]] [(80, .agg (([0, 0, 0, 0] : List Int).map wV).toArray)] #[true, true, true, true, true, true, true, true, true, true, true, true, false, true, false, false, false, false, false, false, false, false, false, false, false, false, false, false, false, false, false, false, false, false] [] 21 f507 (by kernel_rfl) trivial (fun act510 f509 => ?_)
    clear f507
    refine AtH.all [12] 20 (by kernel_rfl) (by simp) ⟨?_, trivial⟩
    refine OneH.call f509 31 #[.agg ((wordsD (amoD g.ow 0) : List Int).map wV).toArray, .agg ((wordsD (amoD g.ow 1) : List Int).map wV).toArray] (some 79) #[true, true, true, true, true, true, true, true, true, true, true, true, true, true, false, false, false, false, false, false, false, false, false, false, false, false, false, false, false, false, false, false, false, false] (by kernel_rfl) (by kernel_rfl) (andS_any (s := wordsD (amoD g.ow 0)) (t := wordsD (amoD g.ow 1)) (wordsD_W _) (wordsD_W _)) ?_
    rintro e_ w512 ⟨rfl, he⟩
    refine ⟨_, rfl, _, rfl, fun act513 f514 => ?_⟩
    clear f509
    have g515 := gr_ext he
    have hS511 := hS482.gr g515
    have szw512 := g515.size
    replace e448 := e448.gr g515 no_row
    replace r449 := r449.gr g515 (fun _ h => by cases h)
    replace r450 := r450.gr g515 (fun _ h => by cases h)
    replace bx451 := bx451.gr g515 (by simp)
    replace bx452 := bx452.gr g515 (by simp)
    replace bx453 := bx453.gr g515 (by simp)
    replace bx454 := bx454.gr g515 (by simp)
    replace bx455 := bx455.gr g515 (by simp)
    replace ow456 := ow456.gr g515 (fun _ _ h => by cases h)
    replace ow457 := ow457.gr g515 (fun _ _ h => by cases h)
    replace ow458 := ow458.gr g515 (fun _ _ h => by cases h)
    replace bx459 := bx459.gr g515 (by simp)
    clear g515 he
    refine ⟨hS511, ?_⟩
    refine AtH.rd (by kernel_rfl) (fun d v c a w h => by cases d <;> exact h) hS511 [14] [[.cs [wV (gI (andS (wordsD (amoD g.ow 0)) (wordsD (amoD g.ow 1))) 0), wV (gI (andS (wordsD (amoD g.ow 0)) (wordsD (amoD g.ow 1))) 1), wV (gI (andS (wordsD (amoD g.ow 0)) (wordsD (amoD g.ow 1))) 2), wV (gI (andS (wordsD (amoD g.ow 0)) (wordsD (amoD g.ow 1))) 3)], .cs [wV (gI ([0, 0, 0, 0]) 0), wV (gI ([0, 0, 0, 0]) 1), wV (gI ([0, 0, 0, 0]) 2), wV (gI ([0, 0, 0, 0]) 3)], .as_ (.bool true)]] [(81, .bool true)] #[true, true, true, true, true, true, true, true, true, true, true, true, true, true, true, false, false, false, false, false, false, false, false, false, false, false, false, false, false, false, false, false, false, false] [(((andS (wordsD (amoD g.ow 0)) (wordsD (amoD g.ow 1)) : List Int).map wV).toArray = ([wV (gI (andS (wordsD (amoD g.ow 0)) (wordsD (amoD g.ow 1))) 0), wV (gI (andS (wordsD (amoD g.ow 0)) (wordsD (amoD g.ow 1))) 1), wV (gI (andS (wordsD (amoD g.ow 0)) (wordsD (amoD g.ow 1))) 2), wV (gI (andS (wordsD (amoD g.ow 0)) (wordsD (amoD g.ow 1))) 3)] : List Value).toArray), ((([0, 0, 0, 0] : List Int).map wV).toArray = ([wV (gI ([0, 0, 0, 0]) 0), wV (gI ([0, 0, 0, 0]) 1), wV (gI ([0, 0, 0, 0]) 2), wV (gI ([0, 0, 0, 0]) 3)] : List Value).toArray), ((.bool ((((gI (andS (wordsD (amoD g.ow 0)) (wordsD (amoD g.ow 1))) 0 : Int) == gI ([0, 0, 0, 0]) 0) && (((gI (andS (wordsD (amoD g.ow 0)) (wordsD (amoD g.ow 1))) 1 : Int) == gI ([0, 0, 0, 0]) 1) && (((gI (andS (wordsD (amoD g.ow 0)) (wordsD (amoD g.ow 1))) 2 : Int) == gI ([0, 0, 0, 0]) 2) && (((gI (andS (wordsD (amoD g.ow 0)) (wordsD (amoD g.ow 1))) 3 : Int) == gI ([0, 0, 0, 0]) 3) && true))))) : Value) = .bool true)] 19 f514 (by kernel_rfl) ⟨(map4 (okLen (okW_andS (wordsD_W _) (wordsD_W _)))), (map4 (okLen okW_00)), (Eq.trans (b := (.bool (decide ((andS (wordsD (amoD g.ow 0)) (wordsD (amoD g.ow 1)) : List Int) = ([0, 0, 0, 0]))) : Value)) (congrArg (fun b => Value.bool b) (w4_eq (okLen (okW_andS (wordsD_W _) (wordsD_W _))) (okLen okW_00))) (congrArg Value.bool (decide_eq_true (amo_both (by decide))))), trivial⟩ (fun act529 f528 => ?_)
    clear f514
    refine AtH.rd (by kernel_rfl) (fun d v c a w h => by cases d <;> exact h) hS511 [15] [[]] [(82, .bool true)] #[true, true, true, true, true, true, true, true, true, true, true, true, true, true, true, true, false, false, false, false, false, false, false, false, false, false, false, false, false, false, false, false, false, false] [] 18 f528 (by kernel_rfl) trivial (fun act531 f530 => ?_)
    clear f528
    refine AtH.rd (by kernel_rfl) (fun d v c a w h => by cases d <;> exact h) hS511 [16] [[]] [(83, .bool true)] #[true, true, true, true, true, true, true, true, true, true, true, true, true, true, true, true, true, false, false, false, false, false, false, false, false, false, false, false, false, false, false, false, false, false] [] 17 f530 (by kernel_rfl) trivial (fun act533 f532 => ?_)
    clear f530
    refine AtH.rd (by kernel_rfl) (fun d v c a w h => by cases d <;> exact h) hS511 [17] [[.cs ((sm : List Int).map wV)]] [(84, .agg ((sm : List Int).map wV).toArray)] #[true, true, true, true, true, true, true, true, true, true, true, true, true, true, true, true, true, true, false, false, false, false, false, false, false, false, false, false, false, false, false, false, false, false] [(((sm : List Int).map wV).length = 4), (∀ (j : Nat) (v : Value), ((sm : List Int).map wV)[j]? = some v → ∃ j_ : Nat, Cs461[j_]? = some (((⟨w133.heap.size, 0, none⟩ : Addr).add j), v))] 16 f532 (by kernel_rfl) ⟨((List.length_map _).trans (by assumption)), (fun j v hv => List.getElem?_of_mem (by rw [hCs462]; exact List.mem_append.2 (.inr (List.mem_append.2 (.inr (List.mem_append.2 (.inr (List.mem_append.2 (.inr (blkC_in hv)))))))))), trivial⟩ (fun act535 f534 => ?_)
    clear f532
    refine AtH.rd (by kernel_rfl) (fun d v c a w h => by cases d <;> exact h) hS511 [18] [[.cs ((fullW ((g.ow.length : Nat) : Int) : List Int).map wV)]] [(85, .agg ((fullW ((g.ow.length : Nat) : Int) : List Int).map wV).toArray)] #[true, true, true, true, true, true, true, true, true, true, true, true, true, true, true, true, true, true, true, false, false, false, false, false, false, false, false, false, false, false, false, false, false, false] [(((fullW ((g.ow.length : Nat) : Int) : List Int).map wV).length = 4), (∀ (j : Nat) (v : Value), ((fullW ((g.ow.length : Nat) : Int) : List Int).map wV)[j]? = some v → ∃ j_ : Nat, Cs461[j_]? = some (((⟨w110.heap.size, 0, none⟩ : Addr).add j), v))] 15 f534 (by kernel_rfl) ⟨((List.length_map _).trans (okLen (fullW_W _))), (fun j v hv => List.getElem?_of_mem (by rw [hCs462]; exact List.mem_append.2 (.inr (List.mem_append.2 (.inr (List.mem_append.2 (.inr (List.mem_append.2 (.inl (blkC_in hv)))))))))), trivial⟩ (fun act537 f536 => ?_)
    clear f534
    refine AtH.rd (by kernel_rfl) (fun d v c a w h => by cases d <;> exact h) hS511 [19] [[.cs [wV (gI sm 0), wV (gI sm 1), wV (gI sm 2), wV (gI sm 3)], .cs [wV (gI (fullW ((g.ow.length : Nat) : Int)) 0), wV (gI (fullW ((g.ow.length : Nat) : Int)) 1), wV (gI (fullW ((g.ow.length : Nat) : Int)) 2), wV (gI (fullW ((g.ow.length : Nat) : Int)) 3)], .as_ (.bool true)]] [(86, .bool true)] #[true, true, true, true, true, true, true, true, true, true, true, true, true, true, true, true, true, true, true, true, false, false, false, false, false, false, false, false, false, false, false, false, false, false] [(((sm : List Int).map wV).toArray = ([wV (gI sm 0), wV (gI sm 1), wV (gI sm 2), wV (gI sm 3)] : List Value).toArray), (((fullW ((g.ow.length : Nat) : Int) : List Int).map wV).toArray = ([wV (gI (fullW ((g.ow.length : Nat) : Int)) 0), wV (gI (fullW ((g.ow.length : Nat) : Int)) 1), wV (gI (fullW ((g.ow.length : Nat) : Int)) 2), wV (gI (fullW ((g.ow.length : Nat) : Int)) 3)] : List Value).toArray), ((.bool ((((gI sm 0 : Int) == gI (fullW ((g.ow.length : Nat) : Int)) 0) && (((gI sm 1 : Int) == gI (fullW ((g.ow.length : Nat) : Int)) 1) && (((gI sm 2 : Int) == gI (fullW ((g.ow.length : Nat) : Int)) 2) && (((gI sm 3 : Int) == gI (fullW ((g.ow.length : Nat) : Int)) 3) && true))))) : Value) = .bool true)] 14 f536 (by kernel_rfl) ⟨(map4 (by assumption)), (map4 (okLen (fullW_W _))), (Eq.trans (b := (.bool (decide ((sm : List Int) = (fullW ((g.ow.length : Nat) : Int)))) : Value)) (congrArg (fun b => Value.bool b) (w4_eq (by assumption) (okLen (fullW_W _)))) (congrArg Value.bool (decide_eq_true (someAt_end hG hsa (by omega))))), trivial⟩ (fun act539 f538 => ?_)
    clear f536
    refine AtH.rd (by kernel_rfl) (fun d v c a w h => by cases d <;> exact h) hS511 [20] [[]] [(87, .bool true)] #[true, true, true, true, true, true, true, true, true, true, true, true, true, true, true, true, true, true, true, true, true, false, false, false, false, false, false, false, false, false, false, false, false, false] [] 13 f538 (by kernel_rfl) trivial (fun act541 f540 => ?_)
    clear f538
    refine AtH.rd (by kernel_rfl) (fun d v c a w h => by cases d <;> exact h) hS511 [21] [[]] [(88, .bool true)] #[true, true, true, true, true, true, true, true, true, true, true, true, true, true, true, true, true, true, true, true, true, true, false, false, false, false, false, false, false, false, false, false, false, false] [] 12 f540 (by kernel_rfl) trivial (fun act543 f542 => ?_)
    clear f540
    refine AtH.rd (by kernel_rfl) (fun d v c a w h => by cases d <;> exact h) hS511 [22] [[.ld (.slice Ag0 g.ow.length cg0), .ld (.slice Ag1 g.pr.length cg1), .ld (.slice Ag2 g.mv.length cg2)]] [(89, .agg #[.slice Ag0 g.ow.length cg0, .slice Ag1 g.pr.length cg1, .slice Ag2 g.mv.length cg2])] #[true, true, true, true, true, true, true, true, true, true, true, true, true, true, true, true, true, true, true, true, true, true, true, false, false, false, false, false, false, false, false, false, false, false] [(∃ j_ : Nat, Cs461[j_]? = some (⟨w.heap.size, 0, none⟩, (.slice Ag0 g.ow.length cg0))), (∃ j_ : Nat, Cs461[j_]? = some (⟨w.heap.size, 1, none⟩, (.slice Ag1 g.pr.length cg1))), (∃ j_ : Nat, Cs461[j_]? = some (⟨w.heap.size, 2, none⟩, (.slice Ag2 g.mv.length cg2)))] 11 f542 (by kernel_rfl) ⟨⟨0, by rw [hCs462]; rfl⟩, ⟨1, by rw [hCs462]; rfl⟩, ⟨2, by rw [hCs462]; rfl⟩, trivial⟩ (fun act545 f544 => ?_)
    clear f542
    refine AtH.rd (by kernel_rfl) (fun d v c a w h => by cases d <;> exact h) hS511 [24] [[]] [(91, .agg (([0, 0, 0, 0] : List Int).map wV).toArray)] #[true, true, true, true, true, true, true, true, true, true, true, true, true, true, true, true, true, true, true, true, true, true, true, false, true, false, false, false, false, false, false, false, false, false] [] 10 f544 (by kernel_rfl) trivial (fun act547 f546 => ?_)
    clear f544
    refine AtH.all [23] 9 (by kernel_rfl) (by simp) ⟨?_, trivial⟩
    refine OneH.call f546 27 #[.agg #[.slice Ag0 g.ow.length cg0, .slice Ag1 g.pr.length cg1, .slice Ag2 g.mv.length cg2], .int .i64 (2)] (some 90) #[true, true, true, true, true, true, true, true, true, true, true, true, true, true, true, true, true, true, true, true, true, true, true, true, true, false, false, false, false, false, false, false, false, false] (by kernel_rfl) (by kernel_rfl) (ownG_any (g := g) (p := 2) (r449.wide (Nat.zero_le _) (by omega))) ?_
    rintro e_ w549 ⟨rfl, he⟩
    refine ⟨_, rfl, _, rfl, fun act550 f551 => ?_⟩
    clear f546
    have g552 := gr_ext he
    have hS548 := hS511.gr g552
    have szw549 := g552.size
    replace e448 := e448.gr g552 no_row
    replace r449 := r449.gr g552 (fun _ h => by cases h)
    replace r450 := r450.gr g552 (fun _ h => by cases h)
    replace bx451 := bx451.gr g552 (by simp)
    replace bx452 := bx452.gr g552 (by simp)
    replace bx453 := bx453.gr g552 (by simp)
    replace bx454 := bx454.gr g552 (by simp)
    replace bx455 := bx455.gr g552 (by simp)
    replace ow456 := ow456.gr g552 (fun _ _ h => by cases h)
    replace ow457 := ow457.gr g552 (fun _ _ h => by cases h)
    replace ow458 := ow458.gr g552 (fun _ _ h => by cases h)
    replace bx459 := bx459.gr g552 (by simp)
    clear g552 he
    refine ⟨hS548, ?_⟩
    refine AtH.rd (by kernel_rfl) (fun d v c a w h => by cases d <;> exact h) hS548 [25] [[.cs [wV (gI (wordsD (amoD g.ow 2)) 0), wV (gI (wordsD (amoD g.ow 2)) 1), wV (gI (wordsD (amoD g.ow 2)) 2), wV (gI (wordsD (amoD g.ow 2)) 3)], .cs [wV (gI ([0, 0, 0, 0]) 0), wV (gI ([0, 0, 0, 0]) 1), wV (gI ([0, 0, 0, 0]) 2), wV (gI ([0, 0, 0, 0]) 3)], .as_ (.bool true)]] [(92, .bool true)] #[true, true, true, true, true, true, true, true, true, true, true, true, true, true, true, true, true, true, true, true, true, true, true, true, true, true, false, false, false, false, false, false, false, false] [(((wordsD (amoD g.ow 2) : List Int).map wV).toArray = ([wV (gI (wordsD (amoD g.ow 2)) 0), wV (gI (wordsD (amoD g.ow 2)) 1), wV (gI (wordsD (amoD g.ow 2)) 2), wV (gI (wordsD (amoD g.ow 2)) 3)] : List Value).toArray), ((([0, 0, 0, 0] : List Int).map wV).toArray = ([wV (gI ([0, 0, 0, 0]) 0), wV (gI ([0, 0, 0, 0]) 1), wV (gI ([0, 0, 0, 0]) 2), wV (gI ([0, 0, 0, 0]) 3)] : List Value).toArray), ((.bool ((((gI (wordsD (amoD g.ow 2)) 0 : Int) == gI ([0, 0, 0, 0]) 0) && (((gI (wordsD (amoD g.ow 2)) 1 : Int) == gI ([0, 0, 0, 0]) 1) && (((gI (wordsD (amoD g.ow 2)) 2 : Int) == gI ([0, 0, 0, 0]) 2) && (((gI (wordsD (amoD g.ow 2)) 3 : Int) == gI ([0, 0, 0, 0]) 3) && true))))) : Value) = .bool true)] 8 f551 (by kernel_rfl) ⟨(map4 (okLen (wordsD_W _))), (map4 (okLen okW_00)), (Eq.trans (b := (.bool (decide ((wordsD (amoD g.ow 2) : List Int) = ([0, 0, 0, 0]))) : Value)) (congrArg (fun b => Value.bool b) (w4_eq (okLen (wordsD_W _)) (okLen okW_00))) (congrArg Value.bool (decide_eq_true (amo_out hG).1))), trivial⟩ (fun act566 f565 => ?_)
    clear f551
    refine AtH.rd (by kernel_rfl) (fun d v c a w h => by cases d <;> exact h) hS548 [26] [[]] [(93, .bool true)] #[true, true, true, true, true, true, true, true, true, true, true, true, true, true, true, true, true, true, true, true, true, true, true, true, true, true, true, false, false, false, false, false, false, false] [] 7 f565 (by kernel_rfl) trivial (fun act568 f567 => ?_)
    clear f565
    refine AtH.rd (by kernel_rfl) (fun d v c a w h => by cases d <;> exact h) hS548 [27] [[]] [(94, .bool true)] #[true, true, true, true, true, true, true, true, true, true, true, true, true, true, true, true, true, true, true, true, true, true, true, true, true, true, true, true, false, false, false, false, false, false] [] 6 f567 (by kernel_rfl) trivial (fun act570 f569 => ?_)
    clear f567
    refine AtH.rd (by kernel_rfl) (fun d v c a w h => by cases d <;> exact h) hS548 [28] [[.ld (.slice Ag0 g.ow.length cg0), .ld (.slice Ag1 g.pr.length cg1), .ld (.slice Ag2 g.mv.length cg2)]] [(95, .agg #[.slice Ag0 g.ow.length cg0, .slice Ag1 g.pr.length cg1, .slice Ag2 g.mv.length cg2])] #[true, true, true, true, true, true, true, true, true, true, true, true, true, true, true, true, true, true, true, true, true, true, true, true, true, true, true, true, true, false, false, false, false, false] [(∃ j_ : Nat, Cs461[j_]? = some (⟨w.heap.size, 0, none⟩, (.slice Ag0 g.ow.length cg0))), (∃ j_ : Nat, Cs461[j_]? = some (⟨w.heap.size, 1, none⟩, (.slice Ag1 g.pr.length cg1))), (∃ j_ : Nat, Cs461[j_]? = some (⟨w.heap.size, 2, none⟩, (.slice Ag2 g.mv.length cg2)))] 5 f569 (by kernel_rfl) ⟨⟨0, by rw [hCs462]; rfl⟩, ⟨1, by rw [hCs462]; rfl⟩, ⟨2, by rw [hCs462]; rfl⟩, trivial⟩ (fun act572 f571 => ?_)
    clear f569
    refine AtH.rd (by kernel_rfl) (fun d v c a w h => by cases d <;> exact h) hS548 [30] [[]] [(97, .agg (([0, 0, 0, 0] : List Int).map wV).toArray)] #[true, true, true, true, true, true, true, true, true, true, true, true, true, true, true, true, true, true, true, true, true, true, true, true, true, true, true, true, true, false, true, false, false, false] [] 4 f571 (by kernel_rfl) trivial (fun act574 f573 => ?_)
    clear f571
    refine AtH.all [29] 3 (by kernel_rfl) (by simp) ⟨?_, trivial⟩
    refine OneH.call f573 28 #[.agg #[.slice Ag0 g.ow.length cg0, .slice Ag1 g.pr.length cg1, .slice Ag2 g.mv.length cg2], .int .i64 (8)] (some 96) #[true, true, true, true, true, true, true, true, true, true, true, true, true, true, true, true, true, true, true, true, true, true, true, true, true, true, true, true, true, true, true, false, false, false] (by kernel_rfl) (by kernel_rfl) (atG_any (g := g) (p := 8) (r449.wide (Nat.zero_le _) (by omega))) ?_
    rintro e_ w576 ⟨rfl, he⟩
    refine ⟨_, rfl, _, rfl, fun act577 f578 => ?_⟩
    clear f573
    have g579 := gr_ext he
    have hS575 := hS548.gr g579
    have szw576 := g579.size
    replace e448 := e448.gr g579 no_row
    replace r449 := r449.gr g579 (fun _ h => by cases h)
    replace r450 := r450.gr g579 (fun _ h => by cases h)
    replace bx451 := bx451.gr g579 (by simp)
    replace bx452 := bx452.gr g579 (by simp)
    replace bx453 := bx453.gr g579 (by simp)
    replace bx454 := bx454.gr g579 (by simp)
    replace bx455 := bx455.gr g579 (by simp)
    replace ow456 := ow456.gr g579 (fun _ _ h => by cases h)
    replace ow457 := ow457.gr g579 (fun _ _ h => by cases h)
    replace ow458 := ow458.gr g579 (fun _ _ h => by cases h)
    replace bx459 := bx459.gr g579 (by simp)
    clear g579 he
    refine ⟨hS575, ?_⟩
    refine AtH.rd (by kernel_rfl) (fun d v c a w h => by cases d <;> exact h) hS575 [31] [[.cs [wV (gI (wordsD (amoD g.pr 8)) 0), wV (gI (wordsD (amoD g.pr 8)) 1), wV (gI (wordsD (amoD g.pr 8)) 2), wV (gI (wordsD (amoD g.pr 8)) 3)], .cs [wV (gI ([0, 0, 0, 0]) 0), wV (gI ([0, 0, 0, 0]) 1), wV (gI ([0, 0, 0, 0]) 2), wV (gI ([0, 0, 0, 0]) 3)], .as_ (.bool true)]] [(98, .bool true)] #[true, true, true, true, true, true, true, true, true, true, true, true, true, true, true, true, true, true, true, true, true, true, true, true, true, true, true, true, true, true, true, true, false, false] [(((wordsD (amoD g.pr 8) : List Int).map wV).toArray = ([wV (gI (wordsD (amoD g.pr 8)) 0), wV (gI (wordsD (amoD g.pr 8)) 1), wV (gI (wordsD (amoD g.pr 8)) 2), wV (gI (wordsD (amoD g.pr 8)) 3)] : List Value).toArray), ((([0, 0, 0, 0] : List Int).map wV).toArray = ([wV (gI ([0, 0, 0, 0]) 0), wV (gI ([0, 0, 0, 0]) 1), wV (gI ([0, 0, 0, 0]) 2), wV (gI ([0, 0, 0, 0]) 3)] : List Value).toArray), ((.bool ((((gI (wordsD (amoD g.pr 8)) 0 : Int) == gI ([0, 0, 0, 0]) 0) && (((gI (wordsD (amoD g.pr 8)) 1 : Int) == gI ([0, 0, 0, 0]) 1) && (((gI (wordsD (amoD g.pr 8)) 2 : Int) == gI ([0, 0, 0, 0]) 2) && (((gI (wordsD (amoD g.pr 8)) 3 : Int) == gI ([0, 0, 0, 0]) 3) && true))))) : Value) = .bool true)] 2 f578 (by kernel_rfl) ⟨(map4 (okLen (wordsD_W _))), (map4 (okLen okW_00)), (Eq.trans (b := (.bool (decide ((wordsD (amoD g.pr 8) : List Int) = ([0, 0, 0, 0]))) : Value)) (congrArg (fun b => Value.bool b) (w4_eq (okLen (wordsD_W _)) (okLen okW_00))) (congrArg Value.bool (decide_eq_true (amo_out hG).2))), trivial⟩ (fun act593 f592 => ?_)
    clear f578
    refine AtH.rd (by kernel_rfl) (fun d v c a w h => by cases d <;> exact h) hS575 [32] [[]] [(99, .bool true)] #[true, true, true, true, true, true, true, true, true, true, true, true, true, true, true, true, true, true, true, true, true, true, true, true, true, true, true, true, true, true, true, true, true, false] [] 1 f592 (by kernel_rfl) trivial (fun act595 f594 => ?_)
    clear f592
    refine AtH.rd (by kernel_rfl) (fun d v c a w h => by cases d <;> exact h) hS575 [33] [[]] [(2, .bool true)] #[true, true, true, true, true, true, true, true, true, true, true, true, true, true, true, true, true, true, true, true, true, true, true, true, true, true, true, true, true, true, true, true, true, true] [] 0 f594 (by kernel_rfl) trivial (fun act597 f596 => ?_)
    clear f594
    refine AtH.done (by kernel_rfl) ?_
    clear hS575
    refine t_n ?_
    have f598 := f596.sub (r := [(2, .bool true)]) ⟨rfl, trivial⟩
    clear f596
    refine wp_ret ?_
    refine ret_ f598 [] [.bool true] [] (by kernel_rfl) trivial ?_
    exact ⟨rfl, e448⟩

end Go.Proofs.YtkkophhnliplhaaDoor
