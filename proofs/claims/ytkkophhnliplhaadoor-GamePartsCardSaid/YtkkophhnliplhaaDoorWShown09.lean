/-
  A walk of a Go function, printed by a program of this repo. Conditions: what the theorems name.
-/
import Derived.Test.YtkkophhnliplhaaDoorWSub
import Derived.Test.YtkkophhnliplhaaDoorWAmong
import Derived.Test.YtkkophhnliplhaaDoorWSame2
import Derived.Test.YtkkophhnliplhaaDoorWNil9
set_option linter.unusedVariables false
set_option linter.unusedSimpArgs false
namespace Go.Proofs.YtkkophhnliplhaaDoor
open Go Go.RowKit

attribute [local irreducible] ofZ fromW wordsD ofD ofW lsD lenW lenN fullW withW lessW hasW hasD inW inD leastD putD onI tzI orS andS minusS orD andD minusD fullD emptyD
set_option maxHeartbeats 4000000 in
theorem example_any {w : World} :
    Calls Tryd.prog 36 #[] w fun e w' => ∃ A0 A1 A2 c0 c1 c2, e = .returned (.agg #[.slice A0 exG9.ow.length c0, .slice A1 exG9.pr.length c1, .slice A2 exG9.mv.length c2]) ∧ Ext w w' ∧ RdG w' 0 w'.heap.size A0 A1 A2 c0 c1 c2 exG9 := by
 refine enter_ (args := []) Tryd.func36 rfl Tryd.ntmps36 (Nat.le_of_ble_eq_true rfl) (fun act0 f0 => ?_)
 have e0 : Ext w w := Ext.refl w
 refine wp_seq ?_
 refine At.start ?_
 refine At.seq f0 1 [[]] [(0, .pointer (some ⟨w.heap.size, 0, none⟩))] (w.alloc (.cells #[.slice none 0 0, .slice none 0 0, .slice none 0 0] 25 (0, 0))) [] (by kernel_rfl) trivial (fun act4 w1 hw2 f3 => ?_)
 clear f0
 have g5 := gr_alloc hw2
 have szw1 := g5.size
 replace e0 := e0.gr g5 no_row
 have bx8 : Bx w1 (w.heap.size) [.slice none 0 0, .slice none 0 0, .slice none 0 0] 25 := Bx.new hw2
 have := bx8.lt
 clear g5 hw2
 refine At.done rfl ?_
 refine t_n ?_
 refine wp_seq ?_
 refine At.start ?_
 refine At.seq f3 1 [[]] [(1, .slice (some ⟨w1.heap.size, 0, none⟩) 3 3)] (w1.alloc (.cells #[.int .i64 (0), .int .i64 (1), .int .i64 (1)] 3 (0, 0))) [] (by kernel_rfl) trivial (fun act12 w9 hw10 f11 => ?_)
 clear f3
 have g13 := gr_alloc hw10
 have szw9 := g13.size
 replace e0 := e0.gr g13 no_row
 replace bx8 := bx8.gr g13 (by simp)
 have bx15 : Bx w9 (w1.heap.size) [.int .i64 (0), .int .i64 (1), .int .i64 (1)] 3 := Bx.new hw10
 have := bx15.lt
 clear g13 hw10
 refine At.seq f11 1 [[]] [(2, .slice (some ⟨w9.heap.size, 0, none⟩) 3 3)] (w9.alloc (.cells #[.int .i64 (1), .int .i64 (4), .int .i64 (7)] 3 (0, 0))) [] (by kernel_rfl) trivial (fun act21 w18 hw19 f20 => ?_)
 clear f11
 have g22 := gr_alloc hw19
 have szw18 := g22.size
 replace e0 := e0.gr g22 no_row
 replace bx8 := bx8.gr g22 (by simp)
 replace bx15 := bx15.gr g22 (by simp)
 have bx24 : Bx w18 (w9.heap.size) [.int .i64 (1), .int .i64 (4), .int .i64 (7)] 3 := Bx.new hw19
 have := bx24.lt
 clear g22 hw19
 refine At.seq f20 1 [[]] [(3, .slice (some ⟨w18.heap.size, 0, none⟩) 2 2)] (w18.alloc (.cells #[.int .i64 (1), .int .i64 (2)] 3 (0, 0))) [] (by kernel_rfl) trivial (fun act31 w28 hw29 f30 => ?_)
 clear f20
 have g32 := gr_alloc hw29
 have szw28 := g32.size
 replace e0 := e0.gr g32 no_row
 replace bx8 := bx8.gr g32 (by simp)
 replace bx15 := bx15.gr g32 (by simp)
 replace bx24 := bx24.gr g32 (by simp)
 have bx34 : Bx w28 (w18.heap.size) [.int .i64 (1), .int .i64 (2)] 3 := Bx.new hw29
 have := bx34.lt
 clear g32 hw29
 refine At.seq f30 1 [[]] [(4, .slice (some ⟨w28.heap.size, 0, none⟩) 1 1)] (w28.alloc (.cells #[.int .i64 (0)] 3 (0, 0))) [] (by kernel_rfl) trivial (fun act42 w39 hw40 f41 => ?_)
 clear f30
 have g43 := gr_alloc hw40
 have szw39 := g43.size
 replace e0 := e0.gr g43 no_row
 replace bx8 := bx8.gr g43 (by simp)
 replace bx15 := bx15.gr g43 (by simp)
 replace bx24 := bx24.gr g43 (by simp)
 replace bx34 := bx34.gr g43 (by simp)
 have bx45 : Bx w39 (w28.heap.size) [.int .i64 (0)] 3 := Bx.new hw40
 have := bx45.lt
 clear g43 hw40
 refine At.seq f41 1 [[]] [(5, .slice (some ⟨w39.heap.size, 0, none⟩) 2 2)] (w39.alloc (.cells #[.int .i64 (0), .int .i64 (2)] 3 (0, 0))) [] (by kernel_rfl) trivial (fun act54 w51 hw52 f53 => ?_)
 clear f41
 have g55 := gr_alloc hw52
 have szw51 := g55.size
 replace e0 := e0.gr g55 no_row
 replace bx8 := bx8.gr g55 (by simp)
 replace bx15 := bx15.gr g55 (by simp)
 replace bx24 := bx24.gr g55 (by simp)
 replace bx34 := bx34.gr g55 (by simp)
 replace bx45 := bx45.gr g55 (by simp)
 have bx57 : Bx w51 (w39.heap.size) [.int .i64 (0), .int .i64 (2)] 3 := Bx.new hw52
 have := bx57.lt
 clear g55 hw52
 refine At.seq f53 1 [[]] [(6, .slice (some ⟨w51.heap.size, 0, none⟩) 3 3)] (w51.alloc (.cells #[.slice (some ⟨w18.heap.size, 0, none⟩) 2 2, .slice (some ⟨w28.heap.size, 0, none⟩) 1 1, .slice (some ⟨w39.heap.size, 0, none⟩) 2 2] 22 (0, 0))) [] (by kernel_rfl) trivial (fun act68 w65 hw66 f67 => ?_)
 clear f53
 have g69 := gr_alloc hw66
 have szw65 := g69.size
 replace e0 := e0.gr g69 no_row
 replace bx8 := bx8.gr g69 (by simp)
 replace bx15 := bx15.gr g69 (by simp)
 replace bx24 := bx24.gr g69 (by simp)
 replace bx34 := bx34.gr g69 (by simp)
 replace bx45 := bx45.gr g69 (by simp)
 replace bx57 := bx57.gr g69 (by simp)
 have bx71 : Bx w65 (w51.heap.size) [.slice (some ⟨w18.heap.size, 0, none⟩) 2 2, .slice (some ⟨w28.heap.size, 0, none⟩) 1 1, .slice (some ⟨w39.heap.size, 0, none⟩) 2 2] 22 := Bx.new hw66
 have := bx71.lt
 clear g69 hw66
 refine At.rd f67 1 [[]] [(7, .agg #[.slice (some ⟨w1.heap.size, 0, none⟩) 3 3, .slice (some ⟨w9.heap.size, 0, none⟩) 3 3, .slice (some ⟨w51.heap.size, 0, none⟩) 3 3])] [] (by kernel_rfl) trivial (fun act80 f79 => ?_)
 clear f67
 refine At.store f79 (t := 25) (b := w.heap.size) (off := 0) (v := .agg #[.slice (some ⟨w1.heap.size, 0, none⟩) 3 3, .slice (some ⟨w9.heap.size, 0, none⟩) 3 3, .slice (some ⟨w51.heap.size, 0, none⟩) 3 3]) (by kernel_rfl) bx8 (by kernel_rfl) (fun act85 w81 g82 bx83 f84 => ?_)
 clear f79
 replace bx83 : Bx w81 (w.heap.size) [.slice (some ⟨w1.heap.size, 0, none⟩) 3 3, .slice (some ⟨w9.heap.size, 0, none⟩) 3 3, .slice (some ⟨w51.heap.size, 0, none⟩) 3 3] 25 := bx83
 have szw81 := g82.size
 replace e0 := e0.gr g82 (fun k h => by injection h; omega)
 replace bx15 := bx15.gr g82 (fun h => by injection h; omega)
 replace bx24 := bx24.gr g82 (fun h => by injection h; omega)
 replace bx34 := bx34.gr g82 (fun h => by injection h; omega)
 replace bx45 := bx45.gr g82 (fun h => by injection h; omega)
 replace bx57 := bx57.gr g82 (fun h => by injection h; omega)
 replace bx71 := bx71.gr g82 (fun h => by injection h; omega)
 clear bx8 g82
 refine At.done rfl ?_
 refine t_n ?_
 have f93 := f84.sub (r := [(0, .pointer (some ⟨w.heap.size, 0, none⟩))]) ⟨rfl, trivial⟩
 clear f84
 refine wp_ret ?_
 refine ret_ f93 [[.slice (some ⟨w1.heap.size, 0, none⟩) 3 3, .slice (some ⟨w9.heap.size, 0, none⟩) 3 3, .slice (some ⟨w51.heap.size, 0, none⟩) 3 3]] [.agg #[.slice (some ⟨w1.heap.size, 0, none⟩) 3 3, .slice (some ⟨w9.heap.size, 0, none⟩) 3 3, .slice (some ⟨w51.heap.size, 0, none⟩) 3 3]] [(w81.cell? ⟨w.heap.size, 0, none⟩ = some (.slice (some ⟨w1.heap.size, 0, none⟩) 3 3)), (w81.cell? ⟨w.heap.size, 1, none⟩ = some (.slice (some ⟨w9.heap.size, 0, none⟩) 3 3)), (w81.cell? ⟨w.heap.size, 2, none⟩ = some (.slice (some ⟨w51.heap.size, 0, none⟩) 3 3))] (by kernel_rfl) ⟨(bx83.cell (i := 0) rfl), (bx83.cell (i := 1) rfl), (bx83.cell (i := 2) rfl), trivial⟩ ?_
 exact ⟨_, _, _, _, _, _, rfl, e0, ((RdG.mk (G := exG9) (Bx.rdI (l := ([0, 1, 1] : List Int)) bx15 rfl (by first | decide | exact Nat.le_of_ble_eq_true rfl)) (Bx.rdI (l := ([1, 4, 7] : List Int)) bx24 rfl (by first | decide | exact Nat.le_of_ble_eq_true rfl)) (Bx.rdII (ls := ([([1, 2] : List Int), ([0] : List Int), ([0, 2] : List Int)] : List (List Int))) bx71 ⟨⟨_, _, rfl, (by decide), (Bx.rdI (l := ([1, 2] : List Int)) bx34 rfl (by first | decide | exact Nat.le_of_ble_eq_true rfl))⟩, ⟨_, _, rfl, (by decide), (Bx.rdI (l := ([0] : List Int)) bx45 rfl (by first | decide | exact Nat.le_of_ble_eq_true rfl))⟩, ⟨_, _, rfl, (by decide), (Bx.rdI (l := ([0, 2] : List Int)) bx57 rfl (by first | decide | exact Nat.le_of_ble_eq_true rfl))⟩, trivial⟩ (by decide)) (by decide) (by decide) (by decide)) : RdG _ 0 _ _ _ _ _ _ _ exG9)⟩

set_option maxHeartbeats 4000000 in
theorem shown09_any {w : World} (rT : RdT w 0 w.heap.size) :
    Calls Tryd.prog 12 #[] w fun e w' => e = .returned (.bool true) ∧ Ext w w' := by
 refine enter_ (args := []) Tryd.func12 rfl Tryd.ntmps12 (Nat.le_of_ble_eq_true rfl) (fun act0 f0 => ?_)
 have e0 : Ext w w := Ext.refl w
 refine wp_seq ?_
 refine At.start ?_
 refine At.rd f0 1 [[]] [(0, .bool false)] [] (by kernel_rfl) trivial (fun act2 f1 => ?_)
 clear f0
 refine At.done rfl ?_
 refine t_n ?_
 refine wp_seq ?_
 refine At.start ?_
 refine At.call f1 36 #[] (some 12) (by kernel_rfl) (example_any) ?_
 rintro e_ w11 ⟨A3, A4, A5, c6, c7, c8, rfl, he, r9⟩
 have hex0 : exG9.ow.length = 3 := rfl
 have hex1 : exG9.pr.length = 3 := rfl
 have hex2 : exG9.mv.length = 3 := rfl
 have hek0 := r9.k0
 have hek1 := r9.k1
 have hek2 := r9.k2
 refine ⟨_, rfl, _, rfl, fun act12 f13 => ?_⟩
 clear f1
 have g14 := gr_ext he
 have szw11 := g14.size
 replace e0 := e0.gr g14 no_row
 have r16 := rT.gr g14 (fun _ h => by cases h)
 clear rT
 clear g14 he
 refine At.seq f13 1 [[]] [(1, .pointer (some ⟨w11.heap.size, 0, none⟩))] (w11.alloc (.cells #[.slice none 0 0, .slice none 0 0, .slice none 0 0] 25 (0, 0))) [] (by kernel_rfl) trivial (fun act20 w17 hw18 f19 => ?_)
 clear f13
 have g21 := gr_alloc hw18
 have szw17 := g21.size
 replace e0 := e0.gr g21 no_row
 replace r16 := r16.gr g21 (fun _ h => by cases h)
 replace r9 := r9.gr g21 (fun _ h => by cases h)
 have bx26 : Bx w17 (w11.heap.size) [.slice none 0 0, .slice none 0 0, .slice none 0 0] 25 := Bx.new hw18
 have := bx26.lt
 clear g21 hw18
 refine At.store f19 (t := 25) (b := w11.heap.size) (off := 0) (v := .agg #[.slice A3 exG9.ow.length c6, .slice A4 exG9.pr.length c7, .slice A5 exG9.mv.length c8]) (by kernel_rfl) bx26 (by kernel_rfl) (fun act31 w27 g28 bx29 f30 => ?_)
 clear f19
 replace bx29 : Bx w27 (w11.heap.size) [.slice A3 exG9.ow.length c6, .slice A4 exG9.pr.length c7, .slice A5 exG9.mv.length c8] 25 := bx29
 have szw27 := g28.size
 replace e0 := e0.gr g28 (fun k h => by injection h; omega)
 replace r16 := r16.gr g28 (fun k h => by injection h; omega)
 replace r9 := r9.gr g28 (fun k h => by injection h; omega)
 clear bx26 g28
 refine At.done rfl ?_
 refine t_n ?_
 refine wp_seq ?_
 refine At.start ?_
 refine At.rd f30 1 [[.ld (.slice A3 exG9.ow.length c6), .ld (.slice A4 exG9.pr.length c7), .ld (.slice A5 exG9.mv.length c8)]] [(14, .agg #[.slice A3 exG9.ow.length c6, .slice A4 exG9.pr.length c7, .slice A5 exG9.mv.length c8])] [(w27.cell? ⟨w11.heap.size, 0, none⟩ = some (.slice A3 exG9.ow.length c6)), (w27.cell? ⟨w11.heap.size, 1, none⟩ = some (.slice A4 exG9.pr.length c7)), (w27.cell? ⟨w11.heap.size, 2, none⟩ = some (.slice A5 exG9.mv.length c8))] (by kernel_rfl) ⟨(bx29.cell (i := 0) rfl), (bx29.cell (i := 1) rfl), (bx29.cell (i := 2) rfl), trivial⟩ (fun act36 f35 => ?_)
 clear f30
 refine At.call f35 14 #[.agg #[.slice A3 exG9.ow.length c6, .slice A4 exG9.pr.length c7, .slice A5 exG9.mv.length c8]] (some 15) (by kernel_rfl) (right_any (r9.wide (Nat.zero_le _) (by omega))) ?_
 rintro e_ w37 ⟨rfl, he⟩
 refine ⟨_, rfl, _, rfl, fun act38 f39 => ?_⟩
 clear f35
 have g40 := gr_ext he
 have szw37 := g40.size
 replace e0 := e0.gr g40 no_row
 replace r16 := r16.gr g40 (fun _ h => by cases h)
 replace r9 := r9.gr g40 (fun _ h => by cases h)
 replace bx29 := bx29.gr g40 (by simp)
 clear g40 he
 refine At.rd f39 5 [[], [], [], [], []] [(3, .int .i64 ((rightP exG9).2)), (2, .int .i64 ((rightP exG9).1)), (17, .int .i64 ((rightP exG9).2)), (16, .int .i64 ((rightP exG9).1)), (13, .tuple #[.int .i64 ((rightP exG9).1), .int .i64 ((rightP exG9).2)])] [] (by kernel_rfl) trivial (fun act46 f45 => ?_)
 clear f39
 refine At.done rfl ?_
 refine t_n ?_
 refine wp_seq ?_
 refine At.start ?_
 refine At.rd f45 1 [[.ld (.slice A3 exG9.ow.length c6), .ld (.slice A4 exG9.pr.length c7), .ld (.slice A5 exG9.mv.length c8)]] [(18, .agg #[.slice A3 exG9.ow.length c6, .slice A4 exG9.pr.length c7, .slice A5 exG9.mv.length c8])] [(w37.cell? ⟨w11.heap.size, 0, none⟩ = some (.slice A3 exG9.ow.length c6)), (w37.cell? ⟨w11.heap.size, 1, none⟩ = some (.slice A4 exG9.pr.length c7)), (w37.cell? ⟨w11.heap.size, 2, none⟩ = some (.slice A5 exG9.mv.length c8))] (by kernel_rfl) ⟨(bx29.cell (i := 0) rfl), (bx29.cell (i := 1) rfl), (bx29.cell (i := 2) rfl), trivial⟩ (fun act48 f47 => ?_)
 clear f45
 refine At.call f47 18 #[.agg #[.slice A3 exG9.ow.length c6, .slice A4 exG9.pr.length c7, .slice A5 exG9.mv.length c8]] (some 19) (by kernel_rfl) (dualM_any (g := exG9) (r9.wide (Nat.zero_le _) (by omega))) ?_
 rintro e_ w62 ⟨A49, c50, A51, c52, A53, c54, rfl, he, ow55, ow56, ow57⟩
 have hip61 := dual_inner (inner_len (RdG.mv (r9.wide (Nat.zero_le _) (by omega))))
 have := dual_lens exG9
 refine ⟨_, rfl, _, rfl, fun act63 f64 => ?_⟩
 clear f47
 have g65 := gr_ext he
 have szw62 := g65.size
 replace e0 := e0.gr g65 no_row
 replace r16 := r16.gr g65 (fun _ h => by cases h)
 replace r9 := r9.gr g65 (fun _ h => by cases h)
 replace bx29 := bx29.gr g65 (by simp)
 clear g65 he
 refine At.seq f64 1 [[]] [(4, .pointer (some ⟨w62.heap.size, 0, none⟩))] (w62.alloc (.cells #[.slice none 0 0, .slice none 0 0, .slice none 0 0] 25 (0, 0))) [] (by kernel_rfl) trivial (fun act73 w70 hw71 f72 => ?_)
 clear f64
 have g74 := gr_alloc hw71
 have szw70 := g74.size
 replace e0 := e0.gr g74 no_row
 replace r16 := r16.gr g74 (fun _ h => by cases h)
 replace r9 := r9.gr g74 (fun _ h => by cases h)
 replace bx29 := bx29.gr g74 (by simp)
 replace ow55 : OwnR w70 (Sx (w37.heap.size) [some (w62.heap.size), obk (A51), obk (A53)]) A49 c50 3 ((dualG exG9).ow : List Int) := ow55.grA g74 (fun _ _ h => by cases h) (fun k hk hs => ⟨(fun e => by injection e; omega), hs.1, hs.2.1, hs.2.2⟩)
 replace ow56 : OwnR w70 (Sx (w37.heap.size) [some (w62.heap.size), obk (A49), obk (A53)]) A51 c52 3 ((dualG exG9).pr : List Int) := ow56.grA g74 (fun _ _ h => by cases h) (fun k hk hs => ⟨(fun e => by injection e; omega), hs.1, hs.2.1, hs.2.2⟩)
 replace ow57 : OwnLL w70 (w37.heap.size) [some (w62.heap.size), obk (A49), obk (A51)] A53 c54 22 3 ((dualG exG9).mv : List (List Int)) := ow57.grA g74 (fun _ _ h => by cases h) (fun k hk hs => ⟨(fun e => by injection e; omega), hs.1, hs.2.1, hs.2.2⟩)
 have bx83 : Bx w70 (w62.heap.size) [.slice none 0 0, .slice none 0 0, .slice none 0 0] 25 := Bx.new hw71
 have := bx83.lt
 clear g74 hw71
 refine At.store f72 (t := 25) (b := w62.heap.size) (off := 0) (v := .agg #[.slice A49 ((dualG exG9).ow.length) c50, .slice A51 ((dualG exG9).pr.length) c52, .slice A53 ((dualG exG9).mv.length) c54]) (by kernel_rfl) bx83 (by kernel_rfl) (fun act88 w84 g85 bx86 f87 => ?_)
 clear f72
 replace bx86 : Bx w84 (w62.heap.size) [.slice A49 ((dualG exG9).ow.length) c50, .slice A51 ((dualG exG9).pr.length) c52, .slice A53 ((dualG exG9).mv.length) c54] 25 := bx86
 have szw84 := g85.size
 replace e0 := e0.gr g85 (fun k h => by injection h; omega)
 replace r16 := r16.gr g85 (fun k h => by injection h; omega)
 replace r9 := r9.gr g85 (fun k h => by injection h; omega)
 replace bx29 := bx29.gr g85 (fun h => by injection h; omega)
 replace ow55 := ow55.gr g85 (fun k hk => hk.1)
 replace ow56 := ow56.gr g85 (fun k hk => hk.1)
 replace ow57 := ow57.gr g85 (fun k hk => hk.1)
 clear bx83 g85
 refine At.done rfl ?_
 refine t_n ?_
 refine wp_seq (cut (fun a_ w_ => ∃ (b_104 : Nat) (A_96 : Option Addr) (A_97 : Option Addr) (A_98 : Option Addr) (A_99 : Option Addr) (c_100 : Nat) (c_101 : Nat) (c_102 : Nat) (c_103 : Nat), (Frm 92 a_ [(7, .bool (subB exG9 (inT exG9 (ofW ([0, 2, 9] : List Int))))), (6, .slice (A_96) ((subO exG9 (inT exG9 (ofW ([0, 2, 9] : List Int)))).length) (c_100)), (5, .pointer (some ⟨b_104, 0, none⟩)), (4, .pointer (some ⟨w62.heap.size, 0, none⟩)), (3, .int .i64 ((rightP exG9).2)), (2, .int .i64 ((rightP exG9).1)), (1, .pointer (some ⟨w11.heap.size, 0, none⟩))]) ∧ (Ext w w_) ∧ (RdT w_ 0 w.heap.size) ∧ (RdG w_ 0 w11.heap.size A3 A4 A5 c6 c7 c8 exG9) ∧ (Bx w_ (w11.heap.size) [.slice A3 exG9.ow.length c6, .slice A4 exG9.pr.length c7, .slice A5 exG9.mv.length c8] 25) ∧ (OwnR w_ (Sx (w37.heap.size) [some (w62.heap.size), obk (A51), obk (A53), obk (A_96), obk (A_97), obk (A_98), obk (A_99), some (b_104)]) A49 c50 3 ((dualG exG9).ow : List Int)) ∧ (OwnR w_ (Sx (w37.heap.size) [some (w62.heap.size), obk (A49), obk (A53), obk (A_96), obk (A_97), obk (A_98), obk (A_99), some (b_104)]) A51 c52 3 ((dualG exG9).pr : List Int)) ∧ (OwnLL w_ (w37.heap.size) [some (w62.heap.size), obk (A49), obk (A51), obk (A_96), obk (A_97), obk (A_98), obk (A_99), some (b_104)] A53 c54 22 3 ((dualG exG9).mv : List (List Int))) ∧ (Bx w_ (w62.heap.size) [.slice A49 ((dualG exG9).ow.length) c50, .slice A51 ((dualG exG9).pr.length) c52, .slice A53 ((dualG exG9).mv.length) c54] 25) ∧ (OwnR w_ (Sx (w84.heap.size) [obk (A49), obk (A51), obk (A53), obk (A_97), obk (A_98), obk (A_99), some (b_104)]) (A_96) (c_100) 3 ((subO exG9 (inT exG9 (ofW ([0, 2, 9] : List Int)))) : List Int)) ∧ (OwnR w_ (Sx (w84.heap.size) [obk (A49), obk (A51), obk (A53), obk (A_96), obk (A_98), obk (A_99), some (b_104)]) (A_97) (c_101) 3 ((subG exG9 (inT exG9 (ofW ([0, 2, 9] : List Int)))).ow : List Int)) ∧ (OwnR w_ (Sx (w84.heap.size) [obk (A49), obk (A51), obk (A53), obk (A_96), obk (A_97), obk (A_99), some (b_104)]) (A_98) (c_102) 3 ((subG exG9 (inT exG9 (ofW ([0, 2, 9] : List Int)))).pr : List Int)) ∧ (OwnLL w_ (w84.heap.size) [obk (A49), obk (A51), obk (A53), obk (A_96), obk (A_97), obk (A_98), some (b_104)] (A_99) (c_103) 22 3 ((subG exG9 (inT exG9 (ofW ([0, 2, 9] : List Int)))).mv : List (List Int))) ∧ (Bx w_ (b_104) [.slice (A_97) ((subG exG9 (inT exG9 (ofW ([0, 2, 9] : List Int)))).ow.length) (c_101), .slice (A_98) ((subG exG9 (inT exG9 (ofW ([0, 2, 9] : List Int)))).pr.length) (c_102), .slice (A_99) ((subG exG9 (inT exG9 (ofW ([0, 2, 9] : List Int)))).mv.length) (c_103)] 25) ∧ (w84.heap.size ≤ b_104) ∧ (w84.heap.size ≤ w_.heap.size)) ?_ ?_)
 ·obtain ⟨Cs105, hCs106⟩ : ∃ c : List (Addr × Value), c = [(⟨w11.heap.size, 0, none⟩, (.slice A3 exG9.ow.length c6)), (⟨w11.heap.size, 1, none⟩, (.slice A4 exG9.pr.length c7)), (⟨w11.heap.size, 2, none⟩, (.slice A5 exG9.mv.length c8))] := ⟨_, rfl⟩
  have hS107 : HoldsC Cs105 w84 := by rw [hCs106]; exact ⟨(bx29.cell (i := 0) rfl), (bx29.cell (i := 1) rfl), (bx29.cell (i := 2) rfl), trivial⟩
  refine AtH.start Cs105 12 #[false, false, false, false, false, false, false, false, false, false, false, false] (by kernel_rfl) rfl rfl (fun w109 hw110 => ?_)
  have g108 := gr_drew hw110
  have hS111 := hS107.gr g108
  have szw109 := g108.size
  replace e0 := e0.gr g108 no_row
  replace r16 := r16.gr g108 (fun _ h => by cases h)
  replace r9 := r9.gr g108 (fun _ h => by cases h)
  replace bx29 := bx29.gr g108 (by simp)
  replace ow55 := ow55.gr g108 (fun _ _ h => by cases h)
  replace ow56 := ow56.gr g108 (fun _ _ h => by cases h)
  replace ow57 := ow57.gr g108 (fun _ _ h => by cases h)
  replace bx86 := bx86.gr g108 (by simp)
  clear g108 hw110 hS107
  refine AtH.rd (by kernel_rfl) (fun d v c a w h => by cases d <;> exact h) hS111 [0] [[.ld (.slice A3 exG9.ow.length c6), .ld (.slice A4 exG9.pr.length c7), .ld (.slice A5 exG9.mv.length c8)]] [(21, .agg #[.slice A3 exG9.ow.length c6, .slice A4 exG9.pr.length c7, .slice A5 exG9.mv.length c8])] #[true, false, false, false, false, false, false, false, false, false, false, false] [(∃ j_ : Nat, Cs105[j_]? = some (⟨w11.heap.size, 0, none⟩, (.slice A3 exG9.ow.length c6))), (∃ j_ : Nat, Cs105[j_]? = some (⟨w11.heap.size, 1, none⟩, (.slice A4 exG9.pr.length c7))), (∃ j_ : Nat, Cs105[j_]? = some (⟨w11.heap.size, 2, none⟩, (.slice A5 exG9.mv.length c8)))] 11 f87 (by kernel_rfl) ⟨⟨0, by rw [hCs106]; rfl⟩, ⟨1, by rw [hCs106]; rfl⟩, ⟨2, by rw [hCs106]; rfl⟩, trivial⟩ (fun act121 f120 => ?_)
  clear f87
  refine AtH.all [1, 8] 10 (by kernel_rfl) (by simp) ⟨?_, ?_, trivial⟩
  ·refine OneH.seq f120 [[]] [(22, .slice (some ⟨w109.heap.size, 0, none⟩) 3 3)] (w109.alloc (.cells #[.int .i64 (0), .int .i64 (2), .int .i64 (9)] 3 (0, 0))) [] #[true, true, false, false, false, false, false, false, false, false, false, false] (by kernel_rfl) (by kernel_rfl) (by kernel_rfl) trivial (fun act126 w123 hw124 f125 => ?_)
   clear f120
   have g127 := gr_alloc hw124
   have hS130 := hS111.gr g127
   refine ⟨hS130, ?_⟩
   have szw123 := g127.size
   replace e0 := e0.gr g127 no_row
   replace r16 := r16.gr g127 (fun _ h => by cases h)
   replace r9 := r9.gr g127 (fun _ h => by cases h)
   replace bx29 := bx29.gr g127 (by simp)
   replace ow55 : OwnR w123 (Sx (w37.heap.size) [some (w109.heap.size), some (w62.heap.size), obk (A51), obk (A53)]) A49 c50 3 ((dualG exG9).ow : List Int) := ow55.grA g127 (fun _ _ h => by cases h) (fun k hk hs => ⟨(fun e => by injection e; omega), hs.1, hs.2.1, hs.2.2.1, hs.2.2.2⟩)
   replace ow56 : OwnR w123 (Sx (w37.heap.size) [some (w109.heap.size), some (w62.heap.size), obk (A49), obk (A53)]) A51 c52 3 ((dualG exG9).pr : List Int) := ow56.grA g127 (fun _ _ h => by cases h) (fun k hk hs => ⟨(fun e => by injection e; omega), hs.1, hs.2.1, hs.2.2.1, hs.2.2.2⟩)
   replace ow57 : OwnLL w123 (w37.heap.size) [some (w109.heap.size), some (w62.heap.size), obk (A49), obk (A51)] A53 c54 22 3 ((dualG exG9).mv : List (List Int)) := ow57.grA g127 (fun _ _ h => by cases h) (fun k hk hs => ⟨(fun e => by injection e; omega), hs.1, hs.2.1, hs.2.2.1, hs.2.2.2⟩)
   replace bx86 := bx86.gr g127 (by simp)
   have bx129 : Bx w123 (w109.heap.size) [.int .i64 (0), .int .i64 (2), .int .i64 (9)] 3 := Bx.new hw124
   have := bx129.lt
   clear g127 hw124
   refine AtH.all [2, 8] 9 (by kernel_rfl) (by simp) ⟨?_, ?_, trivial⟩
   ·refine OneH.call f125 34 #[.slice (some ⟨w109.heap.size, 0, none⟩) 3 3] (some 23) #[true, true, true, false, false, false, false, false, false, false, false, false] (by kernel_rfl) (by kernel_rfl) (of_any (la := ([0, 2, 9] : List Int)) (Bx.rdI (l := ([0, 2, 9] : List Int)) bx129 rfl (by first | decide | exact Nat.le_of_ble_eq_true rfl))) ?_
    rintro e_ w140 ⟨rfl, he⟩
    refine ⟨_, rfl, _, rfl, fun act141 f142 => ?_⟩
    clear f125
    have g143 := gr_ext he
    have hS139 := hS130.gr g143
    have szw140 := g143.size
    replace e0 := e0.gr g143 no_row
    replace r16 := r16.gr g143 (fun _ h => by cases h)
    replace r9 := r9.gr g143 (fun _ h => by cases h)
    replace bx29 := bx29.gr g143 (by simp)
    replace ow55 := ow55.gr g143 (fun _ _ h => by cases h)
    replace ow56 := ow56.gr g143 (fun _ _ h => by cases h)
    replace ow57 := ow57.gr g143 (fun _ _ h => by cases h)
    replace bx86 := bx86.gr g143 (by simp)
    replace bx129 := bx129.gr g143 (by simp)
    clear g143 he
    refine ⟨hS139, ?_⟩
    refine AtH.all [3, 8] 8 (by kernel_rfl) (by simp) ⟨?_, ?_, trivial⟩
    ·refine OneH.call f142 22 #[.agg #[.slice A3 exG9.ow.length c6, .slice A4 exG9.pr.length c7, .slice A5 exG9.mv.length c8], .agg ((ofW ([0, 2, 9] : List Int) : List Int).map wV).toArray] (some 24) #[true, true, true, true, false, false, false, false, false, false, false, false] (by kernel_rfl) (by kernel_rfl) (subM_any (g := exG9) (s := ofW ([0, 2, 9] : List Int)) (r9.wide (Nat.zero_le _) (by omega)) (ofW_ok _) (r16.wide (Nat.zero_le _) (by omega))) ?_
     rintro e_ w171 ⟨A154, c155, A156, c157, A158, c159, A160, c161, rfl, he, ow162, ow163, ow164, ow165⟩
     have hip170 := sub_inner exG9 (ofW ([0, 2, 9] : List Int))
     have := sub_lens exG9 (inT exG9 (ofW ([0, 2, 9] : List Int)))
     refine ⟨_, rfl, _, rfl, fun act172 f173 => ?_⟩
     clear f142
     have g174 := gr_ext he
     have hS153 := hS139.gr g174
     have lt175 := ow55.lt
     have lt176 := ow56.lt
     have lt177 := ow57.lt
     have szw171 := g174.size
     replace e0 := e0.gr g174 no_row
     replace r16 := r16.gr g174 (fun _ h => by cases h)
     replace r9 := r9.gr g174 (fun _ h => by cases h)
     replace bx29 := bx29.gr g174 (by simp)
     replace ow55 : OwnR w171 (Sx (w37.heap.size) [obk (A154), obk (A156), obk (A158), obk (A160), some (w109.heap.size), some (w62.heap.size), obk (A51), obk (A53)]) A49 c50 3 ((dualG exG9).ow : List Int) := ow55.grA g174 (fun _ _ h => by cases h) (fun k hk hs => ⟨(fun e => by have := ow162.ge _ e; omega), (fun e => by have := ow163.ge _ e; omega), (fun e => by have := ow164.ge _ e; omega), (fun e => by have := ow165.ge _ e; omega), hs.1, hs.2.1, hs.2.2.1, hs.2.2.2.1, hs.2.2.2.2⟩)
     replace ow56 : OwnR w171 (Sx (w37.heap.size) [obk (A154), obk (A156), obk (A158), obk (A160), some (w109.heap.size), some (w62.heap.size), obk (A49), obk (A53)]) A51 c52 3 ((dualG exG9).pr : List Int) := ow56.grA g174 (fun _ _ h => by cases h) (fun k hk hs => ⟨(fun e => by have := ow162.ge _ e; omega), (fun e => by have := ow163.ge _ e; omega), (fun e => by have := ow164.ge _ e; omega), (fun e => by have := ow165.ge _ e; omega), hs.1, hs.2.1, hs.2.2.1, hs.2.2.2.1, hs.2.2.2.2⟩)
     replace ow57 : OwnLL w171 (w37.heap.size) [obk (A154), obk (A156), obk (A158), obk (A160), some (w109.heap.size), some (w62.heap.size), obk (A49), obk (A51)] A53 c54 22 3 ((dualG exG9).mv : List (List Int)) := ow57.grA g174 (fun _ _ h => by cases h) (fun k hk hs => ⟨(fun e => by have := ow162.ge _ e; omega), (fun e => by have := ow163.ge _ e; omega), (fun e => by have := ow164.ge _ e; omega), (fun e => by have := ow165.ge _ e; omega), hs.1, hs.2.1, hs.2.2.1, hs.2.2.2.1, hs.2.2.2.2⟩)
     replace bx86 := bx86.gr g174 (by simp)
     replace bx129 := bx129.gr g174 (by simp)
     replace ow162 : OwnR w171 (Sx (w140.heap.size) [obk (A49), obk (A51), obk (A53), obk (A156), obk (A158), obk (A160)]) A154 c155 3 ((subG exG9 (inT exG9 (ofW ([0, 2, 9] : List Int)))).ow : List Int) := ow162.imp (fun g _ hs => ⟨(fun e => by have := lt175 _ e; have := Sx_base hs; omega), (fun e => by have := lt176 _ e; have := Sx_base hs; omega), (fun e => by have := lt177 _ e; have := Sx_base hs; omega), hs⟩)
     replace ow163 : OwnR w171 (Sx (w140.heap.size) [obk (A49), obk (A51), obk (A53), obk (A154), obk (A158), obk (A160)]) A156 c157 3 ((subG exG9 (inT exG9 (ofW ([0, 2, 9] : List Int)))).pr : List Int) := ow163.imp (fun g _ hs => ⟨(fun e => by have := lt175 _ e; have := Sx_base hs; omega), (fun e => by have := lt176 _ e; have := Sx_base hs; omega), (fun e => by have := lt177 _ e; have := Sx_base hs; omega), hs⟩)
     replace ow164 : OwnLL w171 (w140.heap.size) [obk (A49), obk (A51), obk (A53), obk (A154), obk (A156), obk (A160)] A158 c159 22 3 ((subG exG9 (inT exG9 (ofW ([0, 2, 9] : List Int)))).mv : List (List Int)) := ow164.imp (fun g _ hs => ⟨(fun e => by have := lt175 _ e; have := Sx_base hs; omega), (fun e => by have := lt176 _ e; have := Sx_base hs; omega), (fun e => by have := lt177 _ e; have := Sx_base hs; omega), hs⟩)
     replace ow165 : OwnR w171 (Sx (w140.heap.size) [obk (A49), obk (A51), obk (A53), obk (A154), obk (A156), obk (A158)]) A160 c161 3 ((subO exG9 (inT exG9 (ofW ([0, 2, 9] : List Int)))) : List Int) := ow165.imp (fun g _ hs => ⟨(fun e => by have := lt175 _ e; have := Sx_base hs; omega), (fun e => by have := lt176 _ e; have := Sx_base hs; omega), (fun e => by have := lt177 _ e; have := Sx_base hs; omega), hs⟩)
     clear lt175 lt176 lt177
     clear g174 he
     refine ⟨hS153, ?_⟩
     refine AtH.rd (by kernel_rfl) (fun d v c a w h => by cases d <;> exact h) hS153 [4] [[]] [(20, .tuple #[.agg #[.slice A154 ((subG exG9 (inT exG9 (ofW ([0, 2, 9] : List Int)))).ow.length) c155, .slice A156 ((subG exG9 (inT exG9 (ofW ([0, 2, 9] : List Int)))).pr.length) c157, .slice A158 ((subG exG9 (inT exG9 (ofW ([0, 2, 9] : List Int)))).mv.length) c159], .slice A160 ((subO exG9 (inT exG9 (ofW ([0, 2, 9] : List Int)))).length) c161, .bool (subB exG9 (inT exG9 (ofW ([0, 2, 9] : List Int))))])] #[true, true, true, true, true, false, false, false, false, false, false, false] [] 7 f173 (by kernel_rfl) trivial (fun act192 f191 => ?_)
     clear f173
     refine AtH.rd (by kernel_rfl) (fun d v c a w h => by cases d <;> exact h) hS153 [5] [[]] [(25, .agg #[.slice A154 ((subG exG9 (inT exG9 (ofW ([0, 2, 9] : List Int)))).ow.length) c155, .slice A156 ((subG exG9 (inT exG9 (ofW ([0, 2, 9] : List Int)))).pr.length) c157, .slice A158 ((subG exG9 (inT exG9 (ofW ([0, 2, 9] : List Int)))).mv.length) c159])] #[true, true, true, true, true, true, false, false, false, false, false, false] [] 6 f191 (by kernel_rfl) trivial (fun act194 f193 => ?_)
     clear f191
     refine AtH.rd (by kernel_rfl) (fun d v c a w h => by cases d <;> exact h) hS153 [6] [[]] [(26, .slice A160 ((subO exG9 (inT exG9 (ofW ([0, 2, 9] : List Int)))).length) c161)] #[true, true, true, true, true, true, true, false, false, false, false, false] [] 5 f193 (by kernel_rfl) trivial (fun act196 f195 => ?_)
     clear f193
     refine AtH.rd (by kernel_rfl) (fun d v c a w h => by cases d <;> exact h) hS153 [7] [[]] [(27, .bool (subB exG9 (inT exG9 (ofW ([0, 2, 9] : List Int)))))] #[true, true, true, true, true, true, true, true, false, false, false, false] [] 4 f195 (by kernel_rfl) trivial (fun act198 f197 => ?_)
     clear f195
     refine AtH.all [8] 3 (by kernel_rfl) (by simp) ⟨?_, trivial⟩
     refine OneH.seq f197 [[]] [(5, .pointer (some ⟨w171.heap.size, 0, none⟩))] (w171.alloc (.cells #[.slice none 0 0, .slice none 0 0, .slice none 0 0] 25 (0, 0))) [] #[true, true, true, true, true, true, true, true, true, false, false, false] (by kernel_rfl) (by kernel_rfl) (by kernel_rfl) trivial (fun act203 w200 hw201 f202 => ?_)
     clear f197
     have g204 := gr_alloc hw201
     have hS199 := hS153.gr g204
     have szw200 := g204.size
     replace e0 := e0.gr g204 no_row
     replace r16 := r16.gr g204 (fun _ h => by cases h)
     replace r9 := r9.gr g204 (fun _ h => by cases h)
     replace bx29 := bx29.gr g204 (by simp)
     replace ow55 : OwnR w200 (Sx (w37.heap.size) [some (w171.heap.size), obk (A154), obk (A156), obk (A158), obk (A160), some (w109.heap.size), some (w62.heap.size), obk (A51), obk (A53)]) A49 c50 3 ((dualG exG9).ow : List Int) := ow55.grA g204 (fun _ _ h => by cases h) (fun k hk hs => ⟨(fun e => by injection e; omega), hs.1, hs.2.1, hs.2.2.1, hs.2.2.2.1, hs.2.2.2.2.1, hs.2.2.2.2.2.1, hs.2.2.2.2.2.2.1, hs.2.2.2.2.2.2.2.1, hs.2.2.2.2.2.2.2.2⟩)
     replace ow56 : OwnR w200 (Sx (w37.heap.size) [some (w171.heap.size), obk (A154), obk (A156), obk (A158), obk (A160), some (w109.heap.size), some (w62.heap.size), obk (A49), obk (A53)]) A51 c52 3 ((dualG exG9).pr : List Int) := ow56.grA g204 (fun _ _ h => by cases h) (fun k hk hs => ⟨(fun e => by injection e; omega), hs.1, hs.2.1, hs.2.2.1, hs.2.2.2.1, hs.2.2.2.2.1, hs.2.2.2.2.2.1, hs.2.2.2.2.2.2.1, hs.2.2.2.2.2.2.2.1, hs.2.2.2.2.2.2.2.2⟩)
     replace ow57 : OwnLL w200 (w37.heap.size) [some (w171.heap.size), obk (A154), obk (A156), obk (A158), obk (A160), some (w109.heap.size), some (w62.heap.size), obk (A49), obk (A51)] A53 c54 22 3 ((dualG exG9).mv : List (List Int)) := ow57.grA g204 (fun _ _ h => by cases h) (fun k hk hs => ⟨(fun e => by injection e; omega), hs.1, hs.2.1, hs.2.2.1, hs.2.2.2.1, hs.2.2.2.2.1, hs.2.2.2.2.2.1, hs.2.2.2.2.2.2.1, hs.2.2.2.2.2.2.2.1, hs.2.2.2.2.2.2.2.2⟩)
     replace bx86 := bx86.gr g204 (by simp)
     replace bx129 := bx129.gr g204 (by simp)
     replace ow162 : OwnR w200 (Sx (w140.heap.size) [some (w171.heap.size), obk (A49), obk (A51), obk (A53), obk (A156), obk (A158), obk (A160)]) A154 c155 3 ((subG exG9 (inT exG9 (ofW ([0, 2, 9] : List Int)))).ow : List Int) := ow162.grA g204 (fun _ _ h => by cases h) (fun k hk hs => ⟨(fun e => by injection e; omega), hs.1, hs.2.1, hs.2.2.1, hs.2.2.2.1, hs.2.2.2.2.1, hs.2.2.2.2.2.1, hs.2.2.2.2.2.2⟩)
     replace ow163 : OwnR w200 (Sx (w140.heap.size) [some (w171.heap.size), obk (A49), obk (A51), obk (A53), obk (A154), obk (A158), obk (A160)]) A156 c157 3 ((subG exG9 (inT exG9 (ofW ([0, 2, 9] : List Int)))).pr : List Int) := ow163.grA g204 (fun _ _ h => by cases h) (fun k hk hs => ⟨(fun e => by injection e; omega), hs.1, hs.2.1, hs.2.2.1, hs.2.2.2.1, hs.2.2.2.2.1, hs.2.2.2.2.2.1, hs.2.2.2.2.2.2⟩)
     replace ow164 : OwnLL w200 (w140.heap.size) [some (w171.heap.size), obk (A49), obk (A51), obk (A53), obk (A154), obk (A156), obk (A160)] A158 c159 22 3 ((subG exG9 (inT exG9 (ofW ([0, 2, 9] : List Int)))).mv : List (List Int)) := ow164.grA g204 (fun _ _ h => by cases h) (fun k hk hs => ⟨(fun e => by injection e; omega), hs.1, hs.2.1, hs.2.2.1, hs.2.2.2.1, hs.2.2.2.2.1, hs.2.2.2.2.2.1, hs.2.2.2.2.2.2⟩)
     replace ow165 : OwnR w200 (Sx (w140.heap.size) [some (w171.heap.size), obk (A49), obk (A51), obk (A53), obk (A154), obk (A156), obk (A158)]) A160 c161 3 ((subO exG9 (inT exG9 (ofW ([0, 2, 9] : List Int)))) : List Int) := ow165.grA g204 (fun _ _ h => by cases h) (fun k hk hs => ⟨(fun e => by injection e; omega), hs.1, hs.2.1, hs.2.2.1, hs.2.2.2.1, hs.2.2.2.2.1, hs.2.2.2.2.2.1, hs.2.2.2.2.2.2⟩)
     have bx219 : Bx w200 (w171.heap.size) [.slice none 0 0, .slice none 0 0, .slice none 0 0] 25 := Bx.new hw201
     have := bx219.lt
     clear g204 hw201
     refine ⟨hS199, ?_⟩
     refine AtH.all [9] 2 (by kernel_rfl) (by simp) ⟨?_, trivial⟩
     refine OneH.store f202 (t := 25) (b := w171.heap.size) (off := 0) (v := .agg #[.slice A154 ((subG exG9 (inT exG9 (ofW ([0, 2, 9] : List Int)))).ow.length) c155, .slice A156 ((subG exG9 (inT exG9 (ofW ([0, 2, 9] : List Int)))).pr.length) c157, .slice A158 ((subG exG9 (inT exG9 (ofW ([0, 2, 9] : List Int)))).mv.length) c159]) #[true, true, true, true, true, true, true, true, true, true, false, false] (by kernel_rfl) (by kernel_rfl) bx219 (by kernel_rfl) (fun act225 w221 g222 bx223 f224 => ?_)
     clear f202
     replace bx223 : Bx w221 (w171.heap.size) [.slice A154 ((subG exG9 (inT exG9 (ofW ([0, 2, 9] : List Int)))).ow.length) c155, .slice A156 ((subG exG9 (inT exG9 (ofW ([0, 2, 9] : List Int)))).pr.length) c157, .slice A158 ((subG exG9 (inT exG9 (ofW ([0, 2, 9] : List Int)))).mv.length) c159] 25 := bx223
     have hS220 := hS199.gr' g222 (by rw [hCs106]; exact ⟨(by simp only [add_block]; omega), (by simp only [add_block]; omega), (by simp only [add_block]; omega), trivial⟩)
     have szw221 := g222.size
     replace e0 := e0.gr g222 (fun k h => by injection h; omega)
     replace r16 := r16.gr g222 (fun k h => by injection h; omega)
     replace r9 := r9.gr g222 (fun k h => by injection h; omega)
     replace bx29 := bx29.gr g222 (fun h => by injection h; omega)
     replace ow55 := ow55.gr g222 (fun k hk => hk.1)
     replace ow56 := ow56.gr g222 (fun k hk => hk.1)
     replace ow57 := ow57.gr g222 (fun k hk => hk.1)
     replace bx86 := bx86.gr g222 (fun h => by injection h; omega)
     replace bx129 := bx129.gr g222 (fun h => by injection h; omega)
     replace ow162 := ow162.gr g222 (fun k hk => hk.1)
     replace ow163 := ow163.gr g222 (fun k hk => hk.1)
     replace ow164 := ow164.gr g222 (fun k hk => hk.1)
     replace ow165 := ow165.gr g222 (fun k hk => hk.1)
     clear bx219 g222
     refine ⟨hS220, ?_⟩
     refine AtH.rd (by kernel_rfl) (fun d v c a w h => by cases d <;> exact h) hS220 [10] [[]] [(6, .slice A160 ((subO exG9 (inT exG9 (ofW ([0, 2, 9] : List Int)))).length) c161)] #[true, true, true, true, true, true, true, true, true, true, true, false] [] 1 f224 (by kernel_rfl) trivial (fun act240 f239 => ?_)
     clear f224
     refine AtH.rd (by kernel_rfl) (fun d v c a w h => by cases d <;> exact h) hS220 [11] [[]] [(7, .bool (subB exG9 (inT exG9 (ofW ([0, 2, 9] : List Int)))))] #[true, true, true, true, true, true, true, true, true, true, true, true] [] 0 f239 (by kernel_rfl) trivial (fun act242 f241 => ?_)
     clear f239
     refine AtH.done (by kernel_rfl) ?_
     clear hS220
     refine t_n ?_
     have f243 := f241.sub (r := [(7, .bool (subB exG9 (inT exG9 (ofW ([0, 2, 9] : List Int))))), (6, .slice A160 ((subO exG9 (inT exG9 (ofW ([0, 2, 9] : List Int)))).length) c161), (5, .pointer (some ⟨w171.heap.size, 0, none⟩)), (4, .pointer (some ⟨w62.heap.size, 0, none⟩)), (3, .int .i64 ((rightP exG9).2)), (2, .int .i64 ((rightP exG9).1)), (1, .pointer (some ⟨w11.heap.size, 0, none⟩))]) ⟨rfl, rfl, rfl, rfl, rfl, rfl, rfl, trivial⟩
     exact ⟨w171.heap.size, A160, A154, A156, A158, c161, c155, c157, c159, f243, e0, r16, r9, bx29, (ow55.imp (fun g _ hs => ⟨hs.2.2.2.2.2.2.1, hs.2.2.2.2.2.2.2.1, hs.2.2.2.2.2.2.2.2.1, hs.2.2.2.2.1, hs.2.1, hs.2.2.1, hs.2.2.2.1, hs.1, (by have := Sx_base hs; show w37.heap.size ≤ g; omega)⟩)), (ow56.imp (fun g _ hs => ⟨hs.2.2.2.2.2.2.1, hs.2.2.2.2.2.2.2.1, hs.2.2.2.2.2.2.2.2.1, hs.2.2.2.2.1, hs.2.1, hs.2.2.1, hs.2.2.2.1, hs.1, (by have := Sx_base hs; show w37.heap.size ≤ g; omega)⟩)), (ow57.imp (fun g _ hs => ⟨hs.2.2.2.2.2.2.1, hs.2.2.2.2.2.2.2.1, hs.2.2.2.2.2.2.2.2.1, hs.2.2.2.2.1, hs.2.1, hs.2.2.1, hs.2.2.2.1, hs.1, (by have := Sx_base hs; show w37.heap.size ≤ g; omega)⟩)), bx86, (ow165.imp (fun g _ hs => ⟨hs.2.1, hs.2.2.1, hs.2.2.2.1, hs.2.2.2.2.1, hs.2.2.2.2.2.1, hs.2.2.2.2.2.2.1, hs.1, (by have := Sx_base hs; show w84.heap.size ≤ g; omega)⟩)), (ow162.imp (fun g _ hs => ⟨hs.2.1, hs.2.2.1, hs.2.2.2.1, hs.2.2.2.2.2.2.1, hs.2.2.2.2.1, hs.2.2.2.2.2.1, hs.1, (by have := Sx_base hs; show w84.heap.size ≤ g; omega)⟩)), (ow163.imp (fun g _ hs => ⟨hs.2.1, hs.2.2.1, hs.2.2.2.1, hs.2.2.2.2.2.2.1, hs.2.2.2.2.1, hs.2.2.2.2.2.1, hs.1, (by have := Sx_base hs; show w84.heap.size ≤ g; omega)⟩)), (ow164.imp (fun g _ hs => ⟨hs.2.1, hs.2.2.1, hs.2.2.2.1, hs.2.2.2.2.2.2.1, hs.2.2.2.2.1, hs.2.2.2.2.2.1, hs.1, (by have := Sx_base hs; show w84.heap.size ≤ g; omega)⟩)), bx223, (by omega), (by omega)⟩
    ·refine OneH.seq f142 [[]] [(5, .pointer (some ⟨w140.heap.size, 0, none⟩))] (w140.alloc (.cells #[.slice none 0 0, .slice none 0 0, .slice none 0 0] 25 (0, 0))) [] #[true, true, true, false, false, false, false, false, true, false, false, false] (by kernel_rfl) (by kernel_rfl) (by kernel_rfl) trivial (fun act248 w245 hw246 f247 => ?_)
     clear f142
     have g249 := gr_alloc hw246
     have hS244 := hS139.gr g249
     have szw245 := g249.size
     replace e0 := e0.gr g249 no_row
     replace r16 := r16.gr g249 (fun _ h => by cases h)
     replace r9 := r9.gr g249 (fun _ h => by cases h)
     replace bx29 := bx29.gr g249 (by simp)
     replace ow55 : OwnR w245 (Sx (w37.heap.size) [some (w140.heap.size), some (w109.heap.size), some (w62.heap.size), obk (A51), obk (A53)]) A49 c50 3 ((dualG exG9).ow : List Int) := ow55.grA g249 (fun _ _ h => by cases h) (fun k hk hs => ⟨(fun e => by injection e; omega), hs.1, hs.2.1, hs.2.2.1, hs.2.2.2.1, hs.2.2.2.2⟩)
     replace ow56 : OwnR w245 (Sx (w37.heap.size) [some (w140.heap.size), some (w109.heap.size), some (w62.heap.size), obk (A49), obk (A53)]) A51 c52 3 ((dualG exG9).pr : List Int) := ow56.grA g249 (fun _ _ h => by cases h) (fun k hk hs => ⟨(fun e => by injection e; omega), hs.1, hs.2.1, hs.2.2.1, hs.2.2.2.1, hs.2.2.2.2⟩)
     replace ow57 : OwnLL w245 (w37.heap.size) [some (w140.heap.size), some (w109.heap.size), some (w62.heap.size), obk (A49), obk (A51)] A53 c54 22 3 ((dualG exG9).mv : List (List Int)) := ow57.grA g249 (fun _ _ h => by cases h) (fun k hk hs => ⟨(fun e => by injection e; omega), hs.1, hs.2.1, hs.2.2.1, hs.2.2.2.1, hs.2.2.2.2⟩)
     replace bx86 := bx86.gr g249 (by simp)
     replace bx129 := bx129.gr g249 (by simp)
     have bx260 : Bx w245 (w140.heap.size) [.slice none 0 0, .slice none 0 0, .slice none 0 0] 25 := Bx.new hw246
     have := bx260.lt
     clear g249 hw246
     refine ⟨hS244, ?_⟩
     refine AtH.all [3] 7 (by kernel_rfl) (by simp) ⟨?_, trivial⟩
     refine OneH.call f247 22 #[.agg #[.slice A3 exG9.ow.length c6, .slice A4 exG9.pr.length c7, .slice A5 exG9.mv.length c8], .agg ((ofW ([0, 2, 9] : List Int) : List Int).map wV).toArray] (some 24) #[true, true, true, true, false, false, false, false, true, false, false, false] (by kernel_rfl) (by kernel_rfl) (subM_any (g := exG9) (s := ofW ([0, 2, 9] : List Int)) (r9.wide (Nat.zero_le _) (by omega)) (ofW_ok _) (r16.wide (Nat.zero_le _) (by omega))) ?_
     rintro e_ w279 ⟨A262, c263, A264, c265, A266, c267, A268, c269, rfl, he, ow270, ow271, ow272, ow273⟩
     have hip278 := sub_inner exG9 (ofW ([0, 2, 9] : List Int))
     have := sub_lens exG9 (inT exG9 (ofW ([0, 2, 9] : List Int)))
     refine ⟨_, rfl, _, rfl, fun act280 f281 => ?_⟩
     clear f247
     have g282 := gr_ext he
     have hS261 := hS244.gr g282
     have lt283 := ow55.lt
     have lt284 := ow56.lt
     have lt285 := ow57.lt
     have szw279 := g282.size
     replace e0 := e0.gr g282 no_row
     replace r16 := r16.gr g282 (fun _ h => by cases h)
     replace r9 := r9.gr g282 (fun _ h => by cases h)
     replace bx29 := bx29.gr g282 (by simp)
     replace ow55 : OwnR w279 (Sx (w37.heap.size) [obk (A262), obk (A264), obk (A266), obk (A268), some (w140.heap.size), some (w109.heap.size), some (w62.heap.size), obk (A51), obk (A53)]) A49 c50 3 ((dualG exG9).ow : List Int) := ow55.grA g282 (fun _ _ h => by cases h) (fun k hk hs => ⟨(fun e => by have := ow270.ge _ e; omega), (fun e => by have := ow271.ge _ e; omega), (fun e => by have := ow272.ge _ e; omega), (fun e => by have := ow273.ge _ e; omega), hs.1, hs.2.1, hs.2.2.1, hs.2.2.2.1, hs.2.2.2.2.1, hs.2.2.2.2.2⟩)
     replace ow56 : OwnR w279 (Sx (w37.heap.size) [obk (A262), obk (A264), obk (A266), obk (A268), some (w140.heap.size), some (w109.heap.size), some (w62.heap.size), obk (A49), obk (A53)]) A51 c52 3 ((dualG exG9).pr : List Int) := ow56.grA g282 (fun _ _ h => by cases h) (fun k hk hs => ⟨(fun e => by have := ow270.ge _ e; omega), (fun e => by have := ow271.ge _ e; omega), (fun e => by have := ow272.ge _ e; omega), (fun e => by have := ow273.ge _ e; omega), hs.1, hs.2.1, hs.2.2.1, hs.2.2.2.1, hs.2.2.2.2.1, hs.2.2.2.2.2⟩)
     replace ow57 : OwnLL w279 (w37.heap.size) [obk (A262), obk (A264), obk (A266), obk (A268), some (w140.heap.size), some (w109.heap.size), some (w62.heap.size), obk (A49), obk (A51)] A53 c54 22 3 ((dualG exG9).mv : List (List Int)) := ow57.grA g282 (fun _ _ h => by cases h) (fun k hk hs => ⟨(fun e => by have := ow270.ge _ e; omega), (fun e => by have := ow271.ge _ e; omega), (fun e => by have := ow272.ge _ e; omega), (fun e => by have := ow273.ge _ e; omega), hs.1, hs.2.1, hs.2.2.1, hs.2.2.2.1, hs.2.2.2.2.1, hs.2.2.2.2.2⟩)
     replace bx86 := bx86.gr g282 (by simp)
     replace bx129 := bx129.gr g282 (by simp)
     replace bx260 := bx260.gr g282 (by simp)
     replace ow270 : OwnR w279 (Sx (w245.heap.size) [obk (A49), obk (A51), obk (A53), obk (A264), obk (A266), obk (A268)]) A262 c263 3 ((subG exG9 (inT exG9 (ofW ([0, 2, 9] : List Int)))).ow : List Int) := ow270.imp (fun g _ hs => ⟨(fun e => by have := lt283 _ e; have := Sx_base hs; omega), (fun e => by have := lt284 _ e; have := Sx_base hs; omega), (fun e => by have := lt285 _ e; have := Sx_base hs; omega), hs⟩)
     replace ow271 : OwnR w279 (Sx (w245.heap.size) [obk (A49), obk (A51), obk (A53), obk (A262), obk (A266), obk (A268)]) A264 c265 3 ((subG exG9 (inT exG9 (ofW ([0, 2, 9] : List Int)))).pr : List Int) := ow271.imp (fun g _ hs => ⟨(fun e => by have := lt283 _ e; have := Sx_base hs; omega), (fun e => by have := lt284 _ e; have := Sx_base hs; omega), (fun e => by have := lt285 _ e; have := Sx_base hs; omega), hs⟩)
     replace ow272 : OwnLL w279 (w245.heap.size) [obk (A49), obk (A51), obk (A53), obk (A262), obk (A264), obk (A268)] A266 c267 22 3 ((subG exG9 (inT exG9 (ofW ([0, 2, 9] : List Int)))).mv : List (List Int)) := ow272.imp (fun g _ hs => ⟨(fun e => by have := lt283 _ e; have := Sx_base hs; omega), (fun e => by have := lt284 _ e; have := Sx_base hs; omega), (fun e => by have := lt285 _ e; have := Sx_base hs; omega), hs⟩)
     replace ow273 : OwnR w279 (Sx (w245.heap.size) [obk (A49), obk (A51), obk (A53), obk (A262), obk (A264), obk (A266)]) A268 c269 3 ((subO exG9 (inT exG9 (ofW ([0, 2, 9] : List Int)))) : List Int) := ow273.imp (fun g _ hs => ⟨(fun e => by have := lt283 _ e; have := Sx_base hs; omega), (fun e => by have := lt284 _ e; have := Sx_base hs; omega), (fun e => by have := lt285 _ e; have := Sx_base hs; omega), hs⟩)
     clear lt283 lt284 lt285
     clear g282 he
     refine ⟨hS261, ?_⟩
     refine AtH.rd (by kernel_rfl) (fun d v c a w h => by cases d <;> exact h) hS261 [4] [[]] [(20, .tuple #[.agg #[.slice A262 ((subG exG9 (inT exG9 (ofW ([0, 2, 9] : List Int)))).ow.length) c263, .slice A264 ((subG exG9 (inT exG9 (ofW ([0, 2, 9] : List Int)))).pr.length) c265, .slice A266 ((subG exG9 (inT exG9 (ofW ([0, 2, 9] : List Int)))).mv.length) c267], .slice A268 ((subO exG9 (inT exG9 (ofW ([0, 2, 9] : List Int)))).length) c269, .bool (subB exG9 (inT exG9 (ofW ([0, 2, 9] : List Int))))])] #[true, true, true, true, true, false, false, false, true, false, false, false] [] 6 f281 (by kernel_rfl) trivial (fun act301 f300 => ?_)
     clear f281
     refine AtH.rd (by kernel_rfl) (fun d v c a w h => by cases d <;> exact h) hS261 [5] [[]] [(25, .agg #[.slice A262 ((subG exG9 (inT exG9 (ofW ([0, 2, 9] : List Int)))).ow.length) c263, .slice A264 ((subG exG9 (inT exG9 (ofW ([0, 2, 9] : List Int)))).pr.length) c265, .slice A266 ((subG exG9 (inT exG9 (ofW ([0, 2, 9] : List Int)))).mv.length) c267])] #[true, true, true, true, true, true, false, false, true, false, false, false] [] 5 f300 (by kernel_rfl) trivial (fun act303 f302 => ?_)
     clear f300
     refine AtH.rd (by kernel_rfl) (fun d v c a w h => by cases d <;> exact h) hS261 [6] [[]] [(26, .slice A268 ((subO exG9 (inT exG9 (ofW ([0, 2, 9] : List Int)))).length) c269)] #[true, true, true, true, true, true, true, false, true, false, false, false] [] 4 f302 (by kernel_rfl) trivial (fun act305 f304 => ?_)
     clear f302
     refine AtH.rd (by kernel_rfl) (fun d v c a w h => by cases d <;> exact h) hS261 [7] [[]] [(27, .bool (subB exG9 (inT exG9 (ofW ([0, 2, 9] : List Int)))))] #[true, true, true, true, true, true, true, true, true, false, false, false] [] 3 f304 (by kernel_rfl) trivial (fun act307 f306 => ?_)
     clear f304
     refine AtH.all [9] 2 (by kernel_rfl) (by simp) ⟨?_, trivial⟩
     refine OneH.store f306 (t := 25) (b := w140.heap.size) (off := 0) (v := .agg #[.slice A262 ((subG exG9 (inT exG9 (ofW ([0, 2, 9] : List Int)))).ow.length) c263, .slice A264 ((subG exG9 (inT exG9 (ofW ([0, 2, 9] : List Int)))).pr.length) c265, .slice A266 ((subG exG9 (inT exG9 (ofW ([0, 2, 9] : List Int)))).mv.length) c267]) #[true, true, true, true, true, true, true, true, true, true, false, false] (by kernel_rfl) (by kernel_rfl) bx260 (by kernel_rfl) (fun act313 w309 g310 bx311 f312 => ?_)
     clear f306
     replace bx311 : Bx w309 (w140.heap.size) [.slice A262 ((subG exG9 (inT exG9 (ofW ([0, 2, 9] : List Int)))).ow.length) c263, .slice A264 ((subG exG9 (inT exG9 (ofW ([0, 2, 9] : List Int)))).pr.length) c265, .slice A266 ((subG exG9 (inT exG9 (ofW ([0, 2, 9] : List Int)))).mv.length) c267] 25 := bx311
     have hS308 := hS261.gr' g310 (by rw [hCs106]; exact ⟨(by simp only [add_block]; omega), (by simp only [add_block]; omega), (by simp only [add_block]; omega), trivial⟩)
     have szw309 := g310.size
     replace e0 := e0.gr g310 (fun k h => by injection h; omega)
     replace r16 := r16.gr g310 (fun k h => by injection h; omega)
     replace r9 := r9.gr g310 (fun k h => by injection h; omega)
     replace bx29 := bx29.gr g310 (fun h => by injection h; omega)
     replace ow55 := ow55.gr g310 (fun k hk => hk.2.2.2.2.1)
     replace ow56 := ow56.gr g310 (fun k hk => hk.2.2.2.2.1)
     replace ow57 := ow57.gr g310 (fun k hk => hk.2.2.2.2.1)
     replace bx86 := bx86.gr g310 (fun h => by injection h; omega)
     replace bx129 := bx129.gr g310 (fun h => by injection h; omega)
     replace ow270 := ow270.gr g310 (fun k hk e => by have := Sx_base hk; injection e; omega)
     replace ow271 := ow271.gr g310 (fun k hk e => by have := Sx_base hk; injection e; omega)
     replace ow272 := ow272.gr g310 (fun k hk e => by have := Sx_base hk; injection e; omega)
     replace ow273 := ow273.gr g310 (fun k hk e => by have := Sx_base hk; injection e; omega)
     clear bx260 g310
     refine ⟨hS308, ?_⟩
     refine AtH.rd (by kernel_rfl) (fun d v c a w h => by cases d <;> exact h) hS308 [10] [[]] [(6, .slice A268 ((subO exG9 (inT exG9 (ofW ([0, 2, 9] : List Int)))).length) c269)] #[true, true, true, true, true, true, true, true, true, true, true, false] [] 1 f312 (by kernel_rfl) trivial (fun act328 f327 => ?_)
     clear f312
     refine AtH.rd (by kernel_rfl) (fun d v c a w h => by cases d <;> exact h) hS308 [11] [[]] [(7, .bool (subB exG9 (inT exG9 (ofW ([0, 2, 9] : List Int)))))] #[true, true, true, true, true, true, true, true, true, true, true, true] [] 0 f327 (by kernel_rfl) trivial (fun act330 f329 => ?_)
     clear f327
     refine AtH.done (by kernel_rfl) ?_
     clear hS308
     refine t_n ?_
     have f331 := f329.sub (r := [(7, .bool (subB exG9 (inT exG9 (ofW ([0, 2, 9] : List Int))))), (6, .slice A268 ((subO exG9 (inT exG9 (ofW ([0, 2, 9] : List Int)))).length) c269), (5, .pointer (some ⟨w140.heap.size, 0, none⟩)), (4, .pointer (some ⟨w62.heap.size, 0, none⟩)), (3, .int .i64 ((rightP exG9).2)), (2, .int .i64 ((rightP exG9).1)), (1, .pointer (some ⟨w11.heap.size, 0, none⟩))]) ⟨rfl, rfl, rfl, rfl, rfl, rfl, rfl, trivial⟩
     exact ⟨w140.heap.size, A268, A262, A264, A266, c269, c263, c265, c267, f331, e0, r16, r9, bx29, (ow55.imp (fun g _ hs => ⟨hs.2.2.2.2.2.2.1, hs.2.2.2.2.2.2.2.1, hs.2.2.2.2.2.2.2.2.1, hs.2.2.2.1, hs.1, hs.2.1, hs.2.2.1, hs.2.2.2.2.1, (by have := Sx_base hs; show w37.heap.size ≤ g; omega)⟩)), (ow56.imp (fun g _ hs => ⟨hs.2.2.2.2.2.2.1, hs.2.2.2.2.2.2.2.1, hs.2.2.2.2.2.2.2.2.1, hs.2.2.2.1, hs.1, hs.2.1, hs.2.2.1, hs.2.2.2.2.1, (by have := Sx_base hs; show w37.heap.size ≤ g; omega)⟩)), (ow57.imp (fun g _ hs => ⟨hs.2.2.2.2.2.2.1, hs.2.2.2.2.2.2.2.1, hs.2.2.2.2.2.2.2.2.1, hs.2.2.2.1, hs.1, hs.2.1, hs.2.2.1, hs.2.2.2.2.1, (by have := Sx_base hs; show w37.heap.size ≤ g; omega)⟩)), bx86, (ow273.imp (fun g _ hs => ⟨hs.1, hs.2.1, hs.2.2.1, hs.2.2.2.1, hs.2.2.2.2.1, hs.2.2.2.2.2.1, (fun e => by have := Sx_base hs; injection e; omega), (by have := Sx_base hs; show w84.heap.size ≤ g; omega)⟩)), (ow270.imp (fun g _ hs => ⟨hs.1, hs.2.1, hs.2.2.1, hs.2.2.2.2.2.1, hs.2.2.2.1, hs.2.2.2.2.1, (fun e => by have := Sx_base hs; injection e; omega), (by have := Sx_base hs; show w84.heap.size ≤ g; omega)⟩)), (ow271.imp (fun g _ hs => ⟨hs.1, hs.2.1, hs.2.2.1, hs.2.2.2.2.2.1, hs.2.2.2.1, hs.2.2.2.2.1, (fun e => by have := Sx_base hs; injection e; omega), (by have := Sx_base hs; show w84.heap.size ≤ g; omega)⟩)), (ow272.imp (fun g _ hs => ⟨hs.1, hs.2.1, hs.2.2.1, hs.2.2.2.2.2.1, hs.2.2.2.1, hs.2.2.2.2.1, (fun e => by have := Sx_base hs; injection e; omega), (by have := Sx_base hs; show w84.heap.size ≤ g; omega)⟩)), bx311, (by omega), (by omega)⟩
   ·refine OneH.seq f125 [[]] [(5, .pointer (some ⟨w123.heap.size, 0, none⟩))] (w123.alloc (.cells #[.slice none 0 0, .slice none 0 0, .slice none 0 0] 25 (0, 0))) [] #[true, true, false, false, false, false, false, false, true, false, false, false] (by kernel_rfl) (by kernel_rfl) (by kernel_rfl) trivial (fun act336 w333 hw334 f335 => ?_)
    clear f125
    have g337 := gr_alloc hw334
    have hS332 := hS130.gr g337
    have szw333 := g337.size
    replace e0 := e0.gr g337 no_row
    replace r16 := r16.gr g337 (fun _ h => by cases h)
    replace r9 := r9.gr g337 (fun _ h => by cases h)
    replace bx29 := bx29.gr g337 (by simp)
    replace ow55 : OwnR w333 (Sx (w37.heap.size) [some (w123.heap.size), some (w109.heap.size), some (w62.heap.size), obk (A51), obk (A53)]) A49 c50 3 ((dualG exG9).ow : List Int) := ow55.grA g337 (fun _ _ h => by cases h) (fun k hk hs => ⟨(fun e => by injection e; omega), hs.1, hs.2.1, hs.2.2.1, hs.2.2.2.1, hs.2.2.2.2⟩)
    replace ow56 : OwnR w333 (Sx (w37.heap.size) [some (w123.heap.size), some (w109.heap.size), some (w62.heap.size), obk (A49), obk (A53)]) A51 c52 3 ((dualG exG9).pr : List Int) := ow56.grA g337 (fun _ _ h => by cases h) (fun k hk hs => ⟨(fun e => by injection e; omega), hs.1, hs.2.1, hs.2.2.1, hs.2.2.2.1, hs.2.2.2.2⟩)
    replace ow57 : OwnLL w333 (w37.heap.size) [some (w123.heap.size), some (w109.heap.size), some (w62.heap.size), obk (A49), obk (A51)] A53 c54 22 3 ((dualG exG9).mv : List (List Int)) := ow57.grA g337 (fun _ _ h => by cases h) (fun k hk hs => ⟨(fun e => by injection e; omega), hs.1, hs.2.1, hs.2.2.1, hs.2.2.2.1, hs.2.2.2.2⟩)
    replace bx86 := bx86.gr g337 (by simp)
    replace bx129 := bx129.gr g337 (by simp)
    have bx348 : Bx w333 (w123.heap.size) [.slice none 0 0, .slice none 0 0, .slice none 0 0] 25 := Bx.new hw334
    have := bx348.lt
    clear g337 hw334
    refine ⟨hS332, ?_⟩
    refine AtH.all [2] 8 (by kernel_rfl) (by simp) ⟨?_, trivial⟩
    refine OneH.call f335 34 #[.slice (some ⟨w109.heap.size, 0, none⟩) 3 3] (some 23) #[true, true, true, false, false, false, false, false, true, false, false, false] (by kernel_rfl) (by kernel_rfl) (of_any (la := ([0, 2, 9] : List Int)) (Bx.rdI (l := ([0, 2, 9] : List Int)) bx129 rfl (by first | decide | exact Nat.le_of_ble_eq_true rfl))) ?_
    rintro e_ w350 ⟨rfl, he⟩
    refine ⟨_, rfl, _, rfl, fun act351 f352 => ?_⟩
    clear f335
    have g353 := gr_ext he
    have hS349 := hS332.gr g353
    have szw350 := g353.size
    replace e0 := e0.gr g353 no_row
    replace r16 := r16.gr g353 (fun _ h => by cases h)
    replace r9 := r9.gr g353 (fun _ h => by cases h)
    replace bx29 := bx29.gr g353 (by simp)
    replace ow55 := ow55.gr g353 (fun _ _ h => by cases h)
    replace ow56 := ow56.gr g353 (fun _ _ h => by cases h)
    replace ow57 := ow57.gr g353 (fun _ _ h => by cases h)
    replace bx86 := bx86.gr g353 (by simp)
    replace bx129 := bx129.gr g353 (by simp)
    replace bx348 := bx348.gr g353 (by simp)
    clear g353 he
    refine ⟨hS349, ?_⟩
    refine AtH.all [3] 7 (by kernel_rfl) (by simp) ⟨?_, trivial⟩
    refine OneH.call f352 22 #[.agg #[.slice A3 exG9.ow.length c6, .slice A4 exG9.pr.length c7, .slice A5 exG9.mv.length c8], .agg ((ofW ([0, 2, 9] : List Int) : List Int).map wV).toArray] (some 24) #[true, true, true, true, false, false, false, false, true, false, false, false] (by kernel_rfl) (by kernel_rfl) (subM_any (g := exG9) (s := ofW ([0, 2, 9] : List Int)) (r9.wide (Nat.zero_le _) (by omega)) (ofW_ok _) (r16.wide (Nat.zero_le _) (by omega))) ?_
    rintro e_ w382 ⟨A365, c366, A367, c368, A369, c370, A371, c372, rfl, he, ow373, ow374, ow375, ow376⟩
    have hip381 := sub_inner exG9 (ofW ([0, 2, 9] : List Int))
    have := sub_lens exG9 (inT exG9 (ofW ([0, 2, 9] : List Int)))
    refine ⟨_, rfl, _, rfl, fun act383 f384 => ?_⟩
    clear f352
    have g385 := gr_ext he
    have hS364 := hS349.gr g385
    have lt386 := ow55.lt
    have lt387 := ow56.lt
    have lt388 := ow57.lt
    have szw382 := g385.size
    replace e0 := e0.gr g385 no_row
    replace r16 := r16.gr g385 (fun _ h => by cases h)
    replace r9 := r9.gr g385 (fun _ h => by cases h)
    replace bx29 := bx29.gr g385 (by simp)
    replace ow55 : OwnR w382 (Sx (w37.heap.size) [obk (A365), obk (A367), obk (A369), obk (A371), some (w123.heap.size), some (w109.heap.size), some (w62.heap.size), obk (A51), obk (A53)]) A49 c50 3 ((dualG exG9).ow : List Int) := ow55.grA g385 (fun _ _ h => by cases h) (fun k hk hs => ⟨(fun e => by have := ow373.ge _ e; omega), (fun e => by have := ow374.ge _ e; omega), (fun e => by have := ow375.ge _ e; omega), (fun e => by have := ow376.ge _ e; omega), hs.1, hs.2.1, hs.2.2.1, hs.2.2.2.1, hs.2.2.2.2.1, hs.2.2.2.2.2⟩)
    replace ow56 : OwnR w382 (Sx (w37.heap.size) [obk (A365), obk (A367), obk (A369), obk (A371), some (w123.heap.size), some (w109.heap.size), some (w62.heap.size), obk (A49), obk (A53)]) A51 c52 3 ((dualG exG9).pr : List Int) := ow56.grA g385 (fun _ _ h => by cases h) (fun k hk hs => ⟨(fun e => by have := ow373.ge _ e; omega), (fun e => by have := ow374.ge _ e; omega), (fun e => by have := ow375.ge _ e; omega), (fun e => by have := ow376.ge _ e; omega), hs.1, hs.2.1, hs.2.2.1, hs.2.2.2.1, hs.2.2.2.2.1, hs.2.2.2.2.2⟩)
    replace ow57 : OwnLL w382 (w37.heap.size) [obk (A365), obk (A367), obk (A369), obk (A371), some (w123.heap.size), some (w109.heap.size), some (w62.heap.size), obk (A49), obk (A51)] A53 c54 22 3 ((dualG exG9).mv : List (List Int)) := ow57.grA g385 (fun _ _ h => by cases h) (fun k hk hs => ⟨(fun e => by have := ow373.ge _ e; omega), (fun e => by have := ow374.ge _ e; omega), (fun e => by have := ow375.ge _ e; omega), (fun e => by have := ow376.ge _ e; omega), hs.1, hs.2.1, hs.2.2.1, hs.2.2.2.1, hs.2.2.2.2.1, hs.2.2.2.2.2⟩)
    replace bx86 := bx86.gr g385 (by simp)
    replace bx129 := bx129.gr g385 (by simp)
    replace bx348 := bx348.gr g385 (by simp)
    replace ow373 : OwnR w382 (Sx (w350.heap.size) [obk (A49), obk (A51), obk (A53), obk (A367), obk (A369), obk (A371)]) A365 c366 3 ((subG exG9 (inT exG9 (ofW ([0, 2, 9] : List Int)))).ow : List Int) := ow373.imp (fun g _ hs => ⟨(fun e => by have := lt386 _ e; have := Sx_base hs; omega), (fun e => by have := lt387 _ e; have := Sx_base hs; omega), (fun e => by have := lt388 _ e; have := Sx_base hs; omega), hs⟩)
    replace ow374 : OwnR w382 (Sx (w350.heap.size) [obk (A49), obk (A51), obk (A53), obk (A365), obk (A369), obk (A371)]) A367 c368 3 ((subG exG9 (inT exG9 (ofW ([0, 2, 9] : List Int)))).pr : List Int) := ow374.imp (fun g _ hs => ⟨(fun e => by have := lt386 _ e; have := Sx_base hs; omega), (fun e => by have := lt387 _ e; have := Sx_base hs; omega), (fun e => by have := lt388 _ e; have := Sx_base hs; omega), hs⟩)
    replace ow375 : OwnLL w382 (w350.heap.size) [obk (A49), obk (A51), obk (A53), obk (A365), obk (A367), obk (A371)] A369 c370 22 3 ((subG exG9 (inT exG9 (ofW ([0, 2, 9] : List Int)))).mv : List (List Int)) := ow375.imp (fun g _ hs => ⟨(fun e => by have := lt386 _ e; have := Sx_base hs; omega), (fun e => by have := lt387 _ e; have := Sx_base hs; omega), (fun e => by have := lt388 _ e; have := Sx_base hs; omega), hs⟩)
    replace ow376 : OwnR w382 (Sx (w350.heap.size) [obk (A49), obk (A51), obk (A53), obk (A365), obk (A367), obk (A369)]) A371 c372 3 ((subO exG9 (inT exG9 (ofW ([0, 2, 9] : List Int)))) : List Int) := ow376.imp (fun g _ hs => ⟨(fun e => by have := lt386 _ e; have := Sx_base hs; omega), (fun e => by have := lt387 _ e; have := Sx_base hs; omega), (fun e => by have := lt388 _ e; have := Sx_base hs; omega), hs⟩)
    clear lt386 lt387 lt388
    clear g385 he
    refine ⟨hS364, ?_⟩
    refine AtH.rd (by kernel_rfl) (fun d v c a w h => by cases d <;> exact h) hS364 [4] [[]] [(20, .tuple #[.agg #[.slice A365 ((subG exG9 (inT exG9 (ofW ([0, 2, 9] : List Int)))).ow.length) c366, .slice A367 ((subG exG9 (inT exG9 (ofW ([0, 2, 9] : List Int)))).pr.length) c368, .slice A369 ((subG exG9 (inT exG9 (ofW ([0, 2, 9] : List Int)))).mv.length) c370], .slice A371 ((subO exG9 (inT exG9 (ofW ([0, 2, 9] : List Int)))).length) c372, .bool (subB exG9 (inT exG9 (ofW ([0, 2, 9] : List Int))))])] #[true, true, true, true, true, false, false, false, true, false, false, false] [] 6 f384 (by kernel_rfl) trivial (fun act404 f403 => ?_)
    clear f384
    refine AtH.rd (by kernel_rfl) (fun d v c a w h => by cases d <;> exact h) hS364 [5] [[]] [(25, .agg #[.slice A365 ((subG exG9 (inT exG9 (ofW ([0, 2, 9] : List Int)))).ow.length) c366, .slice A367 ((subG exG9 (inT exG9 (ofW ([0, 2, 9] : List Int)))).pr.length) c368, .slice A369 ((subG exG9 (inT exG9 (ofW ([0, 2, 9] : List Int)))).mv.length) c370])] #[true, true, true, true, true, true, false, false, true, false, false, false] [] 5 f403 (by kernel_rfl) trivial (fun act406 f405 => ?_)
    clear f403
    refine AtH.rd (by kernel_rfl) (fun d v c a w h => by cases d <;> exact h) hS364 [6] [[]] [(26, .slice A371 ((subO exG9 (inT exG9 (ofW ([0, 2, 9] : List Int)))).length) c372)] #[true, true, true, true, true, true, true, false, true, false, false, false] [] 4 f405 (by kernel_rfl) trivial (fun act408 f407 => ?_)
    clear f405
    refine AtH.rd (by kernel_rfl) (fun d v c a w h => by cases d <;> exact h) hS364 [7] [[]] [(27, .bool (subB exG9 (inT exG9 (ofW ([0, 2, 9] : List Int)))))] #[true, true, true, true, true, true, true, true, true, false, false, false] [] 3 f407 (by kernel_rfl) trivial (fun act410 f409 => ?_)
    clear f407
    refine AtH.all [9] 2 (by kernel_rfl) (by simp) ⟨?_, trivial⟩
    refine OneH.store f409 (t := 25) (b := w123.heap.size) (off := 0) (v := .agg #[.slice A365 ((subG exG9 (inT exG9 (ofW ([0, 2, 9] : List Int)))).ow.length) c366, .slice A367 ((subG exG9 (inT exG9 (ofW ([0, 2, 9] : List Int)))).pr.length) c368, .slice A369 ((subG exG9 (inT exG9 (ofW ([0, 2, 9] : List Int)))).mv.length) c370]) #[true, true, true, true, true, true, true, true, true, true, false, false] (by kernel_rfl) (by kernel_rfl) bx348 (by kernel_rfl) (fun act416 w412 g413 bx414 f415 => ?_)
    clear f409
    replace bx414 : Bx w412 (w123.heap.size) [.slice A365 ((subG exG9 (inT exG9 (ofW ([0, 2, 9] : List Int)))).ow.length) c366, .slice A367 ((subG exG9 (inT exG9 (ofW ([0, 2, 9] : List Int)))).pr.length) c368, .slice A369 ((subG exG9 (inT exG9 (ofW ([0, 2, 9] : List Int)))).mv.length) c370] 25 := bx414
    have hS411 := hS364.gr' g413 (by rw [hCs106]; exact ⟨(by simp only [add_block]; omega), (by simp only [add_block]; omega), (by simp only [add_block]; omega), trivial⟩)
    have szw412 := g413.size
    replace e0 := e0.gr g413 (fun k h => by injection h; omega)
    replace r16 := r16.gr g413 (fun k h => by injection h; omega)
    replace r9 := r9.gr g413 (fun k h => by injection h; omega)
    replace bx29 := bx29.gr g413 (fun h => by injection h; omega)
    replace ow55 := ow55.gr g413 (fun k hk => hk.2.2.2.2.1)
    replace ow56 := ow56.gr g413 (fun k hk => hk.2.2.2.2.1)
    replace ow57 := ow57.gr g413 (fun k hk => hk.2.2.2.2.1)
    replace bx86 := bx86.gr g413 (fun h => by injection h; omega)
    replace bx129 := bx129.gr g413 (fun h => by injection h; omega)
    replace ow373 := ow373.gr g413 (fun k hk e => by have := Sx_base hk; injection e; omega)
    replace ow374 := ow374.gr g413 (fun k hk e => by have := Sx_base hk; injection e; omega)
    replace ow375 := ow375.gr g413 (fun k hk e => by have := Sx_base hk; injection e; omega)
    replace ow376 := ow376.gr g413 (fun k hk e => by have := Sx_base hk; injection e; omega)
    clear bx348 g413
    refine ⟨hS411, ?_⟩
    refine AtH.rd (by kernel_rfl) (fun d v c a w h => by cases d <;> exact h) hS411 [10] [[]] [(6, .slice A371 ((subO exG9 (inT exG9 (ofW ([0, 2, 9] : List Int)))).length) c372)] #[true, true, true, true, true, true, true, true, true, true, true, false] [] 1 f415 (by kernel_rfl) trivial (fun act431 f430 => ?_)
    clear f415
    refine AtH.rd (by kernel_rfl) (fun d v c a w h => by cases d <;> exact h) hS411 [11] [[]] [(7, .bool (subB exG9 (inT exG9 (ofW ([0, 2, 9] : List Int)))))] #[true, true, true, true, true, true, true, true, true, true, true, true] [] 0 f430 (by kernel_rfl) trivial (fun act433 f432 => ?_)
    clear f430
    refine AtH.done (by kernel_rfl) ?_
    clear hS411
    refine t_n ?_
    have f434 := f432.sub (r := [(7, .bool (subB exG9 (inT exG9 (ofW ([0, 2, 9] : List Int))))), (6, .slice A371 ((subO exG9 (inT exG9 (ofW ([0, 2, 9] : List Int)))).length) c372), (5, .pointer (some ⟨w123.heap.size, 0, none⟩)), (4, .pointer (some ⟨w62.heap.size, 0, none⟩)), (3, .int .i64 ((rightP exG9).2)), (2, .int .i64 ((rightP exG9).1)), (1, .pointer (some ⟨w11.heap.size, 0, none⟩))]) ⟨rfl, rfl, rfl, rfl, rfl, rfl, rfl, trivial⟩
    exact ⟨w123.heap.size, A371, A365, A367, A369, c372, c366, c368, c370, f434, e0, r16, r9, bx29, (ow55.imp (fun g _ hs => ⟨hs.2.2.2.2.2.2.1, hs.2.2.2.2.2.2.2.1, hs.2.2.2.2.2.2.2.2.1, hs.2.2.2.1, hs.1, hs.2.1, hs.2.2.1, hs.2.2.2.2.1, (by have := Sx_base hs; show w37.heap.size ≤ g; omega)⟩)), (ow56.imp (fun g _ hs => ⟨hs.2.2.2.2.2.2.1, hs.2.2.2.2.2.2.2.1, hs.2.2.2.2.2.2.2.2.1, hs.2.2.2.1, hs.1, hs.2.1, hs.2.2.1, hs.2.2.2.2.1, (by have := Sx_base hs; show w37.heap.size ≤ g; omega)⟩)), (ow57.imp (fun g _ hs => ⟨hs.2.2.2.2.2.2.1, hs.2.2.2.2.2.2.2.1, hs.2.2.2.2.2.2.2.2.1, hs.2.2.2.1, hs.1, hs.2.1, hs.2.2.1, hs.2.2.2.2.1, (by have := Sx_base hs; show w37.heap.size ≤ g; omega)⟩)), bx86, (ow376.imp (fun g _ hs => ⟨hs.1, hs.2.1, hs.2.2.1, hs.2.2.2.1, hs.2.2.2.2.1, hs.2.2.2.2.2.1, (fun e => by have := Sx_base hs; injection e; omega), (by have := Sx_base hs; show w84.heap.size ≤ g; omega)⟩)), (ow373.imp (fun g _ hs => ⟨hs.1, hs.2.1, hs.2.2.1, hs.2.2.2.2.2.1, hs.2.2.2.1, hs.2.2.2.2.1, (fun e => by have := Sx_base hs; injection e; omega), (by have := Sx_base hs; show w84.heap.size ≤ g; omega)⟩)), (ow374.imp (fun g _ hs => ⟨hs.1, hs.2.1, hs.2.2.1, hs.2.2.2.2.2.1, hs.2.2.2.1, hs.2.2.2.2.1, (fun e => by have := Sx_base hs; injection e; omega), (by have := Sx_base hs; show w84.heap.size ≤ g; omega)⟩)), (ow375.imp (fun g _ hs => ⟨hs.1, hs.2.1, hs.2.2.1, hs.2.2.2.2.2.1, hs.2.2.2.1, hs.2.2.2.2.1, (fun e => by have := Sx_base hs; injection e; omega), (by have := Sx_base hs; show w84.heap.size ≤ g; omega)⟩)), bx414, (by omega), (by omega)⟩
  ·refine OneH.seq f120 [[]] [(5, .pointer (some ⟨w109.heap.size, 0, none⟩))] (w109.alloc (.cells #[.slice none 0 0, .slice none 0 0, .slice none 0 0] 25 (0, 0))) [] #[true, false, false, false, false, false, false, false, true, false, false, false] (by kernel_rfl) (by kernel_rfl) (by kernel_rfl) trivial (fun act439 w436 hw437 f438 => ?_)
   clear f120
   have g440 := gr_alloc hw437
   have hS435 := hS111.gr g440
   have szw436 := g440.size
   replace e0 := e0.gr g440 no_row
   replace r16 := r16.gr g440 (fun _ h => by cases h)
   replace r9 := r9.gr g440 (fun _ h => by cases h)
   replace bx29 := bx29.gr g440 (by simp)
   replace ow55 : OwnR w436 (Sx (w37.heap.size) [some (w109.heap.size), some (w62.heap.size), obk (A51), obk (A53)]) A49 c50 3 ((dualG exG9).ow : List Int) := ow55.grA g440 (fun _ _ h => by cases h) (fun k hk hs => ⟨(fun e => by injection e; omega), hs.1, hs.2.1, hs.2.2.1, hs.2.2.2⟩)
   replace ow56 : OwnR w436 (Sx (w37.heap.size) [some (w109.heap.size), some (w62.heap.size), obk (A49), obk (A53)]) A51 c52 3 ((dualG exG9).pr : List Int) := ow56.grA g440 (fun _ _ h => by cases h) (fun k hk hs => ⟨(fun e => by injection e; omega), hs.1, hs.2.1, hs.2.2.1, hs.2.2.2⟩)
   replace ow57 : OwnLL w436 (w37.heap.size) [some (w109.heap.size), some (w62.heap.size), obk (A49), obk (A51)] A53 c54 22 3 ((dualG exG9).mv : List (List Int)) := ow57.grA g440 (fun _ _ h => by cases h) (fun k hk hs => ⟨(fun e => by injection e; omega), hs.1, hs.2.1, hs.2.2.1, hs.2.2.2⟩)
   replace bx86 := bx86.gr g440 (by simp)
   have bx450 : Bx w436 (w109.heap.size) [.slice none 0 0, .slice none 0 0, .slice none 0 0] 25 := Bx.new hw437
   have := bx450.lt
   clear g440 hw437
   refine ⟨hS435, ?_⟩
   refine AtH.all [1] 9 (by kernel_rfl) (by simp) ⟨?_, trivial⟩
   refine OneH.seq f438 [[]] [(22, .slice (some ⟨w436.heap.size, 0, none⟩) 3 3)] (w436.alloc (.cells #[.int .i64 (0), .int .i64 (2), .int .i64 (9)] 3 (0, 0))) [] #[true, true, false, false, false, false, false, false, true, false, false, false] (by kernel_rfl) (by kernel_rfl) (by kernel_rfl) trivial (fun act455 w452 hw453 f454 => ?_)
   clear f438
   have g456 := gr_alloc hw453
   have hS459 := hS435.gr g456
   refine ⟨hS459, ?_⟩
   have szw452 := g456.size
   replace e0 := e0.gr g456 no_row
   replace r16 := r16.gr g456 (fun _ h => by cases h)
   replace r9 := r9.gr g456 (fun _ h => by cases h)
   replace bx29 := bx29.gr g456 (by simp)
   replace ow55 : OwnR w452 (Sx (w37.heap.size) [some (w436.heap.size), some (w109.heap.size), some (w62.heap.size), obk (A51), obk (A53)]) A49 c50 3 ((dualG exG9).ow : List Int) := ow55.grA g456 (fun _ _ h => by cases h) (fun k hk hs => ⟨(fun e => by injection e; omega), hs.1, hs.2.1, hs.2.2.1, hs.2.2.2.1, hs.2.2.2.2⟩)
   replace ow56 : OwnR w452 (Sx (w37.heap.size) [some (w436.heap.size), some (w109.heap.size), some (w62.heap.size), obk (A49), obk (A53)]) A51 c52 3 ((dualG exG9).pr : List Int) := ow56.grA g456 (fun _ _ h => by cases h) (fun k hk hs => ⟨(fun e => by injection e; omega), hs.1, hs.2.1, hs.2.2.1, hs.2.2.2.1, hs.2.2.2.2⟩)
   replace ow57 : OwnLL w452 (w37.heap.size) [some (w436.heap.size), some (w109.heap.size), some (w62.heap.size), obk (A49), obk (A51)] A53 c54 22 3 ((dualG exG9).mv : List (List Int)) := ow57.grA g456 (fun _ _ h => by cases h) (fun k hk hs => ⟨(fun e => by injection e; omega), hs.1, hs.2.1, hs.2.2.1, hs.2.2.2.1, hs.2.2.2.2⟩)
   replace bx86 := bx86.gr g456 (by simp)
   replace bx450 := bx450.gr g456 (by simp)
   have bx458 : Bx w452 (w436.heap.size) [.int .i64 (0), .int .i64 (2), .int .i64 (9)] 3 := Bx.new hw453
   have := bx458.lt
   clear g456 hw453
   refine AtH.all [2] 8 (by kernel_rfl) (by simp) ⟨?_, trivial⟩
   refine OneH.call f454 34 #[.slice (some ⟨w436.heap.size, 0, none⟩) 3 3] (some 23) #[true, true, true, false, false, false, false, false, true, false, false, false] (by kernel_rfl) (by kernel_rfl) (of_any (la := ([0, 2, 9] : List Int)) (Bx.rdI (l := ([0, 2, 9] : List Int)) bx458 rfl (by first | decide | exact Nat.le_of_ble_eq_true rfl))) ?_
   rintro e_ w470 ⟨rfl, he⟩
   refine ⟨_, rfl, _, rfl, fun act471 f472 => ?_⟩
   clear f454
   have g473 := gr_ext he
   have hS469 := hS459.gr g473
   have szw470 := g473.size
   replace e0 := e0.gr g473 no_row
   replace r16 := r16.gr g473 (fun _ h => by cases h)
   replace r9 := r9.gr g473 (fun _ h => by cases h)
   replace bx29 := bx29.gr g473 (by simp)
   replace ow55 := ow55.gr g473 (fun _ _ h => by cases h)
   replace ow56 := ow56.gr g473 (fun _ _ h => by cases h)
   replace ow57 := ow57.gr g473 (fun _ _ h => by cases h)
   replace bx86 := bx86.gr g473 (by simp)
   replace bx450 := bx450.gr g473 (by simp)
   replace bx458 := bx458.gr g473 (by simp)
   clear g473 he
   refine ⟨hS469, ?_⟩
   refine AtH.all [3] 7 (by kernel_rfl) (by simp) ⟨?_, trivial⟩
   refine OneH.call f472 22 #[.agg #[.slice A3 exG9.ow.length c6, .slice A4 exG9.pr.length c7, .slice A5 exG9.mv.length c8], .agg ((ofW ([0, 2, 9] : List Int) : List Int).map wV).toArray] (some 24) #[true, true, true, true, false, false, false, false, true, false, false, false] (by kernel_rfl) (by kernel_rfl) (subM_any (g := exG9) (s := ofW ([0, 2, 9] : List Int)) (r9.wide (Nat.zero_le _) (by omega)) (ofW_ok _) (r16.wide (Nat.zero_le _) (by omega))) ?_
   rintro e_ w502 ⟨A485, c486, A487, c488, A489, c490, A491, c492, rfl, he, ow493, ow494, ow495, ow496⟩
   have hip501 := sub_inner exG9 (ofW ([0, 2, 9] : List Int))
   have := sub_lens exG9 (inT exG9 (ofW ([0, 2, 9] : List Int)))
   refine ⟨_, rfl, _, rfl, fun act503 f504 => ?_⟩
   clear f472
   have g505 := gr_ext he
   have hS484 := hS469.gr g505
   have lt506 := ow55.lt
   have lt507 := ow56.lt
   have lt508 := ow57.lt
   have szw502 := g505.size
   replace e0 := e0.gr g505 no_row
   replace r16 := r16.gr g505 (fun _ h => by cases h)
   replace r9 := r9.gr g505 (fun _ h => by cases h)
   replace bx29 := bx29.gr g505 (by simp)
   replace ow55 : OwnR w502 (Sx (w37.heap.size) [obk (A485), obk (A487), obk (A489), obk (A491), some (w436.heap.size), some (w109.heap.size), some (w62.heap.size), obk (A51), obk (A53)]) A49 c50 3 ((dualG exG9).ow : List Int) := ow55.grA g505 (fun _ _ h => by cases h) (fun k hk hs => ⟨(fun e => by have := ow493.ge _ e; omega), (fun e => by have := ow494.ge _ e; omega), (fun e => by have := ow495.ge _ e; omega), (fun e => by have := ow496.ge _ e; omega), hs.1, hs.2.1, hs.2.2.1, hs.2.2.2.1, hs.2.2.2.2.1, hs.2.2.2.2.2⟩)
   replace ow56 : OwnR w502 (Sx (w37.heap.size) [obk (A485), obk (A487), obk (A489), obk (A491), some (w436.heap.size), some (w109.heap.size), some (w62.heap.size), obk (A49), obk (A53)]) A51 c52 3 ((dualG exG9).pr : List Int) := ow56.grA g505 (fun _ _ h => by cases h) (fun k hk hs => ⟨(fun e => by have := ow493.ge _ e; omega), (fun e => by have := ow494.ge _ e; omega), (fun e => by have := ow495.ge _ e; omega), (fun e => by have := ow496.ge _ e; omega), hs.1, hs.2.1, hs.2.2.1, hs.2.2.2.1, hs.2.2.2.2.1, hs.2.2.2.2.2⟩)
   replace ow57 : OwnLL w502 (w37.heap.size) [obk (A485), obk (A487), obk (A489), obk (A491), some (w436.heap.size), some (w109.heap.size), some (w62.heap.size), obk (A49), obk (A51)] A53 c54 22 3 ((dualG exG9).mv : List (List Int)) := ow57.grA g505 (fun _ _ h => by cases h) (fun k hk hs => ⟨(fun e => by have := ow493.ge _ e; omega), (fun e => by have := ow494.ge _ e; omega), (fun e => by have := ow495.ge _ e; omega), (fun e => by have := ow496.ge _ e; omega), hs.1, hs.2.1, hs.2.2.1, hs.2.2.2.1, hs.2.2.2.2.1, hs.2.2.2.2.2⟩)
   replace bx86 := bx86.gr g505 (by simp)
   replace bx450 := bx450.gr g505 (by simp)
   replace bx458 := bx458.gr g505 (by simp)
   replace ow493 : OwnR w502 (Sx (w470.heap.size) [obk (A49), obk (A51), obk (A53), obk (A487), obk (A489), obk (A491)]) A485 c486 3 ((subG exG9 (inT exG9 (ofW ([0, 2, 9] : List Int)))).ow : List Int) := ow493.imp (fun g _ hs => ⟨(fun e => by have := lt506 _ e; have := Sx_base hs; omega), (fun e => by have := lt507 _ e; have := Sx_base hs; omega), (fun e => by have := lt508 _ e; have := Sx_base hs; omega), hs⟩)
   replace ow494 : OwnR w502 (Sx (w470.heap.size) [obk (A49), obk (A51), obk (A53), obk (A485), obk (A489), obk (A491)]) A487 c488 3 ((subG exG9 (inT exG9 (ofW ([0, 2, 9] : List Int)))).pr : List Int) := ow494.imp (fun g _ hs => ⟨(fun e => by have := lt506 _ e; have := Sx_base hs; omega), (fun e => by have := lt507 _ e; have := Sx_base hs; omega), (fun e => by have := lt508 _ e; have := Sx_base hs; omega), hs⟩)
   replace ow495 : OwnLL w502 (w470.heap.size) [obk (A49), obk (A51), obk (A53), obk (A485), obk (A487), obk (A491)] A489 c490 22 3 ((subG exG9 (inT exG9 (ofW ([0, 2, 9] : List Int)))).mv : List (List Int)) := ow495.imp (fun g _ hs => ⟨(fun e => by have := lt506 _ e; have := Sx_base hs; omega), (fun e => by have := lt507 _ e; have := Sx_base hs; omega), (fun e => by have := lt508 _ e; have := Sx_base hs; omega), hs⟩)
   replace ow496 : OwnR w502 (Sx (w470.heap.size) [obk (A49), obk (A51), obk (A53), obk (A485), obk (A487), obk (A489)]) A491 c492 3 ((subO exG9 (inT exG9 (ofW ([0, 2, 9] : List Int)))) : List Int) := ow496.imp (fun g _ hs => ⟨(fun e => by have := lt506 _ e; have := Sx_base hs; omega), (fun e => by have := lt507 _ e; have := Sx_base hs; omega), (fun e => by have := lt508 _ e; have := Sx_base hs; omega), hs⟩)
   clear lt506 lt507 lt508
   clear g505 he
   refine ⟨hS484, ?_⟩
   refine AtH.rd (by kernel_rfl) (fun d v c a w h => by cases d <;> exact h) hS484 [4] [[]] [(20, .tuple #[.agg #[.slice A485 ((subG exG9 (inT exG9 (ofW ([0, 2, 9] : List Int)))).ow.length) c486, .slice A487 ((subG exG9 (inT exG9 (ofW ([0, 2, 9] : List Int)))).pr.length) c488, .slice A489 ((subG exG9 (inT exG9 (ofW ([0, 2, 9] : List Int)))).mv.length) c490], .slice A491 ((subO exG9 (inT exG9 (ofW ([0, 2, 9] : List Int)))).length) c492, .bool (subB exG9 (inT exG9 (ofW ([0, 2, 9] : List Int))))])] #[true, true, true, true, true, false, false, false, true, false, false, false] [] 6 f504 (by kernel_rfl) trivial (fun act524 f523 => ?_)
   clear f504
   refine AtH.rd (by kernel_rfl) (fun d v c a w h => by cases d <;> exact h) hS484 [5] [[]] [(25, .agg #[.slice A485 ((subG exG9 (inT exG9 (ofW ([0, 2, 9] : List Int)))).ow.length) c486, .slice A487 ((subG exG9 (inT exG9 (ofW ([0, 2, 9] : List Int)))).pr.length) c488, .slice A489 ((subG exG9 (inT exG9 (ofW ([0, 2, 9] : List Int)))).mv.length) c490])] #[true, true, true, true, true, true, false, false, true, false, false, false] [] 5 f523 (by kernel_rfl) trivial (fun act526 f525 => ?_)
   clear f523
   refine AtH.rd (by kernel_rfl) (fun d v c a w h => by cases d <;> exact h) hS484 [6] [[]] [(26, .slice A491 ((subO exG9 (inT exG9 (ofW ([0, 2, 9] : List Int)))).length) c492)] #[true, true, true, true, true, true, true, false, true, false, false, false] [] 4 f525 (by kernel_rfl) trivial (fun act528 f527 => ?_)
   clear f525
   refine AtH.rd (by kernel_rfl) (fun d v c a w h => by cases d <;> exact h) hS484 [7] [[]] [(27, .bool (subB exG9 (inT exG9 (ofW ([0, 2, 9] : List Int)))))] #[true, true, true, true, true, true, true, true, true, false, false, false] [] 3 f527 (by kernel_rfl) trivial (fun act530 f529 => ?_)
   clear f527
   refine AtH.all [9] 2 (by kernel_rfl) (by simp) ⟨?_, trivial⟩
   refine OneH.store f529 (t := 25) (b := w109.heap.size) (off := 0) (v := .agg #[.slice A485 ((subG exG9 (inT exG9 (ofW ([0, 2, 9] : List Int)))).ow.length) c486, .slice A487 ((subG exG9 (inT exG9 (ofW ([0, 2, 9] : List Int)))).pr.length) c488, .slice A489 ((subG exG9 (inT exG9 (ofW ([0, 2, 9] : List Int)))).mv.length) c490]) #[true, true, true, true, true, true, true, true, true, true, false, false] (by kernel_rfl) (by kernel_rfl) bx450 (by kernel_rfl) (fun act536 w532 g533 bx534 f535 => ?_)
   clear f529
   replace bx534 : Bx w532 (w109.heap.size) [.slice A485 ((subG exG9 (inT exG9 (ofW ([0, 2, 9] : List Int)))).ow.length) c486, .slice A487 ((subG exG9 (inT exG9 (ofW ([0, 2, 9] : List Int)))).pr.length) c488, .slice A489 ((subG exG9 (inT exG9 (ofW ([0, 2, 9] : List Int)))).mv.length) c490] 25 := bx534
   have hS531 := hS484.gr' g533 (by rw [hCs106]; exact ⟨(by simp only [add_block]; omega), (by simp only [add_block]; omega), (by simp only [add_block]; omega), trivial⟩)
   have szw532 := g533.size
   replace e0 := e0.gr g533 (fun k h => by injection h; omega)
   replace r16 := r16.gr g533 (fun k h => by injection h; omega)
   replace r9 := r9.gr g533 (fun k h => by injection h; omega)
   replace bx29 := bx29.gr g533 (fun h => by injection h; omega)
   replace ow55 := ow55.gr g533 (fun k hk => hk.2.2.2.2.2.1)
   replace ow56 := ow56.gr g533 (fun k hk => hk.2.2.2.2.2.1)
   replace ow57 := ow57.gr g533 (fun k hk => hk.2.2.2.2.2.1)
   replace bx86 := bx86.gr g533 (fun h => by injection h; omega)
   replace bx458 := bx458.gr g533 (fun h => by injection h; omega)
   replace ow493 := ow493.gr g533 (fun k hk e => by have := Sx_base hk; injection e; omega)
   replace ow494 := ow494.gr g533 (fun k hk e => by have := Sx_base hk; injection e; omega)
   replace ow495 := ow495.gr g533 (fun k hk e => by have := Sx_base hk; injection e; omega)
   replace ow496 := ow496.gr g533 (fun k hk e => by have := Sx_base hk; injection e; omega)
   clear bx450 g533
   refine ⟨hS531, ?_⟩
   refine AtH.rd (by kernel_rfl) (fun d v c a w h => by cases d <;> exact h) hS531 [10] [[]] [(6, .slice A491 ((subO exG9 (inT exG9 (ofW ([0, 2, 9] : List Int)))).length) c492)] #[true, true, true, true, true, true, true, true, true, true, true, false] [] 1 f535 (by kernel_rfl) trivial (fun act551 f550 => ?_)
   clear f535
   refine AtH.rd (by kernel_rfl) (fun d v c a w h => by cases d <;> exact h) hS531 [11] [[]] [(7, .bool (subB exG9 (inT exG9 (ofW ([0, 2, 9] : List Int)))))] #[true, true, true, true, true, true, true, true, true, true, true, true] [] 0 f550 (by kernel_rfl) trivial (fun act553 f552 => ?_)
   clear f550
   refine AtH.done (by kernel_rfl) ?_
   clear hS531
   refine t_n ?_
   have f554 := f552.sub (r := [(7, .bool (subB exG9 (inT exG9 (ofW ([0, 2, 9] : List Int))))), (6, .slice A491 ((subO exG9 (inT exG9 (ofW ([0, 2, 9] : List Int)))).length) c492), (5, .pointer (some ⟨w109.heap.size, 0, none⟩)), (4, .pointer (some ⟨w62.heap.size, 0, none⟩)), (3, .int .i64 ((rightP exG9).2)), (2, .int .i64 ((rightP exG9).1)), (1, .pointer (some ⟨w11.heap.size, 0, none⟩))]) ⟨rfl, rfl, rfl, rfl, rfl, rfl, rfl, trivial⟩
   exact ⟨w109.heap.size, A491, A485, A487, A489, c492, c486, c488, c490, f554, e0, r16, r9, bx29, (ow55.imp (fun g _ hs => ⟨hs.2.2.2.2.2.2.1, hs.2.2.2.2.2.2.2.1, hs.2.2.2.2.2.2.2.2.1, hs.2.2.2.1, hs.1, hs.2.1, hs.2.2.1, hs.2.2.2.2.2.1, (by have := Sx_base hs; show w37.heap.size ≤ g; omega)⟩)), (ow56.imp (fun g _ hs => ⟨hs.2.2.2.2.2.2.1, hs.2.2.2.2.2.2.2.1, hs.2.2.2.2.2.2.2.2.1, hs.2.2.2.1, hs.1, hs.2.1, hs.2.2.1, hs.2.2.2.2.2.1, (by have := Sx_base hs; show w37.heap.size ≤ g; omega)⟩)), (ow57.imp (fun g _ hs => ⟨hs.2.2.2.2.2.2.1, hs.2.2.2.2.2.2.2.1, hs.2.2.2.2.2.2.2.2.1, hs.2.2.2.1, hs.1, hs.2.1, hs.2.2.1, hs.2.2.2.2.2.1, (by have := Sx_base hs; show w37.heap.size ≤ g; omega)⟩)), bx86, (ow496.imp (fun g _ hs => ⟨hs.1, hs.2.1, hs.2.2.1, hs.2.2.2.1, hs.2.2.2.2.1, hs.2.2.2.2.2.1, (fun e => by have := Sx_base hs; injection e; omega), (by have := Sx_base hs; show w84.heap.size ≤ g; omega)⟩)), (ow493.imp (fun g _ hs => ⟨hs.1, hs.2.1, hs.2.2.1, hs.2.2.2.2.2.1, hs.2.2.2.1, hs.2.2.2.2.1, (fun e => by have := Sx_base hs; injection e; omega), (by have := Sx_base hs; show w84.heap.size ≤ g; omega)⟩)), (ow494.imp (fun g _ hs => ⟨hs.1, hs.2.1, hs.2.2.1, hs.2.2.2.2.2.1, hs.2.2.2.1, hs.2.2.2.2.1, (fun e => by have := Sx_base hs; injection e; omega), (by have := Sx_base hs; show w84.heap.size ≤ g; omega)⟩)), (ow495.imp (fun g _ hs => ⟨hs.1, hs.2.1, hs.2.2.1, hs.2.2.2.2.2.1, hs.2.2.2.1, hs.2.2.2.2.1, (fun e => by have := Sx_base hs; injection e; omega), (by have := Sx_base hs; show w84.heap.size ≤ g; omega)⟩)), bx534, (by omega), (by omega)⟩
 ·clear r16
  clear r9
  clear bx29
  clear ow55
  clear ow56
  clear ow57
  clear bx86
  clear f87 e0
  intro act555 w556 ⟨b_104, A_96, A_97, A_98, A_99, c_100, c_101, c_102, c_103, f557, e558, r559, r560, bx561, ow562, ow563, ow564, bx565, ow566, ow567, ow568, ow569, bx570, hb571, szz572⟩
  have szw556 := e558.size
  have hip161 := sub_inner exG9 (ofW ([0, 2, 9] : List Int))
  have := sub_lens exG9 (inT exG9 (ofW ([0, 2, 9] : List Int)))
  have := bx561.lt
  have := bx565.lt
  have := bx570.lt
  refine wp_seq ?_
  refine At.start ?_
  refine At.rd f557 1 [[]] [(29, .agg #[.slice none 0 0, .slice none 0 0, .slice none 0 0])] [] (by kernel_rfl) trivial (fun act579 f578 => ?_)
  clear f557
  refine At.call f578 14 #[.agg #[.slice none 0 0, .slice none 0 0, .slice none 0 0]] (some 30) (by kernel_rfl) (right_nil) ?_
  rintro e_ w580 ⟨rfl, he⟩
  refine ⟨_, rfl, _, rfl, fun act581 f582 => ?_⟩
  clear f578
  have g583 := gr_ext he
  have szw580 := g583.size
  replace e558 := e558.gr g583 no_row
  replace r559 := r559.gr g583 (fun _ h => by cases h)
  replace r560 := r560.gr g583 (fun _ h => by cases h)
  replace bx561 := bx561.gr g583 (by simp)
  replace ow562 := ow562.gr g583 (fun _ _ h => by cases h)
  replace ow563 := ow563.gr g583 (fun _ _ h => by cases h)
  replace ow564 := ow564.gr g583 (fun _ _ h => by cases h)
  replace bx565 := bx565.gr g583 (by simp)
  replace ow566 := ow566.gr g583 (fun _ _ h => by cases h)
  replace ow567 := ow567.gr g583 (fun _ _ h => by cases h)
  replace ow568 := ow568.gr g583 (fun _ _ h => by cases h)
  replace ow569 := ow569.gr g583 (fun _ _ h => by cases h)
  replace bx570 := bx570.gr g583 (by simp)
  clear g583 he
  refine At.rd f582 5 [[], [], [], [], []] [(9, .int .i64 (10)), (8, .int .i64 (0)), (32, .int .i64 (10)), (31, .int .i64 (0)), (28, .tuple #[.int .i64 (0), .int .i64 (10)])] [] (by kernel_rfl) trivial (fun act598 f597 => ?_)
  clear f582
  refine At.done rfl ?_
  refine t_n ?_
  refine wp_seq ?_
  refine At.start ?_
  refine At.rd f597 1 [[.ld (.slice A49 ((dualG exG9).ow.length) c50), .ld (.slice A51 ((dualG exG9).pr.length) c52), .ld (.slice A53 ((dualG exG9).mv.length) c54)]] [(33, .agg #[.slice A49 ((dualG exG9).ow.length) c50, .slice A51 ((dualG exG9).pr.length) c52, .slice A53 ((dualG exG9).mv.length) c54])] [(w580.cell? ⟨w62.heap.size, 0, none⟩ = some (.slice A49 ((dualG exG9).ow.length) c50)), (w580.cell? ⟨w62.heap.size, 1, none⟩ = some (.slice A51 ((dualG exG9).pr.length) c52)), (w580.cell? ⟨w62.heap.size, 2, none⟩ = some (.slice A53 ((dualG exG9).mv.length) c54))] (by kernel_rfl) ⟨(bx565.cell (i := 0) rfl), (bx565.cell (i := 1) rfl), (bx565.cell (i := 2) rfl), trivial⟩ (fun act600 f599 => ?_)
  clear f597
  refine At.seq f599 1 [[]] [(34, .slice (some ⟨w580.heap.size, 0, none⟩) 3 3)] (w580.alloc (.cells #[.int .i64 (1), .int .i64 (0), .int .i64 (0)] 3 (0, 0))) [] (by kernel_rfl) trivial (fun act604 w601 hw602 f603 => ?_)
  clear f599
  have g605 := gr_alloc hw602
  have szw601 := g605.size
  replace e558 := e558.gr g605 no_row
  replace r559 := r559.gr g605 (fun _ h => by cases h)
  replace r560 := r560.gr g605 (fun _ h => by cases h)
  replace bx561 := bx561.gr g605 (by simp)
  replace ow562 : OwnR w601 (Sx (w37.heap.size) [some (w580.heap.size), some (w62.heap.size), obk (A51), obk (A53), obk (A_96), obk (A_97), obk (A_98), obk (A_99), some (b_104)]) A49 c50 3 ((dualG exG9).ow : List Int) := ow562.grA g605 (fun _ _ h => by cases h) (fun k hk hs => ⟨(fun e => by injection e; omega), hs.1, hs.2.1, hs.2.2.1, hs.2.2.2.1, hs.2.2.2.2.1, hs.2.2.2.2.2.1, hs.2.2.2.2.2.2.1, hs.2.2.2.2.2.2.2.1, hs.2.2.2.2.2.2.2.2⟩)
  replace ow563 : OwnR w601 (Sx (w37.heap.size) [some (w580.heap.size), some (w62.heap.size), obk (A49), obk (A53), obk (A_96), obk (A_97), obk (A_98), obk (A_99), some (b_104)]) A51 c52 3 ((dualG exG9).pr : List Int) := ow563.grA g605 (fun _ _ h => by cases h) (fun k hk hs => ⟨(fun e => by injection e; omega), hs.1, hs.2.1, hs.2.2.1, hs.2.2.2.1, hs.2.2.2.2.1, hs.2.2.2.2.2.1, hs.2.2.2.2.2.2.1, hs.2.2.2.2.2.2.2.1, hs.2.2.2.2.2.2.2.2⟩)
  replace ow564 : OwnLL w601 (w37.heap.size) [some (w580.heap.size), some (w62.heap.size), obk (A49), obk (A51), obk (A_96), obk (A_97), obk (A_98), obk (A_99), some (b_104)] A53 c54 22 3 ((dualG exG9).mv : List (List Int)) := ow564.grA g605 (fun _ _ h => by cases h) (fun k hk hs => ⟨(fun e => by injection e; omega), hs.1, hs.2.1, hs.2.2.1, hs.2.2.2.1, hs.2.2.2.2.1, hs.2.2.2.2.2.1, hs.2.2.2.2.2.2.1, hs.2.2.2.2.2.2.2.1, hs.2.2.2.2.2.2.2.2⟩)
  replace bx565 := bx565.gr g605 (by simp)
  replace ow566 : OwnR w601 (Sx (w84.heap.size) [some (w580.heap.size), obk (A49), obk (A51), obk (A53), obk (A_97), obk (A_98), obk (A_99), some (b_104)]) A_96 c_100 3 ((subO exG9 (inT exG9 (ofW ([0, 2, 9] : List Int)))) : List Int) := ow566.grA g605 (fun _ _ h => by cases h) (fun k hk hs => ⟨(fun e => by injection e; omega), hs.1, hs.2.1, hs.2.2.1, hs.2.2.2.1, hs.2.2.2.2.1, hs.2.2.2.2.2.1, hs.2.2.2.2.2.2.1, hs.2.2.2.2.2.2.2⟩)
  replace ow567 : OwnR w601 (Sx (w84.heap.size) [some (w580.heap.size), obk (A49), obk (A51), obk (A53), obk (A_96), obk (A_98), obk (A_99), some (b_104)]) A_97 c_101 3 ((subG exG9 (inT exG9 (ofW ([0, 2, 9] : List Int)))).ow : List Int) := ow567.grA g605 (fun _ _ h => by cases h) (fun k hk hs => ⟨(fun e => by injection e; omega), hs.1, hs.2.1, hs.2.2.1, hs.2.2.2.1, hs.2.2.2.2.1, hs.2.2.2.2.2.1, hs.2.2.2.2.2.2.1, hs.2.2.2.2.2.2.2⟩)
  replace ow568 : OwnR w601 (Sx (w84.heap.size) [some (w580.heap.size), obk (A49), obk (A51), obk (A53), obk (A_96), obk (A_97), obk (A_99), some (b_104)]) A_98 c_102 3 ((subG exG9 (inT exG9 (ofW ([0, 2, 9] : List Int)))).pr : List Int) := ow568.grA g605 (fun _ _ h => by cases h) (fun k hk hs => ⟨(fun e => by injection e; omega), hs.1, hs.2.1, hs.2.2.1, hs.2.2.2.1, hs.2.2.2.2.1, hs.2.2.2.2.2.1, hs.2.2.2.2.2.2.1, hs.2.2.2.2.2.2.2⟩)
  replace ow569 : OwnLL w601 (w84.heap.size) [some (w580.heap.size), obk (A49), obk (A51), obk (A53), obk (A_96), obk (A_97), obk (A_98), some (b_104)] A_99 c_103 22 3 ((subG exG9 (inT exG9 (ofW ([0, 2, 9] : List Int)))).mv : List (List Int)) := ow569.grA g605 (fun _ _ h => by cases h) (fun k hk hs => ⟨(fun e => by injection e; omega), hs.1, hs.2.1, hs.2.2.1, hs.2.2.2.1, hs.2.2.2.2.1, hs.2.2.2.2.2.1, hs.2.2.2.2.2.2.1, hs.2.2.2.2.2.2.2⟩)
  replace bx570 := bx570.gr g605 (by simp)
  have bx607 : Bx w601 (w580.heap.size) [.int .i64 (1), .int .i64 (0), .int .i64 (0)] 3 := Bx.new hw602
  have := bx607.lt
  clear g605 hw602
  refine At.seq f603 1 [[]] [(35, .slice (some ⟨w601.heap.size, 0, none⟩) 3 3)] (w601.alloc (.cells #[.int .i64 (0), .int .i64 (3), .int .i64 (6)] 3 (0, 0))) [] (by kernel_rfl) trivial (fun act624 w621 hw622 f623 => ?_)
  clear f603
  have g625 := gr_alloc hw622
  have szw621 := g625.size
  replace e558 := e558.gr g625 no_row
  replace r559 := r559.gr g625 (fun _ h => by cases h)
  replace r560 := r560.gr g625 (fun _ h => by cases h)
  replace bx561 := bx561.gr g625 (by simp)
  replace ow562 : OwnR w621 (Sx (w37.heap.size) [some (w601.heap.size), some (w580.heap.size), some (w62.heap.size), obk (A51), obk (A53), obk (A_96), obk (A_97), obk (A_98), obk (A_99), some (b_104)]) A49 c50 3 ((dualG exG9).ow : List Int) := ow562.grA g625 (fun _ _ h => by cases h) (fun k hk hs => ⟨(fun e => by injection e; omega), hs.1, hs.2.1, hs.2.2.1, hs.2.2.2.1, hs.2.2.2.2.1, hs.2.2.2.2.2.1, hs.2.2.2.2.2.2.1, hs.2.2.2.2.2.2.2.1, hs.2.2.2.2.2.2.2.2.1, hs.2.2.2.2.2.2.2.2.2⟩)
  replace ow563 : OwnR w621 (Sx (w37.heap.size) [some (w601.heap.size), some (w580.heap.size), some (w62.heap.size), obk (A49), obk (A53), obk (A_96), obk (A_97), obk (A_98), obk (A_99), some (b_104)]) A51 c52 3 ((dualG exG9).pr : List Int) := ow563.grA g625 (fun _ _ h => by cases h) (fun k hk hs => ⟨(fun e => by injection e; omega), hs.1, hs.2.1, hs.2.2.1, hs.2.2.2.1, hs.2.2.2.2.1, hs.2.2.2.2.2.1, hs.2.2.2.2.2.2.1, hs.2.2.2.2.2.2.2.1, hs.2.2.2.2.2.2.2.2.1, hs.2.2.2.2.2.2.2.2.2⟩)
  replace ow564 : OwnLL w621 (w37.heap.size) [some (w601.heap.size), some (w580.heap.size), some (w62.heap.size), obk (A49), obk (A51), obk (A_96), obk (A_97), obk (A_98), obk (A_99), some (b_104)] A53 c54 22 3 ((dualG exG9).mv : List (List Int)) := ow564.grA g625 (fun _ _ h => by cases h) (fun k hk hs => ⟨(fun e => by injection e; omega), hs.1, hs.2.1, hs.2.2.1, hs.2.2.2.1, hs.2.2.2.2.1, hs.2.2.2.2.2.1, hs.2.2.2.2.2.2.1, hs.2.2.2.2.2.2.2.1, hs.2.2.2.2.2.2.2.2.1, hs.2.2.2.2.2.2.2.2.2⟩)
  replace bx565 := bx565.gr g625 (by simp)
  replace ow566 : OwnR w621 (Sx (w84.heap.size) [some (w601.heap.size), some (w580.heap.size), obk (A49), obk (A51), obk (A53), obk (A_97), obk (A_98), obk (A_99), some (b_104)]) A_96 c_100 3 ((subO exG9 (inT exG9 (ofW ([0, 2, 9] : List Int)))) : List Int) := ow566.grA g625 (fun _ _ h => by cases h) (fun k hk hs => ⟨(fun e => by injection e; omega), hs.1, hs.2.1, hs.2.2.1, hs.2.2.2.1, hs.2.2.2.2.1, hs.2.2.2.2.2.1, hs.2.2.2.2.2.2.1, hs.2.2.2.2.2.2.2.1, hs.2.2.2.2.2.2.2.2⟩)
  replace ow567 : OwnR w621 (Sx (w84.heap.size) [some (w601.heap.size), some (w580.heap.size), obk (A49), obk (A51), obk (A53), obk (A_96), obk (A_98), obk (A_99), some (b_104)]) A_97 c_101 3 ((subG exG9 (inT exG9 (ofW ([0, 2, 9] : List Int)))).ow : List Int) := ow567.grA g625 (fun _ _ h => by cases h) (fun k hk hs => ⟨(fun e => by injection e; omega), hs.1, hs.2.1, hs.2.2.1, hs.2.2.2.1, hs.2.2.2.2.1, hs.2.2.2.2.2.1, hs.2.2.2.2.2.2.1, hs.2.2.2.2.2.2.2.1, hs.2.2.2.2.2.2.2.2⟩)
  replace ow568 : OwnR w621 (Sx (w84.heap.size) [some (w601.heap.size), some (w580.heap.size), obk (A49), obk (A51), obk (A53), obk (A_96), obk (A_97), obk (A_99), some (b_104)]) A_98 c_102 3 ((subG exG9 (inT exG9 (ofW ([0, 2, 9] : List Int)))).pr : List Int) := ow568.grA g625 (fun _ _ h => by cases h) (fun k hk hs => ⟨(fun e => by injection e; omega), hs.1, hs.2.1, hs.2.2.1, hs.2.2.2.1, hs.2.2.2.2.1, hs.2.2.2.2.2.1, hs.2.2.2.2.2.2.1, hs.2.2.2.2.2.2.2.1, hs.2.2.2.2.2.2.2.2⟩)
  replace ow569 : OwnLL w621 (w84.heap.size) [some (w601.heap.size), some (w580.heap.size), obk (A49), obk (A51), obk (A53), obk (A_96), obk (A_97), obk (A_98), some (b_104)] A_99 c_103 22 3 ((subG exG9 (inT exG9 (ofW ([0, 2, 9] : List Int)))).mv : List (List Int)) := ow569.grA g625 (fun _ _ h => by cases h) (fun k hk hs => ⟨(fun e => by injection e; omega), hs.1, hs.2.1, hs.2.2.1, hs.2.2.2.1, hs.2.2.2.2.1, hs.2.2.2.2.2.1, hs.2.2.2.2.2.2.1, hs.2.2.2.2.2.2.2.1, hs.2.2.2.2.2.2.2.2⟩)
  replace bx570 := bx570.gr g625 (by simp)
  replace bx607 := bx607.gr g625 (by simp)
  have bx627 : Bx w621 (w601.heap.size) [.int .i64 (0), .int .i64 (3), .int .i64 (6)] 3 := Bx.new hw622
  have := bx627.lt
  clear g625 hw622
  refine At.rd f623 3 [[], [.ld (.slice A5 exG9.mv.length c8)], []] [(38, .agg #[.slice (some ⟨w580.heap.size, 0, none⟩) 3 3, .slice (some ⟨w601.heap.size, 0, none⟩) 3 3, .slice A5 exG9.mv.length c8]), (37, .slice A5 exG9.mv.length c8), (36, .pointer (some ⟨w11.heap.size, 2, none⟩))] [(w621.cell? ⟨w11.heap.size, 2, none⟩ = some (.slice A5 exG9.mv.length c8))] (by kernel_rfl) ⟨(bx561.cell (i := 2) rfl), trivial⟩ (fun act643 f642 => ?_)
  clear f623
  refine At.call f642 16 #[.agg #[.slice A49 ((dualG exG9).ow.length) c50, .slice A51 ((dualG exG9).pr.length) c52, .slice A53 ((dualG exG9).mv.length) c54], .agg #[.slice (some ⟨w580.heap.size, 0, none⟩) 3 3, .slice (some ⟨w601.heap.size, 0, none⟩) 3 3, .slice A5 exG9.mv.length c8]] (some 39) (by kernel_rfl) ((same_any (a := (dualG exG9)) (b := (⟨([1, 0, 0] : List Int), ([0, 3, 6] : List Int), exG9.mv⟩ : GameL)) (RdG.mk (G := (dualG exG9)) (ow562.rdI0 (by first | omega | (simp only [List.length_cons, List.length_nil]; omega) | (simp; done) | (simp; omega))) (ow563.rdI0 (by first | omega | (simp only [List.length_cons, List.length_nil]; omega) | (simp; done) | (simp; omega))) (ow564.rdII0 (by first | omega | (simp only [List.length_cons, List.length_nil]; omega) | (simp; done) | (simp; omega)) hip61) ow562.cap ow563.cap ow564.cap) (RdG.mk (G := (⟨([1, 0, 0] : List Int), ([0, 3, 6] : List Int), exG9.mv⟩ : GameL)) (Bx.rdI (l := ([1, 0, 0] : List Int)) bx607 rfl (by first | decide | exact Nat.le_of_ble_eq_true rfl)) (Bx.rdI (l := ([0, 3, 6] : List Int)) bx627 rfl (by first | decide | exact Nat.le_of_ble_eq_true rfl)) (r560.mv.wide (Nat.zero_le _) (by omega)) (by decide) (by decide) r560.k2)).mono (R' := fun e w' => e = .returned (.bool true) ∧ Ext _ w') (fun e_ w_ h_ => by rw [show (decide ((dualG exG9) = (⟨([1, 0, 0] : List Int), ([0, 3, 6] : List Int), exG9.mv⟩ : GameL)) : Bool) = true from by decide +kernel] at h_; exact h_)) ?_
  rintro e_ w644 ⟨rfl, he⟩
  refine ⟨_, rfl, _, rfl, fun act645 f646 => ?_⟩
  clear f642
  have g647 := gr_ext he
  have szw644 := g647.size
  replace e558 := e558.gr g647 no_row
  replace r559 := r559.gr g647 (fun _ h => by cases h)
  replace r560 := r560.gr g647 (fun _ h => by cases h)
  replace bx561 := bx561.gr g647 (by simp)
  replace ow562 := ow562.gr g647 (fun _ _ h => by cases h)
  replace ow563 := ow563.gr g647 (fun _ _ h => by cases h)
  replace ow564 := ow564.gr g647 (fun _ _ h => by cases h)
  replace bx565 := bx565.gr g647 (by simp)
  replace ow566 := ow566.gr g647 (fun _ _ h => by cases h)
  replace ow567 := ow567.gr g647 (fun _ _ h => by cases h)
  replace ow568 := ow568.gr g647 (fun _ _ h => by cases h)
  replace ow569 := ow569.gr g647 (fun _ _ h => by cases h)
  replace bx570 := bx570.gr g647 (by simp)
  replace bx607 := bx607.gr g647 (by simp)
  replace bx627 := bx627.gr g647 (by simp)
  clear g647 he
  refine At.rd f646 1 [[]] [(10, .bool true)] [] (by kernel_rfl) trivial (fun act664 f663 => ?_)
  clear f646
  refine At.done rfl ?_
  refine t_n ?_
  clear ow562
  clear ow563
  clear ow564
  clear bx565
  clear bx607
  clear bx627
  refine wp_seq ?_
  refine At.start ?_
  refine At.rd f663 1 [[.ld (.slice A_97 ((subG exG9 (inT exG9 (ofW ([0, 2, 9] : List Int)))).ow.length) c_101), .ld (.slice A_98 ((subG exG9 (inT exG9 (ofW ([0, 2, 9] : List Int)))).pr.length) c_102), .ld (.slice A_99 ((subG exG9 (inT exG9 (ofW ([0, 2, 9] : List Int)))).mv.length) c_103)]] [(40, .agg #[.slice A_97 ((subG exG9 (inT exG9 (ofW ([0, 2, 9] : List Int)))).ow.length) c_101, .slice A_98 ((subG exG9 (inT exG9 (ofW ([0, 2, 9] : List Int)))).pr.length) c_102, .slice A_99 ((subG exG9 (inT exG9 (ofW ([0, 2, 9] : List Int)))).mv.length) c_103])] [(w644.cell? ⟨b_104, 0, none⟩ = some (.slice A_97 ((subG exG9 (inT exG9 (ofW ([0, 2, 9] : List Int)))).ow.length) c_101)), (w644.cell? ⟨b_104, 1, none⟩ = some (.slice A_98 ((subG exG9 (inT exG9 (ofW ([0, 2, 9] : List Int)))).pr.length) c_102)), (w644.cell? ⟨b_104, 2, none⟩ = some (.slice A_99 ((subG exG9 (inT exG9 (ofW ([0, 2, 9] : List Int)))).mv.length) c_103))] (by kernel_rfl) ⟨(bx570.cell (i := 0) rfl), (bx570.cell (i := 1) rfl), (bx570.cell (i := 2) rfl), trivial⟩ (fun act666 f665 => ?_)
  clear f663
  refine At.seq f665 1 [[]] [(41, .slice (some ⟨w644.heap.size, 0, none⟩) 2 2)] (w644.alloc (.cells #[.int .i64 (0), .int .i64 (1)] 3 (0, 0))) [] (by kernel_rfl) trivial (fun act670 w667 hw668 f669 => ?_)
  clear f665
  have g671 := gr_alloc hw668
  have szw667 := g671.size
  replace e558 := e558.gr g671 no_row
  replace r559 := r559.gr g671 (fun _ h => by cases h)
  replace r560 := r560.gr g671 (fun _ h => by cases h)
  replace bx561 := bx561.gr g671 (by simp)
  replace ow566 : OwnR w667 (Sx (w84.heap.size) [some (w644.heap.size), some (w601.heap.size), some (w580.heap.size), obk (A49), obk (A51), obk (A53), obk (A_97), obk (A_98), obk (A_99), some (b_104)]) A_96 c_100 3 ((subO exG9 (inT exG9 (ofW ([0, 2, 9] : List Int)))) : List Int) := ow566.grA g671 (fun _ _ h => by cases h) (fun k hk hs => ⟨(fun e => by injection e; omega), hs.1, hs.2.1, hs.2.2.1, hs.2.2.2.1, hs.2.2.2.2.1, hs.2.2.2.2.2.1, hs.2.2.2.2.2.2.1, hs.2.2.2.2.2.2.2.1, hs.2.2.2.2.2.2.2.2.1, hs.2.2.2.2.2.2.2.2.2⟩)
  replace ow567 : OwnR w667 (Sx (w84.heap.size) [some (w644.heap.size), some (w601.heap.size), some (w580.heap.size), obk (A49), obk (A51), obk (A53), obk (A_96), obk (A_98), obk (A_99), some (b_104)]) A_97 c_101 3 ((subG exG9 (inT exG9 (ofW ([0, 2, 9] : List Int)))).ow : List Int) := ow567.grA g671 (fun _ _ h => by cases h) (fun k hk hs => ⟨(fun e => by injection e; omega), hs.1, hs.2.1, hs.2.2.1, hs.2.2.2.1, hs.2.2.2.2.1, hs.2.2.2.2.2.1, hs.2.2.2.2.2.2.1, hs.2.2.2.2.2.2.2.1, hs.2.2.2.2.2.2.2.2.1, hs.2.2.2.2.2.2.2.2.2⟩)
  replace ow568 : OwnR w667 (Sx (w84.heap.size) [some (w644.heap.size), some (w601.heap.size), some (w580.heap.size), obk (A49), obk (A51), obk (A53), obk (A_96), obk (A_97), obk (A_99), some (b_104)]) A_98 c_102 3 ((subG exG9 (inT exG9 (ofW ([0, 2, 9] : List Int)))).pr : List Int) := ow568.grA g671 (fun _ _ h => by cases h) (fun k hk hs => ⟨(fun e => by injection e; omega), hs.1, hs.2.1, hs.2.2.1, hs.2.2.2.1, hs.2.2.2.2.1, hs.2.2.2.2.2.1, hs.2.2.2.2.2.2.1, hs.2.2.2.2.2.2.2.1, hs.2.2.2.2.2.2.2.2.1, hs.2.2.2.2.2.2.2.2.2⟩)
  replace ow569 : OwnLL w667 (w84.heap.size) [some (w644.heap.size), some (w601.heap.size), some (w580.heap.size), obk (A49), obk (A51), obk (A53), obk (A_96), obk (A_97), obk (A_98), some (b_104)] A_99 c_103 22 3 ((subG exG9 (inT exG9 (ofW ([0, 2, 9] : List Int)))).mv : List (List Int)) := ow569.grA g671 (fun _ _ h => by cases h) (fun k hk hs => ⟨(fun e => by injection e; omega), hs.1, hs.2.1, hs.2.2.1, hs.2.2.2.1, hs.2.2.2.2.1, hs.2.2.2.2.2.1, hs.2.2.2.2.2.2.1, hs.2.2.2.2.2.2.2.1, hs.2.2.2.2.2.2.2.2.1, hs.2.2.2.2.2.2.2.2.2⟩)
  replace bx570 := bx570.gr g671 (by simp)
  have bx673 : Bx w667 (w644.heap.size) [.int .i64 (0), .int .i64 (1)] 3 := Bx.new hw668
  have := bx673.lt
  clear g671 hw668
  refine At.seq f669 1 [[]] [(42, .slice (some ⟨w667.heap.size, 0, none⟩) 2 2)] (w667.alloc (.cells #[.int .i64 (1), .int .i64 (7)] 3 (0, 0))) [] (by kernel_rfl) trivial (fun act686 w683 hw684 f685 => ?_)
  clear f669
  have g687 := gr_alloc hw684
  have szw683 := g687.size
  replace e558 := e558.gr g687 no_row
  replace r559 := r559.gr g687 (fun _ h => by cases h)
  replace r560 := r560.gr g687 (fun _ h => by cases h)
  replace bx561 := bx561.gr g687 (by simp)
  replace ow566 : OwnR w683 (Sx (w84.heap.size) [some (w667.heap.size), some (w644.heap.size), some (w601.heap.size), some (w580.heap.size), obk (A49), obk (A51), obk (A53), obk (A_97), obk (A_98), obk (A_99), some (b_104)]) A_96 c_100 3 ((subO exG9 (inT exG9 (ofW ([0, 2, 9] : List Int)))) : List Int) := ow566.grA g687 (fun _ _ h => by cases h) (fun k hk hs => ⟨(fun e => by injection e; omega), hs.1, hs.2.1, hs.2.2.1, hs.2.2.2.1, hs.2.2.2.2.1, hs.2.2.2.2.2.1, hs.2.2.2.2.2.2.1, hs.2.2.2.2.2.2.2.1, hs.2.2.2.2.2.2.2.2.1, hs.2.2.2.2.2.2.2.2.2.1, hs.2.2.2.2.2.2.2.2.2.2⟩)
  replace ow567 : OwnR w683 (Sx (w84.heap.size) [some (w667.heap.size), some (w644.heap.size), some (w601.heap.size), some (w580.heap.size), obk (A49), obk (A51), obk (A53), obk (A_96), obk (A_98), obk (A_99), some (b_104)]) A_97 c_101 3 ((subG exG9 (inT exG9 (ofW ([0, 2, 9] : List Int)))).ow : List Int) := ow567.grA g687 (fun _ _ h => by cases h) (fun k hk hs => ⟨(fun e => by injection e; omega), hs.1, hs.2.1, hs.2.2.1, hs.2.2.2.1, hs.2.2.2.2.1, hs.2.2.2.2.2.1, hs.2.2.2.2.2.2.1, hs.2.2.2.2.2.2.2.1, hs.2.2.2.2.2.2.2.2.1, hs.2.2.2.2.2.2.2.2.2.1, hs.2.2.2.2.2.2.2.2.2.2⟩)
  replace ow568 : OwnR w683 (Sx (w84.heap.size) [some (w667.heap.size), some (w644.heap.size), some (w601.heap.size), some (w580.heap.size), obk (A49), obk (A51), obk (A53), obk (A_96), obk (A_97), obk (A_99), some (b_104)]) A_98 c_102 3 ((subG exG9 (inT exG9 (ofW ([0, 2, 9] : List Int)))).pr : List Int) := ow568.grA g687 (fun _ _ h => by cases h) (fun k hk hs => ⟨(fun e => by injection e; omega), hs.1, hs.2.1, hs.2.2.1, hs.2.2.2.1, hs.2.2.2.2.1, hs.2.2.2.2.2.1, hs.2.2.2.2.2.2.1, hs.2.2.2.2.2.2.2.1, hs.2.2.2.2.2.2.2.2.1, hs.2.2.2.2.2.2.2.2.2.1, hs.2.2.2.2.2.2.2.2.2.2⟩)
  replace ow569 : OwnLL w683 (w84.heap.size) [some (w667.heap.size), some (w644.heap.size), some (w601.heap.size), some (w580.heap.size), obk (A49), obk (A51), obk (A53), obk (A_96), obk (A_97), obk (A_98), some (b_104)] A_99 c_103 22 3 ((subG exG9 (inT exG9 (ofW ([0, 2, 9] : List Int)))).mv : List (List Int)) := ow569.grA g687 (fun _ _ h => by cases h) (fun k hk hs => ⟨(fun e => by injection e; omega), hs.1, hs.2.1, hs.2.2.1, hs.2.2.2.1, hs.2.2.2.2.1, hs.2.2.2.2.2.1, hs.2.2.2.2.2.2.1, hs.2.2.2.2.2.2.2.1, hs.2.2.2.2.2.2.2.2.1, hs.2.2.2.2.2.2.2.2.2.1, hs.2.2.2.2.2.2.2.2.2.2⟩)
  replace bx570 := bx570.gr g687 (by simp)
  replace bx673 := bx673.gr g687 (by simp)
  have bx689 : Bx w683 (w667.heap.size) [.int .i64 (1), .int .i64 (7)] 3 := Bx.new hw684
  have := bx689.lt
  clear g687 hw684
  refine At.seq f685 1 [[]] [(43, .slice (some ⟨w683.heap.size, 0, none⟩) 1 1)] (w683.alloc (.cells #[.int .i64 (1)] 3 (0, 0))) [] (by kernel_rfl) trivial (fun act703 w700 hw701 f702 => ?_)
  clear f685
  have g704 := gr_alloc hw701
  have szw700 := g704.size
  replace e558 := e558.gr g704 no_row
  replace r559 := r559.gr g704 (fun _ h => by cases h)
  replace r560 := r560.gr g704 (fun _ h => by cases h)
  replace bx561 := bx561.gr g704 (by simp)
  replace ow566 : OwnR w700 (Sx (w84.heap.size) [some (w683.heap.size), some (w667.heap.size), some (w644.heap.size), some (w601.heap.size), some (w580.heap.size), obk (A49), obk (A51), obk (A53), obk (A_97), obk (A_98), obk (A_99), some (b_104)]) A_96 c_100 3 ((subO exG9 (inT exG9 (ofW ([0, 2, 9] : List Int)))) : List Int) := ow566.grA g704 (fun _ _ h => by cases h) (fun k hk hs => ⟨(fun e => by injection e; omega), hs.1, hs.2.1, hs.2.2.1, hs.2.2.2.1, hs.2.2.2.2.1, hs.2.2.2.2.2.1, hs.2.2.2.2.2.2.1, hs.2.2.2.2.2.2.2.1, hs.2.2.2.2.2.2.2.2.1, hs.2.2.2.2.2.2.2.2.2.1, hs.2.2.2.2.2.2.2.2.2.2.1, hs.2.2.2.2.2.2.2.2.2.2.2⟩)
  replace ow567 : OwnR w700 (Sx (w84.heap.size) [some (w683.heap.size), some (w667.heap.size), some (w644.heap.size), some (w601.heap.size), some (w580.heap.size), obk (A49), obk (A51), obk (A53), obk (A_96), obk (A_98), obk (A_99), some (b_104)]) A_97 c_101 3 ((subG exG9 (inT exG9 (ofW ([0, 2, 9] : List Int)))).ow : List Int) := ow567.grA g704 (fun _ _ h => by cases h) (fun k hk hs => ⟨(fun e => by injection e; omega), hs.1, hs.2.1, hs.2.2.1, hs.2.2.2.1, hs.2.2.2.2.1, hs.2.2.2.2.2.1, hs.2.2.2.2.2.2.1, hs.2.2.2.2.2.2.2.1, hs.2.2.2.2.2.2.2.2.1, hs.2.2.2.2.2.2.2.2.2.1, hs.2.2.2.2.2.2.2.2.2.2.1, hs.2.2.2.2.2.2.2.2.2.2.2⟩)
  replace ow568 : OwnR w700 (Sx (w84.heap.size) [some (w683.heap.size), some (w667.heap.size), some (w644.heap.size), some (w601.heap.size), some (w580.heap.size), obk (A49), obk (A51), obk (A53), obk (A_96), obk (A_97), obk (A_99), some (b_104)]) A_98 c_102 3 ((subG exG9 (inT exG9 (ofW ([0, 2, 9] : List Int)))).pr : List Int) := ow568.grA g704 (fun _ _ h => by cases h) (fun k hk hs => ⟨(fun e => by injection e; omega), hs.1, hs.2.1, hs.2.2.1, hs.2.2.2.1, hs.2.2.2.2.1, hs.2.2.2.2.2.1, hs.2.2.2.2.2.2.1, hs.2.2.2.2.2.2.2.1, hs.2.2.2.2.2.2.2.2.1, hs.2.2.2.2.2.2.2.2.2.1, hs.2.2.2.2.2.2.2.2.2.2.1, hs.2.2.2.2.2.2.2.2.2.2.2⟩)
  replace ow569 : OwnLL w700 (w84.heap.size) [some (w683.heap.size), some (w667.heap.size), some (w644.heap.size), some (w601.heap.size), some (w580.heap.size), obk (A49), obk (A51), obk (A53), obk (A_96), obk (A_97), obk (A_98), some (b_104)] A_99 c_103 22 3 ((subG exG9 (inT exG9 (ofW ([0, 2, 9] : List Int)))).mv : List (List Int)) := ow569.grA g704 (fun _ _ h => by cases h) (fun k hk hs => ⟨(fun e => by injection e; omega), hs.1, hs.2.1, hs.2.2.1, hs.2.2.2.1, hs.2.2.2.2.1, hs.2.2.2.2.2.1, hs.2.2.2.2.2.2.1, hs.2.2.2.2.2.2.2.1, hs.2.2.2.2.2.2.2.2.1, hs.2.2.2.2.2.2.2.2.2.1, hs.2.2.2.2.2.2.2.2.2.2.1, hs.2.2.2.2.2.2.2.2.2.2.2⟩)
  replace bx570 := bx570.gr g704 (by simp)
  replace bx673 := bx673.gr g704 (by simp)
  replace bx689 := bx689.gr g704 (by simp)
  have bx706 : Bx w700 (w683.heap.size) [.int .i64 (1)] 3 := Bx.new hw701
  have := bx706.lt
  clear g704 hw701
  refine At.seq f702 1 [[]] [(44, .slice (some ⟨w700.heap.size, 0, none⟩) 2 2)] (w700.alloc (.cells #[.int .i64 (0), .int .i64 (1)] 3 (0, 0))) [] (by kernel_rfl) trivial (fun act721 w718 hw719 f720 => ?_)
  clear f702
  have g722 := gr_alloc hw719
  have szw718 := g722.size
  replace e558 := e558.gr g722 no_row
  replace r559 := r559.gr g722 (fun _ h => by cases h)
  replace r560 := r560.gr g722 (fun _ h => by cases h)
  replace bx561 := bx561.gr g722 (by simp)
  replace ow566 : OwnR w718 (Sx (w84.heap.size) [some (w700.heap.size), some (w683.heap.size), some (w667.heap.size), some (w644.heap.size), some (w601.heap.size), some (w580.heap.size), obk (A49), obk (A51), obk (A53), obk (A_97), obk (A_98), obk (A_99), some (b_104)]) A_96 c_100 3 ((subO exG9 (inT exG9 (ofW ([0, 2, 9] : List Int)))) : List Int) := ow566.grA g722 (fun _ _ h => by cases h) (fun k hk hs => ⟨(fun e => by injection e; omega), hs.1, hs.2.1, hs.2.2.1, hs.2.2.2.1, hs.2.2.2.2.1, hs.2.2.2.2.2.1, hs.2.2.2.2.2.2.1, hs.2.2.2.2.2.2.2.1, hs.2.2.2.2.2.2.2.2.1, hs.2.2.2.2.2.2.2.2.2.1, hs.2.2.2.2.2.2.2.2.2.2.1, hs.2.2.2.2.2.2.2.2.2.2.2.1, hs.2.2.2.2.2.2.2.2.2.2.2.2⟩)
  replace ow567 : OwnR w718 (Sx (w84.heap.size) [some (w700.heap.size), some (w683.heap.size), some (w667.heap.size), some (w644.heap.size), some (w601.heap.size), some (w580.heap.size), obk (A49), obk (A51), obk (A53), obk (A_96), obk (A_98), obk (A_99), some (b_104)]) A_97 c_101 3 ((subG exG9 (inT exG9 (ofW ([0, 2, 9] : List Int)))).ow : List Int) := ow567.grA g722 (fun _ _ h => by cases h) (fun k hk hs => ⟨(fun e => by injection e; omega), hs.1, hs.2.1, hs.2.2.1, hs.2.2.2.1, hs.2.2.2.2.1, hs.2.2.2.2.2.1, hs.2.2.2.2.2.2.1, hs.2.2.2.2.2.2.2.1, hs.2.2.2.2.2.2.2.2.1, hs.2.2.2.2.2.2.2.2.2.1, hs.2.2.2.2.2.2.2.2.2.2.1, hs.2.2.2.2.2.2.2.2.2.2.2.1, hs.2.2.2.2.2.2.2.2.2.2.2.2⟩)
  replace ow568 : OwnR w718 (Sx (w84.heap.size) [some (w700.heap.size), some (w683.heap.size), some (w667.heap.size), some (w644.heap.size), some (w601.heap.size), some (w580.heap.size), obk (A49), obk (A51), obk (A53), obk (A_96), obk (A_97), obk (A_99), some (b_104)]) A_98 c_102 3 ((subG exG9 (inT exG9 (ofW ([0, 2, 9] : List Int)))).pr : List Int) := ow568.grA g722 (fun _ _ h => by cases h) (fun k hk hs => ⟨(fun e => by injection e; omega), hs.1, hs.2.1, hs.2.2.1, hs.2.2.2.1, hs.2.2.2.2.1, hs.2.2.2.2.2.1, hs.2.2.2.2.2.2.1, hs.2.2.2.2.2.2.2.1, hs.2.2.2.2.2.2.2.2.1, hs.2.2.2.2.2.2.2.2.2.1, hs.2.2.2.2.2.2.2.2.2.2.1, hs.2.2.2.2.2.2.2.2.2.2.2.1, hs.2.2.2.2.2.2.2.2.2.2.2.2⟩)
  replace ow569 : OwnLL w718 (w84.heap.size) [some (w700.heap.size), some (w683.heap.size), some (w667.heap.size), some (w644.heap.size), some (w601.heap.size), some (w580.heap.size), obk (A49), obk (A51), obk (A53), obk (A_96), obk (A_97), obk (A_98), some (b_104)] A_99 c_103 22 3 ((subG exG9 (inT exG9 (ofW ([0, 2, 9] : List Int)))).mv : List (List Int)) := ow569.grA g722 (fun _ _ h => by cases h) (fun k hk hs => ⟨(fun e => by injection e; omega), hs.1, hs.2.1, hs.2.2.1, hs.2.2.2.1, hs.2.2.2.2.1, hs.2.2.2.2.2.1, hs.2.2.2.2.2.2.1, hs.2.2.2.2.2.2.2.1, hs.2.2.2.2.2.2.2.2.1, hs.2.2.2.2.2.2.2.2.2.1, hs.2.2.2.2.2.2.2.2.2.2.1, hs.2.2.2.2.2.2.2.2.2.2.2.1, hs.2.2.2.2.2.2.2.2.2.2.2.2⟩)
  replace bx570 := bx570.gr g722 (by simp)
  replace bx673 := bx673.gr g722 (by simp)
  replace bx689 := bx689.gr g722 (by simp)
  replace bx706 := bx706.gr g722 (by simp)
  have bx724 : Bx w718 (w700.heap.size) [.int .i64 (0), .int .i64 (1)] 3 := Bx.new hw719
  have := bx724.lt
  clear g722 hw719
  refine At.seq f720 1 [[]] [(45, .slice (some ⟨w718.heap.size, 0, none⟩) 2 2)] (w718.alloc (.cells #[.slice (some ⟨w683.heap.size, 0, none⟩) 1 1, .slice (some ⟨w700.heap.size, 0, none⟩) 2 2] 22 (0, 0))) [] (by kernel_rfl) trivial (fun act740 w737 hw738 f739 => ?_)
  clear f720
  have g741 := gr_alloc hw738
  have szw737 := g741.size
  replace e558 := e558.gr g741 no_row
  replace r559 := r559.gr g741 (fun _ h => by cases h)
  replace r560 := r560.gr g741 (fun _ h => by cases h)
  replace bx561 := bx561.gr g741 (by simp)
  replace ow566 : OwnR w737 (Sx (w84.heap.size) [some (w718.heap.size), some (w700.heap.size), some (w683.heap.size), some (w667.heap.size), some (w644.heap.size), some (w601.heap.size), some (w580.heap.size), obk (A49), obk (A51), obk (A53), obk (A_97), obk (A_98), obk (A_99), some (b_104)]) A_96 c_100 3 ((subO exG9 (inT exG9 (ofW ([0, 2, 9] : List Int)))) : List Int) := ow566.grA g741 (fun _ _ h => by cases h) (fun k hk hs => ⟨(fun e => by injection e; omega), hs.1, hs.2.1, hs.2.2.1, hs.2.2.2.1, hs.2.2.2.2.1, hs.2.2.2.2.2.1, hs.2.2.2.2.2.2.1, hs.2.2.2.2.2.2.2.1, hs.2.2.2.2.2.2.2.2.1, hs.2.2.2.2.2.2.2.2.2.1, hs.2.2.2.2.2.2.2.2.2.2.1, hs.2.2.2.2.2.2.2.2.2.2.2.1, hs.2.2.2.2.2.2.2.2.2.2.2.2.1, hs.2.2.2.2.2.2.2.2.2.2.2.2.2⟩)
  replace ow567 : OwnR w737 (Sx (w84.heap.size) [some (w718.heap.size), some (w700.heap.size), some (w683.heap.size), some (w667.heap.size), some (w644.heap.size), some (w601.heap.size), some (w580.heap.size), obk (A49), obk (A51), obk (A53), obk (A_96), obk (A_98), obk (A_99), some (b_104)]) A_97 c_101 3 ((subG exG9 (inT exG9 (ofW ([0, 2, 9] : List Int)))).ow : List Int) := ow567.grA g741 (fun _ _ h => by cases h) (fun k hk hs => ⟨(fun e => by injection e; omega), hs.1, hs.2.1, hs.2.2.1, hs.2.2.2.1, hs.2.2.2.2.1, hs.2.2.2.2.2.1, hs.2.2.2.2.2.2.1, hs.2.2.2.2.2.2.2.1, hs.2.2.2.2.2.2.2.2.1, hs.2.2.2.2.2.2.2.2.2.1, hs.2.2.2.2.2.2.2.2.2.2.1, hs.2.2.2.2.2.2.2.2.2.2.2.1, hs.2.2.2.2.2.2.2.2.2.2.2.2.1, hs.2.2.2.2.2.2.2.2.2.2.2.2.2⟩)
  replace ow568 : OwnR w737 (Sx (w84.heap.size) [some (w718.heap.size), some (w700.heap.size), some (w683.heap.size), some (w667.heap.size), some (w644.heap.size), some (w601.heap.size), some (w580.heap.size), obk (A49), obk (A51), obk (A53), obk (A_96), obk (A_97), obk (A_99), some (b_104)]) A_98 c_102 3 ((subG exG9 (inT exG9 (ofW ([0, 2, 9] : List Int)))).pr : List Int) := ow568.grA g741 (fun _ _ h => by cases h) (fun k hk hs => ⟨(fun e => by injection e; omega), hs.1, hs.2.1, hs.2.2.1, hs.2.2.2.1, hs.2.2.2.2.1, hs.2.2.2.2.2.1, hs.2.2.2.2.2.2.1, hs.2.2.2.2.2.2.2.1, hs.2.2.2.2.2.2.2.2.1, hs.2.2.2.2.2.2.2.2.2.1, hs.2.2.2.2.2.2.2.2.2.2.1, hs.2.2.2.2.2.2.2.2.2.2.2.1, hs.2.2.2.2.2.2.2.2.2.2.2.2.1, hs.2.2.2.2.2.2.2.2.2.2.2.2.2⟩)
  replace ow569 : OwnLL w737 (w84.heap.size) [some (w718.heap.size), some (w700.heap.size), some (w683.heap.size), some (w667.heap.size), some (w644.heap.size), some (w601.heap.size), some (w580.heap.size), obk (A49), obk (A51), obk (A53), obk (A_96), obk (A_97), obk (A_98), some (b_104)] A_99 c_103 22 3 ((subG exG9 (inT exG9 (ofW ([0, 2, 9] : List Int)))).mv : List (List Int)) := ow569.grA g741 (fun _ _ h => by cases h) (fun k hk hs => ⟨(fun e => by injection e; omega), hs.1, hs.2.1, hs.2.2.1, hs.2.2.2.1, hs.2.2.2.2.1, hs.2.2.2.2.2.1, hs.2.2.2.2.2.2.1, hs.2.2.2.2.2.2.2.1, hs.2.2.2.2.2.2.2.2.1, hs.2.2.2.2.2.2.2.2.2.1, hs.2.2.2.2.2.2.2.2.2.2.1, hs.2.2.2.2.2.2.2.2.2.2.2.1, hs.2.2.2.2.2.2.2.2.2.2.2.2.1, hs.2.2.2.2.2.2.2.2.2.2.2.2.2⟩)
  replace bx570 := bx570.gr g741 (by simp)
  replace bx673 := bx673.gr g741 (by simp)
  replace bx689 := bx689.gr g741 (by simp)
  replace bx706 := bx706.gr g741 (by simp)
  replace bx724 := bx724.gr g741 (by simp)
  have bx743 : Bx w737 (w718.heap.size) [.slice (some ⟨w683.heap.size, 0, none⟩) 1 1, .slice (some ⟨w700.heap.size, 0, none⟩) 2 2] 22 := Bx.new hw738
  have := bx743.lt
  clear g741 hw738
  refine At.rd f739 1 [[]] [(46, .agg #[.slice (some ⟨w644.heap.size, 0, none⟩) 2 2, .slice (some ⟨w667.heap.size, 0, none⟩) 2 2, .slice (some ⟨w718.heap.size, 0, none⟩) 2 2])] [] (by kernel_rfl) trivial (fun act758 f757 => ?_)
  clear f739
  refine At.call f757 16 #[.agg #[.slice A_97 ((subG exG9 (inT exG9 (ofW ([0, 2, 9] : List Int)))).ow.length) c_101, .slice A_98 ((subG exG9 (inT exG9 (ofW ([0, 2, 9] : List Int)))).pr.length) c_102, .slice A_99 ((subG exG9 (inT exG9 (ofW ([0, 2, 9] : List Int)))).mv.length) c_103], .agg #[.slice (some ⟨w644.heap.size, 0, none⟩) 2 2, .slice (some ⟨w667.heap.size, 0, none⟩) 2 2, .slice (some ⟨w718.heap.size, 0, none⟩) 2 2]] (some 47) (by kernel_rfl) ((same_any (a := (subG exG9 (inT exG9 (ofW ([0, 2, 9] : List Int))))) (b := (⟨([0, 1] : List Int), ([1, 7] : List Int), ([([1] : List Int), ([0, 1] : List Int)] : List (List Int))⟩ : GameL)) (RdG.mk (G := (subG exG9 (inT exG9 (ofW ([0, 2, 9] : List Int))))) (ow567.rdI0 (by first | omega | (simp only [List.length_cons, List.length_nil]; omega) | (simp; done) | (simp; omega))) (ow568.rdI0 (by first | omega | (simp only [List.length_cons, List.length_nil]; omega) | (simp; done) | (simp; omega))) (ow569.rdII0 (by first | omega | (simp only [List.length_cons, List.length_nil]; omega) | (simp; done) | (simp; omega)) hip161) ow567.cap ow568.cap ow569.cap) (RdG.mk (G := (⟨([0, 1] : List Int), ([1, 7] : List Int), ([([1] : List Int), ([0, 1] : List Int)] : List (List Int))⟩ : GameL)) (Bx.rdI (l := ([0, 1] : List Int)) bx673 rfl (by first | decide | exact Nat.le_of_ble_eq_true rfl)) (Bx.rdI (l := ([1, 7] : List Int)) bx689 rfl (by first | decide | exact Nat.le_of_ble_eq_true rfl)) (Bx.rdII (ls := ([([1] : List Int), ([0, 1] : List Int)] : List (List Int))) bx743 ⟨⟨_, _, rfl, (by decide), (Bx.rdI (l := ([1] : List Int)) bx706 rfl (by first | decide | exact Nat.le_of_ble_eq_true rfl))⟩, ⟨_, _, rfl, (by decide), (Bx.rdI (l := ([0, 1] : List Int)) bx724 rfl (by first | decide | exact Nat.le_of_ble_eq_true rfl))⟩, trivial⟩ (by decide)) (by decide) (by decide) (by decide))).mono (R' := fun e w' => e = .returned (.bool true) ∧ Ext _ w') (fun e_ w_ h_ => by rw [show (decide ((subG exG9 (inT exG9 (ofW ([0, 2, 9] : List Int)))) = (⟨([0, 1] : List Int), ([1, 7] : List Int), ([([1] : List Int), ([0, 1] : List Int)] : List (List Int))⟩ : GameL)) : Bool) = true from by decide +kernel] at h_; exact h_)) ?_
  rintro e_ w759 ⟨rfl, he⟩
  refine ⟨_, rfl, _, rfl, fun act760 f761 => ?_⟩
  clear f757
  have g762 := gr_ext he
  have szw759 := g762.size
  replace e558 := e558.gr g762 no_row
  replace r559 := r559.gr g762 (fun _ h => by cases h)
  replace r560 := r560.gr g762 (fun _ h => by cases h)
  replace bx561 := bx561.gr g762 (by simp)
  replace ow566 := ow566.gr g762 (fun _ _ h => by cases h)
  replace ow567 := ow567.gr g762 (fun _ _ h => by cases h)
  replace ow568 := ow568.gr g762 (fun _ _ h => by cases h)
  replace ow569 := ow569.gr g762 (fun _ _ h => by cases h)
  replace bx570 := bx570.gr g762 (by simp)
  replace bx673 := bx673.gr g762 (by simp)
  replace bx689 := bx689.gr g762 (by simp)
  replace bx706 := bx706.gr g762 (by simp)
  replace bx724 := bx724.gr g762 (by simp)
  replace bx743 := bx743.gr g762 (by simp)
  clear g762 he
  refine At.rd f761 1 [[]] [(11, .bool true)] [] (by kernel_rfl) trivial (fun act778 f777 => ?_)
  clear f761
  refine At.done rfl ?_
  refine t_n ?_
  clear ow567
  clear ow568
  clear ow569
  clear bx570
  clear bx673
  clear bx689
  clear bx706
  clear bx724
  clear bx743
  have f779 := f777.sub (r := [(11, .bool true), (10, .bool true), (9, .int .i64 (10)), (7, .bool (subB exG9 (inT exG9 (ofW ([0, 2, 9] : List Int))))), (6, .slice A_96 ((subO exG9 (inT exG9 (ofW ([0, 2, 9] : List Int)))).length) c_100), (3, .int .i64 ((rightP exG9).2)), (2, .int .i64 ((rightP exG9).1)), (1, .pointer (some ⟨w11.heap.size, 0, none⟩))]) ⟨rfl, rfl, rfl, rfl, rfl, rfl, rfl, rfl, trivial⟩
  clear f777
  refine wp_seq ?_
  have hso : (subO exG9 (inT exG9 (ofW [0, 2, 9]))).length = 2 := by rw [exG9_sub.2.1]; rfl
  refine At.start ?_
  obtain ⟨ad780, hA781, hb784, hc783, hc782⟩ := ow566.get (1) (by omega) (by omega) (sz := 1) rfl
  refine At.rd f779 32 [[], [.as_ (.bool true)], [], [], [.as_ (.bool true)], [], [], [], [.as_ (.bool true)], [], [], [], [], [], [.as_ (.bool true)], [], [], [], [], [], [], [], [.as_ (.bool true)], [], [], [], [.ad ad780], [.ld (.int .i64 (gI (subO exG9 (inT exG9 (ofW ([0, 2, 9] : List Int)))) 1))], [.as_ (.bool true)], [], [], [.ld (.slice A3 exG9.ow.length c6), .ld (.slice A4 exG9.pr.length c7), .ld (.slice A5 exG9.mv.length c8)]] [(79, .agg #[.slice A3 exG9.ow.length c6, .slice A4 exG9.pr.length c7, .slice A5 exG9.mv.length c8]), (78, .bool true), (77, .bool true), (76, .bool true), (75, .int .i64 (gI (subO exG9 (inT exG9 (ofW ([0, 2, 9] : List Int)))) 1)), (74, .pointer (some (ad780.add ((1 : Int).toNat * 1)))), (73, .slice A_96 ((subO exG9 (inT exG9 (ofW ([0, 2, 9] : List Int)))).length) c_100), (72, .bool true), (71, .bool true), (70, .bool true), (69, .int .i64 ((((subO exG9 (inT exG9 (ofW ([0, 2, 9] : List Int)))).length : Nat) : Int))), (68, .slice A_96 ((subO exG9 (inT exG9 (ofW ([0, 2, 9] : List Int)))).length) c_100), (67, .bool true), (66, .bool true), (65, .bool true), (64, .bool true), (63, .bool true), (62, .bool true), (61, .bool true), (60, .bool true), (59, .bool true), (58, .bool true), (57, .bool true), (56, .bool true), (55, .int .i64 (10)), (54, .bool true), (53, .bool true), (52, .bool true), (51, .int .i64 ((rightP exG9).2)), (50, .bool true), (49, .bool true), (48, .int .i64 ((rightP exG9).1))] [((.bool (((rightP exG9).1 : Int) == 0) : Value) = .bool true), ((.bool (((rightP exG9).2 : Int) == 0) : Value) = .bool true), ((.bool ((10 : Int) == 10) : Value) = .bool true), ((.bool (subB exG9 (inT exG9 (ofW ([0, 2, 9] : List Int)))) : Value) = .bool true), ((.bool (((((subO exG9 (inT exG9 (ofW ([0, 2, 9] : List Int)))).length : Nat) : Int) : Int) == 2) : Value) = .bool true), (A_96 = some ad780), (0 ≤ (1 : Int)), ((1 : Int) < ((subO exG9 (inT exG9 (ofW ([0, 2, 9] : List Int)))).length : Nat)), (w759.cell? (ad780.add ((1 : Int).toNat * 1)) = some (.int .i64 (gI (subO exG9 (inT exG9 (ofW ([0, 2, 9] : List Int)))) 1))), ((.bool ((gI (subO exG9 (inT exG9 (ofW ([0, 2, 9] : List Int)))) 1 : Int) == 2) : Value) = .bool true), (w759.cell? ⟨w11.heap.size, 0, none⟩ = some (.slice A3 exG9.ow.length c6)), (w759.cell? ⟨w11.heap.size, 1, none⟩ = some (.slice A4 exG9.pr.length c7)), (w759.cell? ⟨w11.heap.size, 2, none⟩ = some (.slice A5 exG9.mv.length c8))] (by kernel_rfl) ⟨(congrArg Value.bool (by decide +kernel)), (congrArg Value.bool (by decide +kernel)), (by kernel_rfl), (congrArg Value.bool (by decide +kernel)), (congrArg Value.bool (by decide +kernel)), hA781, (by omega), (by omega), hc783, (congrArg Value.bool (by decide +kernel)), (bx561.cell (i := 0) rfl), (bx561.cell (i := 1) rfl), (bx561.cell (i := 2) rfl), trivial⟩ (fun act786 f785 => ?_)
  clear f779
  refine At.call f785 27 #[.agg #[.slice A3 exG9.ow.length c6, .slice A4 exG9.pr.length c7, .slice A5 exG9.mv.length c8], .int .i64 (1)] (some 80) (by kernel_rfl) ((ownG_any (g := exG9) (p := 1) (r560.wide (Nat.zero_le _) (by omega))).mono (R' := fun e w' => e = .returned (.agg ((([6, 0, 0, 0] : List Int) : List Int).map wV).toArray) ∧ Ext _ w') (fun e_ w_ h_ => by rw [show (wordsD (amoD exG9.ow 1) : List Int) = ([6, 0, 0, 0] : List Int) from by decide +kernel] at h_; exact h_)) ?_
  rintro e_ w787 ⟨rfl, he⟩
  refine ⟨_, rfl, _, rfl, fun act788 f789 => ?_⟩
  clear f785
  have g790 := gr_ext he
  have szw787 := g790.size
  replace e558 := e558.gr g790 no_row
  replace r559 := r559.gr g790 (fun _ h => by cases h)
  replace r560 := r560.gr g790 (fun _ h => by cases h)
  replace bx561 := bx561.gr g790 (by simp)
  replace ow566 := ow566.gr g790 (fun _ _ h => by cases h)
  clear g790 he
  refine At.seq f789 1 [[]] [(81, .slice (some ⟨w787.heap.size, 0, none⟩) 2 2)] (w787.alloc (.cells #[.int .i64 (1), .int .i64 (2)] 3 (0, 0))) [] (by kernel_rfl) trivial (fun act799 w796 hw797 f798 => ?_)
  clear f789
  have g800 := gr_alloc hw797
  have szw796 := g800.size
  replace e558 := e558.gr g800 no_row
  replace r559 := r559.gr g800 (fun _ h => by cases h)
  replace r560 := r560.gr g800 (fun _ h => by cases h)
  replace bx561 := bx561.gr g800 (by simp)
  replace ow566 : OwnR w796 (Sx (w84.heap.size) [some (w787.heap.size), some (w718.heap.size), some (w700.heap.size), some (w683.heap.size), some (w667.heap.size), some (w644.heap.size), some (w601.heap.size), some (w580.heap.size), obk (A49), obk (A51), obk (A53), obk (A_97), obk (A_98), obk (A_99), some (b_104)]) A_96 c_100 3 ((subO exG9 (inT exG9 (ofW ([0, 2, 9] : List Int)))) : List Int) := ow566.grA g800 (fun _ _ h => by cases h) (fun k hk hs => ⟨(fun e => by injection e; omega), hs.1, hs.2.1, hs.2.2.1, hs.2.2.2.1, hs.2.2.2.2.1, hs.2.2.2.2.2.1, hs.2.2.2.2.2.2.1, hs.2.2.2.2.2.2.2.1, hs.2.2.2.2.2.2.2.2.1, hs.2.2.2.2.2.2.2.2.2.1, hs.2.2.2.2.2.2.2.2.2.2.1, hs.2.2.2.2.2.2.2.2.2.2.2.1, hs.2.2.2.2.2.2.2.2.2.2.2.2.1, hs.2.2.2.2.2.2.2.2.2.2.2.2.2.1, hs.2.2.2.2.2.2.2.2.2.2.2.2.2.2⟩)
  have bx802 : Bx w796 (w787.heap.size) [.int .i64 (1), .int .i64 (2)] 3 := Bx.new hw797
  have := bx802.lt
  clear g800 hw797
  refine At.call f798 34 #[.slice (some ⟨w787.heap.size, 0, none⟩) 2 2] (some 82) (by kernel_rfl) ((of_any (la := ([1, 2] : List Int)) (Bx.rdI (l := ([1, 2] : List Int)) bx802 rfl (by first | decide | exact Nat.le_of_ble_eq_true rfl))).mono (R' := fun e w' => e = .returned (.agg ((([6, 0, 0, 0] : List Int) : List Int).map wV).toArray) ∧ Ext _ w') (fun e_ w_ h_ => by rw [show (ofW ([1, 2] : List Int) : List Int) = ([6, 0, 0, 0] : List Int) from by decide +kernel] at h_; exact h_)) ?_
  rintro e_ w808 ⟨rfl, he⟩
  refine ⟨_, rfl, _, rfl, fun act809 f810 => ?_⟩
  clear f798
  have g811 := gr_ext he
  have szw808 := g811.size
  replace e558 := e558.gr g811 no_row
  replace r559 := r559.gr g811 (fun _ h => by cases h)
  replace r560 := r560.gr g811 (fun _ h => by cases h)
  replace bx561 := bx561.gr g811 (by simp)
  replace ow566 := ow566.gr g811 (fun _ _ h => by cases h)
  replace bx802 := bx802.gr g811 (by simp)
  clear g811 he
  refine At.rd f810 4 [[.cs [wV (gI ([6, 0, 0, 0] : List Int) 0), wV (gI ([6, 0, 0, 0] : List Int) 1), wV (gI ([6, 0, 0, 0] : List Int) 2), wV (gI ([6, 0, 0, 0] : List Int) 3)], .cs [wV (gI ([6, 0, 0, 0] : List Int) 0), wV (gI ([6, 0, 0, 0] : List Int) 1), wV (gI ([6, 0, 0, 0] : List Int) 2), wV (gI ([6, 0, 0, 0] : List Int) 3)], .as_ (.bool true)], [], [], [.ld (.slice A3 exG9.ow.length c6), .ld (.slice A4 exG9.pr.length c7), .ld (.slice A5 exG9.mv.length c8)]] [(86, .agg #[.slice A3 exG9.ow.length c6, .slice A4 exG9.pr.length c7, .slice A5 exG9.mv.length c8]), (85, .bool true), (84, .bool true), (83, .bool true)] [(((([6, 0, 0, 0] : List Int) : List Int).map wV).toArray = ([wV (gI ([6, 0, 0, 0] : List Int) 0), wV (gI ([6, 0, 0, 0] : List Int) 1), wV (gI ([6, 0, 0, 0] : List Int) 2), wV (gI ([6, 0, 0, 0] : List Int) 3)] : List Value).toArray), (((([6, 0, 0, 0] : List Int) : List Int).map wV).toArray = ([wV (gI ([6, 0, 0, 0] : List Int) 0), wV (gI ([6, 0, 0, 0] : List Int) 1), wV (gI ([6, 0, 0, 0] : List Int) 2), wV (gI ([6, 0, 0, 0] : List Int) 3)] : List Value).toArray), ((.bool ((((gI ([6, 0, 0, 0] : List Int) 0 : Int) == gI ([6, 0, 0, 0] : List Int) 0) && (((gI ([6, 0, 0, 0] : List Int) 1 : Int) == gI ([6, 0, 0, 0] : List Int) 1) && (((gI ([6, 0, 0, 0] : List Int) 2 : Int) == gI ([6, 0, 0, 0] : List Int) 2) && (((gI ([6, 0, 0, 0] : List Int) 3 : Int) == gI ([6, 0, 0, 0] : List Int) 3) && true))))) : Value) = .bool true), (w808.cell? ⟨w11.heap.size, 0, none⟩ = some (.slice A3 exG9.ow.length c6)), (w808.cell? ⟨w11.heap.size, 1, none⟩ = some (.slice A4 exG9.pr.length c7)), (w808.cell? ⟨w11.heap.size, 2, none⟩ = some (.slice A5 exG9.mv.length c8))] (by kernel_rfl) ⟨(map4 (okLen (okW_lit ⟨by omega, by omega⟩ ⟨by omega, by omega⟩ ⟨by omega, by omega⟩ ⟨by omega, by omega⟩))), (map4 (okLen (okW_lit ⟨by omega, by omega⟩ ⟨by omega, by omega⟩ ⟨by omega, by omega⟩ ⟨by omega, by omega⟩))), (Eq.trans (b := (.bool (decide ((([6, 0, 0, 0] : List Int) : List Int) = ([6, 0, 0, 0] : List Int))) : Value)) (congrArg (fun b => Value.bool b) (w4_eq (okLen (okW_lit ⟨by omega, by omega⟩ ⟨by omega, by omega⟩ ⟨by omega, by omega⟩ ⟨by omega, by omega⟩)) (okLen (okW_lit ⟨by omega, by omega⟩ ⟨by omega, by omega⟩ ⟨by omega, by omega⟩ ⟨by omega, by omega⟩)))) (congrArg Value.bool (by decide +kernel))), (bx561.cell (i := 0) rfl), (bx561.cell (i := 1) rfl), (bx561.cell (i := 2) rfl), trivial⟩ (fun act819 f818 => ?_)
  clear f810
  refine At.call f818 28 #[.agg #[.slice A3 exG9.ow.length c6, .slice A4 exG9.pr.length c7, .slice A5 exG9.mv.length c8], .int .i64 (7)] (some 87) (by kernel_rfl) ((atG_any (g := exG9) (p := 7) (r560.wide (Nat.zero_le _) (by omega))).mono (R' := fun e w' => e = .returned (.agg ((([4, 0, 0, 0] : List Int) : List Int).map wV).toArray) ∧ Ext _ w') (fun e_ w_ h_ => by rw [show (wordsD (amoD exG9.pr 7) : List Int) = ([4, 0, 0, 0] : List Int) from by decide +kernel] at h_; exact h_)) ?_
  rintro e_ w820 ⟨rfl, he⟩
  refine ⟨_, rfl, _, rfl, fun act821 f822 => ?_⟩
  clear f818
  have g823 := gr_ext he
  have szw820 := g823.size
  replace e558 := e558.gr g823 no_row
  replace r559 := r559.gr g823 (fun _ h => by cases h)
  replace r560 := r560.gr g823 (fun _ h => by cases h)
  replace bx561 := bx561.gr g823 (by simp)
  replace ow566 := ow566.gr g823 (fun _ _ h => by cases h)
  replace bx802 := bx802.gr g823 (by simp)
  clear g823 he
  refine At.seq f822 1 [[]] [(88, .slice (some ⟨w820.heap.size, 0, none⟩) 1 1)] (w820.alloc (.cells #[.int .i64 (2)] 3 (0, 0))) [] (by kernel_rfl) trivial (fun act833 w830 hw831 f832 => ?_)
  clear f822
  have g834 := gr_alloc hw831
  have szw830 := g834.size
  replace e558 := e558.gr g834 no_row
  replace r559 := r559.gr g834 (fun _ h => by cases h)
  replace r560 := r560.gr g834 (fun _ h => by cases h)
  replace bx561 := bx561.gr g834 (by simp)
  replace ow566 : OwnR w830 (Sx (w84.heap.size) [some (w820.heap.size), some (w787.heap.size), some (w718.heap.size), some (w700.heap.size), some (w683.heap.size), some (w667.heap.size), some (w644.heap.size), some (w601.heap.size), some (w580.heap.size), obk (A49), obk (A51), obk (A53), obk (A_97), obk (A_98), obk (A_99), some (b_104)]) A_96 c_100 3 ((subO exG9 (inT exG9 (ofW ([0, 2, 9] : List Int)))) : List Int) := ow566.grA g834 (fun _ _ h => by cases h) (fun k hk hs => ⟨(fun e => by injection e; omega), hs.1, hs.2.1, hs.2.2.1, hs.2.2.2.1, hs.2.2.2.2.1, hs.2.2.2.2.2.1, hs.2.2.2.2.2.2.1, hs.2.2.2.2.2.2.2.1, hs.2.2.2.2.2.2.2.2.1, hs.2.2.2.2.2.2.2.2.2.1, hs.2.2.2.2.2.2.2.2.2.2.1, hs.2.2.2.2.2.2.2.2.2.2.2.1, hs.2.2.2.2.2.2.2.2.2.2.2.2.1, hs.2.2.2.2.2.2.2.2.2.2.2.2.2.1, hs.2.2.2.2.2.2.2.2.2.2.2.2.2.2.1, hs.2.2.2.2.2.2.2.2.2.2.2.2.2.2.2⟩)
  replace bx802 := bx802.gr g834 (by simp)
  have bx836 : Bx w830 (w820.heap.size) [.int .i64 (2)] 3 := Bx.new hw831
  have := bx836.lt
  clear g834 hw831
  refine At.call f832 34 #[.slice (some ⟨w820.heap.size, 0, none⟩) 1 1] (some 89) (by kernel_rfl) ((of_any (la := ([2] : List Int)) (Bx.rdI (l := ([2] : List Int)) bx836 rfl (by first | decide | exact Nat.le_of_ble_eq_true rfl))).mono (R' := fun e w' => e = .returned (.agg ((([4, 0, 0, 0] : List Int) : List Int).map wV).toArray) ∧ Ext _ w') (fun e_ w_ h_ => by rw [show (ofW ([2] : List Int) : List Int) = ([4, 0, 0, 0] : List Int) from by decide +kernel] at h_; exact h_)) ?_
  rintro e_ w843 ⟨rfl, he⟩
  refine ⟨_, rfl, _, rfl, fun act844 f845 => ?_⟩
  clear f832
  have g846 := gr_ext he
  have szw843 := g846.size
  replace e558 := e558.gr g846 no_row
  replace r559 := r559.gr g846 (fun _ h => by cases h)
  replace r560 := r560.gr g846 (fun _ h => by cases h)
  replace bx561 := bx561.gr g846 (by simp)
  replace ow566 := ow566.gr g846 (fun _ _ h => by cases h)
  replace bx802 := bx802.gr g846 (by simp)
  replace bx836 := bx836.gr g846 (by simp)
  clear g846 he
  refine At.rd f845 3 [[.cs [wV (gI ([4, 0, 0, 0] : List Int) 0), wV (gI ([4, 0, 0, 0] : List Int) 1), wV (gI ([4, 0, 0, 0] : List Int) 2), wV (gI ([4, 0, 0, 0] : List Int) 3)], .cs [wV (gI ([4, 0, 0, 0] : List Int) 0), wV (gI ([4, 0, 0, 0] : List Int) 1), wV (gI ([4, 0, 0, 0] : List Int) 2), wV (gI ([4, 0, 0, 0] : List Int) 3)], .as_ (.bool true)], [], []] [(0, .bool true), (91, .bool true), (90, .bool true)] [(((([4, 0, 0, 0] : List Int) : List Int).map wV).toArray = ([wV (gI ([4, 0, 0, 0] : List Int) 0), wV (gI ([4, 0, 0, 0] : List Int) 1), wV (gI ([4, 0, 0, 0] : List Int) 2), wV (gI ([4, 0, 0, 0] : List Int) 3)] : List Value).toArray), (((([4, 0, 0, 0] : List Int) : List Int).map wV).toArray = ([wV (gI ([4, 0, 0, 0] : List Int) 0), wV (gI ([4, 0, 0, 0] : List Int) 1), wV (gI ([4, 0, 0, 0] : List Int) 2), wV (gI ([4, 0, 0, 0] : List Int) 3)] : List Value).toArray), ((.bool ((((gI ([4, 0, 0, 0] : List Int) 0 : Int) == gI ([4, 0, 0, 0] : List Int) 0) && (((gI ([4, 0, 0, 0] : List Int) 1 : Int) == gI ([4, 0, 0, 0] : List Int) 1) && (((gI ([4, 0, 0, 0] : List Int) 2 : Int) == gI ([4, 0, 0, 0] : List Int) 2) && (((gI ([4, 0, 0, 0] : List Int) 3 : Int) == gI ([4, 0, 0, 0] : List Int) 3) && true))))) : Value) = .bool true)] (by kernel_rfl) ⟨(map4 (okLen (okW_lit ⟨by omega, by omega⟩ ⟨by omega, by omega⟩ ⟨by omega, by omega⟩ ⟨by omega, by omega⟩))), (map4 (okLen (okW_lit ⟨by omega, by omega⟩ ⟨by omega, by omega⟩ ⟨by omega, by omega⟩ ⟨by omega, by omega⟩))), (Eq.trans (b := (.bool (decide ((([4, 0, 0, 0] : List Int) : List Int) = ([4, 0, 0, 0] : List Int))) : Value)) (congrArg (fun b => Value.bool b) (w4_eq (okLen (okW_lit ⟨by omega, by omega⟩ ⟨by omega, by omega⟩ ⟨by omega, by omega⟩ ⟨by omega, by omega⟩)) (okLen (okW_lit ⟨by omega, by omega⟩ ⟨by omega, by omega⟩ ⟨by omega, by omega⟩ ⟨by omega, by omega⟩)))) (congrArg Value.bool (by decide +kernel))), trivial⟩ (fun act855 f854 => ?_)
  clear f845
  refine At.done rfl ?_
  refine t_n ?_
  clear bx561
  clear ow566
  clear bx802
  clear bx836
  have f856 := f854.sub (r := [(0, .bool true)]) ⟨rfl, trivial⟩
  clear f854
  refine wp_ret ?_
  refine ret_ f856 [] [.bool true] [] (by kernel_rfl) trivial ?_
  exact ⟨rfl, e558⟩

end Go.Proofs.YtkkophhnliplhaaDoor
