/-
  A walk of a Go function, printed by a program of this repo. Conditions: what the theorems name.
-/
import Derived.Test.YtkkophhnliplhaaDoorWShown09
import Derived.Test.YtkkophhnliplhaaDoorWCopy
set_option linter.unusedVariables false
set_option linter.unusedSimpArgs false
namespace Go.Proofs.YtkkophhnliplhaaDoor
open Go Go.RowKit

attribute [local irreducible] ofZ fromW wordsD ofD ofW lsD lenW lenN fullW withW lessW hasW hasD inW inD leastD putD onI tzI orS andS minusS orD andD minusD fullD emptyD
set_option maxHeartbeats 4000000 in
theorem rights09_any {Ag0 Ag1 Ag2 : Option Addr} {cg0 cg1 cg2 : Nat} {g : GameL} {w : World} (rg : RdG w 0 w.heap.size Ag0 Ag1 Ag2 cg0 cg1 cg2 g) (rT : RdT w 0 w.heap.size) :
    Calls Tryd.prog 3 #[.agg #[.slice Ag0 g.ow.length cg0, .slice Ag1 g.pr.length cg1, .slice Ag2 g.mv.length cg2]] w fun e w' => e = .returned (.bool true) ∧ Ext w w' := by
 have hlg0 := rg.ow.len
 have hlg1 := rg.pr.len
 have hlg2 := rg.mv.len
 have hkg0 := rg.k0
 have hkg1 := rg.k1
 have hkg2 := rg.k2
 refine enter_ (args := [.agg #[.slice Ag0 g.ow.length cg0, .slice Ag1 g.pr.length cg1, .slice Ag2 g.mv.length cg2]]) Tryd.func3 rfl Tryd.ntmps3 (Nat.le_of_ble_eq_true rfl) (fun act0 f0 => ?_)
 have e0 := Ext.refl w
 refine wp_seq ?_
 refine At.start ?_
 refine At.seq f0 1 [[]] [(1, .pointer (some ⟨w.heap.size, 0, none⟩))] (w.alloc (.cells #[.slice Ag0 g.ow.length cg0, .slice Ag1 g.pr.length cg1, .slice Ag2 g.mv.length cg2] 25 (0, 0))) [] (by kernel_rfl) trivial (fun act4 w1 hw2 f3 => ?_)
 clear f0
 have g5 := gr_alloc hw2
 have szw1 := g5.size
 replace e0 := e0.gr g5 no_row
 have r8 := rg.gr g5 (fun _ h => by cases h)
 clear rg
 have r9 := rT.gr g5 (fun _ h => by cases h)
 clear rT
 have bx10 : Bx w1 (w.heap.size) [.slice Ag0 g.ow.length cg0, .slice Ag1 g.pr.length cg1, .slice Ag2 g.mv.length cg2] 25 := Bx.new hw2
 have := bx10.lt
 clear g5 hw2
 refine At.rd f3 1 [[]] [(2, .bool false)] [] (by kernel_rfl) trivial (fun act12 f11 => ?_)
 clear f3
 refine At.done rfl ?_
 refine t_n ?_
 have f13 := f11.sub (r := [(1, .pointer (some ⟨w.heap.size, 0, none⟩))]) ⟨rfl, trivial⟩
 clear f11
 refine wp_seq ?_
 refine At.start ?_
 refine At.call f13 12 #[] (some 10) (by kernel_rfl) (shown09_any (r9.wide (Nat.zero_le _) (by omega))) ?_
 rintro e_ w14 ⟨rfl, he⟩
 refine ⟨_, rfl, _, rfl, fun act15 f16 => ?_⟩
 clear f13
 have g17 := gr_ext he
 have szw14 := g17.size
 replace e0 := e0.gr g17 no_row
 replace r8 := r8.gr g17 (fun _ h => by cases h)
 replace r9 := r9.gr g17 (fun _ h => by cases h)
 replace bx10 := bx10.gr g17 (by simp)
 clear g17 he
 refine At.rd f16 1 [[]] [(3, .bool true)] [] (by kernel_rfl) trivial (fun act23 f22 => ?_)
 clear f16
 refine At.done rfl ?_
 refine t_n ?_
 have f24 := f22.sub (r := [(3, .bool true), (1, .pointer (some ⟨w.heap.size, 0, none⟩))]) ⟨rfl, rfl, trivial⟩
 clear f22
 refine wp_seq ?_
 refine At.start ?_
 refine At.rd f24 1 [[.ld (.slice Ag0 g.ow.length cg0), .ld (.slice Ag1 g.pr.length cg1), .ld (.slice Ag2 g.mv.length cg2)]] [(11, .agg #[.slice Ag0 g.ow.length cg0, .slice Ag1 g.pr.length cg1, .slice Ag2 g.mv.length cg2])] [(w14.cell? ⟨w.heap.size, 0, none⟩ = some (.slice Ag0 g.ow.length cg0)), (w14.cell? ⟨w.heap.size, 1, none⟩ = some (.slice Ag1 g.pr.length cg1)), (w14.cell? ⟨w.heap.size, 2, none⟩ = some (.slice Ag2 g.mv.length cg2))] (by kernel_rfl) ⟨(bx10.cell (i := 0) rfl), (bx10.cell (i := 1) rfl), (bx10.cell (i := 2) rfl), trivial⟩ (fun act26 f25 => ?_)
 clear f24
 refine At.call f25 13 #[.agg #[.slice Ag0 g.ow.length cg0, .slice Ag1 g.pr.length cg1, .slice Ag2 g.mv.length cg2]] (some 12) (by kernel_rfl) (copyR_any (g := g) (r8.wide (Nat.zero_le _) (by omega))) ?_
 rintro e_ w40 ⟨A27, c28, A29, c30, A31, c32, rfl, he, ow33, ow34, ow35⟩
 have hip39 := inner_len (RdG.mv (r8.wide (Nat.zero_le _) (by omega)))
 refine ⟨_, rfl, _, rfl, fun act41 f42 => ?_⟩
 clear f25
 have g43 := gr_ext he
 have szw40 := g43.size
 replace e0 := e0.gr g43 no_row
 replace r8 := r8.gr g43 (fun _ h => by cases h)
 replace r9 := r9.gr g43 (fun _ h => by cases h)
 replace bx10 := bx10.gr g43 (by simp)
 clear g43 he
 refine At.seq f42 1 [[]] [(4, .pointer (some ⟨w40.heap.size, 0, none⟩))] (w40.alloc (.cells #[.slice none 0 0, .slice none 0 0, .slice none 0 0] 25 (0, 0))) [] (by kernel_rfl) trivial (fun act51 w48 hw49 f50 => ?_)
 clear f42
 have g52 := gr_alloc hw49
 have szw48 := g52.size
 replace e0 := e0.gr g52 no_row
 replace r8 := r8.gr g52 (fun _ h => by cases h)
 replace r9 := r9.gr g52 (fun _ h => by cases h)
 replace bx10 := bx10.gr g52 (by simp)
 replace ow33 : OwnR w48 (Sx (w14.heap.size) [some (w40.heap.size), obk (A29), obk (A31)]) A27 c28 3 (g.ow : List Int) := ow33.grA g52 (fun _ _ h => by cases h) (fun k hk hs => ⟨(fun e => by injection e; omega), hs.1, hs.2.1, hs.2.2⟩)
 replace ow34 : OwnR w48 (Sx (w14.heap.size) [some (w40.heap.size), obk (A27), obk (A31)]) A29 c30 3 (g.pr : List Int) := ow34.grA g52 (fun _ _ h => by cases h) (fun k hk hs => ⟨(fun e => by injection e; omega), hs.1, hs.2.1, hs.2.2⟩)
 replace ow35 : OwnLL w48 (w14.heap.size) [some (w40.heap.size), obk (A27), obk (A29)] A31 c32 22 3 (g.mv : List (List Int)) := ow35.grA g52 (fun _ _ h => by cases h) (fun k hk hs => ⟨(fun e => by injection e; omega), hs.1, hs.2.1, hs.2.2⟩)
 have bx61 : Bx w48 (w40.heap.size) [.slice none 0 0, .slice none 0 0, .slice none 0 0] 25 := Bx.new hw49
 have := bx61.lt
 clear g52 hw49
 refine At.store f50 (t := 25) (b := w40.heap.size) (off := 0) (v := .agg #[.slice A27 g.ow.length c28, .slice A29 g.pr.length c30, .slice A31 g.mv.length c32]) (by kernel_rfl) bx61 (by kernel_rfl) (fun act66 w62 g63 bx64 f65 => ?_)
 clear f50
 replace bx64 : Bx w62 (w40.heap.size) [.slice A27 g.ow.length c28, .slice A29 g.pr.length c30, .slice A31 g.mv.length c32] 25 := bx64
 have szw62 := g63.size
 replace e0 := e0.gr g63 (fun k h => by injection h; omega)
 replace r8 := r8.gr g63 (fun k h => by injection h; omega)
 replace r9 := r9.gr g63 (fun k h => by injection h; omega)
 replace bx10 := bx10.gr g63 (fun h => by injection h; omega)
 replace ow33 := ow33.gr g63 (fun k hk => hk.1)
 replace ow34 := ow34.gr g63 (fun k hk => hk.1)
 replace ow35 := ow35.gr g63 (fun k hk => hk.1)
 clear bx61 g63
 refine At.done rfl ?_
 refine t_n ?_
 have f74 := f65.sub (r := [(4, .pointer (some ⟨w40.heap.size, 0, none⟩)), (3, .bool true), (1, .pointer (some ⟨w.heap.size, 0, none⟩))]) ⟨rfl, rfl, rfl, trivial⟩
 clear f65
 refine wp_seq ?_
 refine At.start ?_
 refine At.rd f74 1 [[.ld (.slice Ag0 g.ow.length cg0), .ld (.slice Ag1 g.pr.length cg1), .ld (.slice Ag2 g.mv.length cg2)]] [(14, .agg #[.slice Ag0 g.ow.length cg0, .slice Ag1 g.pr.length cg1, .slice Ag2 g.mv.length cg2])] [(w62.cell? ⟨w.heap.size, 0, none⟩ = some (.slice Ag0 g.ow.length cg0)), (w62.cell? ⟨w.heap.size, 1, none⟩ = some (.slice Ag1 g.pr.length cg1)), (w62.cell? ⟨w.heap.size, 2, none⟩ = some (.slice Ag2 g.mv.length cg2))] (by kernel_rfl) ⟨(bx10.cell (i := 0) rfl), (bx10.cell (i := 1) rfl), (bx10.cell (i := 2) rfl), trivial⟩ (fun act76 f75 => ?_)
 clear f74
 refine At.call f75 14 #[.agg #[.slice Ag0 g.ow.length cg0, .slice Ag1 g.pr.length cg1, .slice Ag2 g.mv.length cg2]] (some 15) (by kernel_rfl) (right_any (r8.wide (Nat.zero_le _) (by omega))) ?_
 rintro e_ w77 ⟨rfl, he⟩
 refine ⟨_, rfl, _, rfl, fun act78 f79 => ?_⟩
 clear f75
 have g80 := gr_ext he
 have szw77 := g80.size
 replace e0 := e0.gr g80 no_row
 replace r8 := r8.gr g80 (fun _ h => by cases h)
 replace r9 := r9.gr g80 (fun _ h => by cases h)
 replace bx10 := bx10.gr g80 (by simp)
 replace ow33 := ow33.gr g80 (fun _ _ h => by cases h)
 replace ow34 := ow34.gr g80 (fun _ _ h => by cases h)
 replace ow35 := ow35.gr g80 (fun _ _ h => by cases h)
 replace bx64 := bx64.gr g80 (by simp)
 clear g80 he
 refine At.rd f79 5 [[], [], [], [], []] [(6, .int .i64 ((rightP g).2)), (5, .int .i64 ((rightP g).1)), (17, .int .i64 ((rightP g).2)), (16, .int .i64 ((rightP g).1)), (13, .tuple #[.int .i64 ((rightP g).1), .int .i64 ((rightP g).2)])] [] (by kernel_rfl) trivial (fun act90 f89 => ?_)
 clear f79
 refine At.done rfl ?_
 refine t_n ?_
 have f91 := f89.sub (r := [(6, .int .i64 ((rightP g).2)), (5, .int .i64 ((rightP g).1)), (4, .pointer (some ⟨w40.heap.size, 0, none⟩)), (3, .bool true), (1, .pointer (some ⟨w.heap.size, 0, none⟩))]) ⟨rfl, rfl, rfl, rfl, rfl, trivial⟩
 clear f89
 refine wp_seq ?_
 refine At.start ?_
 refine At.rd f91 1 [[.ld (.slice A27 g.ow.length c28), .ld (.slice A29 g.pr.length c30), .ld (.slice A31 g.mv.length c32)]] [(19, .agg #[.slice A27 g.ow.length c28, .slice A29 g.pr.length c30, .slice A31 g.mv.length c32])] [(w77.cell? ⟨w40.heap.size, 0, none⟩ = some (.slice A27 g.ow.length c28)), (w77.cell? ⟨w40.heap.size, 1, none⟩ = some (.slice A29 g.pr.length c30)), (w77.cell? ⟨w40.heap.size, 2, none⟩ = some (.slice A31 g.mv.length c32))] (by kernel_rfl) ⟨(bx64.cell (i := 0) rfl), (bx64.cell (i := 1) rfl), (bx64.cell (i := 2) rfl), trivial⟩ (fun act93 f92 => ?_)
 clear f91
 refine At.call f92 15 #[.agg #[.slice A27 g.ow.length c28, .slice A29 g.pr.length c30, .slice A31 g.mv.length c32]] (some 20) (by kernel_rfl) (rightR_any (RdG.mk (G := g) (ow33.rdI0 (by first | omega | (simp only [List.length_cons, List.length_nil]; omega) | (simp; done) | (simp; omega))) (ow34.rdI0 (by first | omega | (simp only [List.length_cons, List.length_nil]; omega) | (simp; done) | (simp; omega))) (ow35.rdII0 (by first | omega | (simp only [List.length_cons, List.length_nil]; omega) | (simp; done) | (simp; omega)) hip39) ow33.cap ow34.cap ow35.cap)) ?_
 rintro e_ w94 ⟨rfl, he⟩
 refine ⟨_, rfl, _, rfl, fun act95 f96 => ?_⟩
 clear f92
 have g97 := gr_ext he
 have szw94 := g97.size
 replace e0 := e0.gr g97 no_row
 replace r8 := r8.gr g97 (fun _ h => by cases h)
 replace r9 := r9.gr g97 (fun _ h => by cases h)
 replace bx10 := bx10.gr g97 (by simp)
 replace ow33 := ow33.gr g97 (fun _ _ h => by cases h)
 replace ow34 := ow34.gr g97 (fun _ _ h => by cases h)
 replace ow35 := ow35.gr g97 (fun _ _ h => by cases h)
 replace bx64 := bx64.gr g97 (by simp)
 clear g97 he
 refine At.rd f96 5 [[], [], [], [], []] [(8, .int .i64 ((rightP g).2)), (7, .int .i64 ((rightP g).1)), (22, .int .i64 ((rightP g).2)), (21, .int .i64 ((rightP g).1)), (18, .tuple #[.int .i64 ((rightP g).1), .int .i64 ((rightP g).2)])] [] (by kernel_rfl) trivial (fun act107 f106 => ?_)
 clear f96
 refine At.done rfl ?_
 refine t_n ?_
 have f108 := f106.sub (r := [(8, .int .i64 ((rightP g).2)), (7, .int .i64 ((rightP g).1)), (6, .int .i64 ((rightP g).2)), (5, .int .i64 ((rightP g).1)), (4, .pointer (some ⟨w40.heap.size, 0, none⟩)), (3, .bool true), (1, .pointer (some ⟨w.heap.size, 0, none⟩))]) ⟨rfl, rfl, rfl, rfl, rfl, rfl, rfl, trivial⟩
 clear f106
 refine wp_seq ?_
 refine At.start ?_
 refine At.rd f108 2 [[.ld (.slice Ag0 g.ow.length cg0), .ld (.slice Ag1 g.pr.length cg1), .ld (.slice Ag2 g.mv.length cg2)], [.ld (.slice A27 g.ow.length c28), .ld (.slice A29 g.pr.length c30), .ld (.slice A31 g.mv.length c32)]] [(24, .agg #[.slice A27 g.ow.length c28, .slice A29 g.pr.length c30, .slice A31 g.mv.length c32]), (23, .agg #[.slice Ag0 g.ow.length cg0, .slice Ag1 g.pr.length cg1, .slice Ag2 g.mv.length cg2])] [(w94.cell? ⟨w.heap.size, 0, none⟩ = some (.slice Ag0 g.ow.length cg0)), (w94.cell? ⟨w.heap.size, 1, none⟩ = some (.slice Ag1 g.pr.length cg1)), (w94.cell? ⟨w.heap.size, 2, none⟩ = some (.slice Ag2 g.mv.length cg2)), (w94.cell? ⟨w40.heap.size, 0, none⟩ = some (.slice A27 g.ow.length c28)), (w94.cell? ⟨w40.heap.size, 1, none⟩ = some (.slice A29 g.pr.length c30)), (w94.cell? ⟨w40.heap.size, 2, none⟩ = some (.slice A31 g.mv.length c32))] (by kernel_rfl) ⟨(bx10.cell (i := 0) rfl), (bx10.cell (i := 1) rfl), (bx10.cell (i := 2) rfl), (bx64.cell (i := 0) rfl), (bx64.cell (i := 1) rfl), (bx64.cell (i := 2) rfl), trivial⟩ (fun act110 f109 => ?_)
 clear f108
 refine At.call f109 16 #[.agg #[.slice Ag0 g.ow.length cg0, .slice Ag1 g.pr.length cg1, .slice Ag2 g.mv.length cg2], .agg #[.slice A27 g.ow.length c28, .slice A29 g.pr.length c30, .slice A31 g.mv.length c32]] (some 25) (by kernel_rfl) ((same_any (a := g) (b := g) (r8.wide (Nat.zero_le _) (by omega)) (RdG.mk (G := g) (ow33.rdI0 (by first | omega | (simp only [List.length_cons, List.length_nil]; omega) | (simp; done) | (simp; omega))) (ow34.rdI0 (by first | omega | (simp only [List.length_cons, List.length_nil]; omega) | (simp; done) | (simp; omega))) (ow35.rdII0 (by first | omega | (simp only [List.length_cons, List.length_nil]; omega) | (simp; done) | (simp; omega)) hip39) ow33.cap ow34.cap ow35.cap)).mono (R' := fun e w' => e = .returned (.bool true) ∧ Ext _ w') (fun e_ w_ h_ => by rw [show (decide (g = g) : Bool) = true from decide_eq_true rfl] at h_; exact h_)) ?_
 rintro e_ w111 ⟨rfl, he⟩
 refine ⟨_, rfl, _, rfl, fun act112 f113 => ?_⟩
 clear f109
 have g114 := gr_ext he
 have szw111 := g114.size
 replace e0 := e0.gr g114 no_row
 replace r8 := r8.gr g114 (fun _ h => by cases h)
 replace r9 := r9.gr g114 (fun _ h => by cases h)
 replace bx10 := bx10.gr g114 (by simp)
 replace ow33 := ow33.gr g114 (fun _ _ h => by cases h)
 replace ow34 := ow34.gr g114 (fun _ _ h => by cases h)
 replace ow35 := ow35.gr g114 (fun _ _ h => by cases h)
 replace bx64 := bx64.gr g114 (by simp)
 clear g114 he
 refine At.rd f113 1 [[]] [(9, .bool true)] [] (by kernel_rfl) trivial (fun act124 f123 => ?_)
 clear f113
 refine At.done rfl ?_
 refine t_n ?_
 have f125 := f123.sub (r := [(9, .bool true), (8, .int .i64 ((rightP g).2)), (7, .int .i64 ((rightP g).1)), (6, .int .i64 ((rightP g).2)), (5, .int .i64 ((rightP g).1)), (3, .bool true)]) ⟨rfl, rfl, rfl, rfl, rfl, rfl, trivial⟩
 clear f123
 refine wp_seq ?_
 refine At.start ?_
 refine At.rd f125 15 [[], [], [], [], [], [], [], [.as_ (.bool true)], [], [], [], [], [.as_ (.bool true)], [], []] [(2, .bool true), (39, .bool true), (38, .bool true), (37, .int .i64 ((rightP g).2)), (36, .int .i64 ((rightP g).2)), (35, .bool true), (34, .bool true), (33, .bool true), (32, .int .i64 ((rightP g).1)), (31, .int .i64 ((rightP g).1)), (30, .bool true), (29, .bool true), (28, .bool true), (27, .bool true), (26, .bool true)] [((.bool (((rightP g).1 : Int) == ((rightP g).1)) : Value) = .bool true), ((.bool (((rightP g).2 : Int) == ((rightP g).2)) : Value) = .bool true)] (by kernel_rfl) ⟨(congrArg Value.bool (by simp)), (congrArg Value.bool (by simp)), trivial⟩ (fun act127 f126 => ?_)
 clear f125
 refine At.done rfl ?_
 refine t_n ?_
 have f128 := f126.sub (r := [(2, .bool true)]) ⟨rfl, trivial⟩
 clear f126
 refine wp_ret ?_
 refine ret_ f128 [] [.bool true] [] (by kernel_rfl) trivial ?_
 exact ⟨rfl, e0⟩

end Go.Proofs.YtkkophhnliplhaaDoor
