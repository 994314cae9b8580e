/-
  A walk of a Go function, printed by a program of this repo. Conditions: what the theorems name.
-/
import Derived.Test.YtkkophhnliplhaaDoorWShown09
import Derived.Test.YtkkophhnliplhaaDoorPureDuals
import Derived.Test.YtkkophhnliplhaaDoorWRight09
set_option linter.unusedVariables false
set_option linter.unusedSimpArgs false
namespace Go.Proofs.YtkkophhnliplhaaDoor
open Go Go.RowKit

attribute [local irreducible] ofZ fromW wordsD ofD ofW lsD lenW lenN fullW withW lessW hasW hasD inW inD leastD putD onI tzI orS andS minusS orD andD minusD fullD emptyD
set_option maxHeartbeats 4000000 in
theorem duals09_any {Ag0 Ag1 Ag2 : Option Addr} {cg0 cg1 cg2 : Nat} {g : GameL} {w : World} (rg : RdG w 0 w.heap.size Ag0 Ag1 Ag2 cg0 cg1 cg2 g) (rT : RdT w 0 w.heap.size) :
    Calls Tryd.prog 7 #[.agg #[.slice Ag0 g.ow.length cg0, .slice Ag1 g.pr.length cg1, .slice Ag2 g.mv.length cg2]] w fun e w' => e = .returned (.bool true) ∧ Ext w w' := by
 have hlg0 := rg.ow.len
 have hlg1 := rg.pr.len
 have hlg2 := rg.mv.len
 have hkg0 := rg.k0
 have hkg1 := rg.k1
 have hkg2 := rg.k2
 refine enter_ (args := [.agg #[.slice Ag0 g.ow.length cg0, .slice Ag1 g.pr.length cg1, .slice Ag2 g.mv.length cg2]]) Tryd.func7 rfl Tryd.ntmps7 (Nat.le_of_ble_eq_true rfl) (fun act0 f0 => ?_)
 have e0 : Ext w w := Ext.refl w
 refine wp_seq ?_
 refine At.start ?_
 refine At.seq f0 1 [[]] [(1, .pointer (some ⟨w.heap.size, 0, none⟩))] (w.alloc (.cells #[.slice Ag0 g.ow.length cg0, .slice Ag1 g.pr.length cg1, .slice Ag2 g.mv.length cg2] 25 (0, 0))) [] (by kernel_rfl) trivial (fun act4 w1 hw2 f3 => ?_)
 clear f0
 have g5 := gr_alloc hw2
 have szw1 := g5.size
 replace e0 := e0.gr g5 no_row
 have r8 := rg.gr g5 (fun _ h => by cases h)
 clear rg
 have r9 := rT.gr g5 (fun _ h => by cases h)
 clear rT
 have bx10 : Bx w1 (w.heap.size) [.slice Ag0 g.ow.length cg0, .slice Ag1 g.pr.length cg1, .slice Ag2 g.mv.length cg2] 25 := Bx.new hw2
 have := bx10.lt
 clear g5 hw2
 refine At.rd f3 1 [[]] [(2, .bool false)] [] (by kernel_rfl) trivial (fun act12 f11 => ?_)
 clear f3
 refine At.done rfl ?_
 refine t_n ?_
 refine wp_seq ?_
 refine At.start ?_
 refine At.call f11 12 #[] (some 16) (by kernel_rfl) (shown09_any (r9.wide (Nat.zero_le _) (by omega))) ?_
 rintro e_ w13 ⟨rfl, he⟩
 refine ⟨_, rfl, _, rfl, fun act14 f15 => ?_⟩
 clear f11
 have g16 := gr_ext he
 have szw13 := g16.size
 replace e0 := e0.gr g16 no_row
 replace r8 := r8.gr g16 (fun _ h => by cases h)
 replace r9 := r9.gr g16 (fun _ h => by cases h)
 replace bx10 := bx10.gr g16 (by simp)
 clear g16 he
 refine At.rd f15 1 [[]] [(3, .bool true)] [] (by kernel_rfl) trivial (fun act22 f21 => ?_)
 clear f15
 refine At.done rfl ?_
 refine t_n ?_
 refine wp_seq ?_
 refine At.start ?_
 refine At.rd f21 1 [[.ld (.slice Ag0 g.ow.length cg0), .ld (.slice Ag1 g.pr.length cg1), .ld (.slice Ag2 g.mv.length cg2)]] [(17, .agg #[.slice Ag0 g.ow.length cg0, .slice Ag1 g.pr.length cg1, .slice Ag2 g.mv.length cg2])] [(w13.cell? ⟨w.heap.size, 0, none⟩ = some (.slice Ag0 g.ow.length cg0)), (w13.cell? ⟨w.heap.size, 1, none⟩ = some (.slice Ag1 g.pr.length cg1)), (w13.cell? ⟨w.heap.size, 2, none⟩ = some (.slice Ag2 g.mv.length cg2))] (by kernel_rfl) ⟨(bx10.cell (i := 0) rfl), (bx10.cell (i := 1) rfl), (bx10.cell (i := 2) rfl), trivial⟩ (fun act24 f23 => ?_)
 clear f21
 refine At.call f23 29 #[.agg #[.slice Ag0 g.ow.length cg0, .slice Ag1 g.pr.length cg1, .slice Ag2 g.mv.length cg2]] (some 18) (by kernel_rfl) (right09_any (r8.wide (Nat.zero_le _) (by omega))) ?_
 rintro e_ w25 ⟨rfl, he⟩
 refine ⟨_, rfl, _, rfl, fun act26 f27 => ?_⟩
 clear f23
 have g28 := gr_ext he
 have szw25 := g28.size
 replace e0 := e0.gr g28 no_row
 replace r8 := r8.gr g28 (fun _ h => by cases h)
 replace r9 := r9.gr g28 (fun _ h => by cases h)
 replace bx10 := bx10.gr g28 (by simp)
 clear g28 he
 refine At.rd f27 1 [[]] [(4, .bool (isR g))] [] (by kernel_rfl) trivial (fun act34 f33 => ?_)
 clear f27
 refine At.done rfl ?_
 refine t_n ?_
 refine wp_seq ?_
 refine At.start ?_
 refine At.rd f33 1 [[.ld (.slice Ag0 g.ow.length cg0), .ld (.slice Ag1 g.pr.length cg1), .ld (.slice Ag2 g.mv.length cg2)]] [(19, .agg #[.slice Ag0 g.ow.length cg0, .slice Ag1 g.pr.length cg1, .slice Ag2 g.mv.length cg2])] [(w25.cell? ⟨w.heap.size, 0, none⟩ = some (.slice Ag0 g.ow.length cg0)), (w25.cell? ⟨w.heap.size, 1, none⟩ = some (.slice Ag1 g.pr.length cg1)), (w25.cell? ⟨w.heap.size, 2, none⟩ = some (.slice Ag2 g.mv.length cg2))] (by kernel_rfl) ⟨(bx10.cell (i := 0) rfl), (bx10.cell (i := 1) rfl), (bx10.cell (i := 2) rfl), trivial⟩ (fun act36 f35 => ?_)
 clear f33
 refine At.call f35 18 #[.agg #[.slice Ag0 g.ow.length cg0, .slice Ag1 g.pr.length cg1, .slice Ag2 g.mv.length cg2]] (some 20) (by kernel_rfl) (dualM_any (g := g) (r8.wide (Nat.zero_le _) (by omega))) ?_
 rintro e_ w52 ⟨A37, c38, A39, c40, A41, c42, rfl, he, ow43, ow44, ow45⟩
 have hip49 := dual_inner (inner_len (RdG.mv (r8.wide (Nat.zero_le _) (by omega))))
 have := dual_lens g
 have r50 : RdG w52 (w25.heap.size) w52.heap.size A37 A39 A41 c38 c40 c42 (dualG g) := ⟨(OwnR.rdR ow43 (by show _ * 8 ≤ _; omega)).rdI, (OwnR.rdR ow44 (by show _ * 8 ≤ _; omega)).rdI, OwnLLP.rdII ow45 (by omega) hip49, ow43.cap, ow44.cap, ow45.cap⟩
 clear ow43 ow44 ow45
 refine ⟨_, rfl, _, rfl, fun act53 f54 => ?_⟩
 clear f35
 have g55 := gr_ext he
 have szw52 := g55.size
 replace e0 := e0.gr g55 no_row
 replace r8 := r8.gr g55 (fun _ h => by cases h)
 replace r9 := r9.gr g55 (fun _ h => by cases h)
 replace bx10 := bx10.gr g55 (by simp)
 clear g55 he
 refine At.seq f54 1 [[]] [(5, .pointer (some ⟨w52.heap.size, 0, none⟩))] (w52.alloc (.cells #[.slice none 0 0, .slice none 0 0, .slice none 0 0] 25 (0, 0))) [] (by kernel_rfl) trivial (fun act63 w60 hw61 f62 => ?_)
 clear f54
 have g64 := gr_alloc hw61
 have szw60 := g64.size
 replace e0 := e0.gr g64 no_row
 replace r8 := r8.gr g64 (fun _ h => by cases h)
 replace r9 := r9.gr g64 (fun _ h => by cases h)
 replace bx10 := bx10.gr g64 (by simp)
 replace r50 := r50.gr g64 (fun _ h => by cases h)
 have bx71 : Bx w60 (w52.heap.size) [.slice none 0 0, .slice none 0 0, .slice none 0 0] 25 := Bx.new hw61
 have := bx71.lt
 clear g64 hw61
 refine At.store f62 (t := 25) (b := w52.heap.size) (off := 0) (v := .agg #[.slice A37 ((dualG g).ow.length) c38, .slice A39 ((dualG g).pr.length) c40, .slice A41 ((dualG g).mv.length) c42]) (by kernel_rfl) bx71 (by kernel_rfl) (fun act76 w72 g73 bx74 f75 => ?_)
 clear f62
 replace bx74 : Bx w72 (w52.heap.size) [.slice A37 ((dualG g).ow.length) c38, .slice A39 ((dualG g).pr.length) c40, .slice A41 ((dualG g).mv.length) c42] 25 := bx74
 have szw72 := g73.size
 replace e0 := e0.gr g73 (fun k h => by injection h; omega)
 replace r8 := r8.gr g73 (fun k h => by injection h; omega)
 replace r9 := r9.gr g73 (fun k h => by injection h; omega)
 replace bx10 := bx10.gr g73 (fun h => by injection h; omega)
 replace r50 := r50.gr g73 (fun k h => by injection h; omega)
 clear bx71 g73
 refine At.done rfl ?_
 refine t_n ?_
 refine wp_seq ?_
 refine At.start ?_
 refine At.rd f75 1 [[.ld (.slice Ag0 g.ow.length cg0), .ld (.slice Ag1 g.pr.length cg1), .ld (.slice Ag2 g.mv.length cg2)]] [(21, .agg #[.slice Ag0 g.ow.length cg0, .slice Ag1 g.pr.length cg1, .slice Ag2 g.mv.length cg2])] [(w72.cell? ⟨w.heap.size, 0, none⟩ = some (.slice Ag0 g.ow.length cg0)), (w72.cell? ⟨w.heap.size, 1, none⟩ = some (.slice Ag1 g.pr.length cg1)), (w72.cell? ⟨w.heap.size, 2, none⟩ = some (.slice Ag2 g.mv.length cg2))] (by kernel_rfl) ⟨(bx10.cell (i := 0) rfl), (bx10.cell (i := 1) rfl), (bx10.cell (i := 2) rfl), trivial⟩ (fun act83 f82 => ?_)
 clear f75
 refine At.call f82 28 #[.agg #[.slice Ag0 g.ow.length cg0, .slice Ag1 g.pr.length cg1, .slice Ag2 g.mv.length cg2], .int .i64 (0)] (some 22) (by kernel_rfl) (atG_any (g := g) (p := 0) (r8.wide (Nat.zero_le _) (by omega))) ?_
 rintro e_ w84 ⟨rfl, he⟩
 refine ⟨_, rfl, _, rfl, fun act85 f86 => ?_⟩
 clear f82
 have g87 := gr_ext he
 have szw84 := g87.size
 replace e0 := e0.gr g87 no_row
 replace r8 := r8.gr g87 (fun _ h => by cases h)
 replace r9 := r9.gr g87 (fun _ h => by cases h)
 replace bx10 := bx10.gr g87 (by simp)
 replace r50 := r50.gr g87 (fun _ h => by cases h)
 replace bx74 := bx74.gr g87 (by simp)
 clear g87 he
 refine At.rd f86 3 [[], [.cs [wV (gI (wordsD (amoD g.pr 0)) 0), wV (gI (wordsD (amoD g.pr 0)) 1), wV (gI (wordsD (amoD g.pr 0)) 2), wV (gI (wordsD (amoD g.pr 0)) 3)], .cs [wV (gI ([0, 0, 0, 0]) 0), wV (gI ([0, 0, 0, 0]) 1), wV (gI ([0, 0, 0, 0]) 2), wV (gI ([0, 0, 0, 0]) 3)], .as_ (.bool (!(decide ((wordsD (amoD g.pr 0) : List Int) = ([0, 0, 0, 0])))))], []] [(6, .bool (!(decide ((wordsD (amoD g.pr 0) : List Int) = ([0, 0, 0, 0]))))), (24, .bool (!(decide ((wordsD (amoD g.pr 0) : List Int) = ([0, 0, 0, 0]))))), (23, .agg (([0, 0, 0, 0] : List Int).map wV).toArray)] [(((wordsD (amoD g.pr 0) : List Int).map wV).toArray = ([wV (gI (wordsD (amoD g.pr 0)) 0), wV (gI (wordsD (amoD g.pr 0)) 1), wV (gI (wordsD (amoD g.pr 0)) 2), wV (gI (wordsD (amoD g.pr 0)) 3)] : List Value).toArray), ((([0, 0, 0, 0] : List Int).map wV).toArray = ([wV (gI ([0, 0, 0, 0]) 0), wV (gI ([0, 0, 0, 0]) 1), wV (gI ([0, 0, 0, 0]) 2), wV (gI ([0, 0, 0, 0]) 3)] : List Value).toArray), ((.bool (!(((gI (wordsD (amoD g.pr 0)) 0 : Int) == gI ([0, 0, 0, 0]) 0) && (((gI (wordsD (amoD g.pr 0)) 1 : Int) == gI ([0, 0, 0, 0]) 1) && (((gI (wordsD (amoD g.pr 0)) 2 : Int) == gI ([0, 0, 0, 0]) 2) && (((gI (wordsD (amoD g.pr 0)) 3 : Int) == gI ([0, 0, 0, 0]) 3) && true))))) : Value) = .bool (!(decide ((wordsD (amoD g.pr 0) : List Int) = ([0, 0, 0, 0])))))] (by kernel_rfl) ⟨(map4 (okLen (wordsD_W _))), (map4 (okLen okW_00)), (congrArg (fun b => Value.bool (!b)) (w4_eq (okLen (wordsD_W _)) (okLen okW_00))), trivial⟩ (fun act95 f94 => ?_)
 clear f86
 refine At.done rfl ?_
 refine t_n ?_
 refine wp_seq ?_
 refine At.start ?_
 refine At.rd f94 1 [[.ld (.slice Ag0 g.ow.length cg0), .ld (.slice Ag1 g.pr.length cg1), .ld (.slice Ag2 g.mv.length cg2)]] [(25, .agg #[.slice Ag0 g.ow.length cg0, .slice Ag1 g.pr.length cg1, .slice Ag2 g.mv.length cg2])] [(w84.cell? ⟨w.heap.size, 0, none⟩ = some (.slice Ag0 g.ow.length cg0)), (w84.cell? ⟨w.heap.size, 1, none⟩ = some (.slice Ag1 g.pr.length cg1)), (w84.cell? ⟨w.heap.size, 2, none⟩ = some (.slice Ag2 g.mv.length cg2))] (by kernel_rfl) ⟨(bx10.cell (i := 0) rfl), (bx10.cell (i := 1) rfl), (bx10.cell (i := 2) rfl), trivial⟩ (fun act97 f96 => ?_)
 clear f94
 refine At.call f96 28 #[.agg #[.slice Ag0 g.ow.length cg0, .slice Ag1 g.pr.length cg1, .slice Ag2 g.mv.length cg2], .int .i64 (7)] (some 26) (by kernel_rfl) (atG_any (g := g) (p := 7) (r8.wide (Nat.zero_le _) (by omega))) ?_
 rintro e_ w98 ⟨rfl, he⟩
 refine ⟨_, rfl, _, rfl, fun act99 f100 => ?_⟩
 clear f96
 have g101 := gr_ext he
 have szw98 := g101.size
 replace e0 := e0.gr g101 no_row
 replace r8 := r8.gr g101 (fun _ h => by cases h)
 replace r9 := r9.gr g101 (fun _ h => by cases h)
 replace bx10 := bx10.gr g101 (by simp)
 replace r50 := r50.gr g101 (fun _ h => by cases h)
 replace bx74 := bx74.gr g101 (by simp)
 clear g101 he
 refine At.rd f100 3 [[], [.cs [wV (gI (wordsD (amoD g.pr 7)) 0), wV (gI (wordsD (amoD g.pr 7)) 1), wV (gI (wordsD (amoD g.pr 7)) 2), wV (gI (wordsD (amoD g.pr 7)) 3)], .cs [wV (gI ([0, 0, 0, 0]) 0), wV (gI ([0, 0, 0, 0]) 1), wV (gI ([0, 0, 0, 0]) 2), wV (gI ([0, 0, 0, 0]) 3)], .as_ (.bool (!(decide ((wordsD (amoD g.pr 7) : List Int) = ([0, 0, 0, 0])))))], []] [(7, .bool (!(decide ((wordsD (amoD g.pr 7) : List Int) = ([0, 0, 0, 0]))))), (28, .bool (!(decide ((wordsD (amoD g.pr 7) : List Int) = ([0, 0, 0, 0]))))), (27, .agg (([0, 0, 0, 0] : List Int).map wV).toArray)] [(((wordsD (amoD g.pr 7) : List Int).map wV).toArray = ([wV (gI (wordsD (amoD g.pr 7)) 0), wV (gI (wordsD (amoD g.pr 7)) 1), wV (gI (wordsD (amoD g.pr 7)) 2), wV (gI (wordsD (amoD g.pr 7)) 3)] : List Value).toArray), ((([0, 0, 0, 0] : List Int).map wV).toArray = ([wV (gI ([0, 0, 0, 0]) 0), wV (gI ([0, 0, 0, 0]) 1), wV (gI ([0, 0, 0, 0]) 2), wV (gI ([0, 0, 0, 0]) 3)] : List Value).toArray), ((.bool (!(((gI (wordsD (amoD g.pr 7)) 0 : Int) == gI ([0, 0, 0, 0]) 0) && (((gI (wordsD (amoD g.pr 7)) 1 : Int) == gI ([0, 0, 0, 0]) 1) && (((gI (wordsD (amoD g.pr 7)) 2 : Int) == gI ([0, 0, 0, 0]) 2) && (((gI (wordsD (amoD g.pr 7)) 3 : Int) == gI ([0, 0, 0, 0]) 3) && true))))) : Value) = .bool (!(decide ((wordsD (amoD g.pr 7) : List Int) = ([0, 0, 0, 0])))))] (by kernel_rfl) ⟨(map4 (okLen (wordsD_W _))), (map4 (okLen okW_00)), (congrArg (fun b => Value.bool (!b)) (w4_eq (okLen (wordsD_W _)) (okLen okW_00))), trivial⟩ (fun act109 f108 => ?_)
 clear f100
 refine At.done rfl ?_
 refine t_n ?_
 refine wp_seq (cut (fun a_ w_ => (Frm 218 a_ [(5, .pointer (some ⟨w52.heap.size, 0, none⟩)), (1, .pointer (some ⟨w.heap.size, 0, none⟩))]) ∧ (Ext w w_) ∧ (RdG w_ 0 w.heap.size Ag0 Ag1 Ag2 cg0 cg1 cg2 g) ∧ (RdT w_ 0 w.heap.size) ∧ (Bx w_ (w.heap.size) [.slice Ag0 g.ow.length cg0, .slice Ag1 g.pr.length cg1, .slice Ag2 g.mv.length cg2] 25) ∧ (RdG w_ (w25.heap.size) w52.heap.size A37 A39 A41 c38 c40 c42 (dualG g)) ∧ (Bx w_ (w52.heap.size) [.slice A37 ((dualG g).ow.length) c38, .slice A39 ((dualG g).pr.length) c40, .slice A41 ((dualG g).mv.length) c42] 25) ∧ (isR g = true) ∧ (¬ (7 ∈ g.pr ∧ 0 ∈ g.pr)) ∧ (w98.heap.size ≤ w_.heap.size)) ?_ ?_)
 ·refine wp_seq ?_
  refine At.start ?_
  rcases Bool.eq_false_or_eq_true (!(isR g)) with h110 | h110
  ·have q111 : (isR g) = false := by first | exact Eq.mp (Bool.not_eq_true' _) h110 | exact Eq.mp (Bool.not_eq_false' _) h110 | simpa using h110
   refine At.rd f108 12 [[], [], [], [], [], [], [.as_ (.bool true)], [], [], [], [], []] [(40, .bool true), (39, undef), (38, undef), (37, undef), (36, undef), (35, .bool true), (34, .bool (!(isR g))), (33, .bool (!(isR g))), (32, .bool (isR g)), (31, .bool false), (30, .bool false), (29, .bool true)] [((.bool (!(isR g)) : Value) = .bool true)] (by kernel_rfl) ⟨(congrArg Value.bool h110), trivial⟩ (fun act114 f113 => ?_)
   clear f108
   refine At.done rfl ?_
   refine t_n ?_
   have f115 := f113.sub (r := [(40, .bool true), (5, .pointer (some ⟨w52.heap.size, 0, none⟩)), (3, .bool true), (2, .bool false), (1, .pointer (some ⟨w.heap.size, 0, none⟩))]) ⟨rfl, rfl, rfl, rfl, rfl, trivial⟩
   clear f113
   refine cond_T f115 rfl ?_
   refine wp_seq ?_
   have hz_ : ((dualG g).ow.length : Int) + ((dualG g).pr.length : Int) + ((dualG g).mv.length : Int) = 0 := dual_zero (by first | exact .inl (by assumption) | exact .inr ⟨by assumption, by assumption, by assumption⟩)
   refine At.start ?_
   refine At.rd f115 16 [[], [], [], [.ld (.slice A37 ((dualG g).ow.length) c38)], [], [], [.ld (.slice A39 ((dualG g).pr.length) c40)], [], [.as_ (.int .i64 ((((dualG g).ow.length : Nat) : Int) + (((dualG g).pr.length : Nat) : Int)))], [], [.ld (.slice A41 ((dualG g).mv.length) c42)], [], [.as_ (.int .i64 (((((dualG g).ow.length : Nat) : Int) + (((dualG g).pr.length : Nat) : Int)) + (((dualG g).mv.length : Nat) : Int)))], [.as_ (.bool true)], [], []] [(2, .bool true), (55, .bool true), (54, .bool true), (53, .int .i64 (((((dualG g).ow.length : Nat) : Int) + (((dualG g).pr.length : Nat) : Int)) + (((dualG g).mv.length : Nat) : Int))), (52, .int .i64 ((((dualG g).mv.length : Nat) : Int))), (51, .slice A41 ((dualG g).mv.length) c42), (50, .pointer (some ⟨w52.heap.size, 2, none⟩)), (49, .int .i64 ((((dualG g).ow.length : Nat) : Int) + (((dualG g).pr.length : Nat) : Int))), (48, .int .i64 ((((dualG g).pr.length : Nat) : Int))), (47, .slice A39 ((dualG g).pr.length) c40), (46, .pointer (some ⟨w52.heap.size, 1, none⟩)), (45, .int .i64 ((((dualG g).ow.length : Nat) : Int))), (44, .slice A37 ((dualG g).ow.length) c38), (43, .pointer (some ⟨w52.heap.size, 0, none⟩)), (42, .bool true), (41, .bool true)] [(w98.cell? ⟨w52.heap.size, 0, none⟩ = some (.slice A37 ((dualG g).ow.length) c38)), (w98.cell? ⟨w52.heap.size, 1, none⟩ = some (.slice A39 ((dualG g).pr.length) c40)), ((.int .i64 (IntKind.i64.wrap ((((dualG g).ow.length : Nat) : Int) + (((dualG g).pr.length : Nat) : Int))) : Value) = .int .i64 ((((dualG g).ow.length : Nat) : Int) + (((dualG g).pr.length : Nat) : Int))), (w98.cell? ⟨w52.heap.size, 2, none⟩ = some (.slice A41 ((dualG g).mv.length) c42)), ((.int .i64 (IntKind.i64.wrap (((((dualG g).ow.length : Nat) : Int) + (((dualG g).pr.length : Nat) : Int)) + (((dualG g).mv.length : Nat) : Int))) : Value) = .int .i64 (((((dualG g).ow.length : Nat) : Int) + (((dualG g).pr.length : Nat) : Int)) + (((dualG g).mv.length : Nat) : Int))), ((.bool ((((((dualG g).ow.length : Nat) : Int) + (((dualG g).pr.length : Nat) : Int)) + (((dualG g).mv.length : Nat) : Int) : Int) == 0) : Value) = .bool true)] (by kernel_rfl) ⟨(bx74.cell (i := 0) rfl), (bx74.cell (i := 1) rfl), (w64 (by omega) (by omega)), (bx74.cell (i := 2) rfl), (w64 (by omega) (by omega)), (congrArg Value.bool (beqT (by omega))), trivial⟩ (fun act117 f116 => ?_)
   clear f115
   refine At.done rfl ?_
   refine t_n ?_
   have f118 := f116.sub (r := [(2, .bool true)]) ⟨rfl, trivial⟩
   clear f116
   refine wp_ret ?_
   refine t_r ?_
   refine ret_ f118 [] [.bool true] [] (by kernel_rfl) trivial ?_
   exact ⟨rfl, e0⟩
  ·have q119 : (isR g) = true := by first | exact Eq.mp (Bool.not_eq_true' _) h110 | exact Eq.mp (Bool.not_eq_false' _) h110 | simpa using h110
   rcases Bool.eq_false_or_eq_true (!(decide ((wordsD (amoD g.pr 0) : List Int) = ([0, 0, 0, 0])))) with h121 | h121
   ·have q122 : (decide ((wordsD (amoD g.pr 0) : List Int) = ([0, 0, 0, 0]))) = false := by first | exact Eq.mp (Bool.not_eq_true' _) h121 | exact Eq.mp (Bool.not_eq_false' _) h121 | simpa using h121
    have q123 := of_decide_eq_false q122
    refine At.rd f108 12 [[], [], [], [], [], [], [.as_ (.bool false)], [], [.as_ (.bool true)], [], [], []] [(40, .bool (!(decide ((wordsD (amoD g.pr 7) : List Int) = ([0, 0, 0, 0]))))), (39, .bool (!(decide ((wordsD (amoD g.pr 7) : List Int) = ([0, 0, 0, 0]))))), (38, .bool (!(decide ((wordsD (amoD g.pr 7) : List Int) = ([0, 0, 0, 0]))))), (37, .bool true), (36, .bool (!(decide ((wordsD (amoD g.pr 0) : List Int) = ([0, 0, 0, 0]))))), (35, .bool false), (34, .bool (!(isR g))), (33, .bool (!(isR g))), (32, .bool (isR g)), (31, .bool false), (30, .bool false), (29, .bool true)] [((.bool (!(isR g)) : Value) = .bool false), ((.bool (!(decide ((wordsD (amoD g.pr 0) : List Int) = ([0, 0, 0, 0])))) : Value) = .bool true)] (by kernel_rfl) ⟨(congrArg Value.bool h110), (congrArg Value.bool h121), trivial⟩ (fun act125 f124 => ?_)
    clear f108
    refine At.done rfl ?_
    refine t_n ?_
    have f126 := f124.sub (r := [(40, .bool (!(decide ((wordsD (amoD g.pr 7) : List Int) = ([0, 0, 0, 0]))))), (5, .pointer (some ⟨w52.heap.size, 0, none⟩)), (3, .bool true), (2, .bool false), (1, .pointer (some ⟨w.heap.size, 0, none⟩))]) ⟨rfl, rfl, rfl, rfl, rfl, trivial⟩
    clear f124
    refine cond_S f126 (t := !(decide ((wordsD (amoD g.pr 7) : List Int) = ([0, 0, 0, 0])))) rfl (fun h127 => ?_) (fun h127 => ?_)
    ·have q128 : (decide ((wordsD (amoD g.pr 7) : List Int) = ([0, 0, 0, 0]))) = false := by first | exact Eq.mp (Bool.not_eq_true' _) h127 | exact Eq.mp (Bool.not_eq_false' _) h127 | simpa using h127
     have q129 := of_decide_eq_false q128
     refine wp_seq ?_
     have hz_ : ((dualG g).ow.length : Int) + ((dualG g).pr.length : Int) + ((dualG g).mv.length : Int) = 0 := dual_zero (by first | exact .inl (by assumption) | exact .inr ⟨by assumption, by assumption, by assumption⟩)
     refine At.start ?_
     refine At.rd f126 16 [[], [], [], [.ld (.slice A37 ((dualG g).ow.length) c38)], [], [], [.ld (.slice A39 ((dualG g).pr.length) c40)], [], [.as_ (.int .i64 ((((dualG g).ow.length : Nat) : Int) + (((dualG g).pr.length : Nat) : Int)))], [], [.ld (.slice A41 ((dualG g).mv.length) c42)], [], [.as_ (.int .i64 (((((dualG g).ow.length : Nat) : Int) + (((dualG g).pr.length : Nat) : Int)) + (((dualG g).mv.length : Nat) : Int)))], [.as_ (.bool true)], [], []] [(2, .bool true), (55, .bool true), (54, .bool true), (53, .int .i64 (((((dualG g).ow.length : Nat) : Int) + (((dualG g).pr.length : Nat) : Int)) + (((dualG g).mv.length : Nat) : Int))), (52, .int .i64 ((((dualG g).mv.length : Nat) : Int))), (51, .slice A41 ((dualG g).mv.length) c42), (50, .pointer (some ⟨w52.heap.size, 2, none⟩)), (49, .int .i64 ((((dualG g).ow.length : Nat) : Int) + (((dualG g).pr.length : Nat) : Int))), (48, .int .i64 ((((dualG g).pr.length : Nat) : Int))), (47, .slice A39 ((dualG g).pr.length) c40), (46, .pointer (some ⟨w52.heap.size, 1, none⟩)), (45, .int .i64 ((((dualG g).ow.length : Nat) : Int))), (44, .slice A37 ((dualG g).ow.length) c38), (43, .pointer (some ⟨w52.heap.size, 0, none⟩)), (42, .bool true), (41, .bool true)] [(w98.cell? ⟨w52.heap.size, 0, none⟩ = some (.slice A37 ((dualG g).ow.length) c38)), (w98.cell? ⟨w52.heap.size, 1, none⟩ = some (.slice A39 ((dualG g).pr.length) c40)), ((.int .i64 (IntKind.i64.wrap ((((dualG g).ow.length : Nat) : Int) + (((dualG g).pr.length : Nat) : Int))) : Value) = .int .i64 ((((dualG g).ow.length : Nat) : Int) + (((dualG g).pr.length : Nat) : Int))), (w98.cell? ⟨w52.heap.size, 2, none⟩ = some (.slice A41 ((dualG g).mv.length) c42)), ((.int .i64 (IntKind.i64.wrap (((((dualG g).ow.length : Nat) : Int) + (((dualG g).pr.length : Nat) : Int)) + (((dualG g).mv.length : Nat) : Int))) : Value) = .int .i64 (((((dualG g).ow.length : Nat) : Int) + (((dualG g).pr.length : Nat) : Int)) + (((dualG g).mv.length : Nat) : Int))), ((.bool ((((((dualG g).ow.length : Nat) : Int) + (((dualG g).pr.length : Nat) : Int)) + (((dualG g).mv.length : Nat) : Int) : Int) == 0) : Value) = .bool true)] (by kernel_rfl) ⟨(bx74.cell (i := 0) rfl), (bx74.cell (i := 1) rfl), (w64 (by omega) (by omega)), (bx74.cell (i := 2) rfl), (w64 (by omega) (by omega)), (congrArg Value.bool (beqT (by omega))), trivial⟩ (fun act131 f130 => ?_)
     clear f126
     refine At.done rfl ?_
     refine t_n ?_
     have f132 := f130.sub (r := [(2, .bool true)]) ⟨rfl, trivial⟩
     clear f130
     refine wp_ret ?_
     refine t_r ?_
     refine ret_ f132 [] [.bool true] [] (by kernel_rfl) trivial ?_
     exact ⟨rfl, e0⟩
    ·have q133 : (decide ((wordsD (amoD g.pr 7) : List Int) = ([0, 0, 0, 0]))) = true := by first | exact Eq.mp (Bool.not_eq_true' _) h127 | exact Eq.mp (Bool.not_eq_false' _) h127 | simpa using h127
     have q134 := of_decide_eq_true q133
     refine wp_skip ?_
     refine t_n ?_
     have f135 := f126.sub (r := [(5, .pointer (some ⟨w52.heap.size, 0, none⟩)), (1, .pointer (some ⟨w.heap.size, 0, none⟩))]) ⟨rfl, rfl, trivial⟩
     exact ⟨f135, e0, r8, r9, bx10, r50, bx74, (by assumption), (dual_can (by assumption) (by first | exact .inl (by assumption) | exact .inr (by assumption))), (by omega)⟩
   ·have q136 : (decide ((wordsD (amoD g.pr 0) : List Int) = ([0, 0, 0, 0]))) = true := by first | exact Eq.mp (Bool.not_eq_true' _) h121 | exact Eq.mp (Bool.not_eq_false' _) h121 | simpa using h121
    have q137 := of_decide_eq_true q136
    refine At.rd f108 12 [[], [], [], [], [], [], [.as_ (.bool false)], [], [.as_ (.bool false)], [], [], []] [(40, .bool false), (39, .bool false), (38, undef), (37, .bool false), (36, .bool (!(decide ((wordsD (amoD g.pr 0) : List Int) = ([0, 0, 0, 0]))))), (35, .bool false), (34, .bool (!(isR g))), (33, .bool (!(isR g))), (32, .bool (isR g)), (31, .bool false), (30, .bool false), (29, .bool true)] [((.bool (!(isR g)) : Value) = .bool false), ((.bool (!(decide ((wordsD (amoD g.pr 0) : List Int) = ([0, 0, 0, 0])))) : Value) = .bool false)] (by kernel_rfl) ⟨(congrArg Value.bool h110), (congrArg Value.bool h121), trivial⟩ (fun act139 f138 => ?_)
    clear f108
    refine At.done rfl ?_
    refine t_n ?_
    have f140 := f138.sub (r := [(40, .bool false), (5, .pointer (some ⟨w52.heap.size, 0, none⟩)), (3, .bool true), (2, .bool false), (1, .pointer (some ⟨w.heap.size, 0, none⟩))]) ⟨rfl, rfl, rfl, rfl, rfl, trivial⟩
    clear f138
    refine cond_F f140 rfl ?_
    refine wp_skip ?_
    refine t_n ?_
    have f141 := f140.sub (r := [(5, .pointer (some ⟨w52.heap.size, 0, none⟩)), (1, .pointer (some ⟨w.heap.size, 0, none⟩))]) ⟨rfl, rfl, trivial⟩
    exact ⟨f141, e0, r8, r9, bx10, r50, bx74, (by assumption), (dual_can (by assumption) (by first | exact .inl (by assumption) | exact .inr (by assumption))), (by omega)⟩
 ·clear r8
  clear r9
  clear bx10
  clear r50
  clear bx74
  clear f108 e0
  intro act142 w143 ⟨f144, e145, r146, r147, bx148, r149, bx150, i151, i152, i153⟩
  have szw143 := e145.size
  have := bx148.lt
  have := bx150.lt
  refine wp_seq ?_
  have hR : isR g = true := by assumption
  have hG := isR_ok hR
  have hn1 := hG.n1
  have hn0 := hG.n0
  have hpl := hG.pl
  have hml := hG.ml
  have hD : ¬ (7 ∈ g.pr ∧ 0 ∈ g.pr) := by assumption
  have hDT := dual_t hR hD
  have hdo := hDT.lo
  have hdq := hDT.lp
  have hdm := hDT.lm
  have hby := hDT.by_
  refine At.start ?_
  refine At.rd f144 1 [[.ld (.slice A37 ((dualG g).ow.length) c38), .ld (.slice A39 ((dualG g).pr.length) c40), .ld (.slice A41 ((dualG g).mv.length) c42)]] [(57, .agg #[.slice A37 ((dualG g).ow.length) c38, .slice A39 ((dualG g).pr.length) c40, .slice A41 ((dualG g).mv.length) c42])] [(w143.cell? ⟨w52.heap.size, 0, none⟩ = some (.slice A37 ((dualG g).ow.length) c38)), (w143.cell? ⟨w52.heap.size, 1, none⟩ = some (.slice A39 ((dualG g).pr.length) c40)), (w143.cell? ⟨w52.heap.size, 2, none⟩ = some (.slice A41 ((dualG g).mv.length) c42))] (by kernel_rfl) ⟨(bx150.cell (i := 0) rfl), (bx150.cell (i := 1) rfl), (bx150.cell (i := 2) rfl), trivial⟩ (fun act155 f154 => ?_)
  clear f144
  refine At.call f154 14 #[.agg #[.slice A37 ((dualG g).ow.length) c38, .slice A39 ((dualG g).pr.length) c40, .slice A41 ((dualG g).mv.length) c42]] (some 58) (by kernel_rfl) (right_any (r149.wide (Nat.zero_le _) (by omega))) ?_
  rintro e_ w156 ⟨rfl, he⟩
  refine ⟨_, rfl, _, rfl, fun act157 f158 => ?_⟩
  clear f154
  have g159 := gr_ext he
  have szw156 := g159.size
  replace e145 := e145.gr g159 no_row
  replace r146 := r146.gr g159 (fun _ h => by cases h)
  replace r147 := r147.gr g159 (fun _ h => by cases h)
  replace bx148 := bx148.gr g159 (by simp)
  replace r149 := r149.gr g159 (fun _ h => by cases h)
  replace bx150 := bx150.gr g159 (by simp)
  clear g159 he
  refine At.rd f158 5 [[], [], [], [], []] [(9, .int .i64 ((rightP (dualG g)).2)), (8, .int .i64 ((rightP (dualG g)).1)), (60, .int .i64 ((rightP (dualG g)).2)), (59, .int .i64 ((rightP (dualG g)).1)), (56, .tuple #[.int .i64 ((rightP (dualG g)).1), .int .i64 ((rightP (dualG g)).2)])] [] (by kernel_rfl) trivial (fun act167 f166 => ?_)
  clear f158
  refine At.done rfl ?_
  refine t_n ?_
  refine wp_seq ?_
  refine At.start ?_
  refine At.rd f166 4 [[], [.ld (.slice Ag0 g.ow.length cg0)], [], []] [(10, .int .i64 (((g.ow.length : Nat) : Int))), (63, .int .i64 (((g.ow.length : Nat) : Int))), (62, .slice Ag0 g.ow.length cg0), (61, .pointer (some ⟨w.heap.size, 0, none⟩))] [(w156.cell? ⟨w.heap.size, 0, none⟩ = some (.slice Ag0 g.ow.length cg0))] (by kernel_rfl) ⟨(bx148.cell (i := 0) rfl), trivial⟩ (fun act169 f168 => ?_)
  clear f166
  refine At.done rfl ?_
  refine t_n ?_
  refine wp_seq ?_
  refine wp_seq ?_
  refine At.start ?_
  refine At.rd f168 9 [[], [.as_ (.bool false)], [], [], [.ld (.slice A37 ((dualG g).ow.length) c38)], [], [], [.as_ (.bool false)], []] [(72, .bool false), (71, .bool false), (70, .int .i64 (((g.ow.length : Nat) : Int))), (69, .int .i64 ((((dualG g).ow.length : Nat) : Int))), (68, .slice A37 ((dualG g).ow.length) c38), (67, .pointer (some ⟨w52.heap.size, 0, none⟩)), (66, .bool false), (65, .bool false), (64, .int .i64 ((rightP (dualG g)).2))] [((.bool (((rightP (dualG g)).2 : Int) != 0) : Value) = .bool false), (w156.cell? ⟨w52.heap.size, 0, none⟩ = some (.slice A37 ((dualG g).ow.length) c38)), ((.bool (((((dualG g).ow.length : Nat) : Int) : Int) != ((g.ow.length : Nat) : Int)) : Value) = .bool false)] (by kernel_rfl) ⟨(congrArg Value.bool (bneF (by rw [rightP_ok hDT.r]))), (bx150.cell (i := 0) rfl), (congrArg Value.bool (bneF (by omega))), trivial⟩ (fun act171 f170 => ?_)
  clear f168
  refine At.done rfl ?_
  refine t_n ?_
  have f172 := f170.sub (r := [(72, .bool false), (10, .int .i64 (((g.ow.length : Nat) : Int))), (5, .pointer (some ⟨w52.heap.size, 0, none⟩)), (1, .pointer (some ⟨w.heap.size, 0, none⟩))]) ⟨rfl, rfl, rfl, rfl, trivial⟩
  clear f170
  refine cond_F f172 rfl ?_
  refine wp_skip ?_
  refine t_n ?_
  refine wp_seq ?_
  refine wp_seq ?_
  refine At.start ?_
  refine At.rd f172 1 [[]] [(11, .int .i64 (0))] [] (by kernel_rfl) trivial (fun act174 f173 => ?_)
  clear f172
  refine At.done rfl ?_
  refine t_n ?_
  refine wp_block ?_
  have f175 := f173.sub (r := [(11, .int .i64 (0)), (10, .int .i64 (((g.ow.length : Nat) : Int))), (5, .pointer (some ⟨w52.heap.size, 0, none⟩)), (1, .pointer (some ⟨w.heap.size, 0, none⟩))]) ⟨rfl, rfl, rfl, rfl, trivial⟩
  refine loop_g (fun (m_ : Nat) a_ w_ => ∃ (i : Int), m_ = ((g.ow.length : Int) - i).toNat ∧ (Frm 218 a_ [(11, .int .i64 (i)), (10, .int .i64 (((g.ow.length : Nat) : Int))), (5, .pointer (some ⟨w52.heap.size, 0, none⟩)), (1, .pointer (some ⟨w.heap.size, 0, none⟩))]) ∧ (Ext w w_) ∧ (RdG w_ 0 w.heap.size Ag0 Ag1 Ag2 cg0 cg1 cg2 g) ∧ (RdT w_ 0 w.heap.size) ∧ (Bx w_ (w.heap.size) [.slice Ag0 g.ow.length cg0, .slice Ag1 g.pr.length cg1, .slice Ag2 g.mv.length cg2] 25) ∧ (RdG w_ (w25.heap.size) w52.heap.size A37 A39 A41 c38 c40 c42 (dualG g)) ∧ (Bx w_ (w52.heap.size) [.slice A37 ((dualG g).ow.length) c38, .slice A39 ((dualG g).pr.length) c40, .slice A41 ((dualG g).mv.length) c42] 25) ∧ (0 ≤ i) ∧ (i ≤ (g.ow.length : Int))) _ ⟨0, rfl, f175, e145, r146, r147, bx148, r149, bx150, (by omega), (by omega)⟩ ?_
  clear f175 f173
  clear r146
  clear r147
  clear bx148
  clear r149
  clear bx150
  clear e145
  intro m_ act176 w177 ⟨i, hm179, f180, e178, r181, r182, bx183, r184, bx185, i186, i187⟩
  have szw177 := e178.size
  have := bx183.lt
  have := bx185.lt
  refine wp_seq ?_
  refine wp_seq ?_
  refine At.start ?_
  refine At.rd f180 3 [[], [], []] [(75, .bool (decide ((i : Int) < ((g.ow.length : Nat) : Int)))), (74, .int .i64 (((g.ow.length : Nat) : Int))), (73, .int .i64 (i))] [] (by kernel_rfl) trivial (fun act189 f188 => ?_)
  clear f180
  refine At.done rfl ?_
  refine t_n ?_
  refine cond_S f188 (t := decide ((i : Int) < ((g.ow.length : Nat) : Int))) rfl (fun h190 => ?_) (fun h190 => ?_)
  ·have q191 := of_decide_eq_true h190
   refine wp_skip ?_
   refine t_n ?_
   refine wp_seq ?_
   refine wp_block ?_
   refine wp_seq ?_
   obtain ⟨ad192, R195, C196, hA193, _, _, hc194, hC197, r198⟩ := RdII.get r184.mv (i) (by omega) (by omega)
   have hl199 := r198.len
   obtain ⟨ad201, R204, C205, hA202, _, _, hc203, hC206, r207⟩ := RdII.get r181.mv (i) (by omega) (by omega)
   have hl208 := r207.len
   obtain ⟨Cs210, hCs211⟩ : ∃ c : List (Addr × Value), c = [(⟨w52.heap.size, 2, none⟩, (.slice A41 ((dualG g).mv.length) c42)), ((ad192.add ((i : Int).toNat * 1)), (.slice R195 ((gL ((dualG g).mv) (i)).length) C196)), (⟨w.heap.size, 2, none⟩, (.slice Ag2 g.mv.length cg2)), ((ad201.add ((i : Int).toNat * 1)), (.slice R204 ((gL g.mv (i)).length) C205))] := ⟨_, rfl⟩
   have hS212 : HoldsC Cs210 w177 := by rw [hCs211]; exact ⟨(bx185.cell (i := 2) rfl), hc194, (bx183.cell (i := 2) rfl), hc203, trivial⟩
   refine AtH.start Cs210 12 #[false, false, false, false, false, false, false, false, false, false, false, false] (by kernel_rfl) rfl rfl (fun w214 hw215 => ?_)
   have g213 := gr_drew hw215
   have hS216 := hS212.gr g213
   have szw214 := g213.size
   replace e178 := e178.gr g213 no_row
   replace r181 := r181.gr g213 (fun _ h => by cases h)
   replace r182 := r182.gr g213 (fun _ h => by cases h)
   replace bx183 := bx183.gr g213 (by simp)
   replace r184 := r184.gr g213 (fun _ h => by cases h)
   replace bx185 := bx185.gr g213 (by simp)
   replace r198 := r198.gr g213 (fun _ h => by cases h)
   replace r207 := r207.gr g213 (fun _ h => by cases h)
   clear g213 hw215 hS212
   refine AtH.rd (by kernel_rfl) (fun d v c a w h => by cases d <;> exact h) hS216 [0, 1, 2, 3, 4, 5, 6, 7, 8, 9] [[], [.ld (.slice A41 ((dualG g).mv.length) c42)], [], [.ad ad192], [.ld (.slice R195 ((gL ((dualG g).mv) (i)).length) C196)], [], [.ld (.slice Ag2 g.mv.length cg2)], [], [.ad ad201], [.ld (.slice R204 ((gL g.mv (i)).length) C205)]] [(87, .slice R204 ((gL g.mv (i)).length) C205), (86, .pointer (some (ad201.add ((i : Int).toNat * 1)))), (85, .int .i64 (i)), (84, .slice Ag2 g.mv.length cg2), (83, .pointer (some ⟨w.heap.size, 2, none⟩)), (82, .slice R195 ((gL ((dualG g).mv) (i)).length) C196), (81, .pointer (some (ad192.add ((i : Int).toNat * 1)))), (80, .int .i64 (i)), (79, .slice A41 ((dualG g).mv.length) c42), (78, .pointer (some ⟨w52.heap.size, 2, none⟩))] #[true, true, true, true, true, true, true, true, true, true, false, false] [(∃ j_ : Nat, Cs210[j_]? = some (⟨w52.heap.size, 2, none⟩, (.slice A41 ((dualG g).mv.length) c42))), (A41 = some ad192), (0 ≤ (i : Int)), ((i : Int) < ((dualG g).mv.length : Nat)), (∃ j_ : Nat, Cs210[j_]? = some ((ad192.add ((i : Int).toNat * 1)), (.slice R195 ((gL ((dualG g).mv) (i)).length) C196))), (∃ j_ : Nat, Cs210[j_]? = some (⟨w.heap.size, 2, none⟩, (.slice Ag2 g.mv.length cg2))), (Ag2 = some ad201), (0 ≤ (i : Int)), ((i : Int) < (g.mv.length : Nat)), (∃ j_ : Nat, Cs210[j_]? = some ((ad201.add ((i : Int).toNat * 1)), (.slice R204 ((gL g.mv (i)).length) C205)))] 2 f188 (by kernel_rfl) ⟨⟨0, by rw [hCs211]; rfl⟩, hA193, (by omega), (by omega), ⟨1, by rw [hCs211]; rfl⟩, ⟨2, by rw [hCs211]; rfl⟩, hA202, (by omega), (by omega), ⟨3, by rw [hCs211]; rfl⟩, trivial⟩ (fun act226 f225 => ?_)
   clear f188
   refine AtH.all [10] 1 (by kernel_rfl) (by simp) ⟨?_, trivial⟩
   refine OneH.call f225 24 #[.slice R195 ((gL ((dualG g).mv) (i)).length) C196, .slice R204 ((gL g.mv (i)).length) C205] (some 88) #[true, true, true, true, true, true, true, true, true, true, true, false] (by kernel_rfl) (by kernel_rfl) ((sameInts_any (la := gL ((dualG g).mv) (i)) (lb := gL g.mv (i)) (r198.wide (Nat.zero_le _) (by omega)) (r207.wide (Nat.zero_le _) (by omega))).mono (R' := fun e w' => e = .returned (.bool true) ∧ Ext _ w') (fun e_ w_ h_ => by rw [show (decide (gL ((dualG g).mv) (i) = gL g.mv (i)) : Bool) = true from decide_eq_true (by rw [hDT.mv])] at h_; exact h_)) ?_
   rintro e_ w228 ⟨rfl, he⟩
   refine ⟨_, rfl, _, rfl, fun act229 f230 => ?_⟩
   clear f225
   have g231 := gr_ext he
   have hS227 := hS216.gr g231
   have szw228 := g231.size
   replace e178 := e178.gr g231 no_row
   replace r181 := r181.gr g231 (fun _ h => by cases h)
   replace r182 := r182.gr g231 (fun _ h => by cases h)
   replace bx183 := bx183.gr g231 (by simp)
   replace r184 := r184.gr g231 (fun _ h => by cases h)
   replace bx185 := bx185.gr g231 (by simp)
   replace r198 := r198.gr g231 (fun _ h => by cases h)
   replace r207 := r207.gr g231 (fun _ h => by cases h)
   clear g231 he
   refine ⟨hS227, ?_⟩
   refine AtH.rd (by kernel_rfl) (fun d v c a w h => by cases d <;> exact h) hS227 [11] [[]] [(12, .bool true)] #[true, true, true, true, true, true, true, true, true, true, true, true] [] 0 f230 (by kernel_rfl) trivial (fun act241 f240 => ?_)
   clear f230
   refine AtH.done (by kernel_rfl) ?_
   clear hS227
   refine t_n ?_
   refine wp_seq ?_
   refine wp_seq ?_
   have hdo_ := hDT.ow i (by omega) (by omega)
   have hdp_ := hDT.pr i (by omega) (by omega)
   have hgp_ := hG.pr i (by omega) (by omega)
   have hdr_ := hDT.r.pr i (by omega) (by omega)
   obtain ⟨ad242, hA243, _, _, hc244⟩ := RdI.get r184.ow (i) (by omega) (by omega)
   obtain ⟨ad245, hA246, _, _, hc247⟩ := RdI.get r181.ow (i) (by omega) (by omega)
   obtain ⟨ad248, hA249, _, _, hc250⟩ := RdI.get r184.pr (i) (by omega) (by omega)
   obtain ⟨ad251, hA252, _, _, hc253⟩ := RdI.get r181.pr (i) (by omega) (by omega)
   refine drawn_ro f240 (by kernel_rfl) (by kernel_rfl) [[], [], [], [], [.ld (.slice A37 ((dualG g).ow.length) c38)], [], [.ad ad242], [.ld (.int .i64 (gI ((dualG g).ow) (i)))], [], [.ld (.slice Ag0 g.ow.length cg0)], [], [.ad ad245], [.ld (.int .i64 (gI g.ow (i)))], [.as_ (.bool false)], [], [], [], [.ld (.slice A39 ((dualG g).pr.length) c40)], [], [.ad ad248], [.ld (.int .i64 (gI ((dualG g).pr) (i)))], [], [.ld (.slice Ag1 g.pr.length cg1)], [], [.ad ad251], [.ld (.int .i64 (gI g.pr (i)))], [.as_ (.int .i64 ((gI ((dualG g).pr) (i)) + (gI g.pr (i))))], [.as_ (.int .i64 (((gI ((dualG g).pr) (i)) + (gI g.pr (i)) : Int) % 2))], [.as_ (.bool false)], []] [(118, .bool false), (117, .bool false), (116, .int .i64 (((gI ((dualG g).pr) (i)) + (gI g.pr (i)) : Int) % 2)), (115, .int .i64 ((gI ((dualG g).pr) (i)) + (gI g.pr (i)))), (114, .int .i64 (gI g.pr (i))), (113, .pointer (some (ad251.add ((i : Int).toNat * 1)))), (112, .int .i64 (i)), (111, .slice Ag1 g.pr.length cg1), (110, .pointer (some ⟨w.heap.size, 1, none⟩)), (109, .int .i64 (gI ((dualG g).pr) (i))), (108, .pointer (some (ad248.add ((i : Int).toNat * 1)))), (107, .int .i64 (i)), (106, .slice A39 ((dualG g).pr.length) c40), (105, .pointer (some ⟨w52.heap.size, 1, none⟩)), (104, .bool false), (103, .bool false), (102, .bool false), (101, .int .i64 (gI g.ow (i))), (100, .pointer (some (ad245.add ((i : Int).toNat * 1)))), (99, .int .i64 (i)), (98, .slice Ag0 g.ow.length cg0), (97, .pointer (some ⟨w.heap.size, 0, none⟩)), (96, .int .i64 (gI ((dualG g).ow) (i))), (95, .pointer (some (ad242.add ((i : Int).toNat * 1)))), (94, .int .i64 (i)), (93, .slice A37 ((dualG g).ow.length) c38), (92, .pointer (some ⟨w52.heap.size, 0, none⟩)), (91, .bool false), (90, .bool false), (89, .bool true)] [(w228.cell? ⟨w52.heap.size, 0, none⟩ = some (.slice A37 ((dualG g).ow.length) c38)), (A37 = some ad242), (0 ≤ (i : Int)), ((i : Int) < ((dualG g).ow.length : Nat)), (w228.cell? (ad242.add ((i : Int).toNat * 1)) = some (.int .i64 (gI ((dualG g).ow) (i)))), (w228.cell? ⟨w.heap.size, 0, none⟩ = some (.slice Ag0 g.ow.length cg0)), (Ag0 = some ad245), (0 ≤ (i : Int)), ((i : Int) < (g.ow.length : Nat)), (w228.cell? (ad245.add ((i : Int).toNat * 1)) = some (.int .i64 (gI g.ow (i)))), ((.bool ((gI ((dualG g).ow) (i) : Int) == (gI g.ow (i))) : Value) = .bool false), (w228.cell? ⟨w52.heap.size, 1, none⟩ = some (.slice A39 ((dualG g).pr.length) c40)), (A39 = some ad248), (0 ≤ (i : Int)), ((i : Int) < ((dualG g).pr.length : Nat)), (w228.cell? (ad248.add ((i : Int).toNat * 1)) = some (.int .i64 (gI ((dualG g).pr) (i)))), (w228.cell? ⟨w.heap.size, 1, none⟩ = some (.slice Ag1 g.pr.length cg1)), (Ag1 = some ad251), (0 ≤ (i : Int)), ((i : Int) < (g.pr.length : Nat)), (w228.cell? (ad251.add ((i : Int).toNat * 1)) = some (.int .i64 (gI g.pr (i)))), ((.int .i64 (IntKind.i64.wrap ((gI ((dualG g).pr) (i)) + (gI g.pr (i)))) : Value) = .int .i64 ((gI ((dualG g).pr) (i)) + (gI g.pr (i)))), ((2 : Int) ≠ 0), ((.int .i64 (((gI ((dualG g).pr) (i)) + (gI g.pr (i)) : Int).tmod 2) : Value) = .int .i64 (((gI ((dualG g).pr) (i)) + (gI g.pr (i)) : Int) % 2)), ((.bool ((((gI ((dualG g).pr) (i)) + (gI g.pr (i)) : Int) % 2 : Int) != 1) : Value) = .bool false)] (by kernel_rfl) ⟨(bx185.cell (i := 0) rfl), hA243, (by omega), (by omega), hc244, (bx183.cell (i := 0) rfl), hA246, (by omega), (by omega), hc247, (congrArg Value.bool (beqF (by omega))), (bx185.cell (i := 1) rfl), hA249, (by omega), (by omega), hc250, (bx183.cell (i := 1) rfl), hA252, (by omega), (by omega), hc253, (w64 (by omega) (by omega)), (by omega), (congrArg (Value.int .i64) (tmodE (by omega) _)), (congrArg Value.bool (bneF (by omega))), trivial⟩ (fun act255 w256 hw257 f254 => ?_)
   clear f240
   have g258 := gr_drew hw257
   have szw256 := g258.size
   replace e178 := e178.gr g258 no_row
   replace r181 := r181.gr g258 (fun _ h => by cases h)
   replace r182 := r182.gr g258 (fun _ h => by cases h)
   replace bx183 := bx183.gr g258 (by simp)
   replace r184 := r184.gr g258 (fun _ h => by cases h)
   replace bx185 := bx185.gr g258 (by simp)
   replace r198 := r198.gr g258 (fun _ h => by cases h)
   replace r207 := r207.gr g258 (fun _ h => by cases h)
   clear g258 hw257
   refine t_n ?_
   have f267 := f254.sub (r := [(118, .bool false), (117, .bool false), (116, .int .i64 (((gI ((dualG g).pr) (i)) + (gI g.pr (i)) : Int) % 2)), (115, .int .i64 ((gI ((dualG g).pr) (i)) + (gI g.pr (i)))), (114, .int .i64 (gI g.pr (i))), (113, .pointer (some (ad251.add ((i : Int).toNat * 1)))), (112, .int .i64 (i)), (111, .slice Ag1 g.pr.length cg1), (110, .pointer (some ⟨w.heap.size, 1, none⟩)), (109, .int .i64 (gI ((dualG g).pr) (i))), (108, .pointer (some (ad248.add ((i : Int).toNat * 1)))), (107, .int .i64 (i)), (106, .slice A39 ((dualG g).pr.length) c40), (105, .pointer (some ⟨w52.heap.size, 1, none⟩)), (102, .bool false), (101, .int .i64 (gI g.ow (i))), (100, .pointer (some (ad245.add ((i : Int).toNat * 1)))), (99, .int .i64 (i)), (98, .slice Ag0 g.ow.length cg0), (97, .pointer (some ⟨w.heap.size, 0, none⟩)), (96, .int .i64 (gI ((dualG g).ow) (i))), (95, .pointer (some (ad242.add ((i : Int).toNat * 1)))), (94, .int .i64 (i)), (93, .slice A37 ((dualG g).ow.length) c38), (92, .pointer (some ⟨w52.heap.size, 0, none⟩)), (11, .int .i64 (i)), (10, .int .i64 (((g.ow.length : Nat) : Int))), (5, .pointer (some ⟨w52.heap.size, 0, none⟩)), (1, .pointer (some ⟨w.heap.size, 0, none⟩))]) ⟨rfl, rfl, rfl, rfl, rfl, rfl, rfl, rfl, rfl, rfl, rfl, rfl, rfl, rfl, rfl, rfl, rfl, rfl, rfl, rfl, rfl, rfl, rfl, rfl, rfl, rfl, rfl, rfl, rfl, trivial⟩
   clear f254
   refine cond_F f267 rfl ?_
   refine wp_skip ?_
   refine t_n ?_
   refine wp_seq ?_
   refine At.start ?_
   refine At.rd f267 1 [[]] [(13, .int .i64 (0))] [] (by kernel_rfl) trivial (fun act269 f268 => ?_)
   clear f267
   refine At.done rfl ?_
   refine t_n ?_
   refine wp_block ?_
   have f270 := f268.sub (r := [(13, .int .i64 (0)), (117, .bool false), (116, .int .i64 (((gI ((dualG g).pr) (i)) + (gI g.pr (i)) : Int) % 2)), (115, .int .i64 ((gI ((dualG g).pr) (i)) + (gI g.pr (i)))), (114, .int .i64 (gI g.pr (i))), (113, .pointer (some (ad251.add ((i : Int).toNat * 1)))), (112, .int .i64 (i)), (111, .slice Ag1 g.pr.length cg1), (110, .pointer (some ⟨w.heap.size, 1, none⟩)), (109, .int .i64 (gI ((dualG g).pr) (i))), (108, .pointer (some (ad248.add ((i : Int).toNat * 1)))), (107, .int .i64 (i)), (106, .slice A39 ((dualG g).pr.length) c40), (105, .pointer (some ⟨w52.heap.size, 1, none⟩)), (102, .bool false), (101, .int .i64 (gI g.ow (i))), (100, .pointer (some (ad245.add ((i : Int).toNat * 1)))), (99, .int .i64 (i)), (98, .slice Ag0 g.ow.length cg0), (97, .pointer (some ⟨w.heap.size, 0, none⟩)), (96, .int .i64 (gI ((dualG g).ow) (i))), (95, .pointer (some (ad242.add ((i : Int).toNat * 1)))), (94, .int .i64 (i)), (93, .slice A37 ((dualG g).ow.length) c38), (92, .pointer (some ⟨w52.heap.size, 0, none⟩)), (11, .int .i64 (i)), (10, .int .i64 (((g.ow.length : Nat) : Int))), (5, .pointer (some ⟨w52.heap.size, 0, none⟩)), (1, .pointer (some ⟨w.heap.size, 0, none⟩))]) ⟨rfl, rfl, rfl, rfl, rfl, rfl, rfl, rfl, rfl, rfl, rfl, rfl, rfl, rfl, rfl, rfl, rfl, rfl, rfl, rfl, rfl, rfl, rfl, rfl, rfl, rfl, rfl, rfl, rfl, trivial⟩
   refine loop_g (fun (m_ : Nat) a_ w_ => ∃ (k : Int), m_ = (i - k).toNat ∧ (Frm 218 a_ [(13, .int .i64 (k)), (117, .bool false), (116, .int .i64 (((gI ((dualG g).pr) (i)) + (gI g.pr (i)) : Int) % 2)), (115, .int .i64 ((gI ((dualG g).pr) (i)) + (gI g.pr (i)))), (114, .int .i64 (gI g.pr (i))), (113, .pointer (some (ad251.add ((i : Int).toNat * 1)))), (112, .int .i64 (i)), (111, .slice Ag1 g.pr.length cg1), (110, .pointer (some ⟨w.heap.size, 1, none⟩)), (109, .int .i64 (gI ((dualG g).pr) (i))), (108, .pointer (some (ad248.add ((i : Int).toNat * 1)))), (107, .int .i64 (i)), (106, .slice A39 ((dualG g).pr.length) c40), (105, .pointer (some ⟨w52.heap.size, 1, none⟩)), (102, .bool false), (101, .int .i64 (gI g.ow (i))), (100, .pointer (some (ad245.add ((i : Int).toNat * 1)))), (99, .int .i64 (i)), (98, .slice Ag0 g.ow.length cg0), (97, .pointer (some ⟨w.heap.size, 0, none⟩)), (96, .int .i64 (gI ((dualG g).ow) (i))), (95, .pointer (some (ad242.add ((i : Int).toNat * 1)))), (94, .int .i64 (i)), (93, .slice A37 ((dualG g).ow.length) c38), (92, .pointer (some ⟨w52.heap.size, 0, none⟩)), (11, .int .i64 (i)), (10, .int .i64 (((g.ow.length : Nat) : Int))), (5, .pointer (some ⟨w52.heap.size, 0, none⟩)), (1, .pointer (some ⟨w.heap.size, 0, none⟩))]) ∧ (Ext w w_) ∧ (RdG w_ 0 w.heap.size Ag0 Ag1 Ag2 cg0 cg1 cg2 g) ∧ (RdT w_ 0 w.heap.size) ∧ (Bx w_ (w.heap.size) [.slice Ag0 g.ow.length cg0, .slice Ag1 g.pr.length cg1, .slice Ag2 g.mv.length cg2] 25) ∧ (RdG w_ (w25.heap.size) w52.heap.size A37 A39 A41 c38 c40 c42 (dualG g)) ∧ (Bx w_ (w52.heap.size) [.slice A37 ((dualG g).ow.length) c38, .slice A39 ((dualG g).pr.length) c40, .slice A41 ((dualG g).mv.length) c42] 25) ∧ (0 ≤ k) ∧ (k ≤ i)) _ ⟨0, rfl, f270, e178, r181, r182, bx183, r184, bx185, (by omega), (by omega)⟩ ?_
   clear f270 f268
   clear r181
   clear r182
   clear bx183
   clear r184
   clear bx185
   clear e178
   intro m_ act271 w272 ⟨k, hm274, f275, e273, r276, r277, bx278, r279, bx280, i281, i282⟩
   have szw272 := e273.size
   have := bx278.lt
   have := bx280.lt
   refine wp_seq ?_
   refine wp_seq ?_
   refine At.start ?_
   refine At.rd f275 3 [[], [], []] [(121, .bool (decide ((k : Int) < i))), (120, .int .i64 (i)), (119, .int .i64 (k))] [] (by kernel_rfl) trivial (fun act284 f283 => ?_)
   clear f275
   refine At.done rfl ?_
   refine t_n ?_
   refine cond_S f283 (t := decide ((k : Int) < i)) rfl (fun h285 => ?_) (fun h285 => ?_)
   ·have q286 := of_decide_eq_true h285
    refine wp_skip ?_
    refine t_n ?_
    refine wp_seq ?_
    refine wp_block ?_
    refine wp_seq ?_
    have hdk_ := hDT.pr k (by omega) (by omega)
    obtain ⟨ad287, hA288, _, _, hc289⟩ := RdI.get r279.pr (i) (by omega) (by omega)
    obtain ⟨ad290, hA291, _, _, hc292⟩ := RdI.get r279.pr (k) (by omega) (by omega)
    obtain ⟨ad293, hA294, _, _, hc295⟩ := RdI.get r276.pr (i) (by omega) (by omega)
    obtain ⟨ad296, hA297, _, _, hc298⟩ := RdI.get r276.pr (k) (by omega) (by omega)
    obtain ⟨ad299, hA300, _, _, hc301⟩ := RdI.get r279.pr (i) (by omega) (by omega)
    obtain ⟨ad302, hA303, _, _, hc304⟩ := RdI.get r279.pr (k) (by omega) (by omega)
    obtain ⟨ad305, hA306, _, _, hc307⟩ := RdI.get r276.pr (i) (by omega) (by omega)
    obtain ⟨ad308, hA309, _, _, hc310⟩ := RdI.get r276.pr (k) (by omega) (by omega)
    refine drawn_ro f283 (by kernel_rfl) (by kernel_rfl) [[], [.ld (.slice A39 ((dualG g).pr.length) c40)], [], [.ad ad287], [.ld (.int .i64 (gI ((dualG g).pr) (i)))], [], [.ld (.slice A39 ((dualG g).pr.length) c40)], [], [.ad ad290], [.ld (.int .i64 (gI ((dualG g).pr) (k)))], [], [], [.ld (.slice Ag1 g.pr.length cg1)], [], [.ad ad293], [.ld (.int .i64 (gI g.pr (i)))], [], [.ld (.slice Ag1 g.pr.length cg1)], [], [.ad ad296], [.ld (.int .i64 (gI g.pr (k)))], [], [.as_ (.bool false)], [], [], [.ld (.slice A39 ((dualG g).pr.length) c40)], [], [.ad ad299], [.ld (.int .i64 (gI ((dualG g).pr) (i)))], [], [.ld (.slice A39 ((dualG g).pr.length) c40)], [], [.ad ad302], [.ld (.int .i64 (gI ((dualG g).pr) (k)))], [.as_ (.bool (decide (gI g.pr i = gI g.pr k)))], [], [.ld (.slice Ag1 g.pr.length cg1)], [], [.ad ad305], [.ld (.int .i64 (gI g.pr (i)))], [], [.ld (.slice Ag1 g.pr.length cg1)], [], [.ad ad308], [.ld (.int .i64 (gI g.pr (k)))], [.as_ (.bool (decide (gI g.pr i = gI g.pr k)))], [.as_ (.bool false)], []] [(171, .bool false), (170, .bool false), (169, .bool (decide (gI g.pr i = gI g.pr k))), (168, .int .i64 (gI g.pr (k))), (167, .pointer (some (ad308.add ((k : Int).toNat * 1)))), (166, .int .i64 (k)), (165, .slice Ag1 g.pr.length cg1), (164, .pointer (some ⟨w.heap.size, 1, none⟩)), (163, .int .i64 (gI g.pr (i))), (162, .pointer (some (ad305.add ((i : Int).toNat * 1)))), (161, .int .i64 (i)), (160, .slice Ag1 g.pr.length cg1), (159, .pointer (some ⟨w.heap.size, 1, none⟩)), (158, .bool (decide (gI g.pr i = gI g.pr k))), (157, .int .i64 (gI ((dualG g).pr) (k))), (156, .pointer (some (ad302.add ((k : Int).toNat * 1)))), (155, .int .i64 (k)), (154, .slice A39 ((dualG g).pr.length) c40), (153, .pointer (some ⟨w52.heap.size, 1, none⟩)), (152, .int .i64 (gI ((dualG g).pr) (i))), (151, .pointer (some (ad299.add ((i : Int).toNat * 1)))), (150, .int .i64 (i)), (149, .slice A39 ((dualG g).pr.length) c40), (148, .pointer (some ⟨w52.heap.size, 1, none⟩)), (147, .bool false), (146, .bool false), (145, .bool (decide ((gI g.pr (i) : Int) < (gI g.pr (k))))), (144, .int .i64 (gI g.pr (k))), (143, .pointer (some (ad296.add ((k : Int).toNat * 1)))), (142, .int .i64 (k)), (141, .slice Ag1 g.pr.length cg1), (140, .pointer (some ⟨w.heap.size, 1, none⟩)), (139, .int .i64 (gI g.pr (i))), (138, .pointer (some (ad293.add ((i : Int).toNat * 1)))), (137, .int .i64 (i)), (136, .slice Ag1 g.pr.length cg1), (135, .pointer (some ⟨w.heap.size, 1, none⟩)), (134, .bool (decide ((gI ((dualG g).pr) (i) : Int) < (gI ((dualG g).pr) (k))))), (133, .int .i64 (gI ((dualG g).pr) (k))), (132, .pointer (some (ad290.add ((k : Int).toNat * 1)))), (131, .int .i64 (k)), (130, .slice A39 ((dualG g).pr.length) c40), (129, .pointer (some ⟨w52.heap.size, 1, none⟩)), (128, .int .i64 (gI ((dualG g).pr) (i))), (127, .pointer (some (ad287.add ((i : Int).toNat * 1)))), (126, .int .i64 (i)), (125, .slice A39 ((dualG g).pr.length) c40), (124, .pointer (some ⟨w52.heap.size, 1, none⟩))] [(w272.cell? ⟨w52.heap.size, 1, none⟩ = some (.slice A39 ((dualG g).pr.length) c40)), (A39 = some ad287), (0 ≤ (i : Int)), ((i : Int) < ((dualG g).pr.length : Nat)), (w272.cell? (ad287.add ((i : Int).toNat * 1)) = some (.int .i64 (gI ((dualG g).pr) (i)))), (w272.cell? ⟨w52.heap.size, 1, none⟩ = some (.slice A39 ((dualG g).pr.length) c40)), (A39 = some ad290), (0 ≤ (k : Int)), ((k : Int) < ((dualG g).pr.length : Nat)), (w272.cell? (ad290.add ((k : Int).toNat * 1)) = some (.int .i64 (gI ((dualG g).pr) (k)))), (w272.cell? ⟨w.heap.size, 1, none⟩ = some (.slice Ag1 g.pr.length cg1)), (Ag1 = some ad293), (0 ≤ (i : Int)), ((i : Int) < (g.pr.length : Nat)), (w272.cell? (ad293.add ((i : Int).toNat * 1)) = some (.int .i64 (gI g.pr (i)))), (w272.cell? ⟨w.heap.size, 1, none⟩ = some (.slice Ag1 g.pr.length cg1)), (Ag1 = some ad296), (0 ≤ (k : Int)), ((k : Int) < (g.pr.length : Nat)), (w272.cell? (ad296.add ((k : Int).toNat * 1)) = some (.int .i64 (gI g.pr (k)))), ((.bool (!((decide ((gI ((dualG g).pr) (i) : Int) < (gI ((dualG g).pr) (k)))) == (decide ((gI g.pr (i) : Int) < (gI g.pr (k)))))) : Value) = .bool false), (w272.cell? ⟨w52.heap.size, 1, none⟩ = some (.slice A39 ((dualG g).pr.length) c40)), (A39 = some ad299), (0 ≤ (i : Int)), ((i : Int) < ((dualG g).pr.length : Nat)), (w272.cell? (ad299.add ((i : Int).toNat * 1)) = some (.int .i64 (gI ((dualG g).pr) (i)))), (w272.cell? ⟨w52.heap.size, 1, none⟩ = some (.slice A39 ((dualG g).pr.length) c40)), (A39 = some ad302), (0 ≤ (k : Int)), ((k : Int) < ((dualG g).pr.length : Nat)), (w272.cell? (ad302.add ((k : Int).toNat * 1)) = some (.int .i64 (gI ((dualG g).pr) (k)))), ((.bool ((gI ((dualG g).pr) (i) : Int) == (gI ((dualG g).pr) (k))) : Value) = .bool (decide (gI g.pr i = gI g.pr k))), (w272.cell? ⟨w.heap.size, 1, none⟩ = some (.slice Ag1 g.pr.length cg1)), (Ag1 = some ad305), (0 ≤ (i : Int)), ((i : Int) < (g.pr.length : Nat)), (w272.cell? (ad305.add ((i : Int).toNat * 1)) = some (.int .i64 (gI g.pr (i)))), (w272.cell? ⟨w.heap.size, 1, none⟩ = some (.slice Ag1 g.pr.length cg1)), (Ag1 = some ad308), (0 ≤ (k : Int)), ((k : Int) < (g.pr.length : Nat)), (w272.cell? (ad308.add ((k : Int).toNat * 1)) = some (.int .i64 (gI g.pr (k)))), ((.bool ((gI g.pr (i) : Int) == (gI g.pr (k))) : Value) = .bool (decide (gI g.pr i = gI g.pr k))), ((.bool (!((decide (gI g.pr i = gI g.pr k)) == (decide (gI g.pr i = gI g.pr k)))) : Value) = .bool false)] (by kernel_rfl) ⟨(bx280.cell (i := 1) rfl), hA288, (by omega), (by omega), hc289, (bx280.cell (i := 1) rfl), hA291, (by omega), (by omega), hc292, (bx278.cell (i := 1) rfl), hA294, (by omega), (by omega), hc295, (bx278.cell (i := 1) rfl), hA297, (by omega), (by omega), hc298, (congrArg Value.bool (nbb (decide_eq_decide.2 (by omega)))), (bx280.cell (i := 1) rfl), hA300, (by omega), (by omega), hc301, (bx280.cell (i := 1) rfl), hA303, (by omega), (by omega), hc304, (congrArg Value.bool (by rw [Bool.beq_eq_decide_eq, decide_eq_decide]; omega)), (bx278.cell (i := 1) rfl), hA306, (by omega), (by omega), hc307, (bx278.cell (i := 1) rfl), hA309, (by omega), (by omega), hc310, (congrArg Value.bool (Bool.beq_eq_decide_eq _ _)), (congrArg Value.bool (nbb rfl)), trivial⟩ (fun act312 w313 hw314 f311 => ?_)
    clear f283
    have g315 := gr_drew hw314
    have szw313 := g315.size
    replace e273 := e273.gr g315 no_row
    replace r276 := r276.gr g315 (fun _ h => by cases h)
    replace r277 := r277.gr g315 (fun _ h => by cases h)
    replace bx278 := bx278.gr g315 (by simp)
    replace r279 := r279.gr g315 (fun _ h => by cases h)
    replace bx280 := bx280.gr g315 (by simp)
    clear g315 hw314
    refine t_n ?_
    have f322 := f311.sub (r := [(171, .bool false), (170, .bool false), (169, .bool (decide (gI g.pr i = gI g.pr k))), (168, .int .i64 (gI g.pr (k))), (167, .pointer (some (ad308.add ((k : Int).toNat * 1)))), (166, .int .i64 (k)), (165, .slice Ag1 g.pr.length cg1), (164, .pointer (some ⟨w.heap.size, 1, none⟩)), (163, .int .i64 (gI g.pr (i))), (162, .pointer (some (ad305.add ((i : Int).toNat * 1)))), (161, .int .i64 (i)), (160, .slice Ag1 g.pr.length cg1), (159, .pointer (some ⟨w.heap.size, 1, none⟩)), (158, .bool (decide (gI g.pr i = gI g.pr k))), (157, .int .i64 (gI ((dualG g).pr) (k))), (156, .pointer (some (ad302.add ((k : Int).toNat * 1)))), (155, .int .i64 (k)), (154, .slice A39 ((dualG g).pr.length) c40), (153, .pointer (some ⟨w52.heap.size, 1, none⟩)), (152, .int .i64 (gI ((dualG g).pr) (i))), (151, .pointer (some (ad299.add ((i : Int).toNat * 1)))), (150, .int .i64 (i)), (149, .slice A39 ((dualG g).pr.length) c40), (148, .pointer (some ⟨w52.heap.size, 1, none⟩)), (13, .int .i64 (k)), (117, .bool false), (116, .int .i64 (((gI ((dualG g).pr) (i)) + (gI g.pr (i)) : Int) % 2)), (115, .int .i64 ((gI ((dualG g).pr) (i)) + (gI g.pr (i)))), (114, .int .i64 (gI g.pr (i))), (113, .pointer (some (ad251.add ((i : Int).toNat * 1)))), (112, .int .i64 (i)), (111, .slice Ag1 g.pr.length cg1), (110, .pointer (some ⟨w.heap.size, 1, none⟩)), (109, .int .i64 (gI ((dualG g).pr) (i))), (108, .pointer (some (ad248.add ((i : Int).toNat * 1)))), (107, .int .i64 (i)), (106, .slice A39 ((dualG g).pr.length) c40), (105, .pointer (some ⟨w52.heap.size, 1, none⟩)), (102, .bool false), (101, .int .i64 (gI g.ow (i))), (100, .pointer (some (ad245.add ((i : Int).toNat * 1)))), (99, .int .i64 (i)), (98, .slice Ag0 g.ow.length cg0), (97, .pointer (some ⟨w.heap.size, 0, none⟩)), (96, .int .i64 (gI ((dualG g).ow) (i))), (95, .pointer (some (ad242.add ((i : Int).toNat * 1)))), (94, .int .i64 (i)), (93, .slice A37 ((dualG g).ow.length) c38), (92, .pointer (some ⟨w52.heap.size, 0, none⟩)), (11, .int .i64 (i)), (10, .int .i64 (((g.ow.length : Nat) : Int))), (5, .pointer (some ⟨w52.heap.size, 0, none⟩)), (1, .pointer (some ⟨w.heap.size, 0, none⟩))]) ⟨rfl, rfl, rfl, rfl, rfl, rfl, rfl, rfl, rfl, rfl, rfl, rfl, rfl, rfl, rfl, rfl, rfl, rfl, rfl, rfl, rfl, rfl, rfl, rfl, rfl, rfl, rfl, rfl, rfl, rfl, rfl, rfl, rfl, rfl, rfl, rfl, rfl, rfl, rfl, rfl, rfl, rfl, rfl, rfl, rfl, rfl, rfl, rfl, rfl, rfl, rfl, rfl, rfl, trivial⟩
    clear f311
    refine cond_F f322 rfl ?_
    refine wp_skip ?_
    refine b_n ?_
    refine t_n ?_
    refine At.start ?_
    refine At.rd f322 3 [[], [.as_ (.int .i64 (k + 1))], []] [(13, .int .i64 (k + 1)), (123, .int .i64 (k + 1)), (122, .int .i64 (k))] [((.int .i64 (IntKind.i64.wrap (k + 1)) : Value) = .int .i64 (k + 1))] (by kernel_rfl) ⟨(w64 (by omega) (by omega)), trivial⟩ (fun act324 f323 => ?_)
    clear f322
    refine At.done rfl ?_
    refine t_n ?_
    have f325 := f323.sub (r := [(13, .int .i64 (k + 1)), (117, .bool false), (116, .int .i64 (((gI ((dualG g).pr) (i)) + (gI g.pr (i)) : Int) % 2)), (115, .int .i64 ((gI ((dualG g).pr) (i)) + (gI g.pr (i)))), (114, .int .i64 (gI g.pr (i))), (113, .pointer (some (ad251.add ((i : Int).toNat * 1)))), (112, .int .i64 (i)), (111, .slice Ag1 g.pr.length cg1), (110, .pointer (some ⟨w.heap.size, 1, none⟩)), (109, .int .i64 (gI ((dualG g).pr) (i))), (108, .pointer (some (ad248.add ((i : Int).toNat * 1)))), (107, .int .i64 (i)), (106, .slice A39 ((dualG g).pr.length) c40), (105, .pointer (some ⟨w52.heap.size, 1, none⟩)), (102, .bool false), (101, .int .i64 (gI g.ow (i))), (100, .pointer (some (ad245.add ((i : Int).toNat * 1)))), (99, .int .i64 (i)), (98, .slice Ag0 g.ow.length cg0), (97, .pointer (some ⟨w.heap.size, 0, none⟩)), (96, .int .i64 (gI ((dualG g).ow) (i))), (95, .pointer (some (ad242.add ((i : Int).toNat * 1)))), (94, .int .i64 (i)), (93, .slice A37 ((dualG g).ow.length) c38), (92, .pointer (some ⟨w52.heap.size, 0, none⟩)), (11, .int .i64 (i)), (10, .int .i64 (((g.ow.length : Nat) : Int))), (5, .pointer (some ⟨w52.heap.size, 0, none⟩)), (1, .pointer (some ⟨w.heap.size, 0, none⟩))]) ⟨rfl, rfl, rfl, rfl, rfl, rfl, rfl, rfl, rfl, rfl, rfl, rfl, rfl, rfl, rfl, rfl, rfl, rfl, rfl, rfl, rfl, rfl, rfl, rfl, rfl, rfl, rfl, rfl, rfl, trivial⟩
    exact ⟨_, (by omega), (k + 1), rfl, f325, e273, r276, r277, bx278, r279, bx280, (by omega), (by omega)⟩
   ·have q326 := of_decide_eq_false h285
    refine wp_exit ?_
    refine t_e ?_
    refine t_e ?_
    refine b_e ?_
    refine b_n ?_
    refine t_n ?_
    refine At.start ?_
    refine At.rd f283 3 [[], [.as_ (.int .i64 (i + 1))], []] [(11, .int .i64 (i + 1)), (77, .int .i64 (i + 1)), (76, .int .i64 (i))] [((.int .i64 (IntKind.i64.wrap (i + 1)) : Value) = .int .i64 (i + 1))] (by kernel_rfl) ⟨(w64 (by omega) (by omega)), trivial⟩ (fun act328 f327 => ?_)
    clear f283
    refine At.done rfl ?_
    refine t_n ?_
    have f329 := f327.sub (r := [(11, .int .i64 (i + 1)), (10, .int .i64 (((g.ow.length : Nat) : Int))), (5, .pointer (some ⟨w52.heap.size, 0, none⟩)), (1, .pointer (some ⟨w.heap.size, 0, none⟩))]) ⟨rfl, rfl, rfl, rfl, trivial⟩
    exact ⟨_, (by omega), (i + 1), rfl, f329, e273, r276, r277, bx278, r279, bx280, (by omega), (by omega)⟩
  ·have q330 := of_decide_eq_false h190
   refine wp_exit ?_
   refine t_e ?_
   refine t_e ?_
   refine b_e ?_
   refine t_n ?_
   refine wp_seq ?_
   refine At.start ?_
   refine At.rd f188 1 [[.ld (.slice A37 ((dualG g).ow.length) c38), .ld (.slice A39 ((dualG g).pr.length) c40), .ld (.slice A41 ((dualG g).mv.length) c42)]] [(172, .agg #[.slice A37 ((dualG g).ow.length) c38, .slice A39 ((dualG g).pr.length) c40, .slice A41 ((dualG g).mv.length) c42])] [(w177.cell? ⟨w52.heap.size, 0, none⟩ = some (.slice A37 ((dualG g).ow.length) c38)), (w177.cell? ⟨w52.heap.size, 1, none⟩ = some (.slice A39 ((dualG g).pr.length) c40)), (w177.cell? ⟨w52.heap.size, 2, none⟩ = some (.slice A41 ((dualG g).mv.length) c42))] (by kernel_rfl) ⟨(bx185.cell (i := 0) rfl), (bx185.cell (i := 1) rfl), (bx185.cell (i := 2) rfl), trivial⟩ (fun act332 f331 => ?_)
   clear f188
   refine At.call f331 18 #[.agg #[.slice A37 ((dualG g).ow.length) c38, .slice A39 ((dualG g).pr.length) c40, .slice A41 ((dualG g).mv.length) c42]] (some 173) (by kernel_rfl) (dualM_any (g := (dualG g)) (r184.wide (Nat.zero_le _) (by omega))) ?_
   rintro e_ w348 ⟨A333, c334, A335, c336, A337, c338, rfl, he, ow339, ow340, ow341⟩
   have hip345 := dual_inner (inner_len (RdG.mv (r184.wide (Nat.zero_le _) (by omega))))
   have := dual_lens (dualG g)
   have r346 : RdG w348 (w177.heap.size) w348.heap.size A333 A335 A337 c334 c336 c338 (dualG (dualG g)) := ⟨(OwnR.rdR ow339 (by show _ * 8 ≤ _; omega)).rdI, (OwnR.rdR ow340 (by show _ * 8 ≤ _; omega)).rdI, OwnLLP.rdII ow341 (by omega) hip345, ow339.cap, ow340.cap, ow341.cap⟩
   clear ow339 ow340 ow341
   refine ⟨_, rfl, _, rfl, fun act349 f350 => ?_⟩
   clear f331
   have g351 := gr_ext he
   have szw348 := g351.size
   replace e178 := e178.gr g351 no_row
   replace r181 := r181.gr g351 (fun _ h => by cases h)
   replace r182 := r182.gr g351 (fun _ h => by cases h)
   replace bx183 := bx183.gr g351 (by simp)
   replace r184 := r184.gr g351 (fun _ h => by cases h)
   replace bx185 := bx185.gr g351 (by simp)
   clear g351 he
   refine At.seq f350 1 [[]] [(14, .pointer (some ⟨w348.heap.size, 0, none⟩))] (w348.alloc (.cells #[.slice none 0 0, .slice none 0 0, .slice none 0 0] 25 (0, 0))) [] (by kernel_rfl) trivial (fun act361 w358 hw359 f360 => ?_)
   clear f350
   have g362 := gr_alloc hw359
   have szw358 := g362.size
   replace e178 := e178.gr g362 no_row
   replace r181 := r181.gr g362 (fun _ h => by cases h)
   replace r182 := r182.gr g362 (fun _ h => by cases h)
   replace bx183 := bx183.gr g362 (by simp)
   replace r184 := r184.gr g362 (fun _ h => by cases h)
   replace bx185 := bx185.gr g362 (by simp)
   replace r346 := r346.gr g362 (fun _ h => by cases h)
   have bx371 : Bx w358 (w348.heap.size) [.slice none 0 0, .slice none 0 0, .slice none 0 0] 25 := Bx.new hw359
   have := bx371.lt
   clear g362 hw359
   refine At.store f360 (t := 25) (b := w348.heap.size) (off := 0) (v := .agg #[.slice A333 ((dualG (dualG g)).ow.length) c334, .slice A335 ((dualG (dualG g)).pr.length) c336, .slice A337 ((dualG (dualG g)).mv.length) c338]) (by kernel_rfl) bx371 (by kernel_rfl) (fun act376 w372 g373 bx374 f375 => ?_)
   clear f360
   replace bx374 : Bx w372 (w348.heap.size) [.slice A333 ((dualG (dualG g)).ow.length) c334, .slice A335 ((dualG (dualG g)).pr.length) c336, .slice A337 ((dualG (dualG g)).mv.length) c338] 25 := bx374
   have szw372 := g373.size
   replace e178 := e178.gr g373 (fun k h => by injection h; omega)
   replace r181 := r181.gr g373 (fun k h => by injection h; omega)
   replace r182 := r182.gr g373 (fun k h => by injection h; omega)
   replace bx183 := bx183.gr g373 (fun h => by injection h; omega)
   replace r184 := r184.gr g373 (fun k h => by injection h; omega)
   replace bx185 := bx185.gr g373 (fun h => by injection h; omega)
   replace r346 := r346.gr g373 (fun k h => by injection h; omega)
   clear bx371 g373
   refine At.done rfl ?_
   refine t_n ?_
   refine wp_seq ?_
   refine wp_seq ?_
   have hDD := dual_dual hR hD
   have hdd0 := hDD.1
   have hdd1 := hDD.2.1
   refine At.start ?_
   refine At.rd f375 1 [[]] [(15, .int .i64 (0))] [] (by kernel_rfl) trivial (fun act385 f384 => ?_)
   clear f375
   refine At.done rfl ?_
   refine t_n ?_
   refine wp_block ?_
   have f386 := f384.sub (r := [(15, .int .i64 (0)), (14, .pointer (some ⟨w348.heap.size, 0, none⟩)), (10, .int .i64 (((g.ow.length : Nat) : Int))), (1, .pointer (some ⟨w.heap.size, 0, none⟩))]) ⟨rfl, rfl, rfl, rfl, trivial⟩
   refine loop_g (fun (m_ : Nat) a_ w_ => ∃ (j : Int), m_ = (((dualG (dualG g)).ow.length : Int) - j).toNat ∧ (Frm 218 a_ [(15, .int .i64 (j)), (14, .pointer (some ⟨w348.heap.size, 0, none⟩)), (10, .int .i64 (((g.ow.length : Nat) : Int))), (1, .pointer (some ⟨w.heap.size, 0, none⟩))]) ∧ (Ext w w_) ∧ (RdG w_ 0 w.heap.size Ag0 Ag1 Ag2 cg0 cg1 cg2 g) ∧ (RdT w_ 0 w.heap.size) ∧ (Bx w_ (w.heap.size) [.slice Ag0 g.ow.length cg0, .slice Ag1 g.pr.length cg1, .slice Ag2 g.mv.length cg2] 25) ∧ (RdG w_ (w25.heap.size) w52.heap.size A37 A39 A41 c38 c40 c42 (dualG g)) ∧ (Bx w_ (w52.heap.size) [.slice A37 ((dualG g).ow.length) c38, .slice A39 ((dualG g).pr.length) c40, .slice A41 ((dualG g).mv.length) c42] 25) ∧ (RdG w_ (w177.heap.size) w348.heap.size A333 A335 A337 c334 c336 c338 (dualG (dualG g))) ∧ (Bx w_ (w348.heap.size) [.slice A333 ((dualG (dualG g)).ow.length) c334, .slice A335 ((dualG (dualG g)).pr.length) c336, .slice A337 ((dualG (dualG g)).mv.length) c338] 25) ∧ (0 ≤ j) ∧ (j ≤ ((dualG (dualG g)).ow.length : Int))) _ ⟨0, rfl, f386, e178, r181, r182, bx183, r184, bx185, r346, bx374, (by omega), (by omega)⟩ ?_
   clear f386 f384
   clear r181
   clear r182
   clear bx183
   clear r184
   clear bx185
   clear r346
   clear bx374
   clear e178
   intro m_ act387 w388 ⟨j, hm390, f391, e389, r392, r393, bx394, r395, bx396, r397, bx398, i399, i400⟩
   have szw388 := e389.size
   have := bx394.lt
   have := bx396.lt
   have := bx398.lt
   refine wp_seq ?_
   refine wp_seq ?_
   refine At.start ?_
   refine At.rd f391 5 [[], [], [.ld (.slice A333 ((dualG (dualG g)).ow.length) c334)], [], []] [(178, .bool (decide ((j : Int) < (((dualG (dualG g)).ow.length : Nat) : Int)))), (177, .int .i64 ((((dualG (dualG g)).ow.length : Nat) : Int))), (176, .slice A333 ((dualG (dualG g)).ow.length) c334), (175, .pointer (some ⟨w348.heap.size, 0, none⟩)), (174, .int .i64 (j))] [(w388.cell? ⟨w348.heap.size, 0, none⟩ = some (.slice A333 ((dualG (dualG g)).ow.length) c334))] (by kernel_rfl) ⟨(bx398.cell (i := 0) rfl), trivial⟩ (fun act402 f401 => ?_)
   clear f391
   refine At.done rfl ?_
   refine t_n ?_
   refine cond_S f401 (t := decide ((j : Int) < (((dualG (dualG g)).ow.length : Nat) : Int))) rfl (fun h403 => ?_) (fun h403 => ?_)
   ·have q404 := of_decide_eq_true h403
    refine wp_skip ?_
    refine t_n ?_
    refine wp_seq ?_
    refine wp_block ?_
    refine wp_seq ?_
    have hdd2 := hDD.2.2 j (by omega) (by omega)
    have hgp2_ := hG.pr j (by omega) (by omega)
    obtain ⟨ad405, hA406, _, _, hc407⟩ := RdI.get r397.ow (j) (by omega) (by omega)
    obtain ⟨ad408, hA409, _, _, hc410⟩ := RdI.get r392.ow (j) (by omega) (by omega)
    obtain ⟨ad411, hA412, _, _, hc413⟩ := RdI.get r397.pr (j) (by omega) (by omega)
    obtain ⟨ad414, hA415, _, _, hc416⟩ := RdI.get r392.pr (j) (by omega) (by omega)
    refine drawn_ro f401 (by kernel_rfl) (by kernel_rfl) [[], [.ld (.slice A333 ((dualG (dualG g)).ow.length) c334)], [], [.ad ad405], [.ld (.int .i64 (gI ((dualG (dualG g)).ow) (j)))], [], [.ld (.slice Ag0 g.ow.length cg0)], [], [.ad ad408], [.ld (.int .i64 (gI g.ow (j)))], [.as_ (.bool false)], [], [], [.ld (.slice A335 ((dualG (dualG g)).pr.length) c336)], [], [.ad ad411], [.ld (.int .i64 (gI ((dualG (dualG g)).pr) (j)))], [], [.ld (.slice Ag1 g.pr.length cg1)], [], [.ad ad414], [.ld (.int .i64 (gI g.pr (j)))], [.as_ (.int .i64 ((gI ((dualG (dualG g)).pr) (j)) + (gI g.pr (j))))], [.as_ (.int .i64 (((gI ((dualG (dualG g)).pr) (j)) + (gI g.pr (j)) : Int) % 2))], [.as_ (.bool false)], []] [(206, .bool false), (205, .bool false), (204, .int .i64 (((gI ((dualG (dualG g)).pr) (j)) + (gI g.pr (j)) : Int) % 2)), (203, .int .i64 ((gI ((dualG (dualG g)).pr) (j)) + (gI g.pr (j)))), (202, .int .i64 (gI g.pr (j))), (201, .pointer (some (ad414.add ((j : Int).toNat * 1)))), (200, .int .i64 (j)), (199, .slice Ag1 g.pr.length cg1), (198, .pointer (some ⟨w.heap.size, 1, none⟩)), (197, .int .i64 (gI ((dualG (dualG g)).pr) (j))), (196, .pointer (some (ad411.add ((j : Int).toNat * 1)))), (195, .int .i64 (j)), (194, .slice A335 ((dualG (dualG g)).pr.length) c336), (193, .pointer (some ⟨w348.heap.size, 1, none⟩)), (192, .bool false), (191, .bool false), (190, .int .i64 (gI g.ow (j))), (189, .pointer (some (ad408.add ((j : Int).toNat * 1)))), (188, .int .i64 (j)), (187, .slice Ag0 g.ow.length cg0), (186, .pointer (some ⟨w.heap.size, 0, none⟩)), (185, .int .i64 (gI ((dualG (dualG g)).ow) (j))), (184, .pointer (some (ad405.add ((j : Int).toNat * 1)))), (183, .int .i64 (j)), (182, .slice A333 ((dualG (dualG g)).ow.length) c334), (181, .pointer (some ⟨w348.heap.size, 0, none⟩))] [(w388.cell? ⟨w348.heap.size, 0, none⟩ = some (.slice A333 ((dualG (dualG g)).ow.length) c334)), (A333 = some ad405), (0 ≤ (j : Int)), ((j : Int) < ((dualG (dualG g)).ow.length : Nat)), (w388.cell? (ad405.add ((j : Int).toNat * 1)) = some (.int .i64 (gI ((dualG (dualG g)).ow) (j)))), (w388.cell? ⟨w.heap.size, 0, none⟩ = some (.slice Ag0 g.ow.length cg0)), (Ag0 = some ad408), (0 ≤ (j : Int)), ((j : Int) < (g.ow.length : Nat)), (w388.cell? (ad408.add ((j : Int).toNat * 1)) = some (.int .i64 (gI g.ow (j)))), ((.bool ((gI ((dualG (dualG g)).ow) (j) : Int) != (gI g.ow (j))) : Value) = .bool false), (w388.cell? ⟨w348.heap.size, 1, none⟩ = some (.slice A335 ((dualG (dualG g)).pr.length) c336)), (A335 = some ad411), (0 ≤ (j : Int)), ((j : Int) < ((dualG (dualG g)).pr.length : Nat)), (w388.cell? (ad411.add ((j : Int).toNat * 1)) = some (.int .i64 (gI ((dualG (dualG g)).pr) (j)))), (w388.cell? ⟨w.heap.size, 1, none⟩ = some (.slice Ag1 g.pr.length cg1)), (Ag1 = some ad414), (0 ≤ (j : Int)), ((j : Int) < (g.pr.length : Nat)), (w388.cell? (ad414.add ((j : Int).toNat * 1)) = some (.int .i64 (gI g.pr (j)))), ((.int .i64 (IntKind.i64.wrap ((gI ((dualG (dualG g)).pr) (j)) + (gI g.pr (j)))) : Value) = .int .i64 ((gI ((dualG (dualG g)).pr) (j)) + (gI g.pr (j)))), ((2 : Int) ≠ 0), ((.int .i64 (((gI ((dualG (dualG g)).pr) (j)) + (gI g.pr (j)) : Int).tmod 2) : Value) = .int .i64 (((gI ((dualG (dualG g)).pr) (j)) + (gI g.pr (j)) : Int) % 2)), ((.bool ((((gI ((dualG (dualG g)).pr) (j)) + (gI g.pr (j)) : Int) % 2 : Int) != 0) : Value) = .bool false)] (by kernel_rfl) ⟨(bx398.cell (i := 0) rfl), hA406, (by omega), (by omega), hc407, (bx394.cell (i := 0) rfl), hA409, (by omega), (by omega), hc410, (congrArg Value.bool (bneF (by omega))), (bx398.cell (i := 1) rfl), hA412, (by omega), (by omega), hc413, (bx394.cell (i := 1) rfl), hA415, (by omega), (by omega), hc416, (w64 (by omega) (by omega)), (by omega), (congrArg (Value.int .i64) (tmodE (by omega) _)), (congrArg Value.bool (bneF (by omega))), trivial⟩ (fun act418 w419 hw420 f417 => ?_)
    clear f401
    have g421 := gr_drew hw420
    have szw419 := g421.size
    replace e389 := e389.gr g421 no_row
    replace r392 := r392.gr g421 (fun _ h => by cases h)
    replace r393 := r393.gr g421 (fun _ h => by cases h)
    replace bx394 := bx394.gr g421 (by simp)
    replace r395 := r395.gr g421 (fun _ h => by cases h)
    replace bx396 := bx396.gr g421 (by simp)
    replace r397 := r397.gr g421 (fun _ h => by cases h)
    replace bx398 := bx398.gr g421 (by simp)
    clear g421 hw420
    refine t_n ?_
    have f430 := f417.sub (r := [(206, .bool false), (205, .bool false), (204, .int .i64 (((gI ((dualG (dualG g)).pr) (j)) + (gI g.pr (j)) : Int) % 2)), (203, .int .i64 ((gI ((dualG (dualG g)).pr) (j)) + (gI g.pr (j)))), (202, .int .i64 (gI g.pr (j))), (201, .pointer (some (ad414.add ((j : Int).toNat * 1)))), (200, .int .i64 (j)), (199, .slice Ag1 g.pr.length cg1), (198, .pointer (some ⟨w.heap.size, 1, none⟩)), (197, .int .i64 (gI ((dualG (dualG g)).pr) (j))), (196, .pointer (some (ad411.add ((j : Int).toNat * 1)))), (195, .int .i64 (j)), (194, .slice A335 ((dualG (dualG g)).pr.length) c336), (193, .pointer (some ⟨w348.heap.size, 1, none⟩)), (15, .int .i64 (j)), (14, .pointer (some ⟨w348.heap.size, 0, none⟩)), (10, .int .i64 (((g.ow.length : Nat) : Int))), (1, .pointer (some ⟨w.heap.size, 0, none⟩))]) ⟨rfl, rfl, rfl, rfl, rfl, rfl, rfl, rfl, rfl, rfl, rfl, rfl, rfl, rfl, rfl, rfl, rfl, rfl, trivial⟩
    clear f417
    refine cond_F f430 rfl ?_
    refine wp_skip ?_
    refine b_n ?_
    refine t_n ?_
    refine At.start ?_
    refine At.rd f430 3 [[], [.as_ (.int .i64 (j + 1))], []] [(15, .int .i64 (j + 1)), (180, .int .i64 (j + 1)), (179, .int .i64 (j))] [((.int .i64 (IntKind.i64.wrap (j + 1)) : Value) = .int .i64 (j + 1))] (by kernel_rfl) ⟨(w64 (by omega) (by omega)), trivial⟩ (fun act432 f431 => ?_)
    clear f430
    refine At.done rfl ?_
    refine t_n ?_
    have f433 := f431.sub (r := [(15, .int .i64 (j + 1)), (14, .pointer (some ⟨w348.heap.size, 0, none⟩)), (10, .int .i64 (((g.ow.length : Nat) : Int))), (1, .pointer (some ⟨w.heap.size, 0, none⟩))]) ⟨rfl, rfl, rfl, rfl, trivial⟩
    exact ⟨_, (by omega), (j + 1), rfl, f433, e389, r392, r393, bx394, r395, bx396, r397, bx398, (by omega), (by omega)⟩
   ·have q434 := of_decide_eq_false h403
    refine wp_exit ?_
    refine t_e ?_
    refine t_e ?_
    refine b_e ?_
    refine t_n ?_
    refine wp_seq ?_
    refine At.start ?_
    rcases Bool.eq_false_or_eq_true (((((dualG (dualG g)).ow.length : Nat) : Int) : Int) == 0) with h435 | h435
    ·have q436 := eq_of_beq h435
     refine At.rd f401 12 [[], [.ld (.slice A333 ((dualG (dualG g)).ow.length) c334)], [], [], [.as_ (.bool true)], [], [], [], [], [], [], []] [(2, .bool true), (217, .bool true), (216, undef), (215, undef), (214, undef), (213, undef), (212, undef), (211, .bool true), (210, .bool (((((dualG (dualG g)).ow.length : Nat) : Int) : Int) == 0)), (209, .int .i64 ((((dualG (dualG g)).ow.length : Nat) : Int))), (208, .slice A333 ((dualG (dualG g)).ow.length) c334), (207, .pointer (some ⟨w348.heap.size, 0, none⟩))] [(w388.cell? ⟨w348.heap.size, 0, none⟩ = some (.slice A333 ((dualG (dualG g)).ow.length) c334)), ((.bool (((((dualG (dualG g)).ow.length : Nat) : Int) : Int) == 0) : Value) = .bool true)] (by kernel_rfl) ⟨(bx398.cell (i := 0) rfl), (congrArg Value.bool h435), trivial⟩ (fun act438 f437 => ?_)
     clear f401
     refine At.done rfl ?_
     refine t_n ?_
     have f439 := f437.sub (r := [(2, .bool true)]) ⟨rfl, trivial⟩
     clear f437
     refine wp_ret ?_
     refine ret_ f439 [] [.bool true] [] (by kernel_rfl) trivial ?_
     exact ⟨rfl, e389⟩
    ·have q440 := ne_of_beq_false h435
     refine At.rd f401 12 [[], [.ld (.slice A333 ((dualG (dualG g)).ow.length) c334)], [], [], [.as_ (.bool false)], [], [.ld (.slice A333 ((dualG (dualG g)).ow.length) c334)], [], [], [.as_ (.bool true)], [], []] [(2, .bool true), (217, .bool true), (216, .bool true), (215, .int .i64 (((g.ow.length : Nat) : Int))), (214, .int .i64 ((((dualG (dualG g)).ow.length : Nat) : Int))), (213, .slice A333 ((dualG (dualG g)).ow.length) c334), (212, .pointer (some ⟨w348.heap.size, 0, none⟩)), (211, .bool false), (210, .bool (((((dualG (dualG g)).ow.length : Nat) : Int) : Int) == 0)), (209, .int .i64 ((((dualG (dualG g)).ow.length : Nat) : Int))), (208, .slice A333 ((dualG (dualG g)).ow.length) c334), (207, .pointer (some ⟨w348.heap.size, 0, none⟩))] [(w388.cell? ⟨w348.heap.size, 0, none⟩ = some (.slice A333 ((dualG (dualG g)).ow.length) c334)), ((.bool (((((dualG (dualG g)).ow.length : Nat) : Int) : Int) == 0) : Value) = .bool false), (w388.cell? ⟨w348.heap.size, 0, none⟩ = some (.slice A333 ((dualG (dualG g)).ow.length) c334)), ((.bool (((((dualG (dualG g)).ow.length : Nat) : Int) : Int) == ((g.ow.length : Nat) : Int)) : Value) = .bool true)] (by kernel_rfl) ⟨(bx398.cell (i := 0) rfl), (congrArg Value.bool h435), (bx398.cell (i := 0) rfl), (congrArg Value.bool (beqT (by omega))), trivial⟩ (fun act442 f441 => ?_)
     clear f401
     refine At.done rfl ?_
     refine t_n ?_
     have f443 := f441.sub (r := [(2, .bool true)]) ⟨rfl, trivial⟩
     clear f441
     refine wp_ret ?_
     refine ret_ f443 [] [.bool true] [] (by kernel_rfl) trivial ?_
     exact ⟨rfl, e389⟩

end Go.Proofs.YtkkophhnliplhaaDoor
