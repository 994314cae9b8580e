/-
  A walk of a Go function, printed by a program of this repo. Conditions: what the theorems name.
-/
import Derived.Test.YtkkophhnliplhaaDoorWShown09
set_option linter.unusedVariables false
set_option linter.unusedSimpArgs false
namespace Go.Proofs.YtkkophhnliplhaaDoor
open Go Go.RowKit

attribute [local irreducible] ofZ fromW wordsD ofD ofW lsD lenW lenN fullW withW lessW hasW hasD inW inD leastD putD onI tzI orS andS minusS orD andD minusD fullD emptyD
set_option maxHeartbeats 4000000 in
theorem owns09_any {Ag0 Ag1 Ag2 : Option Addr} {cg0 cg1 cg2 : Nat} {g : GameL} {p q : Int} {w : World} (rg : RdG w 0 w.heap.size Ag0 Ag1 Ag2 cg0 cg1 cg2 g) (rT : RdT w 0 w.heap.size) :
    Calls Tryd.prog 6 #[.agg #[.slice Ag0 g.ow.length cg0, .slice Ag1 g.pr.length cg1, .slice Ag2 g.mv.length cg2], .int .i64 (p), .int .i64 (q)] w fun e w' => e = .returned (.bool true) ∧ Ext w w' := by
 have hlg0 := rg.ow.len
 have hlg1 := rg.pr.len
 have hlg2 := rg.mv.len
 have hkg0 := rg.k0
 have hkg1 := rg.k1
 have hkg2 := rg.k2
 refine enter_ (args := [.agg #[.slice Ag0 g.ow.length cg0, .slice Ag1 g.pr.length cg1, .slice Ag2 g.mv.length cg2], .int .i64 (p), .int .i64 (q)]) Tryd.func6 rfl Tryd.ntmps6 (Nat.le_of_ble_eq_true rfl) (fun act0 f0 => ?_)
 have e0 := Ext.refl w
 refine wp_seq ?_
 refine At.start ?_
 refine At.seq f0 1 [[]] [(3, .pointer (some ⟨w.heap.size, 0, none⟩))] (w.alloc (.cells #[.slice Ag0 g.ow.length cg0, .slice Ag1 g.pr.length cg1, .slice Ag2 g.mv.length cg2] 25 (0, 0))) [] (by kernel_rfl) trivial (fun act4 w1 hw2 f3 => ?_)
 clear f0
 have g5 := gr_alloc hw2
 have szw1 := g5.size
 replace e0 := e0.gr g5 no_row
 have r8 := rg.gr g5 (fun _ h => by cases h)
 clear rg
 have r9 := rT.gr g5 (fun _ h => by cases h)
 clear rT
 have bx10 : Bx w1 (w.heap.size) [.slice Ag0 g.ow.length cg0, .slice Ag1 g.pr.length cg1, .slice Ag2 g.mv.length cg2] 25 := Bx.new hw2
 have := bx10.lt
 clear g5 hw2
 refine At.rd f3 1 [[]] [(6, .bool false)] [] (by kernel_rfl) trivial (fun act12 f11 => ?_)
 clear f3
 refine At.done rfl ?_
 refine t_n ?_
 have f13 := f11.sub (r := [(3, .pointer (some ⟨w.heap.size, 0, none⟩)), (1, .int .i64 (p)), (2, .int .i64 (q))]) ⟨rfl, rfl, rfl, trivial⟩
 clear f11
 refine wp_seq ?_
 refine At.start ?_
 refine At.call f13 12 #[] (some 10) (by kernel_rfl) (shown09_any (r9.wide (Nat.zero_le _) (by omega))) ?_
 rintro e_ w14 ⟨rfl, he⟩
 refine ⟨_, rfl, _, rfl, fun act15 f16 => ?_⟩
 clear f13
 have g17 := gr_ext he
 have szw14 := g17.size
 replace e0 := e0.gr g17 no_row
 replace r8 := r8.gr g17 (fun _ h => by cases h)
 replace r9 := r9.gr g17 (fun _ h => by cases h)
 replace bx10 := bx10.gr g17 (by simp)
 clear g17 he
 refine At.rd f16 1 [[]] [(7, .bool true)] [] (by kernel_rfl) trivial (fun act23 f22 => ?_)
 clear f16
 refine At.done rfl ?_
 refine t_n ?_
 have f24 := f22.sub (r := [(7, .bool true), (3, .pointer (some ⟨w.heap.size, 0, none⟩)), (1, .int .i64 (p)), (2, .int .i64 (q))]) ⟨rfl, rfl, rfl, rfl, trivial⟩
 clear f22
 refine wp_seq ?_
 refine At.start ?_
 refine At.rd f24 3 [[], [.ld (.slice Ag0 g.ow.length cg0)], []] [(13, .int .i64 (p)), (12, .slice Ag0 g.ow.length cg0), (11, .pointer (some ⟨w.heap.size, 0, none⟩))] [(w14.cell? ⟨w.heap.size, 0, none⟩ = some (.slice Ag0 g.ow.length cg0))] (by kernel_rfl) ⟨(bx10.cell (i := 0) rfl), trivial⟩ (fun act26 f25 => ?_)
 clear f24
 refine At.call f25 26 #[.slice Ag0 g.ow.length cg0, .int .i64 (p)] (some 14) (by kernel_rfl) (amongR_any (la := g.ow) (n := p) (r8.ow.wide (Nat.zero_le _) (by omega))) ?_
 rintro e_ w27 ⟨rfl, he⟩
 refine ⟨_, rfl, _, rfl, fun act28 f29 => ?_⟩
 clear f25
 have g30 := gr_ext he
 have szw27 := g30.size
 replace e0 := e0.gr g30 no_row
 replace r8 := r8.gr g30 (fun _ h => by cases h)
 replace r9 := r9.gr g30 (fun _ h => by cases h)
 replace bx10 := bx10.gr g30 (by simp)
 clear g30 he
 refine At.call f29 25 #[.agg ((amoD g.ow p : List Bool).map Value.bool).toArray] (some 15) (by kernel_rfl) (words_any (l := amoD g.ow p) (amoD_len _ _)) ?_
 rintro e_ w35 ⟨rfl, he⟩
 refine ⟨_, rfl, _, rfl, fun act36 f37 => ?_⟩
 clear f29
 have g38 := gr_ext he
 have szw35 := g38.size
 replace e0 := e0.gr g38 no_row
 replace r8 := r8.gr g38 (fun _ h => by cases h)
 replace r9 := r9.gr g38 (fun _ h => by cases h)
 replace bx10 := bx10.gr g38 (by simp)
 clear g38 he
 refine At.seq f37 1 [[]] [(8, .pointer (some ⟨w35.heap.size, 0, none⟩))] (w35.alloc (.cells ((List.replicate 4 (0 : Int) : List Int).map wV).toArray 35 (0, 0))) [] (by kernel_rfl) trivial (fun act46 w43 hw44 f45 => ?_)
 clear f37
 have g47 := gr_alloc hw44
 have szw43 := g47.size
 replace e0 := e0.gr g47 no_row
 replace r8 := r8.gr g47 (fun _ h => by cases h)
 replace r9 := r9.gr g47 (fun _ h => by cases h)
 replace bx10 := bx10.gr g47 (by simp)
 have bx53 : Bx w43 (w35.heap.size) ((List.replicate 4 (0 : Int) : List Int).map wV) 35 := Bx.new hw44
 have := bx53.lt
 clear g47 hw44
 refine At.act f45 (storeBlk (t := 35) (b := w35.heap.size) (n := 4) (cs' := ((wordsD (amoD g.ow p) : List Int).map wV)) (by kernel_rfl) (by kernel_rfl) ((List.length_map _).trans (okLen (wordsD_W _))) oneW_ ((show ((wordsD (amoD g.ow p) : List Int).map wV).length = 4 from ((List.length_map _).trans (okLen (wordsD_W _)))).trans (show ((List.replicate 4 (0 : Int) : List Int).map wV).length = 4 from (by simp only [List.length_map, List.length_set, List.length_replicate, List.length_cons, List.length_nil]; first | done | assumption | exact from_len _ | exact of_len _ | exact ofZ_len _ | exact (ofW_ok _).1 | exact (fullW_W _).1 | exact (okW_with (by assumption)).1 | exact (okW_less (by assumption)).1 | exact put_len (from_len _) | exact orD_len _ _ | exact andD_len _ _ | exact minusD_len _ _ | exact fullD_len _ | (refine okLen ?_; (repeat (first | assumption | exact ofW_ok _ | exact fullW_W _ | apply okW_with | apply okW_less | refine okW_orS ?_ ?_ | refine okW_andS ?_ ?_ | refine okW_minusS ?_ ?_)); done) | omega | rfl)).symm) bx53) ?_
 rintro d_ v_ w54 ⟨rfl, g55, bx56⟩
 refine ⟨_, rfl, fun act58 f57 => ?_⟩
 clear f45
 have szw54 := g55.size
 replace e0 := e0.gr g55 (fun k h => by injection h; omega)
 replace r8 := r8.gr g55 (fun k h => by injection h; omega)
 replace r9 := r9.gr g55 (fun k h => by injection h; omega)
 replace bx10 := bx10.gr g55 (fun h => by injection h; omega)
 clear bx53 g55
 refine At.done rfl ?_
 refine t_n ?_
 have f63 := f57.sub (r := [(8, .pointer (some ⟨w35.heap.size, 0, none⟩)), (7, .bool true), (3, .pointer (some ⟨w.heap.size, 0, none⟩)), (1, .int .i64 (p)), (2, .int .i64 (q))]) ⟨rfl, rfl, rfl, rfl, rfl, trivial⟩
 clear f57
 refine wp_seq ?_
 refine At.start ?_
 refine At.rd f63 3 [[], [.ld (.slice Ag1 g.pr.length cg1)], []] [(18, .int .i64 (q)), (17, .slice Ag1 g.pr.length cg1), (16, .pointer (some ⟨w.heap.size, 1, none⟩))] [(w54.cell? ⟨w.heap.size, 1, none⟩ = some (.slice Ag1 g.pr.length cg1))] (by kernel_rfl) ⟨(bx10.cell (i := 1) rfl), trivial⟩ (fun act65 f64 => ?_)
 clear f63
 refine At.call f64 26 #[.slice Ag1 g.pr.length cg1, .int .i64 (q)] (some 19) (by kernel_rfl) (amongR_any (la := g.pr) (n := q) (r8.pr.wide (Nat.zero_le _) (by omega))) ?_
 rintro e_ w66 ⟨rfl, he⟩
 refine ⟨_, rfl, _, rfl, fun act67 f68 => ?_⟩
 clear f64
 have g69 := gr_ext he
 have szw66 := g69.size
 replace e0 := e0.gr g69 no_row
 replace r8 := r8.gr g69 (fun _ h => by cases h)
 replace r9 := r9.gr g69 (fun _ h => by cases h)
 replace bx10 := bx10.gr g69 (by simp)
 replace bx56 := bx56.gr g69 (by simp)
 clear g69 he
 refine At.call f68 25 #[.agg ((amoD g.pr q : List Bool).map Value.bool).toArray] (some 20) (by kernel_rfl) (words_any (l := amoD g.pr q) (amoD_len _ _)) ?_
 rintro e_ w75 ⟨rfl, he⟩
 refine ⟨_, rfl, _, rfl, fun act76 f77 => ?_⟩
 clear f68
 have g78 := gr_ext he
 have szw75 := g78.size
 replace e0 := e0.gr g78 no_row
 replace r8 := r8.gr g78 (fun _ h => by cases h)
 replace r9 := r9.gr g78 (fun _ h => by cases h)
 replace bx10 := bx10.gr g78 (by simp)
 replace bx56 := bx56.gr g78 (by simp)
 clear g78 he
 refine At.seq f77 1 [[]] [(9, .pointer (some ⟨w75.heap.size, 0, none⟩))] (w75.alloc (.cells ((List.replicate 4 (0 : Int) : List Int).map wV).toArray 35 (0, 0))) [] (by kernel_rfl) trivial (fun act87 w84 hw85 f86 => ?_)
 clear f77
 have g88 := gr_alloc hw85
 have szw84 := g88.size
 replace e0 := e0.gr g88 no_row
 replace r8 := r8.gr g88 (fun _ h => by cases h)
 replace r9 := r9.gr g88 (fun _ h => by cases h)
 replace bx10 := bx10.gr g88 (by simp)
 replace bx56 := bx56.gr g88 (by simp)
 have bx95 : Bx w84 (w75.heap.size) ((List.replicate 4 (0 : Int) : List Int).map wV) 35 := Bx.new hw85
 have := bx95.lt
 clear g88 hw85
 refine At.act f86 (storeBlk (t := 35) (b := w75.heap.size) (n := 4) (cs' := ((wordsD (amoD g.pr q) : List Int).map wV)) (by kernel_rfl) (by kernel_rfl) ((List.length_map _).trans (okLen (wordsD_W _))) oneW_ ((show ((wordsD (amoD g.pr q) : List Int).map wV).length = 4 from ((List.length_map _).trans (okLen (wordsD_W _)))).trans (show ((List.replicate 4 (0 : Int) : List Int).map wV).length = 4 from (by simp only [List.length_map, List.length_set, List.length_replicate, List.length_cons, List.length_nil]; first | done | assumption | exact from_len _ | exact of_len _ | exact ofZ_len _ | exact (ofW_ok _).1 | exact (fullW_W _).1 | exact (okW_with (by assumption)).1 | exact (okW_less (by assumption)).1 | exact put_len (from_len _) | exact orD_len _ _ | exact andD_len _ _ | exact minusD_len _ _ | exact fullD_len _ | (refine okLen ?_; (repeat (first | assumption | exact ofW_ok _ | exact fullW_W _ | apply okW_with | apply okW_less | refine okW_orS ?_ ?_ | refine okW_andS ?_ ?_ | refine okW_minusS ?_ ?_)); done) | omega | rfl)).symm) bx95) ?_
 rintro d_ v_ w96 ⟨rfl, g97, bx98⟩
 refine ⟨_, rfl, fun act100 f99 => ?_⟩
 clear f86
 have szw96 := g97.size
 replace e0 := e0.gr g97 (fun k h => by injection h; omega)
 replace r8 := r8.gr g97 (fun k h => by injection h; omega)
 replace r9 := r9.gr g97 (fun k h => by injection h; omega)
 replace bx10 := bx10.gr g97 (fun h => by injection h; omega)
 replace bx56 := bx56.gr g97 (fun h => by injection h; omega)
 clear bx95 g97
 refine At.done rfl ?_
 refine t_n ?_
 have f106 := f99.sub (r := [(9, .pointer (some ⟨w75.heap.size, 0, none⟩)), (8, .pointer (some ⟨w35.heap.size, 0, none⟩)), (7, .bool true), (3, .pointer (some ⟨w.heap.size, 0, none⟩)), (1, .int .i64 (p)), (2, .int .i64 (q))]) ⟨rfl, rfl, rfl, rfl, rfl, rfl, trivial⟩
 clear f99
 refine wp_seq ?_
 obtain ⟨Cs107, hCs108⟩ : ∃ c : List (Addr × Value), c = ([(⟨w.heap.size, 0, none⟩, (.slice Ag0 g.ow.length cg0)), (⟨w.heap.size, 1, none⟩, (.slice Ag1 g.pr.length cg1)), (⟨w.heap.size, 2, none⟩, (.slice Ag2 g.mv.length cg2))] : List (Addr × Value)) ++ (blkC (w35.heap.size) ((wordsD (amoD g.ow p) : List Int).map wV) ++ blkC (w75.heap.size) ((wordsD (amoD g.pr q) : List Int).map wV)) := ⟨_, rfl⟩
 have hS109 : HoldsC Cs107 w96 := by rw [hCs108]; exact (holdsA (show HoldsC [(⟨w.heap.size, 0, none⟩, (.slice Ag0 g.ow.length cg0)), (⟨w.heap.size, 1, none⟩, (.slice Ag1 g.pr.length cg1)), (⟨w.heap.size, 2, none⟩, (.slice Ag2 g.mv.length cg2))] w96 from ⟨(bx10.cell (i := 0) rfl), (bx10.cell (i := 1) rfl), (bx10.cell (i := 2) rfl), trivial⟩) (holdsA (holds_blk bx56) (holds_blk bx98)))
 refine AtH.start Cs107 16 #[false, false, false, false, false, false, false, false, false, false, false, false, false, false, false, false] (by kernel_rfl) rfl rfl (fun w111 hw112 => ?_)
 have g110 := gr_drew hw112
 have hS113 := hS109.gr g110
 have szw111 := g110.size
 replace e0 := e0.gr g110 no_row
 replace r8 := r8.gr g110 (fun _ h => by cases h)
 replace r9 := r9.gr g110 (fun _ h => by cases h)
 replace bx10 := bx10.gr g110 (by simp)
 replace bx56 := bx56.gr g110 (by simp)
 replace bx98 := bx98.gr g110 (by simp)
 clear g110 hw112 hS109
 refine AtH.rd (by kernel_rfl) (fun d v c a w h => by cases d <;> exact h) hS113 [0, 1, 2, 3, 5] [[], [], [.ld (.slice Ag0 g.ow.length cg0), .ld (.slice Ag1 g.pr.length cg1), .ld (.slice Ag2 g.mv.length cg2)], [], [.cs ((wordsD (amoD g.ow p) : List Int).map wV)]] [(26, .agg ((wordsD (amoD g.ow p) : List Int).map wV).toArray), (24, .int .i64 (p)), (23, .agg #[.slice Ag0 g.ow.length cg0, .slice Ag1 g.pr.length cg1, .slice Ag2 g.mv.length cg2]), (22, .bool true), (21, .bool true)] #[true, true, true, true, false, true, false, false, false, false, false, false, false, false, false, false] [(∃ j_ : Nat, Cs107[j_]? = some (⟨w.heap.size, 0, none⟩, (.slice Ag0 g.ow.length cg0))), (∃ j_ : Nat, Cs107[j_]? = some (⟨w.heap.size, 1, none⟩, (.slice Ag1 g.pr.length cg1))), (∃ j_ : Nat, Cs107[j_]? = some (⟨w.heap.size, 2, none⟩, (.slice Ag2 g.mv.length cg2))), (((wordsD (amoD g.ow p) : List Int).map wV).length = 4), (∀ (j : Nat) (v : Value), ((wordsD (amoD g.ow p) : List Int).map wV)[j]? = some v → ∃ j_ : Nat, Cs107[j_]? = some (((⟨w35.heap.size, 0, none⟩ : Addr).add j), v))] 11 f106 (by kernel_rfl) ⟨⟨0, by rw [hCs108]; rfl⟩, ⟨1, by rw [hCs108]; rfl⟩, ⟨2, by rw [hCs108]; rfl⟩, ((List.length_map _).trans (okLen (wordsD_W _))), (fun j v hv => List.getElem?_of_mem (by rw [hCs108]; exact List.mem_append.2 (.inr (List.mem_append.2 (.inl (blkC_in hv)))))), trivial⟩ (fun act121 f120 => ?_)
 clear f106
 refine AtH.all [4] 10 (by kernel_rfl) (by simp) ⟨?_, trivial⟩
 refine OneH.call f120 27 #[.agg #[.slice Ag0 g.ow.length cg0, .slice Ag1 g.pr.length cg1, .slice Ag2 g.mv.length cg2], .int .i64 (p)] (some 25) #[true, true, true, true, true, true, false, false, false, false, false, false, false, false, false, false] (by kernel_rfl) (by kernel_rfl) (ownG_any (g := g) (p := p) (r8.wide (Nat.zero_le _) (by omega))) ?_
 rintro e_ w123 ⟨rfl, he⟩
 refine ⟨_, rfl, _, rfl, fun act124 f125 => ?_⟩
 clear f120
 have g126 := gr_ext he
 have hS122 := hS113.gr g126
 have szw123 := g126.size
 replace e0 := e0.gr g126 no_row
 replace r8 := r8.gr g126 (fun _ h => by cases h)
 replace r9 := r9.gr g126 (fun _ h => by cases h)
 replace bx10 := bx10.gr g126 (by simp)
 replace bx56 := bx56.gr g126 (by simp)
 replace bx98 := bx98.gr g126 (by simp)
 clear g126 he
 refine ⟨hS122, ?_⟩
 refine AtH.rd (by kernel_rfl) (fun d v c a w h => by cases d <;> exact h) hS122 [6] [[.cs [wV (gI (wordsD (amoD g.ow p)) 0), wV (gI (wordsD (amoD g.ow p)) 1), wV (gI (wordsD (amoD g.ow p)) 2), wV (gI (wordsD (amoD g.ow p)) 3)], .cs [wV (gI (wordsD (amoD g.ow p)) 0), wV (gI (wordsD (amoD g.ow p)) 1), wV (gI (wordsD (amoD g.ow p)) 2), wV (gI (wordsD (amoD g.ow p)) 3)], .as_ (.bool true)]] [(27, .bool true)] #[true, true, true, true, true, true, true, false, false, false, false, false, false, false, false, false] [(((wordsD (amoD g.ow p) : List Int).map wV).toArray = ([wV (gI (wordsD (amoD g.ow p)) 0), wV (gI (wordsD (amoD g.ow p)) 1), wV (gI (wordsD (amoD g.ow p)) 2), wV (gI (wordsD (amoD g.ow p)) 3)] : List Value).toArray), (((wordsD (amoD g.ow p) : List Int).map wV).toArray = ([wV (gI (wordsD (amoD g.ow p)) 0), wV (gI (wordsD (amoD g.ow p)) 1), wV (gI (wordsD (amoD g.ow p)) 2), wV (gI (wordsD (amoD g.ow p)) 3)] : List Value).toArray), ((.bool ((((gI (wordsD (amoD g.ow p)) 0 : Int) == gI (wordsD (amoD g.ow p)) 0) && (((gI (wordsD (amoD g.ow p)) 1 : Int) == gI (wordsD (amoD g.ow p)) 1) && (((gI (wordsD (amoD g.ow p)) 2 : Int) == gI (wordsD (amoD g.ow p)) 2) && (((gI (wordsD (amoD g.ow p)) 3 : Int) == gI (wordsD (amoD g.ow p)) 3) && true))))) : Value) = .bool true)] 9 f125 (by kernel_rfl) ⟨(map4 (okLen (wordsD_W _))), (map4 (okLen (wordsD_W _))), (Eq.trans (b := (.bool (decide ((wordsD (amoD g.ow p) : List Int) = (wordsD (amoD g.ow p)))) : Value)) (congrArg (fun b => Value.bool b) (w4_eq (okLen (wordsD_W _)) (okLen (wordsD_W _)))) (congrArg Value.bool (decide_eq_true rfl))), trivial⟩ (fun act134 f133 => ?_)
 clear f125
 refine AtH.rd (by kernel_rfl) (fun d v c a w h => by cases d <;> exact h) hS122 [7] [[]] [(28, .bool true)] #[true, true, true, true, true, true, true, true, false, false, false, false, false, false, false, false] [] 8 f133 (by kernel_rfl) trivial (fun act136 f135 => ?_)
 clear f133
 refine AtH.rd (by kernel_rfl) (fun d v c a w h => by cases d <;> exact h) hS122 [8] [[]] [(29, .bool true)] #[true, true, true, true, true, true, true, true, true, false, false, false, false, false, false, false] [] 7 f135 (by kernel_rfl) trivial (fun act138 f137 => ?_)
 clear f135
 refine AtH.rd (by kernel_rfl) (fun d v c a w h => by cases d <;> exact h) hS122 [9] [[.ld (.slice Ag0 g.ow.length cg0), .ld (.slice Ag1 g.pr.length cg1), .ld (.slice Ag2 g.mv.length cg2)]] [(30, .agg #[.slice Ag0 g.ow.length cg0, .slice Ag1 g.pr.length cg1, .slice Ag2 g.mv.length cg2])] #[true, true, true, true, true, true, true, true, true, true, false, false, false, false, false, false] [(∃ j_ : Nat, Cs107[j_]? = some (⟨w.heap.size, 0, none⟩, (.slice Ag0 g.ow.length cg0))), (∃ j_ : Nat, Cs107[j_]? = some (⟨w.heap.size, 1, none⟩, (.slice Ag1 g.pr.length cg1))), (∃ j_ : Nat, Cs107[j_]? = some (⟨w.heap.size, 2, none⟩, (.slice Ag2 g.mv.length cg2)))] 6 f137 (by kernel_rfl) ⟨⟨0, by rw [hCs108]; rfl⟩, ⟨1, by rw [hCs108]; rfl⟩, ⟨2, by rw [hCs108]; rfl⟩, trivial⟩ (fun act140 f139 => ?_)
 clear f137
 refine AtH.rd (by kernel_rfl) (fun d v c a w h => by cases d <;> exact h) hS122 [10] [[]] [(31, .int .i64 (q))] #[true, true, true, true, true, true, true, true, true, true, true, false, false, false, false, false] [] 5 f139 (by kernel_rfl) trivial (fun act142 f141 => ?_)
 clear f139
 refine AtH.rd (by kernel_rfl) (fun d v c a w h => by cases d <;> exact h) hS122 [12] [[.cs ((wordsD (amoD g.pr q) : List Int).map wV)]] [(33, .agg ((wordsD (amoD g.pr q) : List Int).map wV).toArray)] #[true, true, true, true, true, true, true, true, true, true, true, false, true, false, false, false] [(((wordsD (amoD g.pr q) : List Int).map wV).length = 4), (∀ (j : Nat) (v : Value), ((wordsD (amoD g.pr q) : List Int).map wV)[j]? = some v → ∃ j_ : Nat, Cs107[j_]? = some (((⟨w75.heap.size, 0, none⟩ : Addr).add j), v))] 4 f141 (by kernel_rfl) ⟨((List.length_map _).trans (okLen (wordsD_W _))), (fun j v hv => List.getElem?_of_mem (by rw [hCs108]; exact List.mem_append.2 (.inr (List.mem_append.2 (.inr (blkC_in hv)))))), trivial⟩ (fun act144 f143 => ?_)
 clear f141
 refine AtH.all [11] 3 (by kernel_rfl) (by simp) ⟨?_, trivial⟩
 refine OneH.call f143 28 #[.agg #[.slice Ag0 g.ow.length cg0, .slice Ag1 g.pr.length cg1, .slice Ag2 g.mv.length cg2], .int .i64 (q)] (some 32) #[true, true, true, true, true, true, true, true, true, true, true, true, true, false, false, false] (by kernel_rfl) (by kernel_rfl) (atG_any (g := g) (p := q) (r8.wide (Nat.zero_le _) (by omega))) ?_
 rintro e_ w146 ⟨rfl, he⟩
 refine ⟨_, rfl, _, rfl, fun act147 f148 => ?_⟩
 clear f143
 have g149 := gr_ext he
 have hS145 := hS122.gr g149
 have szw146 := g149.size
 replace e0 := e0.gr g149 no_row
 replace r8 := r8.gr g149 (fun _ h => by cases h)
 replace r9 := r9.gr g149 (fun _ h => by cases h)
 replace bx10 := bx10.gr g149 (by simp)
 replace bx56 := bx56.gr g149 (by simp)
 replace bx98 := bx98.gr g149 (by simp)
 clear g149 he
 refine ⟨hS145, ?_⟩
 refine AtH.rd (by kernel_rfl) (fun d v c a w h => by cases d <;> exact h) hS145 [13] [[.cs [wV (gI (wordsD (amoD g.pr q)) 0), wV (gI (wordsD (amoD g.pr q)) 1), wV (gI (wordsD (amoD g.pr q)) 2), wV (gI (wordsD (amoD g.pr q)) 3)], .cs [wV (gI (wordsD (amoD g.pr q)) 0), wV (gI (wordsD (amoD g.pr q)) 1), wV (gI (wordsD (amoD g.pr q)) 2), wV (gI (wordsD (amoD g.pr q)) 3)], .as_ (.bool true)]] [(34, .bool true)] #[true, true, true, true, true, true, true, true, true, true, true, true, true, true, false, false] [(((wordsD (amoD g.pr q) : List Int).map wV).toArray = ([wV (gI (wordsD (amoD g.pr q)) 0), wV (gI (wordsD (amoD g.pr q)) 1), wV (gI (wordsD (amoD g.pr q)) 2), wV (gI (wordsD (amoD g.pr q)) 3)] : List Value).toArray), (((wordsD (amoD g.pr q) : List Int).map wV).toArray = ([wV (gI (wordsD (amoD g.pr q)) 0), wV (gI (wordsD (amoD g.pr q)) 1), wV (gI (wordsD (amoD g.pr q)) 2), wV (gI (wordsD (amoD g.pr q)) 3)] : List Value).toArray), ((.bool ((((gI (wordsD (amoD g.pr q)) 0 : Int) == gI (wordsD (amoD g.pr q)) 0) && (((gI (wordsD (amoD g.pr q)) 1 : Int) == gI (wordsD (amoD g.pr q)) 1) && (((gI (wordsD (amoD g.pr q)) 2 : Int) == gI (wordsD (amoD g.pr q)) 2) && (((gI (wordsD (amoD g.pr q)) 3 : Int) == gI (wordsD (amoD g.pr q)) 3) && true))))) : Value) = .bool true)] 2 f148 (by kernel_rfl) ⟨(map4 (okLen (wordsD_W _))), (map4 (okLen (wordsD_W _))), (Eq.trans (b := (.bool (decide ((wordsD (amoD g.pr q) : List Int) = (wordsD (amoD g.pr q)))) : Value)) (congrArg (fun b => Value.bool b) (w4_eq (okLen (wordsD_W _)) (okLen (wordsD_W _)))) (congrArg Value.bool (decide_eq_true rfl))), trivial⟩ (fun act157 f156 => ?_)
 clear f148
 refine AtH.rd (by kernel_rfl) (fun d v c a w h => by cases d <;> exact h) hS145 [14] [[]] [(35, .bool true)] #[true, true, true, true, true, true, true, true, true, true, true, true, true, true, true, false] [] 1 f156 (by kernel_rfl) trivial (fun act159 f158 => ?_)
 clear f156
 refine AtH.rd (by kernel_rfl) (fun d v c a w h => by cases d <;> exact h) hS145 [15] [[]] [(6, .bool true)] #[true, true, true, true, true, true, true, true, true, true, true, true, true, true, true, true] [] 0 f158 (by kernel_rfl) trivial (fun act161 f160 => ?_)
 clear f158
 refine AtH.done (by kernel_rfl) ?_
 clear hS145
 refine t_n ?_
 have f162 := f160.sub (r := [(6, .bool true)]) ⟨rfl, trivial⟩
 clear f160
 refine wp_ret ?_
 refine ret_ f162 [] [.bool true] [] (by kernel_rfl) trivial ?_
 exact ⟨rfl, e0⟩

end Go.Proofs.YtkkophhnliplhaaDoor
