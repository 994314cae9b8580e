/-
  A walk of a Go function, printed by a program of this repo. Conditions: what the theorems name.
-/
import Derived.Test.YtkpljmalbmcdfaaDoorWShown12
import Derived.Test.YtkpljmalbmcdfaaDoorPureAttrD
import Derived.Test.YtkpljmalbmcdfaaDoorWDual
set_option linter.unusedVariables false
set_option linter.unusedSimpArgs false
namespace Go.Proofs.YtkpljmalbmcdfaaDoor
open Go Go.RowKit

attribute [local irreducible] ofZ fromW wordsD ofD ofW lsD lenW lenN fullW withW lessW hasW hasD inW inD leastD putD onI tzI orS andS minusS orD andD minusD fullD emptyD
set_option maxHeartbeats 4000000 in
theorem dual12_any {Ag0 Ag1 Ag2 : Option Addr} {cg0 cg1 cg2 : Nat} {g : GameL} {s : List Int} {t : List Int} {p : Int} {w : World} (rg : RdG w 0 w.heap.size Ag0 Ag1 Ag2 cg0 cg1 cg2 g) (hs : OkW s) (ht : OkW t) (rT : RdT w 0 w.heap.size) :
    Calls Tryd.prog 8 #[.agg #[.slice Ag0 g.ow.length cg0, .slice Ag1 g.pr.length cg1, .slice Ag2 g.mv.length cg2], .agg ((s : List Int).map wV).toArray, .int .i64 (p), .agg ((t : List Int).map wV).toArray] w fun e w' => e = .returned (.bool true) ∧ Ext w w' := by
 have hlg0 := rg.ow.len
 have hlg1 := rg.pr.len
 have hlg2 := rg.mv.len
 have hkg0 := rg.k0
 have hkg1 := rg.k1
 have hkg2 := rg.k2
 have hls := hs.1
 have hlt := ht.1
 refine enter_ (args := [.agg #[.slice Ag0 g.ow.length cg0, .slice Ag1 g.pr.length cg1, .slice Ag2 g.mv.length cg2], .agg ((s : List Int).map wV).toArray, .int .i64 (p), .agg ((t : List Int).map wV).toArray]) Tryd.func8 rfl Tryd.ntmps8 (Nat.le_of_ble_eq_true rfl) (fun act0 f0 => ?_)
 have e0 := Ext.refl w
 refine wp_seq ?_
 refine At.start ?_
 refine At.seq f0 1 [[]] [(4, .pointer (some ⟨w.heap.size, 0, none⟩))] (w.alloc (.cells #[.slice Ag0 g.ow.length cg0, .slice Ag1 g.pr.length cg1, .slice Ag2 g.mv.length cg2] 25 (0, 0))) [] (by kernel_rfl) trivial (fun act4 w1 hw2 f3 => ?_)
 clear f0
 have g5 := gr_alloc hw2
 have szw1 := g5.size
 have e7 := e0.gr g5 no_row
 clear e0
 have r8 := rg.gr g5 (fun _ h => by cases h)
 clear rg
 have r9 := rT.gr g5 (fun _ h => by cases h)
 clear rT
 have bx10 : Bx w1 (w.heap.size) [.slice Ag0 g.ow.length cg0, .slice Ag1 g.pr.length cg1, .slice Ag2 g.mv.length cg2] 25 := Bx.new hw2
 have := bx10.lt
 clear g5 hw2
 refine At.seq f3 1 [[]] [(5, .pointer (some ⟨w1.heap.size, 0, none⟩))] (w1.alloc (.cells ((s : List Int).map wV).toArray 28 (0, 0))) [] (by kernel_rfl) trivial (fun act14 w11 hw12 f13 => ?_)
 clear f3
 have g15 := gr_alloc hw12
 have szw11 := g15.size
 have e17 := e7.gr g15 no_row
 clear e7
 have r18 := r8.gr g15 (fun _ h => by cases h)
 clear r8
 have r19 := r9.gr g15 (fun _ h => by cases h)
 clear r9
 have bx20 := bx10.gr g15 (by simp)
 clear bx10
 have bx21 : Bx w11 (w1.heap.size) ((s : List Int).map wV) 28 := Bx.new hw12
 have := bx21.lt
 clear g15 hw12
 refine At.seq f13 1 [[]] [(7, .pointer (some ⟨w11.heap.size, 0, none⟩))] (w11.alloc (.cells ((t : List Int).map wV).toArray 28 (0, 0))) [] (by kernel_rfl) trivial (fun act25 w22 hw23 f24 => ?_)
 clear f13
 have g26 := gr_alloc hw23
 have szw22 := g26.size
 have e28 := e17.gr g26 no_row
 clear e17
 have r29 := r18.gr g26 (fun _ h => by cases h)
 clear r18
 have r30 := r19.gr g26 (fun _ h => by cases h)
 clear r19
 have bx31 := bx20.gr g26 (by simp)
 clear bx20
 have bx32 := bx21.gr g26 (by simp)
 clear bx21
 have bx33 : Bx w22 (w11.heap.size) ((t : List Int).map wV) 28 := Bx.new hw23
 have := bx33.lt
 clear g26 hw23
 refine At.rd f24 1 [[]] [(8, .bool false)] [] (by kernel_rfl) trivial (fun act35 f34 => ?_)
 clear f24
 refine At.done rfl ?_
 refine t_n ?_
 have f36 := f34.sub (r := [(7, .pointer (some ⟨w11.heap.size, 0, none⟩)), (5, .pointer (some ⟨w1.heap.size, 0, none⟩)), (4, .pointer (some ⟨w.heap.size, 0, none⟩)), (2, .int .i64 (p))]) ⟨rfl, rfl, rfl, rfl, trivial⟩
 clear f34
 refine wp_seq ?_
 refine At.start ?_
 refine At.call f36 9 #[] (some 15) (by kernel_rfl) (shown12_any (r30.wide (Nat.zero_le _) (by omega))) ?_
 rintro e_ w37 ⟨rfl, he⟩
 refine ⟨_, rfl, _, rfl, fun act38 f39 => ?_⟩
 clear f36
 have g40 := gr_ext he
 have szw37 := g40.size
 have e41 := e28.gr g40 no_row
 clear e28
 have r42 := r29.gr g40 (fun _ h => by cases h)
 clear r29
 have r43 := r30.gr g40 (fun _ h => by cases h)
 clear r30
 have bx44 := bx31.gr g40 (by simp)
 clear bx31
 have bx45 := bx32.gr g40 (by simp)
 clear bx32
 have bx46 := bx33.gr g40 (by simp)
 clear bx33
 clear g40 he
 refine At.rd f39 1 [[]] [(9, .bool true)] [] (by kernel_rfl) trivial (fun act48 f47 => ?_)
 clear f39
 refine At.done rfl ?_
 refine t_n ?_
 have f49 := f47.sub (r := [(9, .bool true), (7, .pointer (some ⟨w11.heap.size, 0, none⟩)), (5, .pointer (some ⟨w1.heap.size, 0, none⟩)), (4, .pointer (some ⟨w.heap.size, 0, none⟩)), (2, .int .i64 (p))]) ⟨rfl, rfl, rfl, rfl, rfl, trivial⟩
 clear f47
 refine wp_seq ?_
 refine At.start ?_
 refine At.rd f49 1 [[.ld (.slice Ag0 g.ow.length cg0), .ld (.slice Ag1 g.pr.length cg1), .ld (.slice Ag2 g.mv.length cg2)]] [(16, .agg #[.slice Ag0 g.ow.length cg0, .slice Ag1 g.pr.length cg1, .slice Ag2 g.mv.length cg2])] [(w37.cell? ⟨w.heap.size, 0, none⟩ = some (.slice Ag0 g.ow.length cg0)), (w37.cell? ⟨w.heap.size, 1, none⟩ = some (.slice Ag1 g.pr.length cg1)), (w37.cell? ⟨w.heap.size, 2, none⟩ = some (.slice Ag2 g.mv.length cg2))] (by kernel_rfl) ⟨(bx44.cell (i := 0) rfl), (bx44.cell (i := 1) rfl), (bx44.cell (i := 2) rfl), trivial⟩ (fun act51 f50 => ?_)
 clear f49
 refine At.call f50 29 #[.agg #[.slice Ag0 g.ow.length cg0, .slice Ag1 g.pr.length cg1, .slice Ag2 g.mv.length cg2]] (some 17) (by kernel_rfl) (dualM_any (g := g) (r42.wide (Nat.zero_le _) (by omega))) ?_
 rintro e_ w65 ⟨A52, c53, A54, c55, A56, c57, rfl, he, ow58, ow59, ow60⟩
 have hip64 := dual_inner (inner_len (RdG.mv (r42.wide (Nat.zero_le _) (by omega))))
 have := dual_lens g
 refine ⟨_, rfl, _, rfl, fun act66 f67 => ?_⟩
 clear f50
 have g68 := gr_ext he
 have szw65 := g68.size
 have e69 := e41.gr g68 no_row
 clear e41
 have r70 := r42.gr g68 (fun _ h => by cases h)
 clear r42
 have r71 := r43.gr g68 (fun _ h => by cases h)
 clear r43
 have bx72 := bx44.gr g68 (by simp)
 clear bx44
 have bx73 := bx45.gr g68 (by simp)
 clear bx45
 have bx74 := bx46.gr g68 (by simp)
 clear bx46
 clear g68 he
 refine At.seq f67 1 [[]] [(10, .pointer (some ⟨w65.heap.size, 0, none⟩))] (w65.alloc (.cells #[.slice none 0 0, .slice none 0 0, .slice none 0 0] 25 (0, 0))) [] (by kernel_rfl) trivial (fun act78 w75 hw76 f77 => ?_)
 clear f67
 have g79 := gr_alloc hw76
 have szw75 := g79.size
 have e81 := e69.gr g79 no_row
 clear e69
 have r82 := r70.gr g79 (fun _ h => by cases h)
 clear r70
 have r83 := r71.gr g79 (fun _ h => by cases h)
 clear r71
 have bx84 := bx72.gr g79 (by simp)
 clear bx72
 have bx85 := bx73.gr g79 (by simp)
 clear bx73
 have bx86 := bx74.gr g79 (by simp)
 clear bx74
 have ow87 : OwnR w75 (Sx (w37.heap.size) [some (w65.heap.size), obk (A54), obk (A56)]) A52 c53 3 ((dualG g).ow : List Int) := ow58.grA g79 (fun _ _ h => by cases h) (fun k hk hs => ⟨(fun e => by injection e; omega), hs.1, hs.2.1, hs.2.2⟩)
 clear ow58
 have ow88 : OwnR w75 (Sx (w37.heap.size) [some (w65.heap.size), obk (A52), obk (A56)]) A54 c55 3 ((dualG g).pr : List Int) := ow59.grA g79 (fun _ _ h => by cases h) (fun k hk hs => ⟨(fun e => by injection e; omega), hs.1, hs.2.1, hs.2.2⟩)
 clear ow59
 have ow89 : OwnLL w75 (w37.heap.size) [some (w65.heap.size), obk (A52), obk (A54)] A56 c57 22 3 ((dualG g).mv : List (List Int)) := ow60.grA g79 (fun _ _ h => by cases h) (fun k hk hs => ⟨(fun e => by injection e; omega), hs.1, hs.2.1, hs.2.2⟩)
 clear ow60
 have bx90 : Bx w75 (w65.heap.size) [.slice none 0 0, .slice none 0 0, .slice none 0 0] 25 := Bx.new hw76
 have := bx90.lt
 clear g79 hw76
 refine At.store f77 (t := 25) (b := w65.heap.size) (off := 0) (v := .agg #[.slice A52 ((dualG g).ow.length) c53, .slice A54 ((dualG g).pr.length) c55, .slice A56 ((dualG g).mv.length) c57]) (by kernel_rfl) bx90 (by kernel_rfl) (fun act95 w91 g92 bx93 f94 => ?_)
 clear f77
 replace bx93 : Bx w91 (w65.heap.size) [.slice A52 ((dualG g).ow.length) c53, .slice A54 ((dualG g).pr.length) c55, .slice A56 ((dualG g).mv.length) c57] 25 := bx93
 have szw91 := g92.size
 have e96 := e81.gr g92 (fun k h => by injection h; omega)
 clear e81
 have r97 := r82.gr g92 (fun k h => by injection h; omega)
 clear r82
 have r98 := r83.gr g92 (fun k h => by injection h; omega)
 clear r83
 have bx99 := bx84.gr g92 (fun h => by injection h; omega)
 clear bx84
 have bx100 := bx85.gr g92 (fun h => by injection h; omega)
 clear bx85
 have bx101 := bx86.gr g92 (fun h => by injection h; omega)
 clear bx86
 have ow102 := ow87.gr g92 (fun k hk => hk.1)
 clear ow87
 have ow103 := ow88.gr g92 (fun k hk => hk.1)
 clear ow88
 have ow104 := ow89.gr g92 (fun k hk => hk.1)
 clear ow89
 clear bx90 g92
 refine At.done rfl ?_
 refine t_n ?_
 have f105 := f94.sub (r := [(10, .pointer (some ⟨w65.heap.size, 0, none⟩)), (9, .bool true), (7, .pointer (some ⟨w11.heap.size, 0, none⟩)), (5, .pointer (some ⟨w1.heap.size, 0, none⟩)), (4, .pointer (some ⟨w.heap.size, 0, none⟩)), (2, .int .i64 (p))]) ⟨rfl, rfl, rfl, rfl, rfl, rfl, trivial⟩
 clear f94
 refine wp_seq ?_
 refine wp_seq ?_
 refine At.start ?_
 rcases Bool.eq_false_or_eq_true (((((dualG g).ow.length : Nat) : Int) : Int) == 0) with h106 | h106
 ·have q107 := eq_of_beq h106
  refine At.rd f105 16 [[], [], [], [], [.ld (.slice A52 ((dualG g).ow.length) c53)], [], [], [], [.as_ (.bool true)], [], [], [], [], [], [], []] [(33, .bool true), (32, undef), (31, undef), (30, undef), (29, undef), (28, undef), (27, undef), (26, .bool true), (25, .bool (((((dualG g).ow.length : Nat) : Int) : Int) == 0)), (24, .bool (((((dualG g).ow.length : Nat) : Int) : Int) == 0)), (23, .int .i64 ((((dualG g).ow.length : Nat) : Int))), (22, .slice A52 ((dualG g).ow.length) c53), (21, .pointer (some ⟨w65.heap.size, 0, none⟩)), (20, .bool false), (19, .bool false), (18, .bool true)] [(w91.cell? ⟨w65.heap.size, 0, none⟩ = some (.slice A52 ((dualG g).ow.length) c53)), ((.bool (((((dualG g).ow.length : Nat) : Int) : Int) == 0) : Value) = .bool true)] (by kernel_rfl) ⟨(bx93.cell (i := 0) rfl), (congrArg Value.bool h106), trivial⟩ (fun act109 f108 => ?_)
  clear f105
  refine At.done rfl ?_
  refine t_n ?_
  have f110 := f108.sub (r := [(33, .bool true), (10, .pointer (some ⟨w65.heap.size, 0, none⟩)), (9, .bool true), (7, .pointer (some ⟨w11.heap.size, 0, none⟩)), (5, .pointer (some ⟨w1.heap.size, 0, none⟩)), (4, .pointer (some ⟨w.heap.size, 0, none⟩)), (2, .int .i64 (p))]) ⟨rfl, rfl, rfl, rfl, rfl, rfl, rfl, trivial⟩
  clear f108
  refine cond_T f110 rfl ?_
  refine wp_seq ?_
  refine At.start ?_
  refine At.rd f110 2 [[], []] [(8, .bool true), (34, .bool true)] [] (by kernel_rfl) trivial (fun act112 f111 => ?_)
  clear f110
  refine At.done rfl ?_
  refine t_n ?_
  have f113 := f111.sub (r := [(8, .bool true)]) ⟨rfl, trivial⟩
  clear f111
  refine wp_ret ?_
  refine t_r ?_
  refine ret_ f113 [] [.bool true] [] (by kernel_rfl) trivial ?_
  exact ⟨rfl, e96⟩
 ·have q114 := ne_of_beq_false h106
  rcases Bool.eq_false_or_eq_true ((p : Int) != 0) with h115 | h115
  ·have q116 := bne_iff_ne.1 h115
   refine At.rd f105 16 [[], [], [], [], [.ld (.slice A52 ((dualG g).ow.length) c53)], [], [], [], [.as_ (.bool false)], [], [], [.as_ (.bool true)], [], [], [], []] [(33, .bool ((p : Int) != 1)), (32, .bool ((p : Int) != 1)), (31, .bool ((p : Int) != 1)), (30, .int .i64 (p)), (29, .bool true), (28, .bool ((p : Int) != 0)), (27, .int .i64 (p)), (26, .bool false), (25, .bool (((((dualG g).ow.length : Nat) : Int) : Int) == 0)), (24, .bool (((((dualG g).ow.length : Nat) : Int) : Int) == 0)), (23, .int .i64 ((((dualG g).ow.length : Nat) : Int))), (22, .slice A52 ((dualG g).ow.length) c53), (21, .pointer (some ⟨w65.heap.size, 0, none⟩)), (20, .bool false), (19, .bool false), (18, .bool true)] [(w91.cell? ⟨w65.heap.size, 0, none⟩ = some (.slice A52 ((dualG g).ow.length) c53)), ((.bool (((((dualG g).ow.length : Nat) : Int) : Int) == 0) : Value) = .bool false), ((.bool ((p : Int) != 0) : Value) = .bool true)] (by kernel_rfl) ⟨(bx93.cell (i := 0) rfl), (congrArg Value.bool h106), (congrArg Value.bool h115), trivial⟩ (fun act118 f117 => ?_)
   clear f105
   refine At.done rfl ?_
   refine t_n ?_
   have f119 := f117.sub (r := [(33, .bool ((p : Int) != 1)), (10, .pointer (some ⟨w65.heap.size, 0, none⟩)), (9, .bool true), (7, .pointer (some ⟨w11.heap.size, 0, none⟩)), (5, .pointer (some ⟨w1.heap.size, 0, none⟩)), (4, .pointer (some ⟨w.heap.size, 0, none⟩)), (2, .int .i64 (p))]) ⟨rfl, rfl, rfl, rfl, rfl, rfl, rfl, trivial⟩
   clear f117
   refine cond_S f119 (t := (p : Int) != 1) rfl (fun h120 => ?_) (fun h120 => ?_)
   ·have q121 := bne_iff_ne.1 h120
    refine wp_seq ?_
    refine At.start ?_
    refine At.rd f119 2 [[], []] [(8, .bool true), (34, .bool true)] [] (by kernel_rfl) trivial (fun act123 f122 => ?_)
    clear f119
    refine At.done rfl ?_
    refine t_n ?_
    have f124 := f122.sub (r := [(8, .bool true)]) ⟨rfl, trivial⟩
    clear f122
    refine wp_ret ?_
    refine t_r ?_
    refine ret_ f124 [] [.bool true] [] (by kernel_rfl) trivial ?_
    exact ⟨rfl, e96⟩
   ·have q125 := bne_eq_false_iff_eq.1 h120
    refine wp_skip ?_
    refine t_n ?_
    have f126 := f119.sub (r := [(10, .pointer (some ⟨w65.heap.size, 0, none⟩)), (7, .pointer (some ⟨w11.heap.size, 0, none⟩)), (5, .pointer (some ⟨w1.heap.size, 0, none⟩)), (4, .pointer (some ⟨w.heap.size, 0, none⟩)), (2, .int .i64 (p))]) ⟨rfl, rfl, rfl, rfl, rfl, trivial⟩
    clear f119
    refine wp_seq ?_
    refine At.start ?_
    refine At.rd f126 4 [[.ld (.slice Ag0 g.ow.length cg0), .ld (.slice Ag1 g.pr.length cg1), .ld (.slice Ag2 g.mv.length cg2)], [.cs ((s : List Int).map wV)], [], [.cs ((t : List Int).map wV)]] [(39, .agg ((t : List Int).map wV).toArray), (38, .int .i64 (p)), (37, .agg ((s : List Int).map wV).toArray), (36, .agg #[.slice Ag0 g.ow.length cg0, .slice Ag1 g.pr.length cg1, .slice Ag2 g.mv.length cg2])] [(w91.cell? ⟨w.heap.size, 0, none⟩ = some (.slice Ag0 g.ow.length cg0)), (w91.cell? ⟨w.heap.size, 1, none⟩ = some (.slice Ag1 g.pr.length cg1)), (w91.cell? ⟨w.heap.size, 2, none⟩ = some (.slice Ag2 g.mv.length cg2)), (((s : List Int).map wV).length = 4), (∀ (j : Nat) (v : Value), ((s : List Int).map wV)[j]? = some v → w91.cell? ((⟨w1.heap.size, 0, none⟩ : Addr).add j) = some v), (((t : List Int).map wV).length = 4), (∀ (j : Nat) (v : Value), ((t : List Int).map wV)[j]? = some v → w91.cell? ((⟨w11.heap.size, 0, none⟩ : Addr).add j) = some v)] (by kernel_rfl) ⟨(bx99.cell (i := 0) rfl), (bx99.cell (i := 1) rfl), (bx99.cell (i := 2) rfl), (by simp only [List.length_map, List.length_set, List.length_replicate, List.length_cons, List.length_nil]; first | done | assumption | exact from_len _ | exact of_len _ | exact ofZ_len _ | exact (ofW_ok _).1 | exact (fullW_W _).1 | exact (okW_with (by assumption)).1 | exact (okW_less (by assumption)).1 | exact put_len (from_len _) | exact orD_len _ _ | exact andD_len _ _ | exact minusD_len _ _ | exact fullD_len _ | (refine okLen ?_; (repeat (first | assumption | exact ofW_ok _ | exact fullW_W _ | apply okW_with | apply okW_less | refine okW_orS ?_ ?_ | refine okW_andS ?_ ?_ | refine okW_minusS ?_ ?_)); done) | omega | rfl), bx100.whole, (by simp only [List.length_map, List.length_set, List.length_replicate, List.length_cons, List.length_nil]; first | done | assumption | exact from_len _ | exact of_len _ | exact ofZ_len _ | exact (ofW_ok _).1 | exact (fullW_W _).1 | exact (okW_with (by assumption)).1 | exact (okW_less (by assumption)).1 | exact put_len (from_len _) | exact orD_len _ _ | exact andD_len _ _ | exact minusD_len _ _ | exact fullD_len _ | (refine okLen ?_; (repeat (first | assumption | exact ofW_ok _ | exact fullW_W _ | apply okW_with | apply okW_less | refine okW_orS ?_ ?_ | refine okW_andS ?_ ?_ | refine okW_minusS ?_ ?_)); done) | omega | rfl), bx101.whole, trivial⟩ (fun act128 f127 => ?_)
    clear f126
    refine At.call f127 12 #[.agg #[.slice Ag0 g.ow.length cg0, .slice Ag1 g.pr.length cg1, .slice Ag2 g.mv.length cg2], .agg ((s : List Int).map wV).toArray, .int .i64 (p), .agg ((t : List Int).map wV).toArray] (some 40) (by kernel_rfl) (attract_any (g := g) (s := s) (t := t) (p := p) (r97.wide (Nat.zero_le _) (by omega)) (by repeat (first | assumption | exact ofW_ok _ | exact fullW_W _ | exact wordsD_W _ | exact okW_0 | exact okW_00 | apply okW_orS | apply okW_andS | apply okW_minusS | apply okW_with | apply okW_less | apply okW_or | apply okW_and | apply okW_minus | (apply okW_lit <;> exact ⟨by omega, by omega⟩))) (by repeat (first | assumption | exact ofW_ok _ | exact fullW_W _ | exact wordsD_W _ | exact okW_0 | exact okW_00 | apply okW_orS | apply okW_andS | apply okW_minusS | apply okW_with | apply okW_less | apply okW_or | apply okW_and | apply okW_minus | (apply okW_lit <;> exact ⟨by omega, by omega⟩))) (r98.wide (Nat.zero_le _) (by omega))) ?_
    rintro e_ w133 ⟨A129, c130, sa, ma, rfl, he, ow131, hA⟩
    have hok_sa := att_ok hA
    have hl_sa := okLen hok_sa
    have hlm_ma := att_len hA
    refine ⟨_, rfl, _, rfl, fun act134 f135 => ?_⟩
    clear f127
    have g136 := gr_ext he
    have lt137 := ow102.lt
    have lt138 := ow103.lt
    have lt139 := ow104.lt
    have szw133 := g136.size
    have e140 := e96.gr g136 no_row
    clear e96
    have r141 := r97.gr g136 (fun _ h => by cases h)
    clear r97
    have r142 := r98.gr g136 (fun _ h => by cases h)
    clear r98
    have bx143 := bx99.gr g136 (by simp)
    clear bx99
    have bx144 := bx100.gr g136 (by simp)
    clear bx100
    have bx145 := bx101.gr g136 (by simp)
    clear bx101
    have ow146 : OwnR w133 (Sx (w37.heap.size) [obk (A129), some (w65.heap.size), obk (A54), obk (A56)]) A52 c53 3 ((dualG g).ow : List Int) := ow102.grA g136 (fun _ _ h => by cases h) (fun k hk hs => ⟨(fun e => by have := ow131.ge _ e; omega), hs.1, hs.2.1, hs.2.2.1, hs.2.2.2⟩)
    clear ow102
    have ow147 : OwnR w133 (Sx (w37.heap.size) [obk (A129), some (w65.heap.size), obk (A52), obk (A56)]) A54 c55 3 ((dualG g).pr : List Int) := ow103.grA g136 (fun _ _ h => by cases h) (fun k hk hs => ⟨(fun e => by have := ow131.ge _ e; omega), hs.1, hs.2.1, hs.2.2.1, hs.2.2.2⟩)
    clear ow103
    have ow148 : OwnLL w133 (w37.heap.size) [obk (A129), some (w65.heap.size), obk (A52), obk (A54)] A56 c57 22 3 ((dualG g).mv : List (List Int)) := ow104.grA g136 (fun _ _ h => by cases h) (fun k hk hs => ⟨(fun e => by have := ow131.ge _ e; omega), hs.1, hs.2.1, hs.2.2.1, hs.2.2.2⟩)
    clear ow104
    have bx149 := bx93.gr g136 (by simp)
    clear bx93
    have ow150 : OwnR w133 (Sx (w91.heap.size) [obk (A52), obk (A54), obk (A56)]) A129 c130 3 (ma : List Int) := ow131.imp (fun g _ hs => ⟨(fun e => by have := lt137 _ e; have := Sx_base hs; omega), (fun e => by have := lt138 _ e; have := Sx_base hs; omega), (fun e => by have := lt139 _ e; have := Sx_base hs; omega), hs⟩)
    clear ow131
    clear lt137 lt138 lt139
    clear g136 he
    refine At.rd f135 3 [[], [], []] [(42, .slice A129 ma.length c130), (41, .agg ((sa : List Int).map wV).toArray), (35, .tuple #[.agg ((sa : List Int).map wV).toArray, .slice A129 ma.length c130])] [] (by kernel_rfl) trivial (fun act152 f151 => ?_)
    clear f135
    refine At.seq f151 1 [[]] [(11, .pointer (some ⟨w133.heap.size, 0, none⟩))] (w133.alloc (.cells ((List.replicate 4 (0 : Int) : List Int).map wV).toArray 28 (0, 0))) [] (by kernel_rfl) trivial (fun act156 w153 hw154 f155 => ?_)
    clear f151
    have g157 := gr_alloc hw154
    have szw153 := g157.size
    have e159 := e140.gr g157 no_row
    clear e140
    have r160 := r141.gr g157 (fun _ h => by cases h)
    clear r141
    have r161 := r142.gr g157 (fun _ h => by cases h)
    clear r142
    have bx162 := bx143.gr g157 (by simp)
    clear bx143
    have bx163 := bx144.gr g157 (by simp)
    clear bx144
    have bx164 := bx145.gr g157 (by simp)
    clear bx145
    have ow165 : OwnR w153 (Sx (w37.heap.size) [some (w133.heap.size), obk (A129), some (w65.heap.size), obk (A54), obk (A56)]) A52 c53 3 ((dualG g).ow : List Int) := ow146.grA g157 (fun _ _ h => by cases h) (fun k hk hs => ⟨(fun e => by injection e; omega), hs.1, hs.2.1, hs.2.2.1, hs.2.2.2.1, hs.2.2.2.2⟩)
    clear ow146
    have ow166 : OwnR w153 (Sx (w37.heap.size) [some (w133.heap.size), obk (A129), some (w65.heap.size), obk (A52), obk (A56)]) A54 c55 3 ((dualG g).pr : List Int) := ow147.grA g157 (fun _ _ h => by cases h) (fun k hk hs => ⟨(fun e => by injection e; omega), hs.1, hs.2.1, hs.2.2.1, hs.2.2.2.1, hs.2.2.2.2⟩)
    clear ow147
    have ow167 : OwnLL w153 (w37.heap.size) [some (w133.heap.size), obk (A129), some (w65.heap.size), obk (A52), obk (A54)] A56 c57 22 3 ((dualG g).mv : List (List Int)) := ow148.grA g157 (fun _ _ h => by cases h) (fun k hk hs => ⟨(fun e => by injection e; omega), hs.1, hs.2.1, hs.2.2.1, hs.2.2.2.1, hs.2.2.2.2⟩)
    clear ow148
    have bx168 := bx149.gr g157 (by simp)
    clear bx149
    have ow169 : OwnR w153 (Sx (w91.heap.size) [some (w133.heap.size), obk (A52), obk (A54), obk (A56)]) A129 c130 3 (ma : List Int) := ow150.grA g157 (fun _ _ h => by cases h) (fun k hk hs => ⟨(fun e => by injection e; omega), hs.1, hs.2.1, hs.2.2.1, hs.2.2.2⟩)
    clear ow150
    have bx170 : Bx w153 (w133.heap.size) ((List.replicate 4 (0 : Int) : List Int).map wV) 28 := Bx.new hw154
    have := bx170.lt
    clear g157 hw154
    refine At.act f155 (storeBlk (t := 28) (b := w133.heap.size) (n := 4) (cs' := ((sa : List Int).map wV)) (by kernel_rfl) (by kernel_rfl) (by simp only [List.length_map, List.length_set, List.length_replicate, List.length_cons, List.length_nil]; first | done | assumption | exact from_len _ | exact of_len _ | exact ofZ_len _ | exact (ofW_ok _).1 | exact (fullW_W _).1 | exact (okW_with (by assumption)).1 | exact (okW_less (by assumption)).1 | exact put_len (from_len _) | exact orD_len _ _ | exact andD_len _ _ | exact minusD_len _ _ | exact fullD_len _ | (refine okLen ?_; (repeat (first | assumption | exact ofW_ok _ | exact fullW_W _ | apply okW_with | apply okW_less | refine okW_orS ?_ ?_ | refine okW_andS ?_ ?_ | refine okW_minusS ?_ ?_)); done) | omega | rfl) oneW_ ((show ((sa : List Int).map wV).length = 4 from (by simp only [List.length_map, List.length_set, List.length_replicate, List.length_cons, List.length_nil]; first | done | assumption | exact from_len _ | exact of_len _ | exact ofZ_len _ | exact (ofW_ok _).1 | exact (fullW_W _).1 | exact (okW_with (by assumption)).1 | exact (okW_less (by assumption)).1 | exact put_len (from_len _) | exact orD_len _ _ | exact andD_len _ _ | exact minusD_len _ _ | exact fullD_len _ | (refine okLen ?_; (repeat (first | assumption | exact ofW_ok _ | exact fullW_W _ | apply okW_with | apply okW_less | refine okW_orS ?_ ?_ | refine okW_andS ?_ ?_ | refine okW_minusS ?_ ?_)); done) | omega | rfl)).trans (show ((List.replicate 4 (0 : Int) : List Int).map wV).length = 4 from (by simp only [List.length_map, List.length_set, List.length_replicate, List.length_cons, List.length_nil]; first | done | assumption | exact from_len _ | exact of_len _ | exact ofZ_len _ | exact (ofW_ok _).1 | exact (fullW_W _).1 | exact (okW_with (by assumption)).1 | exact (okW_less (by assumption)).1 | exact put_len (from_len _) | exact orD_len _ _ | exact andD_len _ _ | exact minusD_len _ _ | exact fullD_len _ | (refine okLen ?_; (repeat (first | assumption | exact ofW_ok _ | exact fullW_W _ | apply okW_with | apply okW_less | refine okW_orS ?_ ?_ | refine okW_andS ?_ ?_ | refine okW_minusS ?_ ?_)); done) | omega | rfl)).symm) bx170) ?_
    rintro d_ v_ w171 ⟨rfl, g172, bx173⟩
    refine ⟨_, rfl, fun act175 f174 => ?_⟩
    clear f155
    have szw171 := g172.size
    have e176 := e159.gr g172 (fun k h => by injection h; omega)
    clear e159
    have r177 := r160.gr g172 (fun k h => by injection h; omega)
    clear r160
    have r178 := r161.gr g172 (fun k h => by injection h; omega)
    clear r161
    have bx179 := bx162.gr g172 (fun h => by injection h; omega)
    clear bx162
    have bx180 := bx163.gr g172 (fun h => by injection h; omega)
    clear bx163
    have bx181 := bx164.gr g172 (fun h => by injection h; omega)
    clear bx164
    have ow182 := ow165.gr g172 (fun k hk => hk.1)
    clear ow165
    have ow183 := ow166.gr g172 (fun k hk => hk.1)
    clear ow166
    have ow184 := ow167.gr g172 (fun k hk => hk.1)
    clear ow167
    have bx185 := bx168.gr g172 (fun h => by injection h; omega)
    clear bx168
    have ow186 := ow169.gr g172 (fun k hk => hk.1)
    clear ow169
    clear bx170 g172
    refine At.rd f174 1 [[]] [(12, .slice A129 ma.length c130)] [] (by kernel_rfl) trivial (fun act188 f187 => ?_)
    clear f174
    refine At.done rfl ?_
    refine t_n ?_
    have f189 := f187.sub (r := [(11, .pointer (some ⟨w133.heap.size, 0, none⟩)), (10, .pointer (some ⟨w65.heap.size, 0, none⟩)), (7, .pointer (some ⟨w11.heap.size, 0, none⟩)), (5, .pointer (some ⟨w1.heap.size, 0, none⟩)), (2, .int .i64 (p))]) ⟨rfl, rfl, rfl, rfl, rfl, trivial⟩
    clear f187
    refine wp_seq ?_
    refine At.start ?_
    refine At.rd f189 5 [[.ld (.slice A52 ((dualG g).ow.length) c53), .ld (.slice A54 ((dualG g).pr.length) c55), .ld (.slice A56 ((dualG g).mv.length) c57)], [.cs ((s : List Int).map wV)], [], [.as_ (.int .i64 (1 - p))], [.cs ((t : List Int).map wV)]] [(48, .agg ((t : List Int).map wV).toArray), (47, .int .i64 (1 - p)), (46, .int .i64 (p)), (45, .agg ((s : List Int).map wV).toArray), (44, .agg #[.slice A52 ((dualG g).ow.length) c53, .slice A54 ((dualG g).pr.length) c55, .slice A56 ((dualG g).mv.length) c57])] [(w171.cell? ⟨w65.heap.size, 0, none⟩ = some (.slice A52 ((dualG g).ow.length) c53)), (w171.cell? ⟨w65.heap.size, 1, none⟩ = some (.slice A54 ((dualG g).pr.length) c55)), (w171.cell? ⟨w65.heap.size, 2, none⟩ = some (.slice A56 ((dualG g).mv.length) c57)), (((s : List Int).map wV).length = 4), (∀ (j : Nat) (v : Value), ((s : List Int).map wV)[j]? = some v → w171.cell? ((⟨w1.heap.size, 0, none⟩ : Addr).add j) = some v), ((.int .i64 (IntKind.i64.wrap (1 - p)) : Value) = .int .i64 (1 - p)), (((t : List Int).map wV).length = 4), (∀ (j : Nat) (v : Value), ((t : List Int).map wV)[j]? = some v → w171.cell? ((⟨w11.heap.size, 0, none⟩ : Addr).add j) = some v)] (by kernel_rfl) ⟨(bx185.cell (i := 0) rfl), (bx185.cell (i := 1) rfl), (bx185.cell (i := 2) rfl), (by simp only [List.length_map, List.length_set, List.length_replicate, List.length_cons, List.length_nil]; first | done | assumption | exact from_len _ | exact of_len _ | exact ofZ_len _ | exact (ofW_ok _).1 | exact (fullW_W _).1 | exact (okW_with (by assumption)).1 | exact (okW_less (by assumption)).1 | exact put_len (from_len _) | exact orD_len _ _ | exact andD_len _ _ | exact minusD_len _ _ | exact fullD_len _ | (refine okLen ?_; (repeat (first | assumption | exact ofW_ok _ | exact fullW_W _ | apply okW_with | apply okW_less | refine okW_orS ?_ ?_ | refine okW_andS ?_ ?_ | refine okW_minusS ?_ ?_)); done) | omega | rfl), bx180.whole, (w64 (by omega) (by omega)), (by simp only [List.length_map, List.length_set, List.length_replicate, List.length_cons, List.length_nil]; first | done | assumption | exact from_len _ | exact of_len _ | exact ofZ_len _ | exact (ofW_ok _).1 | exact (fullW_W _).1 | exact (okW_with (by assumption)).1 | exact (okW_less (by assumption)).1 | exact put_len (from_len _) | exact orD_len _ _ | exact andD_len _ _ | exact minusD_len _ _ | exact fullD_len _ | (refine okLen ?_; (repeat (first | assumption | exact ofW_ok _ | exact fullW_W _ | apply okW_with | apply okW_less | refine okW_orS ?_ ?_ | refine okW_andS ?_ ?_ | refine okW_minusS ?_ ?_)); done) | omega | rfl), bx181.whole, trivial⟩ (fun act191 f190 => ?_)
    clear f189
    refine At.call f190 12 #[.agg #[.slice A52 ((dualG g).ow.length) c53, .slice A54 ((dualG g).pr.length) c55, .slice A56 ((dualG g).mv.length) c57], .agg ((s : List Int).map wV).toArray, .int .i64 (1 - p), .agg ((t : List Int).map wV).toArray] (some 49) (by kernel_rfl) (attract_any (g := (dualG g)) (s := s) (t := t) (p := 1 - p) (RdG.mk (G := (dualG g)) (ow182.rdI0 (by first | omega | (simp only [List.length_cons, List.length_nil]; omega) | (simp; done) | (simp; omega))) (ow183.rdI0 (by first | omega | (simp only [List.length_cons, List.length_nil]; omega) | (simp; done) | (simp; omega))) (ow184.rdII0 (by first | omega | (simp only [List.length_cons, List.length_nil]; omega) | (simp; done) | (simp; omega)) hip64) ow182.cap ow183.cap ow184.cap) (by repeat (first | assumption | exact ofW_ok _ | exact fullW_W _ | exact wordsD_W _ | exact okW_0 | exact okW_00 | apply okW_orS | apply okW_andS | apply okW_minusS | apply okW_with | apply okW_less | apply okW_or | apply okW_and | apply okW_minus | (apply okW_lit <;> exact ⟨by omega, by omega⟩))) (by repeat (first | assumption | exact ofW_ok _ | exact fullW_W _ | exact wordsD_W _ | exact okW_0 | exact okW_00 | apply okW_orS | apply okW_andS | apply okW_minusS | apply okW_with | apply okW_less | apply okW_or | apply okW_and | apply okW_minus | (apply okW_lit <;> exact ⟨by omega, by omega⟩))) (r178.wide (Nat.zero_le _) (by omega))) ?_
    rintro e_ w196 ⟨A192, c193, sb, mb, rfl, he, ow194, hB⟩
    have hok_sb := att_ok hB
    have hl_sb := okLen hok_sb
    have hlm_mb := att_len hB
    refine ⟨_, rfl, _, rfl, fun act197 f198 => ?_⟩
    clear f190
    have g199 := gr_ext he
    have lt200 := ow182.lt
    have lt201 := ow183.lt
    have lt202 := ow184.lt
    have lt203 := ow186.lt
    have szw196 := g199.size
    have e204 := e176.gr g199 no_row
    clear e176
    have r205 := r177.gr g199 (fun _ h => by cases h)
    clear r177
    have r206 := r178.gr g199 (fun _ h => by cases h)
    clear r178
    have bx207 := bx179.gr g199 (by simp)
    clear bx179
    have bx208 := bx180.gr g199 (by simp)
    clear bx180
    have bx209 := bx181.gr g199 (by simp)
    clear bx181
    have ow210 : OwnR w196 (Sx (w37.heap.size) [obk (A192), some (w133.heap.size), obk (A129), some (w65.heap.size), obk (A54), obk (A56)]) A52 c53 3 ((dualG g).ow : List Int) := ow182.grA g199 (fun _ _ h => by cases h) (fun k hk hs => ⟨(fun e => by have := ow194.ge _ e; omega), hs.1, hs.2.1, hs.2.2.1, hs.2.2.2.1, hs.2.2.2.2.1, hs.2.2.2.2.2⟩)
    clear ow182
    have ow211 : OwnR w196 (Sx (w37.heap.size) [obk (A192), some (w133.heap.size), obk (A129), some (w65.heap.size), obk (A52), obk (A56)]) A54 c55 3 ((dualG g).pr : List Int) := ow183.grA g199 (fun _ _ h => by cases h) (fun k hk hs => ⟨(fun e => by have := ow194.ge _ e; omega), hs.1, hs.2.1, hs.2.2.1, hs.2.2.2.1, hs.2.2.2.2.1, hs.2.2.2.2.2⟩)
    clear ow183
    have ow212 : OwnLL w196 (w37.heap.size) [obk (A192), some (w133.heap.size), obk (A129), some (w65.heap.size), obk (A52), obk (A54)] A56 c57 22 3 ((dualG g).mv : List (List Int)) := ow184.grA g199 (fun _ _ h => by cases h) (fun k hk hs => ⟨(fun e => by have := ow194.ge _ e; omega), hs.1, hs.2.1, hs.2.2.1, hs.2.2.2.1, hs.2.2.2.2.1, hs.2.2.2.2.2⟩)
    clear ow184
    have bx213 := bx185.gr g199 (by simp)
    clear bx185
    have ow214 : OwnR w196 (Sx (w91.heap.size) [obk (A192), some (w133.heap.size), obk (A52), obk (A54), obk (A56)]) A129 c130 3 (ma : List Int) := ow186.grA g199 (fun _ _ h => by cases h) (fun k hk hs => ⟨(fun e => by have := ow194.ge _ e; omega), hs.1, hs.2.1, hs.2.2.1, hs.2.2.2.1, hs.2.2.2.2⟩)
    clear ow186
    have bx215 := bx173.gr g199 (by simp)
    clear bx173
    have ow216 : OwnR w196 (Sx (w171.heap.size) [obk (A52), obk (A54), obk (A56), obk (A129)]) A192 c193 3 (mb : List Int) := ow194.imp (fun g _ hs => ⟨(fun e => by have := lt200 _ e; have := Sx_base hs; omega), (fun e => by have := lt201 _ e; have := Sx_base hs; omega), (fun e => by have := lt202 _ e; have := Sx_base hs; omega), (fun e => by have := lt203 _ e; have := Sx_base hs; omega), hs⟩)
    clear ow194
    clear lt200 lt201 lt202 lt203
    clear g199 he
    refine At.rd f198 3 [[], [], []] [(51, .slice A192 mb.length c193), (50, .agg ((sb : List Int).map wV).toArray), (43, .tuple #[.agg ((sb : List Int).map wV).toArray, .slice A192 mb.length c193])] [] (by kernel_rfl) trivial (fun act218 f217 => ?_)
    clear f198
    refine At.seq f217 1 [[]] [(13, .pointer (some ⟨w196.heap.size, 0, none⟩))] (w196.alloc (.cells ((List.replicate 4 (0 : Int) : List Int).map wV).toArray 28 (0, 0))) [] (by kernel_rfl) trivial (fun act222 w219 hw220 f221 => ?_)
    clear f217
    have g223 := gr_alloc hw220
    have szw219 := g223.size
    have e225 := e204.gr g223 no_row
    clear e204
    have r226 := r205.gr g223 (fun _ h => by cases h)
    clear r205
    have r227 := r206.gr g223 (fun _ h => by cases h)
    clear r206
    have bx228 := bx207.gr g223 (by simp)
    clear bx207
    have bx229 := bx208.gr g223 (by simp)
    clear bx208
    have bx230 := bx209.gr g223 (by simp)
    clear bx209
    have ow231 : OwnR w219 (Sx (w37.heap.size) [some (w196.heap.size), obk (A192), some (w133.heap.size), obk (A129), some (w65.heap.size), obk (A54), obk (A56)]) A52 c53 3 ((dualG g).ow : List Int) := ow210.grA g223 (fun _ _ h => by cases h) (fun k hk hs => ⟨(fun e => by injection e; omega), hs.1, hs.2.1, hs.2.2.1, hs.2.2.2.1, hs.2.2.2.2.1, hs.2.2.2.2.2.1, hs.2.2.2.2.2.2⟩)
    clear ow210
    have ow232 : OwnR w219 (Sx (w37.heap.size) [some (w196.heap.size), obk (A192), some (w133.heap.size), obk (A129), some (w65.heap.size), obk (A52), obk (A56)]) A54 c55 3 ((dualG g).pr : List Int) := ow211.grA g223 (fun _ _ h => by cases h) (fun k hk hs => ⟨(fun e => by injection e; omega), hs.1, hs.2.1, hs.2.2.1, hs.2.2.2.1, hs.2.2.2.2.1, hs.2.2.2.2.2.1, hs.2.2.2.2.2.2⟩)
    clear ow211
    have ow233 : OwnLL w219 (w37.heap.size) [some (w196.heap.size), obk (A192), some (w133.heap.size), obk (A129), some (w65.heap.size), obk (A52), obk (A54)] A56 c57 22 3 ((dualG g).mv : List (List Int)) := ow212.grA g223 (fun _ _ h => by cases h) (fun k hk hs => ⟨(fun e => by injection e; omega), hs.1, hs.2.1, hs.2.2.1, hs.2.2.2.1, hs.2.2.2.2.1, hs.2.2.2.2.2.1, hs.2.2.2.2.2.2⟩)
    clear ow212
    have bx234 := bx213.gr g223 (by simp)
    clear bx213
    have ow235 : OwnR w219 (Sx (w91.heap.size) [some (w196.heap.size), obk (A192), some (w133.heap.size), obk (A52), obk (A54), obk (A56)]) A129 c130 3 (ma : List Int) := ow214.grA g223 (fun _ _ h => by cases h) (fun k hk hs => ⟨(fun e => by injection e; omega), hs.1, hs.2.1, hs.2.2.1, hs.2.2.2.1, hs.2.2.2.2.1, hs.2.2.2.2.2⟩)
    clear ow214
    have bx236 := bx215.gr g223 (by simp)
    clear bx215
    have ow237 : OwnR w219 (Sx (w171.heap.size) [some (w196.heap.size), obk (A52), obk (A54), obk (A56), obk (A129)]) A192 c193 3 (mb : List Int) := ow216.grA g223 (fun _ _ h => by cases h) (fun k hk hs => ⟨(fun e => by injection e; omega), hs.1, hs.2.1, hs.2.2.1, hs.2.2.2.1, hs.2.2.2.2⟩)
    clear ow216
    have bx238 : Bx w219 (w196.heap.size) ((List.replicate 4 (0 : Int) : List Int).map wV) 28 := Bx.new hw220
    have := bx238.lt
    clear g223 hw220
    refine At.act f221 (storeBlk (t := 28) (b := w196.heap.size) (n := 4) (cs' := ((sb : List Int).map wV)) (by kernel_rfl) (by kernel_rfl) (by simp only [List.length_map, List.length_set, List.length_replicate, List.length_cons, List.length_nil]; first | done | assumption | exact from_len _ | exact of_len _ | exact ofZ_len _ | exact (ofW_ok _).1 | exact (fullW_W _).1 | exact (okW_with (by assumption)).1 | exact (okW_less (by assumption)).1 | exact put_len (from_len _) | exact orD_len _ _ | exact andD_len _ _ | exact minusD_len _ _ | exact fullD_len _ | (refine okLen ?_; (repeat (first | assumption | exact ofW_ok _ | exact fullW_W _ | apply okW_with | apply okW_less | refine okW_orS ?_ ?_ | refine okW_andS ?_ ?_ | refine okW_minusS ?_ ?_)); done) | omega | rfl) oneW_ ((show ((sb : List Int).map wV).length = 4 from (by simp only [List.length_map, List.length_set, List.length_replicate, List.length_cons, List.length_nil]; first | done | assumption | exact from_len _ | exact of_len _ | exact ofZ_len _ | exact (ofW_ok _).1 | exact (fullW_W _).1 | exact (okW_with (by assumption)).1 | exact (okW_less (by assumption)).1 | exact put_len (from_len _) | exact orD_len _ _ | exact andD_len _ _ | exact minusD_len _ _ | exact fullD_len _ | (refine okLen ?_; (repeat (first | assumption | exact ofW_ok _ | exact fullW_W _ | apply okW_with | apply okW_less | refine okW_orS ?_ ?_ | refine okW_andS ?_ ?_ | refine okW_minusS ?_ ?_)); done) | omega | rfl)).trans (show ((List.replicate 4 (0 : Int) : List Int).map wV).length = 4 from (by simp only [List.length_map, List.length_set, List.length_replicate, List.length_cons, List.length_nil]; first | done | assumption | exact from_len _ | exact of_len _ | exact ofZ_len _ | exact (ofW_ok _).1 | exact (fullW_W _).1 | exact (okW_with (by assumption)).1 | exact (okW_less (by assumption)).1 | exact put_len (from_len _) | exact orD_len _ _ | exact andD_len _ _ | exact minusD_len _ _ | exact fullD_len _ | (refine okLen ?_; (repeat (first | assumption | exact ofW_ok _ | exact fullW_W _ | apply okW_with | apply okW_less | refine okW_orS ?_ ?_ | refine okW_andS ?_ ?_ | refine okW_minusS ?_ ?_)); done) | omega | rfl)).symm) bx238) ?_
    rintro d_ v_ w239 ⟨rfl, g240, bx241⟩
    refine ⟨_, rfl, fun act243 f242 => ?_⟩
    clear f221
    have szw239 := g240.size
    have e244 := e225.gr g240 (fun k h => by injection h; omega)
    clear e225
    have r245 := r226.gr g240 (fun k h => by injection h; omega)
    clear r226
    have r246 := r227.gr g240 (fun k h => by injection h; omega)
    clear r227
    have bx247 := bx228.gr g240 (fun h => by injection h; omega)
    clear bx228
    have bx248 := bx229.gr g240 (fun h => by injection h; omega)
    clear bx229
    have bx249 := bx230.gr g240 (fun h => by injection h; omega)
    clear bx230
    have ow250 := ow231.gr g240 (fun k hk => hk.1)
    clear ow231
    have ow251 := ow232.gr g240 (fun k hk => hk.1)
    clear ow232
    have ow252 := ow233.gr g240 (fun k hk => hk.1)
    clear ow233
    have bx253 := bx234.gr g240 (fun h => by injection h; omega)
    clear bx234
    have ow254 := ow235.gr g240 (fun k hk => hk.1)
    clear ow235
    have bx255 := bx236.gr g240 (fun h => by injection h; omega)
    clear bx236
    have ow256 := ow237.gr g240 (fun k hk => hk.1)
    clear ow237
    clear bx238 g240
    refine At.rd f242 1 [[]] [(14, .slice A192 mb.length c193)] [] (by kernel_rfl) trivial (fun act258 f257 => ?_)
    clear f242
    refine At.done rfl ?_
    refine t_n ?_
    have f259 := f257.sub (r := [(13, .pointer (some ⟨w196.heap.size, 0, none⟩)), (11, .pointer (some ⟨w133.heap.size, 0, none⟩))]) ⟨rfl, rfl, trivial⟩
    clear f257
    refine wp_seq ?_
    refine At.start ?_
    refine At.rd f259 4 [[.cs ((sa : List Int).map wV)], [.cs ((sb : List Int).map wV)], [.cs [wV (gI sa 0), wV (gI sa 1), wV (gI sa 2), wV (gI sa 3)], .cs [wV (gI sb 0), wV (gI sb 1), wV (gI sb 2), wV (gI sb 3)], .as_ (.bool (decide ((sa : List Int) = sb)))], []] [(8, .bool (decide ((sa : List Int) = sb))), (54, .bool (decide ((sa : List Int) = sb))), (53, .agg ((sb : List Int).map wV).toArray), (52, .agg ((sa : List Int).map wV).toArray)] [(((sa : List Int).map wV).length = 4), (∀ (j : Nat) (v : Value), ((sa : List Int).map wV)[j]? = some v → w239.cell? ((⟨w133.heap.size, 0, none⟩ : Addr).add j) = some v), (((sb : List Int).map wV).length = 4), (∀ (j : Nat) (v : Value), ((sb : List Int).map wV)[j]? = some v → w239.cell? ((⟨w196.heap.size, 0, none⟩ : Addr).add j) = some v), (((sa : List Int).map wV).toArray = ([wV (gI sa 0), wV (gI sa 1), wV (gI sa 2), wV (gI sa 3)] : List Value).toArray), (((sb : List Int).map wV).toArray = ([wV (gI sb 0), wV (gI sb 1), wV (gI sb 2), wV (gI sb 3)] : List Value).toArray), ((.bool ((((gI sa 0 : Int) == gI sb 0) && (((gI sa 1 : Int) == gI sb 1) && (((gI sa 2 : Int) == gI sb 2) && (((gI sa 3 : Int) == gI sb 3) && true))))) : Value) = .bool (decide ((sa : List Int) = sb)))] (by kernel_rfl) ⟨(by simp only [List.length_map, List.length_set, List.length_replicate, List.length_cons, List.length_nil]; first | done | assumption | exact from_len _ | exact of_len _ | exact ofZ_len _ | exact (ofW_ok _).1 | exact (fullW_W _).1 | exact (okW_with (by assumption)).1 | exact (okW_less (by assumption)).1 | exact put_len (from_len _) | exact orD_len _ _ | exact andD_len _ _ | exact minusD_len _ _ | exact fullD_len _ | (refine okLen ?_; (repeat (first | assumption | exact ofW_ok _ | exact fullW_W _ | apply okW_with | apply okW_less | refine okW_orS ?_ ?_ | refine okW_andS ?_ ?_ | refine okW_minusS ?_ ?_)); done) | omega | rfl), bx255.whole, (by simp only [List.length_map, List.length_set, List.length_replicate, List.length_cons, List.length_nil]; first | done | assumption | exact from_len _ | exact of_len _ | exact ofZ_len _ | exact (ofW_ok _).1 | exact (fullW_W _).1 | exact (okW_with (by assumption)).1 | exact (okW_less (by assumption)).1 | exact put_len (from_len _) | exact orD_len _ _ | exact andD_len _ _ | exact minusD_len _ _ | exact fullD_len _ | (refine okLen ?_; (repeat (first | assumption | exact ofW_ok _ | exact fullW_W _ | apply okW_with | apply okW_less | refine okW_orS ?_ ?_ | refine okW_andS ?_ ?_ | refine okW_minusS ?_ ?_)); done) | omega | rfl), bx241.whole, (map4 (by first | assumption | exact (okW_with (by assumption)).1 | exact (okW_less (by assumption)).1 | exact (ofW_ok _).1 | exact (fullW_W _).1 | (refine okLen ?_; (repeat (first | assumption | exact ofW_ok _ | exact fullW_W _ | apply okW_with | apply okW_less | refine okW_orS ?_ ?_ | refine okW_andS ?_ ?_ | refine okW_minusS ?_ ?_)); done) | rfl | omega | (simp only [List.length_set]; first | done | assumption | omega) | exact lenW4 _ (by assumption))), (map4 (by first | assumption | exact (okW_with (by assumption)).1 | exact (okW_less (by assumption)).1 | exact (ofW_ok _).1 | exact (fullW_W _).1 | (refine okLen ?_; (repeat (first | assumption | exact ofW_ok _ | exact fullW_W _ | apply okW_with | apply okW_less | refine okW_orS ?_ ?_ | refine okW_andS ?_ ?_ | refine okW_minusS ?_ ?_)); done) | rfl | omega | (simp only [List.length_set]; first | done | assumption | omega) | exact lenW4 _ (by assumption))), (congrArg (fun b => Value.bool b) (w4_eq (by first | assumption | exact (okW_with (by assumption)).1 | exact (okW_less (by assumption)).1 | exact (ofW_ok _).1 | exact (fullW_W _).1 | (refine okLen ?_; (repeat (first | assumption | exact ofW_ok _ | exact fullW_W _ | apply okW_with | apply okW_less | refine okW_orS ?_ ?_ | refine okW_andS ?_ ?_ | refine okW_minusS ?_ ?_)); done) | rfl | omega | (simp only [List.length_set]; first | done | assumption | omega) | exact lenW4 _ (by assumption)) (by first | assumption | exact (okW_with (by assumption)).1 | exact (okW_less (by assumption)).1 | exact (ofW_ok _).1 | exact (fullW_W _).1 | (refine okLen ?_; (repeat (first | assumption | exact ofW_ok _ | exact fullW_W _ | apply okW_with | apply okW_less | refine okW_orS ?_ ?_ | refine okW_andS ?_ ?_ | refine okW_minusS ?_ ?_)); done) | rfl | omega | (simp only [List.length_set]; first | done | assumption | omega) | exact lenW4 _ (by assumption)))), trivial⟩ (fun act261 f260 => ?_)
    clear f259
    refine At.done rfl ?_
    refine t_n ?_
    have f262 := f260.sub (r := [(8, .bool (decide ((sa : List Int) = sb)))]) ⟨rfl, trivial⟩
    clear f260
    refine wp_ret ?_
    refine ret_ f262 [] [.bool (decide ((sa : List Int) = sb))] [] (by kernel_rfl) trivial ?_
    exact ⟨ret_eq (congrArg Value.bool (decide_eq_true (dual_attract (by omega) (by omega) hA hB))), e244⟩
  ·have q263 := bne_eq_false_iff_eq.1 h115
   refine At.rd f105 16 [[], [], [], [], [.ld (.slice A52 ((dualG g).ow.length) c53)], [], [], [], [.as_ (.bool false)], [], [], [.as_ (.bool false)], [], [], [], []] [(33, .bool false), (32, .bool false), (31, undef), (30, undef), (29, .bool false), (28, .bool ((p : Int) != 0)), (27, .int .i64 (p)), (26, .bool false), (25, .bool (((((dualG g).ow.length : Nat) : Int) : Int) == 0)), (24, .bool (((((dualG g).ow.length : Nat) : Int) : Int) == 0)), (23, .int .i64 ((((dualG g).ow.length : Nat) : Int))), (22, .slice A52 ((dualG g).ow.length) c53), (21, .pointer (some ⟨w65.heap.size, 0, none⟩)), (20, .bool false), (19, .bool false), (18, .bool true)] [(w91.cell? ⟨w65.heap.size, 0, none⟩ = some (.slice A52 ((dualG g).ow.length) c53)), ((.bool (((((dualG g).ow.length : Nat) : Int) : Int) == 0) : Value) = .bool false), ((.bool ((p : Int) != 0) : Value) = .bool false)] (by kernel_rfl) ⟨(bx93.cell (i := 0) rfl), (congrArg Value.bool h106), (congrArg Value.bool h115), trivial⟩ (fun act265 f264 => ?_)
   clear f105
   refine At.done rfl ?_
   refine t_n ?_
   have f266 := f264.sub (r := [(33, .bool false), (10, .pointer (some ⟨w65.heap.size, 0, none⟩)), (9, .bool true), (7, .pointer (some ⟨w11.heap.size, 0, none⟩)), (5, .pointer (some ⟨w1.heap.size, 0, none⟩)), (4, .pointer (some ⟨w.heap.size, 0, none⟩)), (2, .int .i64 (p))]) ⟨rfl, rfl, rfl, rfl, rfl, rfl, rfl, trivial⟩
   clear f264
   refine cond_F f266 rfl ?_
   refine wp_skip ?_
   refine t_n ?_
   have f267 := f266.sub (r := [(10, .pointer (some ⟨w65.heap.size, 0, none⟩)), (7, .pointer (some ⟨w11.heap.size, 0, none⟩)), (5, .pointer (some ⟨w1.heap.size, 0, none⟩)), (4, .pointer (some ⟨w.heap.size, 0, none⟩)), (2, .int .i64 (p))]) ⟨rfl, rfl, rfl, rfl, rfl, trivial⟩
   clear f266
   refine wp_seq ?_
   refine At.start ?_
   refine At.rd f267 4 [[.ld (.slice Ag0 g.ow.length cg0), .ld (.slice Ag1 g.pr.length cg1), .ld (.slice Ag2 g.mv.length cg2)], [.cs ((s : List Int).map wV)], [], [.cs ((t : List Int).map wV)]] [(39, .agg ((t : List Int).map wV).toArray), (38, .int .i64 (p)), (37, .agg ((s : List Int).map wV).toArray), (36, .agg #[.slice Ag0 g.ow.length cg0, .slice Ag1 g.pr.length cg1, .slice Ag2 g.mv.length cg2])] [(w91.cell? ⟨w.heap.size, 0, none⟩ = some (.slice Ag0 g.ow.length cg0)), (w91.cell? ⟨w.heap.size, 1, none⟩ = some (.slice Ag1 g.pr.length cg1)), (w91.cell? ⟨w.heap.size, 2, none⟩ = some (.slice Ag2 g.mv.length cg2)), (((s : List Int).map wV).length = 4), (∀ (j : Nat) (v : Value), ((s : List Int).map wV)[j]? = some v → w91.cell? ((⟨w1.heap.size, 0, none⟩ : Addr).add j) = some v), (((t : List Int).map wV).length = 4), (∀ (j : Nat) (v : Value), ((t : List Int).map wV)[j]? = some v → w91.cell? ((⟨w11.heap.size, 0, none⟩ : Addr).add j) = some v)] (by kernel_rfl) ⟨(bx99.cell (i := 0) rfl), (bx99.cell (i := 1) rfl), (bx99.cell (i := 2) rfl), (by simp only [List.length_map, List.length_set, List.length_replicate, List.length_cons, List.length_nil]; first | done | assumption | exact from_len _ | exact of_len _ | exact ofZ_len _ | exact (ofW_ok _).1 | exact (fullW_W _).1 | exact (okW_with (by assumption)).1 | exact (okW_less (by assumption)).1 | exact put_len (from_len _) | exact orD_len _ _ | exact andD_len _ _ | exact minusD_len _ _ | exact fullD_len _ | (refine okLen ?_; (repeat (first | assumption | exact ofW_ok _ | exact fullW_W _ | apply okW_with | apply okW_less | refine okW_orS ?_ ?_ | refine okW_andS ?_ ?_ | refine okW_minusS ?_ ?_)); done) | omega | rfl), bx100.whole, (by simp only [List.length_map, List.length_set, List.length_replicate, List.length_cons, List.length_nil]; first | done | assumption | exact from_len _ | exact of_len _ | exact ofZ_len _ | exact (ofW_ok _).1 | exact (fullW_W _).1 | exact (okW_with (by assumption)).1 | exact (okW_less (by assumption)).1 | exact put_len (from_len _) | exact orD_len _ _ | exact andD_len _ _ | exact minusD_len _ _ | exact fullD_len _ | (refine okLen ?_; (repeat (first | assumption | exact ofW_ok _ | exact fullW_W _ | apply okW_with | apply okW_less | refine okW_orS ?_ ?_ | refine okW_andS ?_ ?_ | refine okW_minusS ?_ ?_)); done) | omega | rfl), bx101.whole, trivial⟩ (fun act269 f268 => ?_)
   clear f267
   refine At.call f268 12 #[.agg #[.slice Ag0 g.ow.length cg0, .slice Ag1 g.pr.length cg1, .slice Ag2 g.mv.length cg2], .agg ((s : List Int).map wV).toArray, .int .i64 (p), .agg ((t : List Int).map wV).toArray] (some 40) (by kernel_rfl) (attract_any (g := g) (s := s) (t := t) (p := p) (r97.wide (Nat.zero_le _) (by omega)) (by repeat (first | assumption | exact ofW_ok _ | exact fullW_W _ | exact wordsD_W _ | exact okW_0 | exact okW_00 | apply okW_orS | apply okW_andS | apply okW_minusS | apply okW_with | apply okW_less | apply okW_or | apply okW_and | apply okW_minus | (apply okW_lit <;> exact ⟨by omega, by omega⟩))) (by repeat (first | assumption | exact ofW_ok _ | exact fullW_W _ | exact wordsD_W _ | exact okW_0 | exact okW_00 | apply okW_orS | apply okW_andS | apply okW_minusS | apply okW_with | apply okW_less | apply okW_or | apply okW_and | apply okW_minus | (apply okW_lit <;> exact ⟨by omega, by omega⟩))) (r98.wide (Nat.zero_le _) (by omega))) ?_
   rintro e_ w274 ⟨A270, c271, sa, ma, rfl, he, ow272, hA⟩
   have hok_sa := att_ok hA
   have hl_sa := okLen hok_sa
   have hlm_ma := att_len hA
   refine ⟨_, rfl, _, rfl, fun act275 f276 => ?_⟩
   clear f268
   have g277 := gr_ext he
   have lt278 := ow102.lt
   have lt279 := ow103.lt
   have lt280 := ow104.lt
   have szw274 := g277.size
   have e281 := e96.gr g277 no_row
   clear e96
   have r282 := r97.gr g277 (fun _ h => by cases h)
   clear r97
   have r283 := r98.gr g277 (fun _ h => by cases h)
   clear r98
   have bx284 := bx99.gr g277 (by simp)
   clear bx99
   have bx285 := bx100.gr g277 (by simp)
   clear bx100
   have bx286 := bx101.gr g277 (by simp)
   clear bx101
   have ow287 : OwnR w274 (Sx (w37.heap.size) [obk (A270), some (w65.heap.size), obk (A54), obk (A56)]) A52 c53 3 ((dualG g).ow : List Int) := ow102.grA g277 (fun _ _ h => by cases h) (fun k hk hs => ⟨(fun e => by have := ow272.ge _ e; omega), hs.1, hs.2.1, hs.2.2.1, hs.2.2.2⟩)
   clear ow102
   have ow288 : OwnR w274 (Sx (w37.heap.size) [obk (A270), some (w65.heap.size), obk (A52), obk (A56)]) A54 c55 3 ((dualG g).pr : List Int) := ow103.grA g277 (fun _ _ h => by cases h) (fun k hk hs => ⟨(fun e => by have := ow272.ge _ e; omega), hs.1, hs.2.1, hs.2.2.1, hs.2.2.2⟩)
   clear ow103
   have ow289 : OwnLL w274 (w37.heap.size) [obk (A270), some (w65.heap.size), obk (A52), obk (A54)] A56 c57 22 3 ((dualG g).mv : List (List Int)) := ow104.grA g277 (fun _ _ h => by cases h) (fun k hk hs => ⟨(fun e => by have := ow272.ge _ e; omega), hs.1, hs.2.1, hs.2.2.1, hs.2.2.2⟩)
   clear ow104
   have bx290 := bx93.gr g277 (by simp)
   clear bx93
   have ow291 : OwnR w274 (Sx (w91.heap.size) [obk (A52), obk (A54), obk (A56)]) A270 c271 3 (ma : List Int) := ow272.imp (fun g _ hs => ⟨(fun e => by have := lt278 _ e; have := Sx_base hs; omega), (fun e => by have := lt279 _ e; have := Sx_base hs; omega), (fun e => by have := lt280 _ e; have := Sx_base hs; omega), hs⟩)
   clear ow272
   clear lt278 lt279 lt280
   clear g277 he
   refine At.rd f276 3 [[], [], []] [(42, .slice A270 ma.length c271), (41, .agg ((sa : List Int).map wV).toArray), (35, .tuple #[.agg ((sa : List Int).map wV).toArray, .slice A270 ma.length c271])] [] (by kernel_rfl) trivial (fun act293 f292 => ?_)
   clear f276
   refine At.seq f292 1 [[]] [(11, .pointer (some ⟨w274.heap.size, 0, none⟩))] (w274.alloc (.cells ((List.replicate 4 (0 : Int) : List Int).map wV).toArray 28 (0, 0))) [] (by kernel_rfl) trivial (fun act297 w294 hw295 f296 => ?_)
   clear f292
   have g298 := gr_alloc hw295
   have szw294 := g298.size
   have e300 := e281.gr g298 no_row
   clear e281
   have r301 := r282.gr g298 (fun _ h => by cases h)
   clear r282
   have r302 := r283.gr g298 (fun _ h => by cases h)
   clear r283
   have bx303 := bx284.gr g298 (by simp)
   clear bx284
   have bx304 := bx285.gr g298 (by simp)
   clear bx285
   have bx305 := bx286.gr g298 (by simp)
   clear bx286
   have ow306 : OwnR w294 (Sx (w37.heap.size) [some (w274.heap.size), obk (A270), some (w65.heap.size), obk (A54), obk (A56)]) A52 c53 3 ((dualG g).ow : List Int) := ow287.grA g298 (fun _ _ h => by cases h) (fun k hk hs => ⟨(fun e => by injection e; omega), hs.1, hs.2.1, hs.2.2.1, hs.2.2.2.1, hs.2.2.2.2⟩)
   clear ow287
   have ow307 : OwnR w294 (Sx (w37.heap.size) [some (w274.heap.size), obk (A270), some (w65.heap.size), obk (A52), obk (A56)]) A54 c55 3 ((dualG g).pr : List Int) := ow288.grA g298 (fun _ _ h => by cases h) (fun k hk hs => ⟨(fun e => by injection e; omega), hs.1, hs.2.1, hs.2.2.1, hs.2.2.2.1, hs.2.2.2.2⟩)
   clear ow288
   have ow308 : OwnLL w294 (w37.heap.size) [some (w274.heap.size), obk (A270), some (w65.heap.size), obk (A52), obk (A54)] A56 c57 22 3 ((dualG g).mv : List (List Int)) := ow289.grA g298 (fun _ _ h => by cases h) (fun k hk hs => ⟨(fun e => by injection e; omega), hs.1, hs.2.1, hs.2.2.1, hs.2.2.2.1, hs.2.2.2.2⟩)
   clear ow289
   have bx309 := bx290.gr g298 (by simp)
   clear bx290
   have ow310 : OwnR w294 (Sx (w91.heap.size) [some (w274.heap.size), obk (A52), obk (A54), obk (A56)]) A270 c271 3 (ma : List Int) := ow291.grA g298 (fun _ _ h => by cases h) (fun k hk hs => ⟨(fun e => by injection e; omega), hs.1, hs.2.1, hs.2.2.1, hs.2.2.2⟩)
   clear ow291
   have bx311 : Bx w294 (w274.heap.size) ((List.replicate 4 (0 : Int) : List Int).map wV) 28 := Bx.new hw295
   have := bx311.lt
   clear g298 hw295
   refine At.act f296 (storeBlk (t := 28) (b := w274.heap.size) (n := 4) (cs' := ((sa : List Int).map wV)) (by kernel_rfl) (by kernel_rfl) (by simp only [List.length_map, List.length_set, List.length_replicate, List.length_cons, List.length_nil]; first | done | assumption | exact from_len _ | exact of_len _ | exact ofZ_len _ | exact (ofW_ok _).1 | exact (fullW_W _).1 | exact (okW_with (by assumption)).1 | exact (okW_less (by assumption)).1 | exact put_len (from_len _) | exact orD_len _ _ | exact andD_len _ _ | exact minusD_len _ _ | exact fullD_len _ | (refine okLen ?_; (repeat (first | assumption | exact ofW_ok _ | exact fullW_W _ | apply okW_with | apply okW_less | refine okW_orS ?_ ?_ | refine okW_andS ?_ ?_ | refine okW_minusS ?_ ?_)); done) | omega | rfl) oneW_ ((show ((sa : List Int).map wV).length = 4 from (by simp only [List.length_map, List.length_set, List.length_replicate, List.length_cons, List.length_nil]; first | done | assumption | exact from_len _ | exact of_len _ | exact ofZ_len _ | exact (ofW_ok _).1 | exact (fullW_W _).1 | exact (okW_with (by assumption)).1 | exact (okW_less (by assumption)).1 | exact put_len (from_len _) | exact orD_len _ _ | exact andD_len _ _ | exact minusD_len _ _ | exact fullD_len _ | (refine okLen ?_; (repeat (first | assumption | exact ofW_ok _ | exact fullW_W _ | apply okW_with | apply okW_less | refine okW_orS ?_ ?_ | refine okW_andS ?_ ?_ | refine okW_minusS ?_ ?_)); done) | omega | rfl)).trans (show ((List.replicate 4 (0 : Int) : List Int).map wV).length = 4 from (by simp only [List.length_map, List.length_set, List.length_replicate, List.length_cons, List.length_nil]; first | done | assumption | exact from_len _ | exact of_len _ | exact ofZ_len _ | exact (ofW_ok _).1 | exact (fullW_W _).1 | exact (okW_with (by assumption)).1 | exact (okW_less (by assumption)).1 | exact put_len (from_len _) | exact orD_len _ _ | exact andD_len _ _ | exact minusD_len _ _ | exact fullD_len _ | (refine okLen ?_; (repeat (first | assumption | exact ofW_ok _ | exact fullW_W _ | apply okW_with | apply okW_less | refine okW_orS ?_ ?_ | refine okW_andS ?_ ?_ | refine okW_minusS ?_ ?_)); done) | omega | rfl)).symm) bx311) ?_
   rintro d_ v_ w312 ⟨rfl, g313, bx314⟩
   refine ⟨_, rfl, fun act316 f315 => ?_⟩
   clear f296
   have szw312 := g313.size
   have e317 := e300.gr g313 (fun k h => by injection h; omega)
   clear e300
   have r318 := r301.gr g313 (fun k h => by injection h; omega)
   clear r301
   have r319 := r302.gr g313 (fun k h => by injection h; omega)
   clear r302
   have bx320 := bx303.gr g313 (fun h => by injection h; omega)
   clear bx303
   have bx321 := bx304.gr g313 (fun h => by injection h; omega)
   clear bx304
   have bx322 := bx305.gr g313 (fun h => by injection h; omega)
   clear bx305
   have ow323 := ow306.gr g313 (fun k hk => hk.1)
   clear ow306
   have ow324 := ow307.gr g313 (fun k hk => hk.1)
   clear ow307
   have ow325 := ow308.gr g313 (fun k hk => hk.1)
   clear ow308
   have bx326 := bx309.gr g313 (fun h => by injection h; omega)
   clear bx309
   have ow327 := ow310.gr g313 (fun k hk => hk.1)
   clear ow310
   clear bx311 g313
   refine At.rd f315 1 [[]] [(12, .slice A270 ma.length c271)] [] (by kernel_rfl) trivial (fun act329 f328 => ?_)
   clear f315
   refine At.done rfl ?_
   refine t_n ?_
   have f330 := f328.sub (r := [(11, .pointer (some ⟨w274.heap.size, 0, none⟩)), (10, .pointer (some ⟨w65.heap.size, 0, none⟩)), (7, .pointer (some ⟨w11.heap.size, 0, none⟩)), (5, .pointer (some ⟨w1.heap.size, 0, none⟩)), (2, .int .i64 (p))]) ⟨rfl, rfl, rfl, rfl, rfl, trivial⟩
   clear f328
   refine wp_seq ?_
   refine At.start ?_
   refine At.rd f330 5 [[.ld (.slice A52 ((dualG g).ow.length) c53), .ld (.slice A54 ((dualG g).pr.length) c55), .ld (.slice A56 ((dualG g).mv.length) c57)], [.cs ((s : List Int).map wV)], [], [.as_ (.int .i64 (1 - p))], [.cs ((t : List Int).map wV)]] [(48, .agg ((t : List Int).map wV).toArray), (47, .int .i64 (1 - p)), (46, .int .i64 (p)), (45, .agg ((s : List Int).map wV).toArray), (44, .agg #[.slice A52 ((dualG g).ow.length) c53, .slice A54 ((dualG g).pr.length) c55, .slice A56 ((dualG g).mv.length) c57])] [(w312.cell? ⟨w65.heap.size, 0, none⟩ = some (.slice A52 ((dualG g).ow.length) c53)), (w312.cell? ⟨w65.heap.size, 1, none⟩ = some (.slice A54 ((dualG g).pr.length) c55)), (w312.cell? ⟨w65.heap.size, 2, none⟩ = some (.slice A56 ((dualG g).mv.length) c57)), (((s : List Int).map wV).length = 4), (∀ (j : Nat) (v : Value), ((s : List Int).map wV)[j]? = some v → w312.cell? ((⟨w1.heap.size, 0, none⟩ : Addr).add j) = some v), ((.int .i64 (IntKind.i64.wrap (1 - p)) : Value) = .int .i64 (1 - p)), (((t : List Int).map wV).length = 4), (∀ (j : Nat) (v : Value), ((t : List Int).map wV)[j]? = some v → w312.cell? ((⟨w11.heap.size, 0, none⟩ : Addr).add j) = some v)] (by kernel_rfl) ⟨(bx326.cell (i := 0) rfl), (bx326.cell (i := 1) rfl), (bx326.cell (i := 2) rfl), (by simp only [List.length_map, List.length_set, List.length_replicate, List.length_cons, List.length_nil]; first | done | assumption | exact from_len _ | exact of_len _ | exact ofZ_len _ | exact (ofW_ok _).1 | exact (fullW_W _).1 | exact (okW_with (by assumption)).1 | exact (okW_less (by assumption)).1 | exact put_len (from_len _) | exact orD_len _ _ | exact andD_len _ _ | exact minusD_len _ _ | exact fullD_len _ | (refine okLen ?_; (repeat (first | assumption | exact ofW_ok _ | exact fullW_W _ | apply okW_with | apply okW_less | refine okW_orS ?_ ?_ | refine okW_andS ?_ ?_ | refine okW_minusS ?_ ?_)); done) | omega | rfl), bx321.whole, (w64 (by omega) (by omega)), (by simp only [List.length_map, List.length_set, List.length_replicate, List.length_cons, List.length_nil]; first | done | assumption | exact from_len _ | exact of_len _ | exact ofZ_len _ | exact (ofW_ok _).1 | exact (fullW_W _).1 | exact (okW_with (by assumption)).1 | exact (okW_less (by assumption)).1 | exact put_len (from_len _) | exact orD_len _ _ | exact andD_len _ _ | exact minusD_len _ _ | exact fullD_len _ | (refine okLen ?_; (repeat (first | assumption | exact ofW_ok _ | exact fullW_W _ | apply okW_with | apply okW_less | refine okW_orS ?_ ?_ | refine okW_andS ?_ ?_ | refine okW_minusS ?_ ?_)); done) | omega | rfl), bx322.whole, trivial⟩ (fun act332 f331 => ?_)
   clear f330
   refine At.call f331 12 #[.agg #[.slice A52 ((dualG g).ow.length) c53, .slice A54 ((dualG g).pr.length) c55, .slice A56 ((dualG g).mv.length) c57], .agg ((s : List Int).map wV).toArray, .int .i64 (1 - p), .agg ((t : List Int).map wV).toArray] (some 49) (by kernel_rfl) (attract_any (g := (dualG g)) (s := s) (t := t) (p := 1 - p) (RdG.mk (G := (dualG g)) (ow323.rdI0 (by first | omega | (simp only [List.length_cons, List.length_nil]; omega) | (simp; done) | (simp; omega))) (ow324.rdI0 (by first | omega | (simp only [List.length_cons, List.length_nil]; omega) | (simp; done) | (simp; omega))) (ow325.rdII0 (by first | omega | (simp only [List.length_cons, List.length_nil]; omega) | (simp; done) | (simp; omega)) hip64) ow323.cap ow324.cap ow325.cap) (by repeat (first | assumption | exact ofW_ok _ | exact fullW_W _ | exact wordsD_W _ | exact okW_0 | exact okW_00 | apply okW_orS | apply okW_andS | apply okW_minusS | apply okW_with | apply okW_less | apply okW_or | apply okW_and | apply okW_minus | (apply okW_lit <;> exact ⟨by omega, by omega⟩))) (by repeat (first | assumption | exact ofW_ok _ | exact fullW_W _ | exact wordsD_W _ | exact okW_0 | exact okW_00 | apply okW_orS | apply okW_andS | apply okW_minusS | apply okW_with | apply okW_less | apply okW_or | apply okW_and | apply okW_minus | (apply okW_lit <;> exact ⟨by omega, by omega⟩))) (r319.wide (Nat.zero_le _) (by omega))) ?_
   rintro e_ w337 ⟨A333, c334, sb, mb, rfl, he, ow335, hB⟩
   have hok_sb := att_ok hB
   have hl_sb := okLen hok_sb
   have hlm_mb := att_len hB
   refine ⟨_, rfl, _, rfl, fun act338 f339 => ?_⟩
   clear f331
   have g340 := gr_ext he
   have lt341 := ow323.lt
   have lt342 := ow324.lt
   have lt343 := ow325.lt
   have lt344 := ow327.lt
   have szw337 := g340.size
   have e345 := e317.gr g340 no_row
   clear e317
   have r346 := r318.gr g340 (fun _ h => by cases h)
   clear r318
   have r347 := r319.gr g340 (fun _ h => by cases h)
   clear r319
   have bx348 := bx320.gr g340 (by simp)
   clear bx320
   have bx349 := bx321.gr g340 (by simp)
   clear bx321
   have bx350 := bx322.gr g340 (by simp)
   clear bx322
   have ow351 : OwnR w337 (Sx (w37.heap.size) [obk (A333), some (w274.heap.size), obk (A270), some (w65.heap.size), obk (A54), obk (A56)]) A52 c53 3 ((dualG g).ow : List Int) := ow323.grA g340 (fun _ _ h => by cases h) (fun k hk hs => ⟨(fun e => by have := ow335.ge _ e; omega), hs.1, hs.2.1, hs.2.2.1, hs.2.2.2.1, hs.2.2.2.2.1, hs.2.2.2.2.2⟩)
   clear ow323
   have ow352 : OwnR w337 (Sx (w37.heap.size) [obk (A333), some (w274.heap.size), obk (A270), some (w65.heap.size), obk (A52), obk (A56)]) A54 c55 3 ((dualG g).pr : List Int) := ow324.grA g340 (fun _ _ h => by cases h) (fun k hk hs => ⟨(fun e => by have := ow335.ge _ e; omega), hs.1, hs.2.1, hs.2.2.1, hs.2.2.2.1, hs.2.2.2.2.1, hs.2.2.2.2.2⟩)
   clear ow324
   have ow353 : OwnLL w337 (w37.heap.size) [obk (A333), some (w274.heap.size), obk (A270), some (w65.heap.size), obk (A52), obk (A54)] A56 c57 22 3 ((dualG g).mv : List (List Int)) := ow325.grA g340 (fun _ _ h => by cases h) (fun k hk hs => ⟨(fun e => by have := ow335.ge _ e; omega), hs.1, hs.2.1, hs.2.2.1, hs.2.2.2.1, hs.2.2.2.2.1, hs.2.2.2.2.2⟩)
   clear ow325
   have bx354 := bx326.gr g340 (by simp)
   clear bx326
   have ow355 : OwnR w337 (Sx (w91.heap.size) [obk (A333), some (w274.heap.size), obk (A52), obk (A54), obk (A56)]) A270 c271 3 (ma : List Int) := ow327.grA g340 (fun _ _ h => by cases h) (fun k hk hs => ⟨(fun e => by have := ow335.ge _ e; omega), hs.1, hs.2.1, hs.2.2.1, hs.2.2.2.1, hs.2.2.2.2⟩)
   clear ow327
   have bx356 := bx314.gr g340 (by simp)
   clear bx314
   have ow357 : OwnR w337 (Sx (w312.heap.size) [obk (A52), obk (A54), obk (A56), obk (A270)]) A333 c334 3 (mb : List Int) := ow335.imp (fun g _ hs => ⟨(fun e => by have := lt341 _ e; have := Sx_base hs; omega), (fun e => by have := lt342 _ e; have := Sx_base hs; omega), (fun e => by have := lt343 _ e; have := Sx_base hs; omega), (fun e => by have := lt344 _ e; have := Sx_base hs; omega), hs⟩)
   clear ow335
   clear lt341 lt342 lt343 lt344
   clear g340 he
   refine At.rd f339 3 [[], [], []] [(51, .slice A333 mb.length c334), (50, .agg ((sb : List Int).map wV).toArray), (43, .tuple #[.agg ((sb : List Int).map wV).toArray, .slice A333 mb.length c334])] [] (by kernel_rfl) trivial (fun act359 f358 => ?_)
   clear f339
   refine At.seq f358 1 [[]] [(13, .pointer (some ⟨w337.heap.size, 0, none⟩))] (w337.alloc (.cells ((List.replicate 4 (0 : Int) : List Int).map wV).toArray 28 (0, 0))) [] (by kernel_rfl) trivial (fun act363 w360 hw361 f362 => ?_)
   clear f358
   have g364 := gr_alloc hw361
   have szw360 := g364.size
   have e366 := e345.gr g364 no_row
   clear e345
   have r367 := r346.gr g364 (fun _ h => by cases h)
   clear r346
   have r368 := r347.gr g364 (fun _ h => by cases h)
   clear r347
   have bx369 := bx348.gr g364 (by simp)
   clear bx348
   have bx370 := bx349.gr g364 (by simp)
   clear bx349
   have bx371 := bx350.gr g364 (by simp)
   clear bx350
   have ow372 : OwnR w360 (Sx (w37.heap.size) [some (w337.heap.size), obk (A333), some (w274.heap.size), obk (A270), some (w65.heap.size), obk (A54), obk (A56)]) A52 c53 3 ((dualG g).ow : List Int) := ow351.grA g364 (fun _ _ h => by cases h) (fun k hk hs => ⟨(fun e => by injection e; omega), hs.1, hs.2.1, hs.2.2.1, hs.2.2.2.1, hs.2.2.2.2.1, hs.2.2.2.2.2.1, hs.2.2.2.2.2.2⟩)
   clear ow351
   have ow373 : OwnR w360 (Sx (w37.heap.size) [some (w337.heap.size), obk (A333), some (w274.heap.size), obk (A270), some (w65.heap.size), obk (A52), obk (A56)]) A54 c55 3 ((dualG g).pr : List Int) := ow352.grA g364 (fun _ _ h => by cases h) (fun k hk hs => ⟨(fun e => by injection e; omega), hs.1, hs.2.1, hs.2.2.1, hs.2.2.2.1, hs.2.2.2.2.1, hs.2.2.2.2.2.1, hs.2.2.2.2.2.2⟩)
   clear ow352
   have ow374 : OwnLL w360 (w37.heap.size) [some (w337.heap.size), obk (A333), some (w274.heap.size), obk (A270), some (w65.heap.size), obk (A52), obk (A54)] A56 c57 22 3 ((dualG g).mv : List (List Int)) := ow353.grA g364 (fun _ _ h => by cases h) (fun k hk hs => ⟨(fun e => by injection e; omega), hs.1, hs.2.1, hs.2.2.1, hs.2.2.2.1, hs.2.2.2.2.1, hs.2.2.2.2.2.1, hs.2.2.2.2.2.2⟩)
   clear ow353
   have bx375 := bx354.gr g364 (by simp)
   clear bx354
   have ow376 : OwnR w360 (Sx (w91.heap.size) [some (w337.heap.size), obk (A333), some (w274.heap.size), obk (A52), obk (A54), obk (A56)]) A270 c271 3 (ma : List Int) := ow355.grA g364 (fun _ _ h => by cases h) (fun k hk hs => ⟨(fun e => by injection e; omega), hs.1, hs.2.1, hs.2.2.1, hs.2.2.2.1, hs.2.2.2.2.1, hs.2.2.2.2.2⟩)
   clear ow355
   have bx377 := bx356.gr g364 (by simp)
   clear bx356
   have ow378 : OwnR w360 (Sx (w312.heap.size) [some (w337.heap.size), obk (A52), obk (A54), obk (A56), obk (A270)]) A333 c334 3 (mb : List Int) := ow357.grA g364 (fun _ _ h => by cases h) (fun k hk hs => ⟨(fun e => by injection e; omega), hs.1, hs.2.1, hs.2.2.1, hs.2.2.2.1, hs.2.2.2.2⟩)
   clear ow357
   have bx379 : Bx w360 (w337.heap.size) ((List.replicate 4 (0 : Int) : List Int).map wV) 28 := Bx.new hw361
   have := bx379.lt
   clear g364 hw361
   refine At.act f362 (storeBlk (t := 28) (b := w337.heap.size) (n := 4) (cs' := ((sb : List Int).map wV)) (by kernel_rfl) (by kernel_rfl) (by simp only [List.length_map, List.length_set, List.length_replicate, List.length_cons, List.length_nil]; first | done | assumption | exact from_len _ | exact of_len _ | exact ofZ_len _ | exact (ofW_ok _).1 | exact (fullW_W _).1 | exact (okW_with (by assumption)).1 | exact (okW_less (by assumption)).1 | exact put_len (from_len _) | exact orD_len _ _ | exact andD_len _ _ | exact minusD_len _ _ | exact fullD_len _ | (refine okLen ?_; (repeat (first | assumption | exact ofW_ok _ | exact fullW_W _ | apply okW_with | apply okW_less | refine okW_orS ?_ ?_ | refine okW_andS ?_ ?_ | refine okW_minusS ?_ ?_)); done) | omega | rfl) oneW_ ((show ((sb : List Int).map wV).length = 4 from (by simp only [List.length_map, List.length_set, List.length_replicate, List.length_cons, List.length_nil]; first | done | assumption | exact from_len _ | exact of_len _ | exact ofZ_len _ | exact (ofW_ok _).1 | exact (fullW_W _).1 | exact (okW_with (by assumption)).1 | exact (okW_less (by assumption)).1 | exact put_len (from_len _) | exact orD_len _ _ | exact andD_len _ _ | exact minusD_len _ _ | exact fullD_len _ | (refine okLen ?_; (repeat (first | assumption | exact ofW_ok _ | exact fullW_W _ | apply okW_with | apply okW_less | refine okW_orS ?_ ?_ | refine okW_andS ?_ ?_ | refine okW_minusS ?_ ?_)); done) | omega | rfl)).trans (show ((List.replicate 4 (0 : Int) : List Int).map wV).length = 4 from (by simp only [List.length_map, List.length_set, List.length_replicate, List.length_cons, List.length_nil]; first | done | assumption | exact from_len _ | exact of_len _ | exact ofZ_len _ | exact (ofW_ok _).1 | exact (fullW_W _).1 | exact (okW_with (by assumption)).1 | exact (okW_less (by assumption)).1 | exact put_len (from_len _) | exact orD_len _ _ | exact andD_len _ _ | exact minusD_len _ _ | exact fullD_len _ | (refine okLen ?_; (repeat (first | assumption | exact ofW_ok _ | exact fullW_W _ | apply okW_with | apply okW_less | refine okW_orS ?_ ?_ | refine okW_andS ?_ ?_ | refine okW_minusS ?_ ?_)); done) | omega | rfl)).symm) bx379) ?_
   rintro d_ v_ w380 ⟨rfl, g381, bx382⟩
   refine ⟨_, rfl, fun act384 f383 => ?_⟩
   clear f362
   have szw380 := g381.size
   have e385 := e366.gr g381 (fun k h => by injection h; omega)
   clear e366
   have r386 := r367.gr g381 (fun k h => by injection h; omega)
   clear r367
   have r387 := r368.gr g381 (fun k h => by injection h; omega)
   clear r368
   have bx388 := bx369.gr g381 (fun h => by injection h; omega)
   clear bx369
   have bx389 := bx370.gr g381 (fun h => by injection h; omega)
   clear bx370
   have bx390 := bx371.gr g381 (fun h => by injection h; omega)
   clear bx371
   have ow391 := ow372.gr g381 (fun k hk => hk.1)
   clear ow372
   have ow392 := ow373.gr g381 (fun k hk => hk.1)
   clear ow373
   have ow393 := ow374.gr g381 (fun k hk => hk.1)
   clear ow374
   have bx394 := bx375.gr g381 (fun h => by injection h; omega)
   clear bx375
   have ow395 := ow376.gr g381 (fun k hk => hk.1)
   clear ow376
   have bx396 := bx377.gr g381 (fun h => by injection h; omega)
   clear bx377
   have ow397 := ow378.gr g381 (fun k hk => hk.1)
   clear ow378
   clear bx379 g381
   refine At.rd f383 1 [[]] [(14, .slice A333 mb.length c334)] [] (by kernel_rfl) trivial (fun act399 f398 => ?_)
   clear f383
   refine At.done rfl ?_
   refine t_n ?_
   have f400 := f398.sub (r := [(13, .pointer (some ⟨w337.heap.size, 0, none⟩)), (11, .pointer (some ⟨w274.heap.size, 0, none⟩))]) ⟨rfl, rfl, trivial⟩
   clear f398
   refine wp_seq ?_
   refine At.start ?_
   refine At.rd f400 4 [[.cs ((sa : List Int).map wV)], [.cs ((sb : List Int).map wV)], [.cs [wV (gI sa 0), wV (gI sa 1), wV (gI sa 2), wV (gI sa 3)], .cs [wV (gI sb 0), wV (gI sb 1), wV (gI sb 2), wV (gI sb 3)], .as_ (.bool (decide ((sa : List Int) = sb)))], []] [(8, .bool (decide ((sa : List Int) = sb))), (54, .bool (decide ((sa : List Int) = sb))), (53, .agg ((sb : List Int).map wV).toArray), (52, .agg ((sa : List Int).map wV).toArray)] [(((sa : List Int).map wV).length = 4), (∀ (j : Nat) (v : Value), ((sa : List Int).map wV)[j]? = some v → w380.cell? ((⟨w274.heap.size, 0, none⟩ : Addr).add j) = some v), (((sb : List Int).map wV).length = 4), (∀ (j : Nat) (v : Value), ((sb : List Int).map wV)[j]? = some v → w380.cell? ((⟨w337.heap.size, 0, none⟩ : Addr).add j) = some v), (((sa : List Int).map wV).toArray = ([wV (gI sa 0), wV (gI sa 1), wV (gI sa 2), wV (gI sa 3)] : List Value).toArray), (((sb : List Int).map wV).toArray = ([wV (gI sb 0), wV (gI sb 1), wV (gI sb 2), wV (gI sb 3)] : List Value).toArray), ((.bool ((((gI sa 0 : Int) == gI sb 0) && (((gI sa 1 : Int) == gI sb 1) && (((gI sa 2 : Int) == gI sb 2) && (((gI sa 3 : Int) == gI sb 3) && true))))) : Value) = .bool (decide ((sa : List Int) = sb)))] (by kernel_rfl) ⟨(by simp only [List.length_map, List.length_set, List.length_replicate, List.length_cons, List.length_nil]; first | done | assumption | exact from_len _ | exact of_len _ | exact ofZ_len _ | exact (ofW_ok _).1 | exact (fullW_W _).1 | exact (okW_with (by assumption)).1 | exact (okW_less (by assumption)).1 | exact put_len (from_len _) | exact orD_len _ _ | exact andD_len _ _ | exact minusD_len _ _ | exact fullD_len _ | (refine okLen ?_; (repeat (first | assumption | exact ofW_ok _ | exact fullW_W _ | apply okW_with | apply okW_less | refine okW_orS ?_ ?_ | refine okW_andS ?_ ?_ | refine okW_minusS ?_ ?_)); done) | omega | rfl), bx396.whole, (by simp only [List.length_map, List.length_set, List.length_replicate, List.length_cons, List.length_nil]; first | done | assumption | exact from_len _ | exact of_len _ | exact ofZ_len _ | exact (ofW_ok _).1 | exact (fullW_W _).1 | exact (okW_with (by assumption)).1 | exact (okW_less (by assumption)).1 | exact put_len (from_len _) | exact orD_len _ _ | exact andD_len _ _ | exact minusD_len _ _ | exact fullD_len _ | (refine okLen ?_; (repeat (first | assumption | exact ofW_ok _ | exact fullW_W _ | apply okW_with | apply okW_less | refine okW_orS ?_ ?_ | refine okW_andS ?_ ?_ | refine okW_minusS ?_ ?_)); done) | omega | rfl), bx382.whole, (map4 (by first | assumption | exact (okW_with (by assumption)).1 | exact (okW_less (by assumption)).1 | exact (ofW_ok _).1 | exact (fullW_W _).1 | (refine okLen ?_; (repeat (first | assumption | exact ofW_ok _ | exact fullW_W _ | apply okW_with | apply okW_less | refine okW_orS ?_ ?_ | refine okW_andS ?_ ?_ | refine okW_minusS ?_ ?_)); done) | rfl | omega | (simp only [List.length_set]; first | done | assumption | omega) | exact lenW4 _ (by assumption))), (map4 (by first | assumption | exact (okW_with (by assumption)).1 | exact (okW_less (by assumption)).1 | exact (ofW_ok _).1 | exact (fullW_W _).1 | (refine okLen ?_; (repeat (first | assumption | exact ofW_ok _ | exact fullW_W _ | apply okW_with | apply okW_less | refine okW_orS ?_ ?_ | refine okW_andS ?_ ?_ | refine okW_minusS ?_ ?_)); done) | rfl | omega | (simp only [List.length_set]; first | done | assumption | omega) | exact lenW4 _ (by assumption))), (congrArg (fun b => Value.bool b) (w4_eq (by first | assumption | exact (okW_with (by assumption)).1 | exact (okW_less (by assumption)).1 | exact (ofW_ok _).1 | exact (fullW_W _).1 | (refine okLen ?_; (repeat (first | assumption | exact ofW_ok _ | exact fullW_W _ | apply okW_with | apply okW_less | refine okW_orS ?_ ?_ | refine okW_andS ?_ ?_ | refine okW_minusS ?_ ?_)); done) | rfl | omega | (simp only [List.length_set]; first | done | assumption | omega) | exact lenW4 _ (by assumption)) (by first | assumption | exact (okW_with (by assumption)).1 | exact (okW_less (by assumption)).1 | exact (ofW_ok _).1 | exact (fullW_W _).1 | (refine okLen ?_; (repeat (first | assumption | exact ofW_ok _ | exact fullW_W _ | apply okW_with | apply okW_less | refine okW_orS ?_ ?_ | refine okW_andS ?_ ?_ | refine okW_minusS ?_ ?_)); done) | rfl | omega | (simp only [List.length_set]; first | done | assumption | omega) | exact lenW4 _ (by assumption)))), trivial⟩ (fun act402 f401 => ?_)
   clear f400
   refine At.done rfl ?_
   refine t_n ?_
   have f403 := f401.sub (r := [(8, .bool (decide ((sa : List Int) = sb)))]) ⟨rfl, trivial⟩
   clear f401
   refine wp_ret ?_
   refine ret_ f403 [] [.bool (decide ((sa : List Int) = sb))] [] (by kernel_rfl) trivial ?_
   exact ⟨ret_eq (congrArg Value.bool (decide_eq_true (dual_attract (by omega) (by omega) hA hB))), e385⟩

end Go.Proofs.YtkpljmalbmcdfaaDoor
