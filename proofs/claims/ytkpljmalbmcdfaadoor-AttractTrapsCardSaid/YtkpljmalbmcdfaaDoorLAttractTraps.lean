/-
  A walk of a Go function, printed by a program of this repo. Conditions: what the theorems name.
-/
import Derived.Test.YtkpljmalbmcdfaaDoorWShown12
set_option linter.unusedVariables false
set_option linter.unusedSimpArgs false
namespace Go.Proofs.YtkpljmalbmcdfaaDoor
open Go Go.RowKit

attribute [local irreducible] ofZ fromW wordsD ofD ofW lsD lenW lenN fullW withW lessW hasW hasD inW inD leastD putD onI tzI orS andS minusS orD andD minusD fullD emptyD
set_option maxHeartbeats 4000000 in
theorem traps_any {Ag0 Ag1 Ag2 : Option Addr} {cg0 cg1 cg2 : Nat} {g : GameL} {s : List Int} {t : List Int} {p : Int} {w : World} (rg : RdG w 0 w.heap.size Ag0 Ag1 Ag2 cg0 cg1 cg2 g) (hs : OkW s) (ht : OkW t) (rT : RdT w 0 w.heap.size) :
    Calls Tryd.prog 4 #[.agg #[.slice Ag0 g.ow.length cg0, .slice Ag1 g.pr.length cg1, .slice Ag2 g.mv.length cg2], .agg ((s : List Int).map wV).toArray, .int .i64 (p), .agg ((t : List Int).map wV).toArray] w fun e w' => e = .returned (.bool true) ∧ Ext w w' := by
 have hlg0 := rg.ow.len
 have hlg1 := rg.pr.len
 have hlg2 := rg.mv.len
 have hkg0 := rg.k0
 have hkg1 := rg.k1
 have hkg2 := rg.k2
 have hls := hs.1
 have hlt := ht.1
 refine enter_ (args := [.agg #[.slice Ag0 g.ow.length cg0, .slice Ag1 g.pr.length cg1, .slice Ag2 g.mv.length cg2], .agg ((s : List Int).map wV).toArray, .int .i64 (p), .agg ((t : List Int).map wV).toArray]) Tryd.func4 rfl Tryd.ntmps4 (Nat.le_of_ble_eq_true rfl) (fun act0 f0 => ?_)
 have e0 := Ext.refl w
 refine wp_seq ?_
 refine At.start ?_
 refine At.seq f0 1 [[]] [(4, .pointer (some ⟨w.heap.size, 0, none⟩))] (w.alloc (.cells #[.slice Ag0 g.ow.length cg0, .slice Ag1 g.pr.length cg1, .slice Ag2 g.mv.length cg2] 25 (0, 0))) [] (by kernel_rfl) trivial (fun act4 w1 hw2 f3 => ?_)
 clear f0
 have g5 := gr_alloc hw2
 have szw1 := g5.size
 have e7 := e0.gr g5 no_row
 clear e0
 have r8 := rg.gr g5 (fun _ h => by cases h)
 clear rg
 have r9 := rT.gr g5 (fun _ h => by cases h)
 clear rT
 have bx10 : Bx w1 (w.heap.size) [.slice Ag0 g.ow.length cg0, .slice Ag1 g.pr.length cg1, .slice Ag2 g.mv.length cg2] 25 := Bx.new hw2
 have := bx10.lt
 clear g5 hw2
 refine At.seq f3 1 [[]] [(5, .pointer (some ⟨w1.heap.size, 0, none⟩))] (w1.alloc (.cells ((s : List Int).map wV).toArray 28 (0, 0))) [] (by kernel_rfl) trivial (fun act14 w11 hw12 f13 => ?_)
 clear f3
 have g15 := gr_alloc hw12
 have szw11 := g15.size
 have e17 := e7.gr g15 no_row
 clear e7
 have r18 := r8.gr g15 (fun _ h => by cases h)
 clear r8
 have r19 := r9.gr g15 (fun _ h => by cases h)
 clear r9
 have bx20 := bx10.gr g15 (by simp)
 clear bx10
 have bx21 : Bx w11 (w1.heap.size) ((s : List Int).map wV) 28 := Bx.new hw12
 have := bx21.lt
 clear g15 hw12
 refine At.seq f13 1 [[]] [(7, .pointer (some ⟨w11.heap.size, 0, none⟩))] (w11.alloc (.cells ((t : List Int).map wV).toArray 28 (0, 0))) [] (by kernel_rfl) trivial (fun act25 w22 hw23 f24 => ?_)
 clear f13
 have g26 := gr_alloc hw23
 have szw22 := g26.size
 have e28 := e17.gr g26 no_row
 clear e17
 have r29 := r18.gr g26 (fun _ h => by cases h)
 clear r18
 have r30 := r19.gr g26 (fun _ h => by cases h)
 clear r19
 have bx31 := bx20.gr g26 (by simp)
 clear bx20
 have bx32 := bx21.gr g26 (by simp)
 clear bx21
 have bx33 : Bx w22 (w11.heap.size) ((t : List Int).map wV) 28 := Bx.new hw23
 have := bx33.lt
 clear g26 hw23
 refine At.rd f24 1 [[]] [(8, .bool false)] [] (by kernel_rfl) trivial (fun act35 f34 => ?_)
 clear f24
 refine At.done rfl ?_
 refine t_n ?_
 have f36 := f34.sub (r := [(8, .bool false), (7, .pointer (some ⟨w11.heap.size, 0, none⟩)), (5, .pointer (some ⟨w1.heap.size, 0, none⟩)), (4, .pointer (some ⟨w.heap.size, 0, none⟩)), (2, .int .i64 (p))]) ⟨rfl, rfl, rfl, rfl, rfl, trivial⟩
 clear f34
 refine wp_seq ?_
 refine At.start ?_
 refine At.call f36 9 #[] (some 18) (by kernel_rfl) (shown12_any (r30.wide (Nat.zero_le _) (by omega))) ?_
 rintro e_ w37 ⟨rfl, he⟩
 refine ⟨_, rfl, _, rfl, fun act38 f39 => ?_⟩
 clear f36
 have g40 := gr_ext he
 have szw37 := g40.size
 have e41 := e28.gr g40 no_row
 clear e28
 have r42 := r29.gr g40 (fun _ h => by cases h)
 clear r29
 have r43 := r30.gr g40 (fun _ h => by cases h)
 clear r30
 have bx44 := bx31.gr g40 (by simp)
 clear bx31
 have bx45 := bx32.gr g40 (by simp)
 clear bx32
 have bx46 := bx33.gr g40 (by simp)
 clear bx33
 clear g40 he
 refine At.rd f39 1 [[]] [(9, .bool true)] [] (by kernel_rfl) trivial (fun act48 f47 => ?_)
 clear f39
 refine At.done rfl ?_
 refine t_n ?_
 have f49 := f47.sub (r := [(9, .bool true), (8, .bool false), (7, .pointer (some ⟨w11.heap.size, 0, none⟩)), (5, .pointer (some ⟨w1.heap.size, 0, none⟩)), (4, .pointer (some ⟨w.heap.size, 0, none⟩)), (2, .int .i64 (p))]) ⟨rfl, rfl, rfl, rfl, rfl, rfl, trivial⟩
 clear f47
 refine wp_seq ?_
 refine At.start ?_
 refine At.rd f49 1 [[.ld (.slice Ag0 g.ow.length cg0), .ld (.slice Ag1 g.pr.length cg1), .ld (.slice Ag2 g.mv.length cg2)]] [(20, .agg #[.slice Ag0 g.ow.length cg0, .slice Ag1 g.pr.length cg1, .slice Ag2 g.mv.length cg2])] [(w37.cell? ⟨w.heap.size, 0, none⟩ = some (.slice Ag0 g.ow.length cg0)), (w37.cell? ⟨w.heap.size, 1, none⟩ = some (.slice Ag1 g.pr.length cg1)), (w37.cell? ⟨w.heap.size, 2, none⟩ = some (.slice Ag2 g.mv.length cg2))] (by kernel_rfl) ⟨(bx44.cell (i := 0) rfl), (bx44.cell (i := 1) rfl), (bx44.cell (i := 2) rfl), trivial⟩ (fun act51 f50 => ?_)
 clear f49
 refine At.call f50 18 #[.agg #[.slice Ag0 g.ow.length cg0, .slice Ag1 g.pr.length cg1, .slice Ag2 g.mv.length cg2]] (some 21) (by kernel_rfl) (right_any (r42.wide (Nat.zero_le _) (by omega))) ?_
 rintro e_ w52 ⟨rfl, he⟩
 refine ⟨_, rfl, _, rfl, fun act53 f54 => ?_⟩
 clear f50
 have g55 := gr_ext he
 have szw52 := g55.size
 have e56 := e41.gr g55 no_row
 clear e41
 have r57 := r42.gr g55 (fun _ h => by cases h)
 clear r42
 have r58 := r43.gr g55 (fun _ h => by cases h)
 clear r43
 have bx59 := bx44.gr g55 (by simp)
 clear bx44
 have bx60 := bx45.gr g55 (by simp)
 clear bx45
 have bx61 := bx46.gr g55 (by simp)
 clear bx46
 clear g55 he
 refine At.rd f54 5 [[], [], [], [], []] [(11, .int .i64 ((rightP g).2)), (10, .int .i64 ((rightP g).1)), (23, .int .i64 ((rightP g).2)), (22, .int .i64 ((rightP g).1)), (19, .tuple #[.int .i64 ((rightP g).1), .int .i64 ((rightP g).2)])] [] (by kernel_rfl) trivial (fun act63 f62 => ?_)
 clear f54
 refine At.done rfl ?_
 refine t_n ?_
 have f64 := f62.sub (r := [(11, .int .i64 ((rightP g).2)), (9, .bool true), (8, .bool false), (7, .pointer (some ⟨w11.heap.size, 0, none⟩)), (5, .pointer (some ⟨w1.heap.size, 0, none⟩)), (4, .pointer (some ⟨w.heap.size, 0, none⟩)), (2, .int .i64 (p))]) ⟨rfl, rfl, rfl, rfl, rfl, rfl, rfl, trivial⟩
 clear f62
 refine wp_seq (cut (fun a_ w_ => (Frm 121 a_ [(7, .pointer (some ⟨w11.heap.size, 0, none⟩)), (5, .pointer (some ⟨w1.heap.size, 0, none⟩)), (4, .pointer (some ⟨w.heap.size, 0, none⟩)), (2, .int .i64 (p))]) ∧ (Ext w w_) ∧ (RdG w_ 0 w.heap.size Ag0 Ag1 Ag2 cg0 cg1 cg2 g) ∧ (RdT w_ 0 w.heap.size) ∧ (Bx w_ (w.heap.size) [.slice Ag0 g.ow.length cg0, .slice Ag1 g.pr.length cg1, .slice Ag2 g.mv.length cg2] 25) ∧ (Bx w_ (w1.heap.size) ((s : List Int).map wV) 28) ∧ (Bx w_ (w11.heap.size) ((t : List Int).map wV) 28) ∧ ((rightP g).2 = 0) ∧ (p = 0 ∨ p = 1) ∧ (w52.heap.size ≤ w_.heap.size)) ?_ ?_)
 ·refine wp_seq ?_
  refine At.start ?_
  rcases Bool.eq_false_or_eq_true (((rightP g).2 : Int) != 0) with h65 | h65
  ·have q66 := bne_iff_ne.1 h65
   refine At.rd f64 14 [[], [], [], [], [], [], [.as_ (.bool true)], [], [], [], [], [], [], []] [(37, .bool true), (36, undef), (35, undef), (34, undef), (33, undef), (32, undef), (31, undef), (30, .bool true), (29, .bool (((rightP g).2 : Int) != 0)), (28, .bool (((rightP g).2 : Int) != 0)), (27, .int .i64 ((rightP g).2)), (26, .bool false), (25, .bool false), (24, .bool true)] [((.bool (((rightP g).2 : Int) != 0) : Value) = .bool true)] (by kernel_rfl) ⟨(congrArg Value.bool h65), trivial⟩ (fun act68 f67 => ?_)
   clear f64
   refine At.done rfl ?_
   refine t_n ?_
   have f69 := f67.sub (r := [(37, .bool true), (9, .bool true), (8, .bool false), (7, .pointer (some ⟨w11.heap.size, 0, none⟩)), (5, .pointer (some ⟨w1.heap.size, 0, none⟩)), (4, .pointer (some ⟨w.heap.size, 0, none⟩)), (2, .int .i64 (p))]) ⟨rfl, rfl, rfl, rfl, rfl, rfl, rfl, trivial⟩
   clear f67
   refine cond_T f69 rfl ?_
   refine wp_seq ?_
   refine At.start ?_
   refine At.rd f69 2 [[], []] [(8, .bool true), (38, .bool true)] [] (by kernel_rfl) trivial (fun act71 f70 => ?_)
   clear f69
   refine At.done rfl ?_
   refine t_n ?_
   have f72 := f70.sub (r := [(8, .bool true)]) ⟨rfl, trivial⟩
   clear f70
   refine wp_ret ?_
   refine t_r ?_
   refine ret_ f72 [] [.bool true] [] (by kernel_rfl) trivial ?_
   exact ⟨rfl, e56⟩
  ·have q73 := bne_eq_false_iff_eq.1 h65
   rcases Bool.eq_false_or_eq_true ((p : Int) != 0) with h74 | h74
   ·have q75 := bne_iff_ne.1 h74
    refine At.rd f64 14 [[], [], [], [], [], [], [.as_ (.bool false)], [], [], [.as_ (.bool true)], [], [], [], []] [(37, .bool ((p : Int) != 1)), (36, .bool ((p : Int) != 1)), (35, .bool ((p : Int) != 1)), (34, .int .i64 (p)), (33, .bool true), (32, .bool ((p : Int) != 0)), (31, .int .i64 (p)), (30, .bool false), (29, .bool (((rightP g).2 : Int) != 0)), (28, .bool (((rightP g).2 : Int) != 0)), (27, .int .i64 ((rightP g).2)), (26, .bool false), (25, .bool false), (24, .bool true)] [((.bool (((rightP g).2 : Int) != 0) : Value) = .bool false), ((.bool ((p : Int) != 0) : Value) = .bool true)] (by kernel_rfl) ⟨(congrArg Value.bool h65), (congrArg Value.bool h74), trivial⟩ (fun act77 f76 => ?_)
    clear f64
    refine At.done rfl ?_
    refine t_n ?_
    have f78 := f76.sub (r := [(37, .bool ((p : Int) != 1)), (9, .bool true), (8, .bool false), (7, .pointer (some ⟨w11.heap.size, 0, none⟩)), (5, .pointer (some ⟨w1.heap.size, 0, none⟩)), (4, .pointer (some ⟨w.heap.size, 0, none⟩)), (2, .int .i64 (p))]) ⟨rfl, rfl, rfl, rfl, rfl, rfl, rfl, trivial⟩
    clear f76
    refine cond_S f78 (t := (p : Int) != 1) rfl (fun h79 => ?_) (fun h79 => ?_)
    ·have q80 := bne_iff_ne.1 h79
     refine wp_seq ?_
     refine At.start ?_
     refine At.rd f78 2 [[], []] [(8, .bool true), (38, .bool true)] [] (by kernel_rfl) trivial (fun act82 f81 => ?_)
     clear f78
     refine At.done rfl ?_
     refine t_n ?_
     have f83 := f81.sub (r := [(8, .bool true)]) ⟨rfl, trivial⟩
     clear f81
     refine wp_ret ?_
     refine t_r ?_
     refine ret_ f83 [] [.bool true] [] (by kernel_rfl) trivial ?_
     exact ⟨rfl, e56⟩
    ·have q84 := bne_eq_false_iff_eq.1 h79
     refine wp_skip ?_
     refine t_n ?_
     have f85 := f78.sub (r := [(7, .pointer (some ⟨w11.heap.size, 0, none⟩)), (5, .pointer (some ⟨w1.heap.size, 0, none⟩)), (4, .pointer (some ⟨w.heap.size, 0, none⟩)), (2, .int .i64 (p))]) ⟨rfl, rfl, rfl, rfl, trivial⟩
     exact ⟨f85, e56, r57, r58, bx59, bx60, bx61, (by omega), (by omega), (by omega)⟩
   ·have q86 := bne_eq_false_iff_eq.1 h74
    refine At.rd f64 14 [[], [], [], [], [], [], [.as_ (.bool false)], [], [], [.as_ (.bool false)], [], [], [], []] [(37, .bool false), (36, .bool false), (35, undef), (34, undef), (33, .bool false), (32, .bool ((p : Int) != 0)), (31, .int .i64 (p)), (30, .bool false), (29, .bool (((rightP g).2 : Int) != 0)), (28, .bool (((rightP g).2 : Int) != 0)), (27, .int .i64 ((rightP g).2)), (26, .bool false), (25, .bool false), (24, .bool true)] [((.bool (((rightP g).2 : Int) != 0) : Value) = .bool false), ((.bool ((p : Int) != 0) : Value) = .bool false)] (by kernel_rfl) ⟨(congrArg Value.bool h65), (congrArg Value.bool h74), trivial⟩ (fun act88 f87 => ?_)
    clear f64
    refine At.done rfl ?_
    refine t_n ?_
    have f89 := f87.sub (r := [(37, .bool false), (9, .bool true), (8, .bool false), (7, .pointer (some ⟨w11.heap.size, 0, none⟩)), (5, .pointer (some ⟨w1.heap.size, 0, none⟩)), (4, .pointer (some ⟨w.heap.size, 0, none⟩)), (2, .int .i64 (p))]) ⟨rfl, rfl, rfl, rfl, rfl, rfl, rfl, trivial⟩
    clear f87
    refine cond_F f89 rfl ?_
    refine wp_skip ?_
    refine t_n ?_
    have f90 := f89.sub (r := [(7, .pointer (some ⟨w11.heap.size, 0, none⟩)), (5, .pointer (some ⟨w1.heap.size, 0, none⟩)), (4, .pointer (some ⟨w.heap.size, 0, none⟩)), (2, .int .i64 (p))]) ⟨rfl, rfl, rfl, rfl, trivial⟩
    exact ⟨f90, e56, r57, r58, bx59, bx60, bx61, (by omega), (by omega), (by omega)⟩
 ·clear r57
  clear r58
  clear bx59
  clear bx60
  clear bx61
  clear f64 e56
  intro act91 w92 ⟨f93, e94, r95, r96, bx97, bx98, bx99, i100, i101, i102⟩
  have szw92 := e94.size
  have := bx97.lt
  have := bx98.lt
  have := bx99.lt
  refine wp_seq ?_
  have hR : isR g = true := right_of2 (by omega)
  have hp01 : p = 0 ∨ p = 1 := by omega
  have hG := isR_ok hR
  have hn1 := hG.n1
  have hn0 := hG.n0
  have hpl := hG.pl
  have hml := hG.ml
  have hnd := mv_nd hG
  refine At.start ?_
  refine At.rd f93 4 [[], [.ld (.slice Ag0 g.ow.length cg0)], [], []] [(12, .int .i64 (((g.ow.length : Nat) : Int))), (41, .int .i64 (((g.ow.length : Nat) : Int))), (40, .slice Ag0 g.ow.length cg0), (39, .pointer (some ⟨w.heap.size, 0, none⟩))] [(w92.cell? ⟨w.heap.size, 0, none⟩ = some (.slice Ag0 g.ow.length cg0))] (by kernel_rfl) ⟨(bx97.cell (i := 0) rfl), trivial⟩ (fun act104 f103 => ?_)
  clear f93
  refine At.done rfl ?_
  refine t_n ?_
  have f105 := f103.sub (r := [(12, .int .i64 (((g.ow.length : Nat) : Int))), (7, .pointer (some ⟨w11.heap.size, 0, none⟩)), (5, .pointer (some ⟨w1.heap.size, 0, none⟩)), (4, .pointer (some ⟨w.heap.size, 0, none⟩)), (2, .int .i64 (p))]) ⟨rfl, rfl, rfl, rfl, rfl, trivial⟩
  clear f103
  refine wp_seq (cut (fun a_ w_ => (Frm 121 a_ [(12, .int .i64 (((g.ow.length : Nat) : Int))), (7, .pointer (some ⟨w11.heap.size, 0, none⟩)), (5, .pointer (some ⟨w1.heap.size, 0, none⟩)), (4, .pointer (some ⟨w.heap.size, 0, none⟩)), (2, .int .i64 (p))]) ∧ (Ext w w_) ∧ (RdG w_ 0 w.heap.size Ag0 Ag1 Ag2 cg0 cg1 cg2 g) ∧ (RdT w_ 0 w.heap.size) ∧ (Bx w_ (w.heap.size) [.slice Ag0 g.ow.length cg0, .slice Ag1 g.pr.length cg1, .slice Ag2 g.mv.length cg2] 25) ∧ (Bx w_ (w1.heap.size) (((inS g s : List Int) : List Int).map wV) 28) ∧ (Bx w_ (w11.heap.size) ((t : List Int).map wV) 28) ∧ (w92.heap.size ≤ w_.heap.size)) ?_ ?_)
  ·obtain ⟨Cs106, hCs107⟩ : ∃ c : List (Addr × Value), c = [] := ⟨_, rfl⟩
   have hS108 : HoldsC Cs106 w92 := by rw [hCs107]; exact trivial
   refine AtH.start Cs106 5 #[false, false, false, false, false] (by kernel_rfl) rfl rfl (fun w110 hw111 => ?_)
   have g109 := gr_drew hw111
   have hS112 := hS108.gr g109
   have szw110 := g109.size
   have e113 := e94.gr g109 no_row
   clear e94
   have r114 := r95.gr g109 (fun _ h => by cases h)
   clear r95
   have r115 := r96.gr g109 (fun _ h => by cases h)
   clear r96
   have bx116 := bx97.gr g109 (by simp)
   clear bx97
   have bx117 := bx98.gr g109 (by simp)
   clear bx98
   have bx118 := bx99.gr g109 (by simp)
   clear bx99
   clear g109 hw111 hS108
   refine AtH.rd (by kernel_rfl) (fun d v c a w h => by cases d <;> exact h) hS112 [1] [[]] [(43, .int .i64 (((g.ow.length : Nat) : Int)))] #[false, true, false, false, false] [] 4 f105 (by kernel_rfl) trivial (fun act120 f119 => ?_)
   clear f105
   refine AtH.all [0, 2] 3 (by kernel_rfl) (by simp) ⟨?_, ?_, trivial⟩
   ·refine OneH.seq f119 [[.cs ((s : List Int).map wV)]] [(42, .agg ((s : List Int).map wV).toArray)] w110 [(((s : List Int).map wV).length = 4), (∀ (j : Nat) (v : Value), ((s : List Int).map wV)[j]? = some v → w110.cell? ((⟨w1.heap.size, 0, none⟩ : Addr).add j) = some v)] #[true, true, false, false, false] (by kernel_rfl) (by kernel_rfl) (by kernel_rfl) ⟨(by simp only [List.length_map, List.length_set, List.length_replicate, List.length_cons, List.length_nil]; first | done | assumption | exact from_len _ | exact of_len _ | exact ofZ_len _ | exact (ofW_ok _).1 | exact (fullW_W _).1 | exact (okW_with (by assumption)).1 | exact (okW_less (by assumption)).1 | exact put_len (from_len _) | exact orD_len _ _ | exact andD_len _ _ | exact minusD_len _ _ | exact fullD_len _ | (refine okLen ?_; (repeat (first | assumption | exact ofW_ok _ | exact fullW_W _ | apply okW_with | apply okW_less | refine okW_orS ?_ ?_ | refine okW_andS ?_ ?_ | refine okW_minusS ?_ ?_)); done) | omega | rfl), bx117.whole, trivial⟩ (fun act122 w123 hw124 f121 => ?_)
    obtain rfl : w110 = w123 := hw124.symm
    clear f119
    refine ⟨hS112, ?_⟩
    refine AtH.all [2] 2 (by kernel_rfl) (by simp) ⟨?_, trivial⟩
    refine OneH.call f121 20 #[.int .i64 (((g.ow.length : Nat) : Int))] (some 44) #[true, true, true, false, false] (by kernel_rfl) (by kernel_rfl) (full_any (n := ((g.ow.length : Nat) : Int)) (by omega)) ?_
    rintro e_ w126 ⟨rfl, he⟩
    refine ⟨_, rfl, _, rfl, fun act127 f128 => ?_⟩
    clear f121
    have g129 := gr_ext he
    have hS125 := hS112.gr g129
    have szw126 := g129.size
    have e130 := e113.gr g129 no_row
    clear e113
    have r131 := r114.gr g129 (fun _ h => by cases h)
    clear r114
    have r132 := r115.gr g129 (fun _ h => by cases h)
    clear r115
    have bx133 := bx116.gr g129 (by simp)
    clear bx116
    have bx134 := bx117.gr g129 (by simp)
    clear bx117
    have bx135 := bx118.gr g129 (by simp)
    clear bx118
    clear g129 he
    refine ⟨hS125, ?_⟩
    refine AtH.all [3] 1 (by kernel_rfl) (by simp) ⟨?_, trivial⟩
    refine OneH.call f128 19 #[.agg ((s : List Int).map wV).toArray, .agg ((fullW ((g.ow.length : Nat) : Int) : List Int).map wV).toArray] (some 45) #[true, true, true, true, false] (by kernel_rfl) (by kernel_rfl) ((andS_any (s := s) (t := fullW ((g.ow.length : Nat) : Int)) (by repeat (first | assumption | exact ofW_ok _ | exact fullW_W _ | exact wordsD_W _ | exact okW_0 | exact okW_00 | apply okW_orS | apply okW_andS | apply okW_minusS | apply okW_with | apply okW_less | apply okW_or | apply okW_and | apply okW_minus | (apply okW_lit <;> exact ⟨by omega, by omega⟩))) (fullW_W _)).mono (R' := fun e w' => e = .returned (.agg (((inS g s : List Int) : List Int).map wV).toArray) ∧ Ext _ w') (fun e_ w_ h_ => by rw [show (andS s (fullW ((g.ow.length : Nat) : Int)) : List Int) = (inS g s : List Int) from rfl] at h_; exact h_)) ?_
    rintro e_ w137 ⟨rfl, he⟩
    refine ⟨_, rfl, _, rfl, fun act138 f139 => ?_⟩
    clear f128
    have g140 := gr_ext he
    have hS136 := hS125.gr g140
    have szw137 := g140.size
    have e141 := e130.gr g140 no_row
    clear e130
    have r142 := r131.gr g140 (fun _ h => by cases h)
    clear r131
    have r143 := r132.gr g140 (fun _ h => by cases h)
    clear r132
    have bx144 := bx133.gr g140 (by simp)
    clear bx133
    have bx145 := bx134.gr g140 (by simp)
    clear bx134
    have bx146 := bx135.gr g140 (by simp)
    clear bx135
    clear g140 he
    refine ⟨hS136, ?_⟩
    refine AtH.all [4] 0 (by kernel_rfl) (by simp) ⟨?_, trivial⟩
    refine OneH.act f139 #[true, true, true, true, true] (by kernel_rfl) (storeBlk (t := 28) (b := w1.heap.size) (n := 4) (cs' := (((inS g s : List Int) : List Int).map wV)) (by kernel_rfl) (by kernel_rfl) ((List.length_map _).trans (okLen (inS_ok (by assumption)))) oneW_ ((show (((inS g s : List Int) : List Int).map wV).length = 4 from ((List.length_map _).trans (okLen (inS_ok (by assumption))))).trans (show ((s : List Int).map wV).length = 4 from (by simp only [List.length_map, List.length_set, List.length_replicate, List.length_cons, List.length_nil]; first | done | assumption | exact from_len _ | exact of_len _ | exact ofZ_len _ | exact (ofW_ok _).1 | exact (fullW_W _).1 | exact (okW_with (by assumption)).1 | exact (okW_less (by assumption)).1 | exact put_len (from_len _) | exact orD_len _ _ | exact andD_len _ _ | exact minusD_len _ _ | exact fullD_len _ | (refine okLen ?_; (repeat (first | assumption | exact ofW_ok _ | exact fullW_W _ | apply okW_with | apply okW_less | refine okW_orS ?_ ?_ | refine okW_andS ?_ ?_ | refine okW_minusS ?_ ?_)); done) | omega | rfl)).symm) bx145) ?_
    rintro d_ v_ w148 ⟨rfl, g149, bx150⟩
    have hS153 := hS136.gr' g149 (by rw [hCs107]; exact trivial)
    refine ⟨_, rfl, fun act152 f151 => ⟨hS153, ?_⟩⟩
    clear f139
    have szw148 := g149.size
    have e154 := e141.gr g149 (fun k h => by injection h; omega)
    clear e141
    have r155 := r142.gr g149 (fun k h => by injection h; omega)
    clear r142
    have r156 := r143.gr g149 (fun k h => by injection h; omega)
    clear r143
    have bx157 := bx144.gr g149 (fun h => by injection h; omega)
    clear bx144
    have bx158 := bx146.gr g149 (fun h => by injection h; omega)
    clear bx146
    clear bx145 g149
    refine AtH.done (by kernel_rfl) ?_
    clear hS153
    refine t_n ?_
    have f159 := f151.sub (r := [(12, .int .i64 (((g.ow.length : Nat) : Int))), (7, .pointer (some ⟨w11.heap.size, 0, none⟩)), (5, .pointer (some ⟨w1.heap.size, 0, none⟩)), (4, .pointer (some ⟨w.heap.size, 0, none⟩)), (2, .int .i64 (p))]) ⟨rfl, rfl, rfl, rfl, rfl, trivial⟩
    exact ⟨f159, e154, r155, r156, bx157, bx150, bx158, (by omega)⟩
   ·refine OneH.call f119 20 #[.int .i64 (((g.ow.length : Nat) : Int))] (some 44) #[false, true, true, false, false] (by kernel_rfl) (by kernel_rfl) (full_any (n := ((g.ow.length : Nat) : Int)) (by omega)) ?_
    rintro e_ w161 ⟨rfl, he⟩
    refine ⟨_, rfl, _, rfl, fun act162 f163 => ?_⟩
    clear f119
    have g164 := gr_ext he
    have hS160 := hS112.gr g164
    have szw161 := g164.size
    have e165 := e113.gr g164 no_row
    clear e113
    have r166 := r114.gr g164 (fun _ h => by cases h)
    clear r114
    have r167 := r115.gr g164 (fun _ h => by cases h)
    clear r115
    have bx168 := bx116.gr g164 (by simp)
    clear bx116
    have bx169 := bx117.gr g164 (by simp)
    clear bx117
    have bx170 := bx118.gr g164 (by simp)
    clear bx118
    clear g164 he
    refine ⟨hS160, ?_⟩
    refine AtH.all [0] 2 (by kernel_rfl) (by simp) ⟨?_, trivial⟩
    refine OneH.seq f163 [[.cs ((s : List Int).map wV)]] [(42, .agg ((s : List Int).map wV).toArray)] w161 [(((s : List Int).map wV).length = 4), (∀ (j : Nat) (v : Value), ((s : List Int).map wV)[j]? = some v → w161.cell? ((⟨w1.heap.size, 0, none⟩ : Addr).add j) = some v)] #[true, true, true, false, false] (by kernel_rfl) (by kernel_rfl) (by kernel_rfl) ⟨(by simp only [List.length_map, List.length_set, List.length_replicate, List.length_cons, List.length_nil]; first | done | assumption | exact from_len _ | exact of_len _ | exact ofZ_len _ | exact (ofW_ok _).1 | exact (fullW_W _).1 | exact (okW_with (by assumption)).1 | exact (okW_less (by assumption)).1 | exact put_len (from_len _) | exact orD_len _ _ | exact andD_len _ _ | exact minusD_len _ _ | exact fullD_len _ | (refine okLen ?_; (repeat (first | assumption | exact ofW_ok _ | exact fullW_W _ | apply okW_with | apply okW_less | refine okW_orS ?_ ?_ | refine okW_andS ?_ ?_ | refine okW_minusS ?_ ?_)); done) | omega | rfl), bx169.whole, trivial⟩ (fun act172 w173 hw174 f171 => ?_)
    obtain rfl : w161 = w173 := hw174.symm
    clear f163
    refine ⟨hS160, ?_⟩
    refine AtH.all [3] 1 (by kernel_rfl) (by simp) ⟨?_, trivial⟩
    refine OneH.call f171 19 #[.agg ((s : List Int).map wV).toArray, .agg ((fullW ((g.ow.length : Nat) : Int) : List Int).map wV).toArray] (some 45) #[true, true, true, true, false] (by kernel_rfl) (by kernel_rfl) ((andS_any (s := s) (t := fullW ((g.ow.length : Nat) : Int)) (by repeat (first | assumption | exact ofW_ok _ | exact fullW_W _ | exact wordsD_W _ | exact okW_0 | exact okW_00 | apply okW_orS | apply okW_andS | apply okW_minusS | apply okW_with | apply okW_less | apply okW_or | apply okW_and | apply okW_minus | (apply okW_lit <;> exact ⟨by omega, by omega⟩))) (fullW_W _)).mono (R' := fun e w' => e = .returned (.agg (((inS g s : List Int) : List Int).map wV).toArray) ∧ Ext _ w') (fun e_ w_ h_ => by rw [show (andS s (fullW ((g.ow.length : Nat) : Int)) : List Int) = (inS g s : List Int) from rfl] at h_; exact h_)) ?_
    rintro e_ w176 ⟨rfl, he⟩
    refine ⟨_, rfl, _, rfl, fun act177 f178 => ?_⟩
    clear f171
    have g179 := gr_ext he
    have hS175 := hS160.gr g179
    have szw176 := g179.size
    have e180 := e165.gr g179 no_row
    clear e165
    have r181 := r166.gr g179 (fun _ h => by cases h)
    clear r166
    have r182 := r167.gr g179 (fun _ h => by cases h)
    clear r167
    have bx183 := bx168.gr g179 (by simp)
    clear bx168
    have bx184 := bx169.gr g179 (by simp)
    clear bx169
    have bx185 := bx170.gr g179 (by simp)
    clear bx170
    clear g179 he
    refine ⟨hS175, ?_⟩
    refine AtH.all [4] 0 (by kernel_rfl) (by simp) ⟨?_, trivial⟩
    refine OneH.act f178 #[true, true, true, true, true] (by kernel_rfl) (storeBlk (t := 28) (b := w1.heap.size) (n := 4) (cs' := (((inS g s : List Int) : List Int).map wV)) (by kernel_rfl) (by kernel_rfl) ((List.length_map _).trans (okLen (inS_ok (by assumption)))) oneW_ ((show (((inS g s : List Int) : List Int).map wV).length = 4 from ((List.length_map _).trans (okLen (inS_ok (by assumption))))).trans (show ((s : List Int).map wV).length = 4 from (by simp only [List.length_map, List.length_set, List.length_replicate, List.length_cons, List.length_nil]; first | done | assumption | exact from_len _ | exact of_len _ | exact ofZ_len _ | exact (ofW_ok _).1 | exact (fullW_W _).1 | exact (okW_with (by assumption)).1 | exact (okW_less (by assumption)).1 | exact put_len (from_len _) | exact orD_len _ _ | exact andD_len _ _ | exact minusD_len _ _ | exact fullD_len _ | (refine okLen ?_; (repeat (first | assumption | exact ofW_ok _ | exact fullW_W _ | apply okW_with | apply okW_less | refine okW_orS ?_ ?_ | refine okW_andS ?_ ?_ | refine okW_minusS ?_ ?_)); done) | omega | rfl)).symm) bx184) ?_
    rintro d_ v_ w187 ⟨rfl, g188, bx189⟩
    have hS192 := hS175.gr' g188 (by rw [hCs107]; exact trivial)
    refine ⟨_, rfl, fun act191 f190 => ⟨hS192, ?_⟩⟩
    clear f178
    have szw187 := g188.size
    have e193 := e180.gr g188 (fun k h => by injection h; omega)
    clear e180
    have r194 := r181.gr g188 (fun k h => by injection h; omega)
    clear r181
    have r195 := r182.gr g188 (fun k h => by injection h; omega)
    clear r182
    have bx196 := bx183.gr g188 (fun h => by injection h; omega)
    clear bx183
    have bx197 := bx185.gr g188 (fun h => by injection h; omega)
    clear bx185
    clear bx184 g188
    refine AtH.done (by kernel_rfl) ?_
    clear hS192
    refine t_n ?_
    have f198 := f190.sub (r := [(12, .int .i64 (((g.ow.length : Nat) : Int))), (7, .pointer (some ⟨w11.heap.size, 0, none⟩)), (5, .pointer (some ⟨w1.heap.size, 0, none⟩)), (4, .pointer (some ⟨w.heap.size, 0, none⟩)), (2, .int .i64 (p))]) ⟨rfl, rfl, rfl, rfl, rfl, trivial⟩
    exact ⟨f198, e193, r194, r195, bx196, bx189, bx197, (by omega)⟩
  ·clear r95
   clear r96
   clear bx97
   clear bx98
   clear bx99
   clear f105 e94
   intro act199 w200 ⟨f201, e202, r203, r204, bx205, bx206, bx207, szz208⟩
   have szw200 := e202.size
   have := bx205.lt
   have := bx206.lt
   have := bx207.lt
   refine wp_seq ?_
   refine At.start ?_
   refine At.rd f201 4 [[.ld (.slice Ag0 g.ow.length cg0), .ld (.slice Ag1 g.pr.length cg1), .ld (.slice Ag2 g.mv.length cg2)], [.cs (((inS g s : List Int) : List Int).map wV)], [], [.cs ((t : List Int).map wV)]] [(50, .agg ((t : List Int).map wV).toArray), (49, .int .i64 (p)), (48, .agg (((inS g s : List Int) : List Int).map wV).toArray), (47, .agg #[.slice Ag0 g.ow.length cg0, .slice Ag1 g.pr.length cg1, .slice Ag2 g.mv.length cg2])] [(w200.cell? ⟨w.heap.size, 0, none⟩ = some (.slice Ag0 g.ow.length cg0)), (w200.cell? ⟨w.heap.size, 1, none⟩ = some (.slice Ag1 g.pr.length cg1)), (w200.cell? ⟨w.heap.size, 2, none⟩ = some (.slice Ag2 g.mv.length cg2)), ((((inS g s : List Int) : List Int).map wV).length = 4), (∀ (j : Nat) (v : Value), (((inS g s : List Int) : List Int).map wV)[j]? = some v → w200.cell? ((⟨w1.heap.size, 0, none⟩ : Addr).add j) = some v), (((t : List Int).map wV).length = 4), (∀ (j : Nat) (v : Value), ((t : List Int).map wV)[j]? = some v → w200.cell? ((⟨w11.heap.size, 0, none⟩ : Addr).add j) = some v)] (by kernel_rfl) ⟨(bx205.cell (i := 0) rfl), (bx205.cell (i := 1) rfl), (bx205.cell (i := 2) rfl), ((List.length_map _).trans (okLen (inS_ok (by assumption)))), bx206.whole, (by simp only [List.length_map, List.length_set, List.length_replicate, List.length_cons, List.length_nil]; first | done | assumption | exact from_len _ | exact of_len _ | exact ofZ_len _ | exact (ofW_ok _).1 | exact (fullW_W _).1 | exact (okW_with (by assumption)).1 | exact (okW_less (by assumption)).1 | exact put_len (from_len _) | exact orD_len _ _ | exact andD_len _ _ | exact minusD_len _ _ | exact fullD_len _ | (refine okLen ?_; (repeat (first | assumption | exact ofW_ok _ | exact fullW_W _ | apply okW_with | apply okW_less | refine okW_orS ?_ ?_ | refine okW_andS ?_ ?_ | refine okW_minusS ?_ ?_)); done) | omega | rfl), bx207.whole, trivial⟩ (fun act210 f209 => ?_)
   clear f201
   refine At.call f209 12 #[.agg #[.slice Ag0 g.ow.length cg0, .slice Ag1 g.pr.length cg1, .slice Ag2 g.mv.length cg2], .agg (((inS g s : List Int) : List Int).map wV).toArray, .int .i64 (p), .agg ((t : List Int).map wV).toArray] (some 51) (by kernel_rfl) (attract_any (g := g) (s := (inS g s : List Int)) (t := t) (p := p) (r203.wide (Nat.zero_le _) (by omega)) (inS_ok (by assumption)) (by repeat (first | assumption | exact ofW_ok _ | exact fullW_W _ | exact wordsD_W _ | exact okW_0 | exact okW_00 | apply okW_orS | apply okW_andS | apply okW_minusS | apply okW_with | apply okW_less | apply okW_or | apply okW_and | apply okW_minus | (apply okW_lit <;> exact ⟨by omega, by omega⟩))) (r204.wide (Nat.zero_le _) (by omega))) ?_
   rintro e_ w215 ⟨A211, c212, ss, ms, rfl, he, ow213, hat⟩
   have hok_ss := att_ok hat
   have hl_ss := okLen hok_ss
   have hlm_ms := att_len hat
   refine ⟨_, rfl, _, rfl, fun act216 f217 => ?_⟩
   clear f209
   have g218 := gr_ext he
   have szw215 := g218.size
   have e219 := e202.gr g218 no_row
   clear e202
   have r220 := r203.gr g218 (fun _ h => by cases h)
   clear r203
   have r221 := r204.gr g218 (fun _ h => by cases h)
   clear r204
   have bx222 := bx205.gr g218 (by simp)
   clear bx205
   have bx223 := bx206.gr g218 (by simp)
   clear bx206
   have bx224 := bx207.gr g218 (by simp)
   clear bx207
   clear g218 he
   refine At.rd f217 3 [[], [], []] [(53, .slice A211 ms.length c212), (52, .agg ((ss : List Int).map wV).toArray), (46, .tuple #[.agg ((ss : List Int).map wV).toArray, .slice A211 ms.length c212])] [] (by kernel_rfl) trivial (fun act226 f225 => ?_)
   clear f217
   refine At.seq f225 1 [[]] [(13, .pointer (some ⟨w215.heap.size, 0, none⟩))] (w215.alloc (.cells ((List.replicate 4 (0 : Int) : List Int).map wV).toArray 28 (0, 0))) [] (by kernel_rfl) trivial (fun act230 w227 hw228 f229 => ?_)
   clear f225
   have g231 := gr_alloc hw228
   have szw227 := g231.size
   have e233 := e219.gr g231 no_row
   clear e219
   have r234 := r220.gr g231 (fun _ h => by cases h)
   clear r220
   have r235 := r221.gr g231 (fun _ h => by cases h)
   clear r221
   have bx236 := bx222.gr g231 (by simp)
   clear bx222
   have bx237 := bx223.gr g231 (by simp)
   clear bx223
   have bx238 := bx224.gr g231 (by simp)
   clear bx224
   have ow239 : OwnR w227 (Sx (w200.heap.size) [some (w215.heap.size)]) A211 c212 3 (ms : List Int) := ow213.grA g231 (fun _ _ h => by cases h) (fun k hk hs => ⟨(fun e => by injection e; omega), hs⟩)
   clear ow213
   have bx240 : Bx w227 (w215.heap.size) ((List.replicate 4 (0 : Int) : List Int).map wV) 28 := Bx.new hw228
   have := bx240.lt
   clear g231 hw228
   refine At.act f229 (storeBlk (t := 28) (b := w215.heap.size) (n := 4) (cs' := ((ss : List Int).map wV)) (by kernel_rfl) (by kernel_rfl) (by simp only [List.length_map, List.length_set, List.length_replicate, List.length_cons, List.length_nil]; first | done | assumption | exact from_len _ | exact of_len _ | exact ofZ_len _ | exact (ofW_ok _).1 | exact (fullW_W _).1 | exact (okW_with (by assumption)).1 | exact (okW_less (by assumption)).1 | exact put_len (from_len _) | exact orD_len _ _ | exact andD_len _ _ | exact minusD_len _ _ | exact fullD_len _ | (refine okLen ?_; (repeat (first | assumption | exact ofW_ok _ | exact fullW_W _ | apply okW_with | apply okW_less | refine okW_orS ?_ ?_ | refine okW_andS ?_ ?_ | refine okW_minusS ?_ ?_)); done) | omega | rfl) oneW_ ((show ((ss : List Int).map wV).length = 4 from (by simp only [List.length_map, List.length_set, List.length_replicate, List.length_cons, List.length_nil]; first | done | assumption | exact from_len _ | exact of_len _ | exact ofZ_len _ | exact (ofW_ok _).1 | exact (fullW_W _).1 | exact (okW_with (by assumption)).1 | exact (okW_less (by assumption)).1 | exact put_len (from_len _) | exact orD_len _ _ | exact andD_len _ _ | exact minusD_len _ _ | exact fullD_len _ | (refine okLen ?_; (repeat (first | assumption | exact ofW_ok _ | exact fullW_W _ | apply okW_with | apply okW_less | refine okW_orS ?_ ?_ | refine okW_andS ?_ ?_ | refine okW_minusS ?_ ?_)); done) | omega | rfl)).trans (show ((List.replicate 4 (0 : Int) : List Int).map wV).length = 4 from (by simp only [List.length_map, List.length_set, List.length_replicate, List.length_cons, List.length_nil]; first | done | assumption | exact from_len _ | exact of_len _ | exact ofZ_len _ | exact (ofW_ok _).1 | exact (fullW_W _).1 | exact (okW_with (by assumption)).1 | exact (okW_less (by assumption)).1 | exact put_len (from_len _) | exact orD_len _ _ | exact andD_len _ _ | exact minusD_len _ _ | exact fullD_len _ | (refine okLen ?_; (repeat (first | assumption | exact ofW_ok _ | exact fullW_W _ | apply okW_with | apply okW_less | refine okW_orS ?_ ?_ | refine okW_andS ?_ ?_ | refine okW_minusS ?_ ?_)); done) | omega | rfl)).symm) bx240) ?_
   rintro d_ v_ w241 ⟨rfl, g242, bx243⟩
   refine ⟨_, rfl, fun act245 f244 => ?_⟩
   clear f229
   have szw241 := g242.size
   have e246 := e233.gr g242 (fun k h => by injection h; omega)
   clear e233
   have r247 := r234.gr g242 (fun k h => by injection h; omega)
   clear r234
   have r248 := r235.gr g242 (fun k h => by injection h; omega)
   clear r235
   have bx249 := bx236.gr g242 (fun h => by injection h; omega)
   clear bx236
   have bx250 := bx237.gr g242 (fun h => by injection h; omega)
   clear bx237
   have bx251 := bx238.gr g242 (fun h => by injection h; omega)
   clear bx238
   have ow252 := ow239.gr g242 (fun k hk => hk.1)
   clear ow239
   clear bx240 g242
   refine At.rd f244 1 [[]] [(14, .slice A211 ms.length c212)] [] (by kernel_rfl) trivial (fun act254 f253 => ?_)
   clear f244
   refine At.done rfl ?_
   refine t_n ?_
   have f255 := f253.sub (r := [(13, .pointer (some ⟨w215.heap.size, 0, none⟩)), (12, .int .i64 (((g.ow.length : Nat) : Int))), (7, .pointer (some ⟨w11.heap.size, 0, none⟩)), (5, .pointer (some ⟨w1.heap.size, 0, none⟩)), (4, .pointer (some ⟨w.heap.size, 0, none⟩)), (2, .int .i64 (p))]) ⟨rfl, rfl, rfl, rfl, rfl, rfl, trivial⟩
   clear f253
   refine wp_seq ?_
   refine wp_seq ?_
   obtain ⟨Cs256, hCs257⟩ : ∃ c : List (Addr × Value), c = ([] : List (Addr × Value)) ++ (blkC (w215.heap.size) ((ss : List Int).map wV) ++ (blkC (w1.heap.size) (((inS g s : List Int) : List Int).map wV) ++ blkC (w11.heap.size) ((t : List Int).map wV))) := ⟨_, rfl⟩
   have hS258 : HoldsC Cs256 w241 := by rw [hCs257]; exact (holdsA (show HoldsC [] w241 from trivial) (holdsA (holds_blk bx243) (holdsA (holds_blk bx250) (holds_blk bx251))))
   refine AtH.start Cs256 12 #[false, false, false, false, false, false, false, false, false, false, false, false] (by kernel_rfl) rfl rfl (fun w260 hw261 => ?_)
   have g259 := gr_drew hw261
   have hS262 := hS258.gr g259
   have szw260 := g259.size
   have e263 := e246.gr g259 no_row
   clear e246
   have r264 := r247.gr g259 (fun _ h => by cases h)
   clear r247
   have r265 := r248.gr g259 (fun _ h => by cases h)
   clear r248
   have bx266 := bx249.gr g259 (by simp)
   clear bx249
   have bx267 := bx250.gr g259 (by simp)
   clear bx250
   have bx268 := bx251.gr g259 (by simp)
   clear bx251
   have ow269 := ow252.gr g259 (fun _ _ h => by cases h)
   clear ow252
   have bx270 := bx243.gr g259 (by simp)
   clear bx243
   clear g259 hw261 hS258
   refine AtH.rd (by kernel_rfl) (fun d v c a w h => by cases d <;> exact h) hS262 [0, 1] [[.cs ((ss : List Int).map wV)], [.cs (((inS g s : List Int) : List Int).map wV)]] [(55, .agg (((inS g s : List Int) : List Int).map wV).toArray), (54, .agg ((ss : List Int).map wV).toArray)] #[true, true, false, false, false, false, false, false, false, false, false, false] [(((ss : List Int).map wV).length = 4), (∀ (j : Nat) (v : Value), ((ss : List Int).map wV)[j]? = some v → ∃ j_ : Nat, Cs256[j_]? = some (((⟨w215.heap.size, 0, none⟩ : Addr).add j), v)), ((((inS g s : List Int) : List Int).map wV).length = 4), (∀ (j : Nat) (v : Value), (((inS g s : List Int) : List Int).map wV)[j]? = some v → ∃ j_ : Nat, Cs256[j_]? = some (((⟨w1.heap.size, 0, none⟩ : Addr).add j), v))] 10 f255 (by kernel_rfl) ⟨(by simp only [List.length_map, List.length_set, List.length_replicate, List.length_cons, List.length_nil]; first | done | assumption | exact from_len _ | exact of_len _ | exact ofZ_len _ | exact (ofW_ok _).1 | exact (fullW_W _).1 | exact (okW_with (by assumption)).1 | exact (okW_less (by assumption)).1 | exact put_len (from_len _) | exact orD_len _ _ | exact andD_len _ _ | exact minusD_len _ _ | exact fullD_len _ | (refine okLen ?_; (repeat (first | assumption | exact ofW_ok _ | exact fullW_W _ | apply okW_with | apply okW_less | refine okW_orS ?_ ?_ | refine okW_andS ?_ ?_ | refine okW_minusS ?_ ?_)); done) | omega | rfl), (fun j v hv => List.getElem?_of_mem (by rw [hCs257]; exact List.mem_append.2 (.inr (List.mem_append.2 (.inl (blkC_in hv)))))), ((List.length_map _).trans (okLen (inS_ok (by assumption)))), (fun j v hv => List.getElem?_of_mem (by rw [hCs257]; exact List.mem_append.2 (.inr (List.mem_append.2 (.inr (List.mem_append.2 (.inl (blkC_in hv)))))))), trivial⟩ (fun act272 f271 => ?_)
   clear f255
   refine AtH.all [2] 9 (by kernel_rfl) (by simp) ⟨?_, trivial⟩
   refine OneH.call f271 21 #[.agg ((ss : List Int).map wV).toArray, .agg (((inS g s : List Int) : List Int).map wV).toArray] (some 56) #[true, true, true, false, false, false, false, false, false, false, false, false] (by kernel_rfl) (by kernel_rfl) ((in_any (s := ss) (t := (inS g s : List Int)) (by repeat (first | assumption | exact ofW_ok _ | exact fullW_W _ | exact wordsD_W _ | exact okW_0 | exact okW_00 | apply okW_orS | apply okW_andS | apply okW_minusS | apply okW_with | apply okW_less | apply okW_or | apply okW_and | apply okW_minus | (apply okW_lit <;> exact ⟨by omega, by omega⟩))) (inS_ok (by assumption))).mono (R' := fun e w' => e = .returned (.bool true) ∧ Ext _ w') (fun e_ w_ h_ => by rw [show (inW ss (inS g s : List Int) : Bool) = true from traps_in hs hat hR hp01] at h_; exact h_)) ?_
   rintro e_ w274 ⟨rfl, he⟩
   refine ⟨_, rfl, _, rfl, fun act275 f276 => ?_⟩
   clear f271
   have g277 := gr_ext he
   have hS273 := hS262.gr g277
   have szw274 := g277.size
   have e278 := e263.gr g277 no_row
   clear e263
   have r279 := r264.gr g277 (fun _ h => by cases h)
   clear r264
   have r280 := r265.gr g277 (fun _ h => by cases h)
   clear r265
   have bx281 := bx266.gr g277 (by simp)
   clear bx266
   have bx282 := bx267.gr g277 (by simp)
   clear bx267
   have bx283 := bx268.gr g277 (by simp)
   clear bx268
   have ow284 := ow269.gr g277 (fun _ _ h => by cases h)
   clear ow269
   have bx285 := bx270.gr g277 (by simp)
   clear bx270
   clear g277 he
   refine ⟨hS273, ?_⟩
   refine AtH.rd (by kernel_rfl) (fun d v c a w h => by cases d <;> exact h) hS273 [3] [[]] [(57, .bool false)] #[true, true, true, true, false, false, false, false, false, false, false, false] [] 8 f276 (by kernel_rfl) trivial (fun act287 f286 => ?_)
   clear f276
   refine AtH.rd (by kernel_rfl) (fun d v c a w h => by cases d <;> exact h) hS273 [4] [[]] [(58, .bool false)] #[true, true, true, true, true, false, false, false, false, false, false, false] [] 7 f286 (by kernel_rfl) trivial (fun act289 f288 => ?_)
   clear f286
   refine AtH.rd (by kernel_rfl) (fun d v c a w h => by cases d <;> exact h) hS273 [5] [[.cs ((t : List Int).map wV)]] [(59, .agg ((t : List Int).map wV).toArray)] #[true, true, true, true, true, true, false, false, false, false, false, false] [(((t : List Int).map wV).length = 4), (∀ (j : Nat) (v : Value), ((t : List Int).map wV)[j]? = some v → ∃ j_ : Nat, Cs256[j_]? = some (((⟨w11.heap.size, 0, none⟩ : Addr).add j), v))] 6 f288 (by kernel_rfl) ⟨(by simp only [List.length_map, List.length_set, List.length_replicate, List.length_cons, List.length_nil]; first | done | assumption | exact from_len _ | exact of_len _ | exact ofZ_len _ | exact (ofW_ok _).1 | exact (fullW_W _).1 | exact (okW_with (by assumption)).1 | exact (okW_less (by assumption)).1 | exact put_len (from_len _) | exact orD_len _ _ | exact andD_len _ _ | exact minusD_len _ _ | exact fullD_len _ | (refine okLen ?_; (repeat (first | assumption | exact ofW_ok _ | exact fullW_W _ | apply okW_with | apply okW_less | refine okW_orS ?_ ?_ | refine okW_andS ?_ ?_ | refine okW_minusS ?_ ?_)); done) | omega | rfl), (fun j v hv => List.getElem?_of_mem (by rw [hCs257]; exact List.mem_append.2 (.inr (List.mem_append.2 (.inr (List.mem_append.2 (.inr (blkC_in hv)))))))), trivial⟩ (fun act291 f290 => ?_)
   clear f288
   refine AtH.rd (by kernel_rfl) (fun d v c a w h => by cases d <;> exact h) hS273 [6] [[.cs (((inS g s : List Int) : List Int).map wV)]] [(60, .agg (((inS g s : List Int) : List Int).map wV).toArray)] #[true, true, true, true, true, true, true, false, false, false, false, false] [((((inS g s : List Int) : List Int).map wV).length = 4), (∀ (j : Nat) (v : Value), (((inS g s : List Int) : List Int).map wV)[j]? = some v → ∃ j_ : Nat, Cs256[j_]? = some (((⟨w1.heap.size, 0, none⟩ : Addr).add j), v))] 5 f290 (by kernel_rfl) ⟨((List.length_map _).trans (okLen (inS_ok (by assumption)))), (fun j v hv => List.getElem?_of_mem (by rw [hCs257]; exact List.mem_append.2 (.inr (List.mem_append.2 (.inr (List.mem_append.2 (.inl (blkC_in hv)))))))), trivial⟩ (fun act293 f292 => ?_)
   clear f290
   refine AtH.rd (by kernel_rfl) (fun d v c a w h => by cases d <;> exact h) hS273 [8] [[.cs ((ss : List Int).map wV)]] [(62, .agg ((ss : List Int).map wV).toArray)] #[true, true, true, true, true, true, true, false, true, false, false, false] [(((ss : List Int).map wV).length = 4), (∀ (j : Nat) (v : Value), ((ss : List Int).map wV)[j]? = some v → ∃ j_ : Nat, Cs256[j_]? = some (((⟨w215.heap.size, 0, none⟩ : Addr).add j), v))] 4 f292 (by kernel_rfl) ⟨(by simp only [List.length_map, List.length_set, List.length_replicate, List.length_cons, List.length_nil]; first | done | assumption | exact from_len _ | exact of_len _ | exact ofZ_len _ | exact (ofW_ok _).1 | exact (fullW_W _).1 | exact (okW_with (by assumption)).1 | exact (okW_less (by assumption)).1 | exact put_len (from_len _) | exact orD_len _ _ | exact andD_len _ _ | exact minusD_len _ _ | exact fullD_len _ | (refine okLen ?_; (repeat (first | assumption | exact ofW_ok _ | exact fullW_W _ | apply okW_with | apply okW_less | refine okW_orS ?_ ?_ | refine okW_andS ?_ ?_ | refine okW_minusS ?_ ?_)); done) | omega | rfl), (fun j v hv => List.getElem?_of_mem (by rw [hCs257]; exact List.mem_append.2 (.inr (List.mem_append.2 (.inl (blkC_in hv)))))), trivial⟩ (fun act295 f294 => ?_)
   clear f292
   refine AtH.all [7] 3 (by kernel_rfl) (by simp) ⟨?_, trivial⟩
   refine OneH.call f294 19 #[.agg ((t : List Int).map wV).toArray, .agg (((inS g s : List Int) : List Int).map wV).toArray] (some 61) #[true, true, true, true, true, true, true, true, true, false, false, false] (by kernel_rfl) (by kernel_rfl) (andS_any (s := t) (t := (inS g s : List Int)) (by repeat (first | assumption | exact ofW_ok _ | exact fullW_W _ | exact wordsD_W _ | exact okW_0 | exact okW_00 | apply okW_orS | apply okW_andS | apply okW_minusS | apply okW_with | apply okW_less | apply okW_or | apply okW_and | apply okW_minus | (apply okW_lit <;> exact ⟨by omega, by omega⟩))) (inS_ok (by assumption))) ?_
   rintro e_ w297 ⟨rfl, he⟩
   refine ⟨_, rfl, _, rfl, fun act298 f299 => ?_⟩
   clear f294
   have g300 := gr_ext he
   have hS296 := hS273.gr g300
   have szw297 := g300.size
   have e301 := e278.gr g300 no_row
   clear e278
   have r302 := r279.gr g300 (fun _ h => by cases h)
   clear r279
   have r303 := r280.gr g300 (fun _ h => by cases h)
   clear r280
   have bx304 := bx281.gr g300 (by simp)
   clear bx281
   have bx305 := bx282.gr g300 (by simp)
   clear bx282
   have bx306 := bx283.gr g300 (by simp)
   clear bx283
   have ow307 := ow284.gr g300 (fun _ _ h => by cases h)
   clear ow284
   have bx308 := bx285.gr g300 (by simp)
   clear bx285
   clear g300 he
   refine ⟨hS296, ?_⟩
   refine AtH.all [9] 2 (by kernel_rfl) (by simp) ⟨?_, trivial⟩
   refine OneH.call f299 21 #[.agg ((andS t (inS g s : List Int) : List Int).map wV).toArray, .agg ((ss : List Int).map wV).toArray] (some 63) #[true, true, true, true, true, true, true, true, true, true, false, false] (by kernel_rfl) (by kernel_rfl) ((in_any (s := andS t (inS g s : List Int)) (t := ss) (okW_andS (by assumption) (inS_ok (by assumption))) (by repeat (first | assumption | exact ofW_ok _ | exact fullW_W _ | exact wordsD_W _ | exact okW_0 | exact okW_00 | apply okW_orS | apply okW_andS | apply okW_minusS | apply okW_with | apply okW_less | apply okW_or | apply okW_and | apply okW_minus | (apply okW_lit <;> exact ⟨by omega, by omega⟩)))).mono (R' := fun e w' => e = .returned (.bool true) ∧ Ext _ w') (fun e_ w_ h_ => by rw [show (inW (andS t (inS g s : List Int)) ss : Bool) = true from traps_to hs ht hat hR hp01] at h_; exact h_)) ?_
   rintro e_ w310 ⟨rfl, he⟩
   refine ⟨_, rfl, _, rfl, fun act311 f312 => ?_⟩
   clear f299
   have g313 := gr_ext he
   have hS309 := hS296.gr g313
   have szw310 := g313.size
   have e314 := e301.gr g313 no_row
   clear e301
   have r315 := r302.gr g313 (fun _ h => by cases h)
   clear r302
   have r316 := r303.gr g313 (fun _ h => by cases h)
   clear r303
   have bx317 := bx304.gr g313 (by simp)
   clear bx304
   have bx318 := bx305.gr g313 (by simp)
   clear bx305
   have bx319 := bx306.gr g313 (by simp)
   clear bx306
   have ow320 := ow307.gr g313 (fun _ _ h => by cases h)
   clear ow307
   have bx321 := bx308.gr g313 (by simp)
   clear bx308
   clear g313 he
   refine ⟨hS309, ?_⟩
   refine AtH.rd (by kernel_rfl) (fun d v c a w h => by cases d <;> exact h) hS309 [10] [[]] [(64, .bool false)] #[true, true, true, true, true, true, true, true, true, true, true, false] [] 1 f312 (by kernel_rfl) trivial (fun act323 f322 => ?_)
   clear f312
   refine AtH.rd (by kernel_rfl) (fun d v c a w h => by cases d <;> exact h) hS309 [11] [[]] [(65, .bool false)] #[true, true, true, true, true, true, true, true, true, true, true, true] [] 0 f322 (by kernel_rfl) trivial (fun act325 f324 => ?_)
   clear f322
   refine AtH.done (by kernel_rfl) ?_
   clear hS309
   refine t_n ?_
   have f326 := f324.sub (r := [(65, .bool false), (13, .pointer (some ⟨w215.heap.size, 0, none⟩)), (12, .int .i64 (((g.ow.length : Nat) : Int))), (5, .pointer (some ⟨w1.heap.size, 0, none⟩)), (4, .pointer (some ⟨w.heap.size, 0, none⟩)), (2, .int .i64 (p))]) ⟨rfl, rfl, rfl, rfl, rfl, rfl, trivial⟩
   clear f324
   refine cond_F f326 rfl ?_
   refine wp_skip ?_
   refine t_n ?_
   have f327 := f326.sub (r := [(13, .pointer (some ⟨w215.heap.size, 0, none⟩)), (12, .int .i64 (((g.ow.length : Nat) : Int))), (5, .pointer (some ⟨w1.heap.size, 0, none⟩)), (4, .pointer (some ⟨w.heap.size, 0, none⟩)), (2, .int .i64 (p))]) ⟨rfl, rfl, rfl, rfl, rfl, trivial⟩
   clear f326
   refine wp_seq ?_
   refine At.start ?_
   refine At.rd f327 2 [[.cs (((inS g s : List Int) : List Int).map wV)], [.cs ((ss : List Int).map wV)]] [(67, .agg ((ss : List Int).map wV).toArray), (66, .agg (((inS g s : List Int) : List Int).map wV).toArray)] [((((inS g s : List Int) : List Int).map wV).length = 4), (∀ (j : Nat) (v : Value), (((inS g s : List Int) : List Int).map wV)[j]? = some v → w310.cell? ((⟨w1.heap.size, 0, none⟩ : Addr).add j) = some v), (((ss : List Int).map wV).length = 4), (∀ (j : Nat) (v : Value), ((ss : List Int).map wV)[j]? = some v → w310.cell? ((⟨w215.heap.size, 0, none⟩ : Addr).add j) = some v)] (by kernel_rfl) ⟨((List.length_map _).trans (okLen (inS_ok (by assumption)))), bx318.whole, (by simp only [List.length_map, List.length_set, List.length_replicate, List.length_cons, List.length_nil]; first | done | assumption | exact from_len _ | exact of_len _ | exact ofZ_len _ | exact (ofW_ok _).1 | exact (fullW_W _).1 | exact (okW_with (by assumption)).1 | exact (okW_less (by assumption)).1 | exact put_len (from_len _) | exact orD_len _ _ | exact andD_len _ _ | exact minusD_len _ _ | exact fullD_len _ | (refine okLen ?_; (repeat (first | assumption | exact ofW_ok _ | exact fullW_W _ | apply okW_with | apply okW_less | refine okW_orS ?_ ?_ | refine okW_andS ?_ ?_ | refine okW_minusS ?_ ?_)); done) | omega | rfl), bx321.whole, trivial⟩ (fun act329 f328 => ?_)
   clear f327
   refine At.call f328 22 #[.agg (((inS g s : List Int) : List Int).map wV).toArray, .agg ((ss : List Int).map wV).toArray] (some 68) (by kernel_rfl) (minusS_any (s := (inS g s : List Int)) (t := ss) (inS_ok (by assumption)) (by repeat (first | assumption | exact ofW_ok _ | exact fullW_W _ | exact wordsD_W _ | exact okW_0 | exact okW_00 | apply okW_orS | apply okW_andS | apply okW_minusS | apply okW_with | apply okW_less | apply okW_or | apply okW_and | apply okW_minus | (apply okW_lit <;> exact ⟨by omega, by omega⟩)))) ?_
   rintro e_ w330 ⟨rfl, he⟩
   refine ⟨_, rfl, _, rfl, fun act331 f332 => ?_⟩
   clear f328
   have g333 := gr_ext he
   have szw330 := g333.size
   have e334 := e314.gr g333 no_row
   clear e314
   have r335 := r315.gr g333 (fun _ h => by cases h)
   clear r315
   have r336 := r316.gr g333 (fun _ h => by cases h)
   clear r316
   have bx337 := bx317.gr g333 (by simp)
   clear bx317
   have bx338 := bx318.gr g333 (by simp)
   clear bx318
   have bx339 := bx319.gr g333 (by simp)
   clear bx319
   have ow340 := ow320.gr g333 (fun _ _ h => by cases h)
   clear ow320
   have bx341 := bx321.gr g333 (by simp)
   clear bx321
   clear g333 he
   refine At.seq f332 1 [[]] [(15, .pointer (some ⟨w330.heap.size, 0, none⟩))] (w330.alloc (.cells ((List.replicate 4 (0 : Int) : List Int).map wV).toArray 28 (0, 0))) [] (by kernel_rfl) trivial (fun act345 w342 hw343 f344 => ?_)
   clear f332
   have g346 := gr_alloc hw343
   have szw342 := g346.size
   have e348 := e334.gr g346 no_row
   clear e334
   have r349 := r335.gr g346 (fun _ h => by cases h)
   clear r335
   have r350 := r336.gr g346 (fun _ h => by cases h)
   clear r336
   have bx351 := bx337.gr g346 (by simp)
   clear bx337
   have bx352 := bx338.gr g346 (by simp)
   clear bx338
   have bx353 := bx339.gr g346 (by simp)
   clear bx339
   have ow354 : OwnR w342 (Sx (w200.heap.size) [some (w330.heap.size), some (w215.heap.size)]) A211 c212 3 (ms : List Int) := ow340.grA g346 (fun _ _ h => by cases h) (fun k hk hs => ⟨(fun e => by injection e; omega), hs.1, hs.2⟩)
   clear ow340
   have bx355 := bx341.gr g346 (by simp)
   clear bx341
   have bx356 : Bx w342 (w330.heap.size) ((List.replicate 4 (0 : Int) : List Int).map wV) 28 := Bx.new hw343
   have := bx356.lt
   clear g346 hw343
   refine At.act f344 (storeBlk (t := 28) (b := w330.heap.size) (n := 4) (cs' := ((minusS (inS g s : List Int) ss : List Int).map wV)) (by kernel_rfl) (by kernel_rfl) ((List.length_map _).trans (okLen (okW_minusS (inS_ok (by assumption)) (by assumption)))) oneW_ ((show ((minusS (inS g s : List Int) ss : List Int).map wV).length = 4 from ((List.length_map _).trans (okLen (okW_minusS (inS_ok (by assumption)) (by assumption))))).trans (show ((List.replicate 4 (0 : Int) : List Int).map wV).length = 4 from (by simp only [List.length_map, List.length_set, List.length_replicate, List.length_cons, List.length_nil]; first | done | assumption | exact from_len _ | exact of_len _ | exact ofZ_len _ | exact (ofW_ok _).1 | exact (fullW_W _).1 | exact (okW_with (by assumption)).1 | exact (okW_less (by assumption)).1 | exact put_len (from_len _) | exact orD_len _ _ | exact andD_len _ _ | exact minusD_len _ _ | exact fullD_len _ | (refine okLen ?_; (repeat (first | assumption | exact ofW_ok _ | exact fullW_W _ | apply okW_with | apply okW_less | refine okW_orS ?_ ?_ | refine okW_andS ?_ ?_ | refine okW_minusS ?_ ?_)); done) | omega | rfl)).symm) bx356) ?_
   rintro d_ v_ w357 ⟨rfl, g358, bx359⟩
   refine ⟨_, rfl, fun act361 f360 => ?_⟩
   clear f344
   have szw357 := g358.size
   have e362 := e348.gr g358 (fun k h => by injection h; omega)
   clear e348
   have r363 := r349.gr g358 (fun k h => by injection h; omega)
   clear r349
   have r364 := r350.gr g358 (fun k h => by injection h; omega)
   clear r350
   have bx365 := bx351.gr g358 (fun h => by injection h; omega)
   clear bx351
   have bx366 := bx352.gr g358 (fun h => by injection h; omega)
   clear bx352
   have bx367 := bx353.gr g358 (fun h => by injection h; omega)
   clear bx353
   have ow368 := ow354.gr g358 (fun k hk => hk.1)
   clear ow354
   have bx369 := bx355.gr g358 (fun h => by injection h; omega)
   clear bx355
   clear bx356 g358
   refine At.done rfl ?_
   refine t_n ?_
   have f370 := f360.sub (r := [(15, .pointer (some ⟨w330.heap.size, 0, none⟩)), (13, .pointer (some ⟨w215.heap.size, 0, none⟩)), (12, .int .i64 (((g.ow.length : Nat) : Int))), (5, .pointer (some ⟨w1.heap.size, 0, none⟩)), (4, .pointer (some ⟨w.heap.size, 0, none⟩)), (2, .int .i64 (p))]) ⟨rfl, rfl, rfl, rfl, rfl, rfl, trivial⟩
   clear f360
   refine wp_seq ?_
   refine wp_seq ?_
   refine At.start ?_
   refine At.rd f370 1 [[]] [(16, .int .i64 (0))] [] (by kernel_rfl) trivial (fun act372 f371 => ?_)
   clear f370
   refine At.done rfl ?_
   refine t_n ?_
   refine wp_block ?_
   have f373 := f371.sub (r := [(16, .int .i64 (0)), (15, .pointer (some ⟨w330.heap.size, 0, none⟩)), (13, .pointer (some ⟨w215.heap.size, 0, none⟩)), (12, .int .i64 (((g.ow.length : Nat) : Int))), (5, .pointer (some ⟨w1.heap.size, 0, none⟩)), (4, .pointer (some ⟨w.heap.size, 0, none⟩)), (2, .int .i64 (p))]) ⟨rfl, rfl, rfl, rfl, rfl, rfl, rfl, trivial⟩
   refine loop_g (fun (m_ : Nat) a_ w_ => ∃ (i : Int), m_ = ((g.ow.length : Int) - i).toNat ∧ (Frm 121 a_ [(16, .int .i64 (i)), (15, .pointer (some ⟨w330.heap.size, 0, none⟩)), (13, .pointer (some ⟨w215.heap.size, 0, none⟩)), (12, .int .i64 (((g.ow.length : Nat) : Int))), (5, .pointer (some ⟨w1.heap.size, 0, none⟩)), (4, .pointer (some ⟨w.heap.size, 0, none⟩)), (2, .int .i64 (p))]) ∧ (Ext w w_) ∧ (RdG w_ 0 w.heap.size Ag0 Ag1 Ag2 cg0 cg1 cg2 g) ∧ (RdT w_ 0 w.heap.size) ∧ (Bx w_ (w.heap.size) [.slice Ag0 g.ow.length cg0, .slice Ag1 g.pr.length cg1, .slice Ag2 g.mv.length cg2] 25) ∧ (Bx w_ (w1.heap.size) (((inS g s : List Int) : List Int).map wV) 28) ∧ (Bx w_ (w11.heap.size) ((t : List Int).map wV) 28) ∧ (OwnR w_ (Sx (w200.heap.size) [some (w330.heap.size), some (w215.heap.size)]) A211 c212 3 (ms : List Int)) ∧ (Bx w_ (w215.heap.size) ((ss : List Int).map wV) 28) ∧ (Bx w_ (w330.heap.size) ((minusS (inS g s : List Int) ss : List Int).map wV) 28) ∧ (0 ≤ i) ∧ (i ≤ (g.ow.length : Int)) ∧ (w200.heap.size ≤ w_.heap.size)) _ ⟨0, rfl, f373, e362, r363, r364, bx365, bx366, bx367, ow368, bx369, bx359, (by omega), (by omega), (by omega)⟩ ?_
   clear f373 f371
   clear r363
   clear r364
   clear bx365
   clear bx366
   clear bx367
   clear ow368
   clear bx369
   clear bx359
   clear e362
   intro m_ act374 w375 ⟨i, hm377, f378, e376, r379, r380, bx381, bx382, bx383, ow384, bx385, bx386, i387, i388, i389⟩
   have szw375 := e376.size
   have := bx381.lt
   have := bx382.lt
   have := bx383.lt
   have := bx385.lt
   have := bx386.lt
   refine wp_seq ?_
   refine wp_seq ?_
   refine At.start ?_
   refine At.rd f378 3 [[], [], []] [(71, .bool (decide ((i : Int) < ((g.ow.length : Nat) : Int)))), (70, .int .i64 (((g.ow.length : Nat) : Int))), (69, .int .i64 (i))] [] (by kernel_rfl) trivial (fun act391 f390 => ?_)
   clear f378
   refine At.done rfl ?_
   refine t_n ?_
   have f392 := f390.sub (r := [(71, .bool (decide ((i : Int) < ((g.ow.length : Nat) : Int)))), (16, .int .i64 (i)), (15, .pointer (some ⟨w330.heap.size, 0, none⟩)), (13, .pointer (some ⟨w215.heap.size, 0, none⟩)), (12, .int .i64 (((g.ow.length : Nat) : Int))), (5, .pointer (some ⟨w1.heap.size, 0, none⟩)), (4, .pointer (some ⟨w.heap.size, 0, none⟩)), (2, .int .i64 (p))]) ⟨rfl, rfl, rfl, rfl, rfl, rfl, rfl, rfl, trivial⟩
   clear f390
   refine cond_S f392 (t := decide ((i : Int) < ((g.ow.length : Nat) : Int))) rfl (fun h393 => ?_) (fun h393 => ?_)
   ·have q394 := of_decide_eq_true h393
    refine wp_skip ?_
    refine t_n ?_
    have f395 := f392.sub (r := [(16, .int .i64 (i)), (15, .pointer (some ⟨w330.heap.size, 0, none⟩)), (13, .pointer (some ⟨w215.heap.size, 0, none⟩)), (12, .int .i64 (((g.ow.length : Nat) : Int))), (5, .pointer (some ⟨w1.heap.size, 0, none⟩)), (4, .pointer (some ⟨w.heap.size, 0, none⟩)), (2, .int .i64 (p))]) ⟨rfl, rfl, rfl, rfl, rfl, rfl, rfl, trivial⟩
    clear f392
    refine wp_seq ?_
    refine wp_block ?_
    refine wp_seq ?_
    refine wp_seq ?_
    refine At.start ?_
    refine At.rd f395 2 [[.cs ((minusS (inS g s : List Int) ss : List Int).map wV)], []] [(75, .int .i64 (i)), (74, .agg ((minusS (inS g s : List Int) ss : List Int).map wV).toArray)] [(((minusS (inS g s : List Int) ss : List Int).map wV).length = 4), (∀ (j : Nat) (v : Value), ((minusS (inS g s : List Int) ss : List Int).map wV)[j]? = some v → w375.cell? ((⟨w330.heap.size, 0, none⟩ : Addr).add j) = some v)] (by kernel_rfl) ⟨((List.length_map _).trans (okLen (okW_minusS (inS_ok (by assumption)) (by assumption)))), bx386.whole, trivial⟩ (fun act397 f396 => ?_)
    clear f395
    refine At.call f396 23 #[.agg ((minusS (inS g s : List Int) ss : List Int).map wV).toArray, .int .i64 (i)] (some 76) (by kernel_rfl) (has_any (s := minusS (inS g s : List Int) ss) (n := i) (okW_minusS (inS_ok (by assumption)) (by assumption))) ?_
    rintro e_ w398 ⟨rfl, he⟩
    refine ⟨_, rfl, _, rfl, fun act399 f400 => ?_⟩
    clear f396
    have g401 := gr_ext he
    have szw398 := g401.size
    have e402 := e376.gr g401 no_row
    clear e376
    have r403 := r379.gr g401 (fun _ h => by cases h)
    clear r379
    have r404 := r380.gr g401 (fun _ h => by cases h)
    clear r380
    have bx405 := bx381.gr g401 (by simp)
    clear bx381
    have bx406 := bx382.gr g401 (by simp)
    clear bx382
    have bx407 := bx383.gr g401 (by simp)
    clear bx383
    have ow408 := ow384.gr g401 (fun _ _ h => by cases h)
    clear ow384
    have bx409 := bx385.gr g401 (by simp)
    clear bx385
    have bx410 := bx386.gr g401 (by simp)
    clear bx386
    clear g401 he
    refine At.rd f400 1 [[]] [(77, .bool (!(hasW (minusS (inS g s : List Int) ss) i)))] [] (by kernel_rfl) trivial (fun act412 f411 => ?_)
    clear f400
    refine At.done rfl ?_
    refine t_n ?_
    have f413 := f411.sub (r := [(77, .bool (!(hasW (minusS (inS g s : List Int) ss) i))), (16, .int .i64 (i)), (15, .pointer (some ⟨w330.heap.size, 0, none⟩)), (13, .pointer (some ⟨w215.heap.size, 0, none⟩)), (12, .int .i64 (((g.ow.length : Nat) : Int))), (5, .pointer (some ⟨w1.heap.size, 0, none⟩)), (4, .pointer (some ⟨w.heap.size, 0, none⟩)), (2, .int .i64 (p))]) ⟨rfl, rfl, rfl, rfl, rfl, rfl, rfl, rfl, trivial⟩
    clear f411
    refine cond_S f413 (t := !(hasW (minusS (inS g s : List Int) ss) i)) rfl (fun h414 => ?_) (fun h414 => ?_)
    ·have q415 : (hasW (minusS (inS g s : List Int) ss) i) = false := by first | exact Eq.mp (Bool.not_eq_true' _) h414 | exact Eq.mp (Bool.not_eq_false' _) h414 | simpa using h414
     refine wp_exit ?_
     refine t_e ?_
     refine b_e ?_
     refine t_n ?_
     have f417 := f413.sub (r := [(16, .int .i64 (i)), (15, .pointer (some ⟨w330.heap.size, 0, none⟩)), (13, .pointer (some ⟨w215.heap.size, 0, none⟩)), (12, .int .i64 (((g.ow.length : Nat) : Int))), (5, .pointer (some ⟨w1.heap.size, 0, none⟩)), (4, .pointer (some ⟨w.heap.size, 0, none⟩)), (2, .int .i64 (p))]) ⟨rfl, rfl, rfl, rfl, rfl, rfl, rfl, trivial⟩
     clear f413
     refine At.start ?_
     refine At.rd f417 3 [[], [.as_ (.int .i64 (i + 1))], []] [(16, .int .i64 (i + 1)), (73, .int .i64 (i + 1)), (72, .int .i64 (i))] [((.int .i64 (IntKind.i64.wrap (i + 1)) : Value) = .int .i64 (i + 1))] (by kernel_rfl) ⟨(w64 (by omega) (by omega)), trivial⟩ (fun act419 f418 => ?_)
     clear f417
     refine At.done rfl ?_
     refine t_n ?_
     have f420 := f418.sub (r := [(16, .int .i64 (i + 1)), (15, .pointer (some ⟨w330.heap.size, 0, none⟩)), (13, .pointer (some ⟨w215.heap.size, 0, none⟩)), (12, .int .i64 (((g.ow.length : Nat) : Int))), (5, .pointer (some ⟨w1.heap.size, 0, none⟩)), (4, .pointer (some ⟨w.heap.size, 0, none⟩)), (2, .int .i64 (p))]) ⟨rfl, rfl, rfl, rfl, rfl, rfl, rfl, trivial⟩
     exact ⟨_, (by omega), (i + 1), rfl, f420, e402, r403, r404, bx405, bx406, bx407, ow408, bx409, bx410, (by omega), (by omega), (by omega)⟩
    ·have q421 : (hasW (minusS (inS g s : List Int) ss) i) = true := by first | exact Eq.mp (Bool.not_eq_true' _) h414 | exact Eq.mp (Bool.not_eq_false' _) h414 | simpa using h414
     refine wp_skip ?_
     refine t_n ?_
     have f423 := f413.sub (r := [(16, .int .i64 (i)), (15, .pointer (some ⟨w330.heap.size, 0, none⟩)), (13, .pointer (some ⟨w215.heap.size, 0, none⟩)), (12, .int .i64 (((g.ow.length : Nat) : Int))), (5, .pointer (some ⟨w1.heap.size, 0, none⟩)), (4, .pointer (some ⟨w.heap.size, 0, none⟩)), (2, .int .i64 (p))]) ⟨rfl, rfl, rfl, rfl, rfl, rfl, rfl, trivial⟩
     clear f413
     refine wp_seq (cut (fun a_ w_ => ∃ (b_424 : Nat), (Frm 121 a_ [(17, .pointer (some ⟨b_424, 0, none⟩)), (16, .int .i64 (i)), (15, .pointer (some ⟨w330.heap.size, 0, none⟩)), (13, .pointer (some ⟨w215.heap.size, 0, none⟩)), (12, .int .i64 (((g.ow.length : Nat) : Int))), (5, .pointer (some ⟨w1.heap.size, 0, none⟩)), (4, .pointer (some ⟨w.heap.size, 0, none⟩)), (2, .int .i64 (p))]) ∧ (Ext w w_) ∧ (RdG w_ 0 w.heap.size Ag0 Ag1 Ag2 cg0 cg1 cg2 g) ∧ (RdT w_ 0 w.heap.size) ∧ (Bx w_ (w.heap.size) [.slice Ag0 g.ow.length cg0, .slice Ag1 g.pr.length cg1, .slice Ag2 g.mv.length cg2] 25) ∧ (Bx w_ (w1.heap.size) (((inS g s : List Int) : List Int).map wV) 28) ∧ (Bx w_ (w11.heap.size) ((t : List Int).map wV) 28) ∧ (OwnR w_ (Sx (w200.heap.size) [some (w330.heap.size), some (w215.heap.size), some (b_424)]) A211 c212 3 (ms : List Int)) ∧ (Bx w_ (w215.heap.size) ((ss : List Int).map wV) 28) ∧ (Bx w_ (w330.heap.size) ((minusS (inS g s : List Int) ss : List Int).map wV) 28) ∧ (Bx w_ (b_424) ((andS (ofW (gL g.mv (i))) (inS g s : List Int) : List Int).map wV) 28) ∧ (w398.heap.size ≤ b_424) ∧ (w398.heap.size ≤ w_.heap.size)) ?_ ?_)
     ·obtain ⟨ad425, R428, C429, hA426, _, _, hc427, hC430, r431⟩ := RdII.get r403.mv (i) (by omega) (by omega)
      have hl432 := r431.len
      obtain ⟨Cs434, hCs435⟩ : ∃ c : List (Addr × Value), c = ([(⟨w.heap.size, 2, none⟩, (.slice Ag2 g.mv.length cg2)), ((ad425.add ((i : Int).toNat * 1)), (.slice R428 ((gL g.mv (i)).length) C429))] : List (Addr × Value)) ++ blkC (w1.heap.size) (((inS g s : List Int) : List Int).map wV) := ⟨_, rfl⟩
      have hS436 : HoldsC Cs434 w398 := by rw [hCs435]; exact (holdsA (show HoldsC [(⟨w.heap.size, 2, none⟩, (.slice Ag2 g.mv.length cg2)), ((ad425.add ((i : Int).toNat * 1)), (.slice R428 ((gL g.mv (i)).length) C429))] w398 from ⟨(bx405.cell (i := 2) rfl), hc427, trivial⟩) (holds_blk bx406))
      refine AtH.start Cs434 10 #[false, false, false, false, false, false, false, false, false, false] (by kernel_rfl) rfl rfl (fun w438 hw439 => ?_)
      have g437 := gr_drew hw439
      have hS440 := hS436.gr g437
      have szw438 := g437.size
      have e441 := e402.gr g437 no_row
      clear e402
      have r442 := r403.gr g437 (fun _ h => by cases h)
      clear r403
      have r443 := r404.gr g437 (fun _ h => by cases h)
      clear r404
      have bx444 := bx405.gr g437 (by simp)
      clear bx405
      have bx445 := bx406.gr g437 (by simp)
      clear bx406
      have bx446 := bx407.gr g437 (by simp)
      clear bx407
      have ow447 := ow408.gr g437 (fun _ _ h => by cases h)
      clear ow408
      have bx448 := bx409.gr g437 (by simp)
      clear bx409
      have bx449 := bx410.gr g437 (by simp)
      clear bx410
      have r450 := r431.gr g437 (fun _ h => by cases h)
      clear r431
      clear g437 hw439 hS436
      refine AtH.rd (by kernel_rfl) (fun d v c a w h => by cases d <;> exact h) hS440 [0, 1, 2, 3, 4, 6] [[], [.ld (.slice Ag2 g.mv.length cg2)], [], [.ad ad425], [.ld (.slice R428 ((gL g.mv (i)).length) C429)], [.cs (((inS g s : List Int) : List Int).map wV)]] [(84, .agg (((inS g s : List Int) : List Int).map wV).toArray), (82, .slice R428 ((gL g.mv (i)).length) C429), (81, .pointer (some (ad425.add ((i : Int).toNat * 1)))), (80, .int .i64 (i)), (79, .slice Ag2 g.mv.length cg2), (78, .pointer (some ⟨w.heap.size, 2, none⟩))] #[true, true, true, true, true, false, true, false, false, false] [(∃ j_ : Nat, Cs434[j_]? = some (⟨w.heap.size, 2, none⟩, (.slice Ag2 g.mv.length cg2))), (Ag2 = some ad425), (0 ≤ (i : Int)), ((i : Int) < (g.mv.length : Nat)), (∃ j_ : Nat, Cs434[j_]? = some ((ad425.add ((i : Int).toNat * 1)), (.slice R428 ((gL g.mv (i)).length) C429))), ((((inS g s : List Int) : List Int).map wV).length = 4), (∀ (j : Nat) (v : Value), (((inS g s : List Int) : List Int).map wV)[j]? = some v → ∃ j_ : Nat, Cs434[j_]? = some (((⟨w1.heap.size, 0, none⟩ : Addr).add j), v))] 4 f423 (by kernel_rfl) ⟨⟨0, by rw [hCs435]; rfl⟩, hA426, (by omega), (by omega), ⟨1, by rw [hCs435]; rfl⟩, ((List.length_map _).trans (okLen (inS_ok (by assumption)))), (fun j v hv => List.getElem?_of_mem (by rw [hCs435]; exact List.mem_append.2 (.inr (blkC_in hv)))), trivial⟩ (fun act452 f451 => ?_)
      clear f423
      refine AtH.all [5, 8] 3 (by kernel_rfl) (by simp) ⟨?_, ?_, trivial⟩
      ·refine OneH.call f451 24 #[.slice R428 ((gL g.mv (i)).length) C429] (some 83) #[true, true, true, true, true, true, true, false, false, false] (by kernel_rfl) (by kernel_rfl) (of_any (la := gL g.mv (i)) (r450.wide (Nat.zero_le _) (by omega))) ?_
       rintro e_ w454 ⟨rfl, he⟩
       refine ⟨_, rfl, _, rfl, fun act455 f456 => ?_⟩
       clear f451
       have g457 := gr_ext he
       have hS453 := hS440.gr g457
       have szw454 := g457.size
       have e458 := e441.gr g457 no_row
       clear e441
       have r459 := r442.gr g457 (fun _ h => by cases h)
       clear r442
       have r460 := r443.gr g457 (fun _ h => by cases h)
       clear r443
       have bx461 := bx444.gr g457 (by simp)
       clear bx444
       have bx462 := bx445.gr g457 (by simp)
       clear bx445
       have bx463 := bx446.gr g457 (by simp)
       clear bx446
       have ow464 := ow447.gr g457 (fun _ _ h => by cases h)
       clear ow447
       have bx465 := bx448.gr g457 (by simp)
       clear bx448
       have bx466 := bx449.gr g457 (by simp)
       clear bx449
       have r467 := r450.gr g457 (fun _ h => by cases h)
       clear r450
       clear g457 he
       refine ⟨hS453, ?_⟩
       refine AtH.all [7, 8] 2 (by kernel_rfl) (by simp) ⟨?_, ?_, trivial⟩
       ·refine OneH.call f456 19 #[.agg ((ofW (gL g.mv (i)) : List Int).map wV).toArray, .agg (((inS g s : List Int) : List Int).map wV).toArray] (some 85) #[true, true, true, true, true, true, true, true, false, false] (by kernel_rfl) (by kernel_rfl) (andS_any (s := ofW (gL g.mv (i))) (t := (inS g s : List Int)) (ofW_ok _) (inS_ok (by assumption))) ?_
        rintro e_ w469 ⟨rfl, he⟩
        refine ⟨_, rfl, _, rfl, fun act470 f471 => ?_⟩
        clear f456
        have g472 := gr_ext he
        have hS468 := hS453.gr g472
        have szw469 := g472.size
        have e473 := e458.gr g472 no_row
        clear e458
        have r474 := r459.gr g472 (fun _ h => by cases h)
        clear r459
        have r475 := r460.gr g472 (fun _ h => by cases h)
        clear r460
        have bx476 := bx461.gr g472 (by simp)
        clear bx461
        have bx477 := bx462.gr g472 (by simp)
        clear bx462
        have bx478 := bx463.gr g472 (by simp)
        clear bx463
        have ow479 := ow464.gr g472 (fun _ _ h => by cases h)
        clear ow464
        have bx480 := bx465.gr g472 (by simp)
        clear bx465
        have bx481 := bx466.gr g472 (by simp)
        clear bx466
        have r482 := r467.gr g472 (fun _ h => by cases h)
        clear r467
        clear g472 he
        refine ⟨hS468, ?_⟩
        refine AtH.all [8] 1 (by kernel_rfl) (by simp) ⟨?_, trivial⟩
        refine OneH.seq f471 [[]] [(17, .pointer (some ⟨w469.heap.size, 0, none⟩))] (w469.alloc (.cells ((List.replicate 4 (0 : Int) : List Int).map wV).toArray 28 (0, 0))) [] #[true, true, true, true, true, true, true, true, true, false] (by kernel_rfl) (by kernel_rfl) (by kernel_rfl) trivial (fun act487 w484 hw485 f486 => ?_)
        clear f471
        have g488 := gr_alloc hw485
        have hS483 := hS468.gr g488
        have szw484 := g488.size
        have e490 := e473.gr g488 no_row
        clear e473
        have r491 := r474.gr g488 (fun _ h => by cases h)
        clear r474
        have r492 := r475.gr g488 (fun _ h => by cases h)
        clear r475
        have bx493 := bx476.gr g488 (by simp)
        clear bx476
        have bx494 := bx477.gr g488 (by simp)
        clear bx477
        have bx495 := bx478.gr g488 (by simp)
        clear bx478
        have ow496 : OwnR w484 (Sx (w200.heap.size) [some (w469.heap.size), some (w330.heap.size), some (w215.heap.size)]) A211 c212 3 (ms : List Int) := ow479.grA g488 (fun _ _ h => by cases h) (fun k hk hs => ⟨(fun e => by injection e; omega), hs.1, hs.2.1, hs.2.2⟩)
        clear ow479
        have bx497 := bx480.gr g488 (by simp)
        clear bx480
        have bx498 := bx481.gr g488 (by simp)
        clear bx481
        have r499 := r482.gr g488 (fun _ h => by cases h)
        clear r482
        have bx500 : Bx w484 (w469.heap.size) ((List.replicate 4 (0 : Int) : List Int).map wV) 28 := Bx.new hw485
        have := bx500.lt
        clear g488 hw485
        refine ⟨hS483, ?_⟩
        refine AtH.all [9] 0 (by kernel_rfl) (by simp) ⟨?_, trivial⟩
        refine OneH.act f486 #[true, true, true, true, true, true, true, true, true, true] (by kernel_rfl) (storeBlk (t := 28) (b := w469.heap.size) (n := 4) (cs' := ((andS (ofW (gL g.mv (i))) (inS g s : List Int) : List Int).map wV)) (by kernel_rfl) (by kernel_rfl) ((List.length_map _).trans (okLen (okW_andS (ofW_ok _) (inS_ok (by assumption))))) oneW_ ((show ((andS (ofW (gL g.mv (i))) (inS g s : List Int) : List Int).map wV).length = 4 from ((List.length_map _).trans (okLen (okW_andS (ofW_ok _) (inS_ok (by assumption)))))).trans (show ((List.replicate 4 (0 : Int) : List Int).map wV).length = 4 from (by simp only [List.length_map, List.length_set, List.length_replicate, List.length_cons, List.length_nil]; first | done | assumption | exact from_len _ | exact of_len _ | exact ofZ_len _ | exact (ofW_ok _).1 | exact (fullW_W _).1 | exact (okW_with (by assumption)).1 | exact (okW_less (by assumption)).1 | exact put_len (from_len _) | exact orD_len _ _ | exact andD_len _ _ | exact minusD_len _ _ | exact fullD_len _ | (refine okLen ?_; (repeat (first | assumption | exact ofW_ok _ | exact fullW_W _ | apply okW_with | apply okW_less | refine okW_orS ?_ ?_ | refine okW_andS ?_ ?_ | refine okW_minusS ?_ ?_)); done) | omega | rfl)).symm) bx500) ?_
        rintro d_ v_ w502 ⟨rfl, g503, bx504⟩
        have hS507 := hS483.gr' g503 (by rw [hCs435]; exact (allP_app ⟨(by simp only [add_block]; omega), (by simp only [add_block]; omega), trivial⟩ (ne_blk (by omega))))
        refine ⟨_, rfl, fun act506 f505 => ⟨hS507, ?_⟩⟩
        clear f486
        have szw502 := g503.size
        have e508 := e490.gr g503 (fun k h => by injection h; omega)
        clear e490
        have r509 := r491.gr g503 (fun k h => by injection h; omega)
        clear r491
        have r510 := r492.gr g503 (fun k h => by injection h; omega)
        clear r492
        have bx511 := bx493.gr g503 (fun h => by injection h; omega)
        clear bx493
        have bx512 := bx494.gr g503 (fun h => by injection h; omega)
        clear bx494
        have bx513 := bx495.gr g503 (fun h => by injection h; omega)
        clear bx495
        have ow514 := ow496.gr g503 (fun k hk => hk.1)
        clear ow496
        have bx515 := bx497.gr g503 (fun h => by injection h; omega)
        clear bx497
        have bx516 := bx498.gr g503 (fun h => by injection h; omega)
        clear bx498
        have r517 := r499.gr g503 (fun k h => by injection h; omega)
        clear r499
        clear bx500 g503
        refine AtH.done (by kernel_rfl) ?_
        clear hS507
        refine t_n ?_
        have f518 := f505.sub (r := [(17, .pointer (some ⟨w469.heap.size, 0, none⟩)), (16, .int .i64 (i)), (15, .pointer (some ⟨w330.heap.size, 0, none⟩)), (13, .pointer (some ⟨w215.heap.size, 0, none⟩)), (12, .int .i64 (((g.ow.length : Nat) : Int))), (5, .pointer (some ⟨w1.heap.size, 0, none⟩)), (4, .pointer (some ⟨w.heap.size, 0, none⟩)), (2, .int .i64 (p))]) ⟨rfl, rfl, rfl, rfl, rfl, rfl, rfl, rfl, trivial⟩
        exact ⟨w469.heap.size, f518, e508, r509, r510, bx511, bx512, bx513, (ow514.imp (fun g _ hs => ⟨hs.2.1, hs.2.2.1, hs.1, (by have := Sx_base hs; show w200.heap.size ≤ g; omega)⟩)), bx515, bx516, bx504, (by omega), (by omega)⟩
       ·refine OneH.seq f456 [[]] [(17, .pointer (some ⟨w454.heap.size, 0, none⟩))] (w454.alloc (.cells ((List.replicate 4 (0 : Int) : List Int).map wV).toArray 28 (0, 0))) [] #[true, true, true, true, true, true, true, false, true, false] (by kernel_rfl) (by kernel_rfl) (by kernel_rfl) trivial (fun act523 w520 hw521 f522 => ?_)
        clear f456
        have g524 := gr_alloc hw521
        have hS519 := hS453.gr g524
        have szw520 := g524.size
        have e526 := e458.gr g524 no_row
        clear e458
        have r527 := r459.gr g524 (fun _ h => by cases h)
        clear r459
        have r528 := r460.gr g524 (fun _ h => by cases h)
        clear r460
        have bx529 := bx461.gr g524 (by simp)
        clear bx461
        have bx530 := bx462.gr g524 (by simp)
        clear bx462
        have bx531 := bx463.gr g524 (by simp)
        clear bx463
        have ow532 : OwnR w520 (Sx (w200.heap.size) [some (w454.heap.size), some (w330.heap.size), some (w215.heap.size)]) A211 c212 3 (ms : List Int) := ow464.grA g524 (fun _ _ h => by cases h) (fun k hk hs => ⟨(fun e => by injection e; omega), hs.1, hs.2.1, hs.2.2⟩)
        clear ow464
        have bx533 := bx465.gr g524 (by simp)
        clear bx465
        have bx534 := bx466.gr g524 (by simp)
        clear bx466
        have r535 := r467.gr g524 (fun _ h => by cases h)
        clear r467
        have bx536 : Bx w520 (w454.heap.size) ((List.replicate 4 (0 : Int) : List Int).map wV) 28 := Bx.new hw521
        have := bx536.lt
        clear g524 hw521
        refine ⟨hS519, ?_⟩
        refine AtH.all [7] 1 (by kernel_rfl) (by simp) ⟨?_, trivial⟩
        refine OneH.call f522 19 #[.agg ((ofW (gL g.mv (i)) : List Int).map wV).toArray, .agg (((inS g s : List Int) : List Int).map wV).toArray] (some 85) #[true, true, true, true, true, true, true, true, true, false] (by kernel_rfl) (by kernel_rfl) (andS_any (s := ofW (gL g.mv (i))) (t := (inS g s : List Int)) (ofW_ok _) (inS_ok (by assumption))) ?_
        rintro e_ w538 ⟨rfl, he⟩
        refine ⟨_, rfl, _, rfl, fun act539 f540 => ?_⟩
        clear f522
        have g541 := gr_ext he
        have hS537 := hS519.gr g541
        have szw538 := g541.size
        have e542 := e526.gr g541 no_row
        clear e526
        have r543 := r527.gr g541 (fun _ h => by cases h)
        clear r527
        have r544 := r528.gr g541 (fun _ h => by cases h)
        clear r528
        have bx545 := bx529.gr g541 (by simp)
        clear bx529
        have bx546 := bx530.gr g541 (by simp)
        clear bx530
        have bx547 := bx531.gr g541 (by simp)
        clear bx531
        have ow548 := ow532.gr g541 (fun _ _ h => by cases h)
        clear ow532
        have bx549 := bx533.gr g541 (by simp)
        clear bx533
        have bx550 := bx534.gr g541 (by simp)
        clear bx534
        have r551 := r535.gr g541 (fun _ h => by cases h)
        clear r535
        have bx552 := bx536.gr g541 (by simp)
        clear bx536
        clear g541 he
        refine ⟨hS537, ?_⟩
        refine AtH.all [9] 0 (by kernel_rfl) (by simp) ⟨?_, trivial⟩
        refine OneH.act f540 #[true, true, true, true, true, true, true, true, true, true] (by kernel_rfl) (storeBlk (t := 28) (b := w454.heap.size) (n := 4) (cs' := ((andS (ofW (gL g.mv (i))) (inS g s : List Int) : List Int).map wV)) (by kernel_rfl) (by kernel_rfl) ((List.length_map _).trans (okLen (okW_andS (ofW_ok _) (inS_ok (by assumption))))) oneW_ ((show ((andS (ofW (gL g.mv (i))) (inS g s : List Int) : List Int).map wV).length = 4 from ((List.length_map _).trans (okLen (okW_andS (ofW_ok _) (inS_ok (by assumption)))))).trans (show ((List.replicate 4 (0 : Int) : List Int).map wV).length = 4 from (by simp only [List.length_map, List.length_set, List.length_replicate, List.length_cons, List.length_nil]; first | done | assumption | exact from_len _ | exact of_len _ | exact ofZ_len _ | exact (ofW_ok _).1 | exact (fullW_W _).1 | exact (okW_with (by assumption)).1 | exact (okW_less (by assumption)).1 | exact put_len (from_len _) | exact orD_len _ _ | exact andD_len _ _ | exact minusD_len _ _ | exact fullD_len _ | (refine okLen ?_; (repeat (first | assumption | exact ofW_ok _ | exact fullW_W _ | apply okW_with | apply okW_less | refine okW_orS ?_ ?_ | refine okW_andS ?_ ?_ | refine okW_minusS ?_ ?_)); done) | omega | rfl)).symm) bx552) ?_
        rintro d_ v_ w554 ⟨rfl, g555, bx556⟩
        have hS559 := hS537.gr' g555 (by rw [hCs435]; exact (allP_app ⟨(by simp only [add_block]; omega), (by simp only [add_block]; omega), trivial⟩ (ne_blk (by omega))))
        refine ⟨_, rfl, fun act558 f557 => ⟨hS559, ?_⟩⟩
        clear f540
        have szw554 := g555.size
        have e560 := e542.gr g555 (fun k h => by injection h; omega)
        clear e542
        have r561 := r543.gr g555 (fun k h => by injection h; omega)
        clear r543
        have r562 := r544.gr g555 (fun k h => by injection h; omega)
        clear r544
        have bx563 := bx545.gr g555 (fun h => by injection h; omega)
        clear bx545
        have bx564 := bx546.gr g555 (fun h => by injection h; omega)
        clear bx546
        have bx565 := bx547.gr g555 (fun h => by injection h; omega)
        clear bx547
        have ow566 := ow548.gr g555 (fun k hk => hk.1)
        clear ow548
        have bx567 := bx549.gr g555 (fun h => by injection h; omega)
        clear bx549
        have bx568 := bx550.gr g555 (fun h => by injection h; omega)
        clear bx550
        have r569 := r551.gr g555 (fun k h => by injection h; omega)
        clear r551
        clear bx552 g555
        refine AtH.done (by kernel_rfl) ?_
        clear hS559
        refine t_n ?_
        have f570 := f557.sub (r := [(17, .pointer (some ⟨w454.heap.size, 0, none⟩)), (16, .int .i64 (i)), (15, .pointer (some ⟨w330.heap.size, 0, none⟩)), (13, .pointer (some ⟨w215.heap.size, 0, none⟩)), (12, .int .i64 (((g.ow.length : Nat) : Int))), (5, .pointer (some ⟨w1.heap.size, 0, none⟩)), (4, .pointer (some ⟨w.heap.size, 0, none⟩)), (2, .int .i64 (p))]) ⟨rfl, rfl, rfl, rfl, rfl, rfl, rfl, rfl, trivial⟩
        exact ⟨w454.heap.size, f570, e560, r561, r562, bx563, bx564, bx565, (ow566.imp (fun g _ hs => ⟨hs.2.1, hs.2.2.1, hs.1, (by have := Sx_base hs; show w200.heap.size ≤ g; omega)⟩)), bx567, bx568, bx556, (by omega), (by omega)⟩
      ·refine OneH.seq f451 [[]] [(17, .pointer (some ⟨w438.heap.size, 0, none⟩))] (w438.alloc (.cells ((List.replicate 4 (0 : Int) : List Int).map wV).toArray 28 (0, 0))) [] #[true, true, true, true, true, false, true, false, true, false] (by kernel_rfl) (by kernel_rfl) (by kernel_rfl) trivial (fun act575 w572 hw573 f574 => ?_)
       clear f451
       have g576 := gr_alloc hw573
       have hS571 := hS440.gr g576
       have szw572 := g576.size
       have e578 := e441.gr g576 no_row
       clear e441
       have r579 := r442.gr g576 (fun _ h => by cases h)
       clear r442
       have r580 := r443.gr g576 (fun _ h => by cases h)
       clear r443
       have bx581 := bx444.gr g576 (by simp)
       clear bx444
       have bx582 := bx445.gr g576 (by simp)
       clear bx445
       have bx583 := bx446.gr g576 (by simp)
       clear bx446
       have ow584 : OwnR w572 (Sx (w200.heap.size) [some (w438.heap.size), some (w330.heap.size), some (w215.heap.size)]) A211 c212 3 (ms : List Int) := ow447.grA g576 (fun _ _ h => by cases h) (fun k hk hs => ⟨(fun e => by injection e; omega), hs.1, hs.2.1, hs.2.2⟩)
       clear ow447
       have bx585 := bx448.gr g576 (by simp)
       clear bx448
       have bx586 := bx449.gr g576 (by simp)
       clear bx449
       have r587 := r450.gr g576 (fun _ h => by cases h)
       clear r450
       have bx588 : Bx w572 (w438.heap.size) ((List.replicate 4 (0 : Int) : List Int).map wV) 28 := Bx.new hw573
       have := bx588.lt
       clear g576 hw573
       refine ⟨hS571, ?_⟩
       refine AtH.all [5] 2 (by kernel_rfl) (by simp) ⟨?_, trivial⟩
       refine OneH.call f574 24 #[.slice R428 ((gL g.mv (i)).length) C429] (some 83) #[true, true, true, true, true, true, true, false, true, false] (by kernel_rfl) (by kernel_rfl) (of_any (la := gL g.mv (i)) (r587.wide (Nat.zero_le _) (by omega))) ?_
       rintro e_ w590 ⟨rfl, he⟩
       refine ⟨_, rfl, _, rfl, fun act591 f592 => ?_⟩
       clear f574
       have g593 := gr_ext he
       have hS589 := hS571.gr g593
       have szw590 := g593.size
       have e594 := e578.gr g593 no_row
       clear e578
       have r595 := r579.gr g593 (fun _ h => by cases h)
       clear r579
       have r596 := r580.gr g593 (fun _ h => by cases h)
       clear r580
       have bx597 := bx581.gr g593 (by simp)
       clear bx581
       have bx598 := bx582.gr g593 (by simp)
       clear bx582
       have bx599 := bx583.gr g593 (by simp)
       clear bx583
       have ow600 := ow584.gr g593 (fun _ _ h => by cases h)
       clear ow584
       have bx601 := bx585.gr g593 (by simp)
       clear bx585
       have bx602 := bx586.gr g593 (by simp)
       clear bx586
       have r603 := r587.gr g593 (fun _ h => by cases h)
       clear r587
       have bx604 := bx588.gr g593 (by simp)
       clear bx588
       clear g593 he
       refine ⟨hS589, ?_⟩
       refine AtH.all [7] 1 (by kernel_rfl) (by simp) ⟨?_, trivial⟩
       refine OneH.call f592 19 #[.agg ((ofW (gL g.mv (i)) : List Int).map wV).toArray, .agg (((inS g s : List Int) : List Int).map wV).toArray] (some 85) #[true, true, true, true, true, true, true, true, true, false] (by kernel_rfl) (by kernel_rfl) (andS_any (s := ofW (gL g.mv (i))) (t := (inS g s : List Int)) (ofW_ok _) (inS_ok (by assumption))) ?_
       rintro e_ w606 ⟨rfl, he⟩
       refine ⟨_, rfl, _, rfl, fun act607 f608 => ?_⟩
       clear f592
       have g609 := gr_ext he
       have hS605 := hS589.gr g609
       have szw606 := g609.size
       have e610 := e594.gr g609 no_row
       clear e594
       have r611 := r595.gr g609 (fun _ h => by cases h)
       clear r595
       have r612 := r596.gr g609 (fun _ h => by cases h)
       clear r596
       have bx613 := bx597.gr g609 (by simp)
       clear bx597
       have bx614 := bx598.gr g609 (by simp)
       clear bx598
       have bx615 := bx599.gr g609 (by simp)
       clear bx599
       have ow616 := ow600.gr g609 (fun _ _ h => by cases h)
       clear ow600
       have bx617 := bx601.gr g609 (by simp)
       clear bx601
       have bx618 := bx602.gr g609 (by simp)
       clear bx602
       have r619 := r603.gr g609 (fun _ h => by cases h)
       clear r603
       have bx620 := bx604.gr g609 (by simp)
       clear bx604
       clear g609 he
       refine ⟨hS605, ?_⟩
       refine AtH.all [9] 0 (by kernel_rfl) (by simp) ⟨?_, trivial⟩
       refine OneH.act f608 #[true, true, true, true, true, true, true, true, true, true] (by kernel_rfl) (storeBlk (t := 28) (b := w438.heap.size) (n := 4) (cs' := ((andS (ofW (gL g.mv (i))) (inS g s : List Int) : List Int).map wV)) (by kernel_rfl) (by kernel_rfl) ((List.length_map _).trans (okLen (okW_andS (ofW_ok _) (inS_ok (by assumption))))) oneW_ ((show ((andS (ofW (gL g.mv (i))) (inS g s : List Int) : List Int).map wV).length = 4 from ((List.length_map _).trans (okLen (okW_andS (ofW_ok _) (inS_ok (by assumption)))))).trans (show ((List.replicate 4 (0 : Int) : List Int).map wV).length = 4 from (by simp only [List.length_map, List.length_set, List.length_replicate, List.length_cons, List.length_nil]; first | done | assumption | exact from_len _ | exact of_len _ | exact ofZ_len _ | exact (ofW_ok _).1 | exact (fullW_W _).1 | exact (okW_with (by assumption)).1 | exact (okW_less (by assumption)).1 | exact put_len (from_len _) | exact orD_len _ _ | exact andD_len _ _ | exact minusD_len _ _ | exact fullD_len _ | (refine okLen ?_; (repeat (first | assumption | exact ofW_ok _ | exact fullW_W _ | apply okW_with | apply okW_less | refine okW_orS ?_ ?_ | refine okW_andS ?_ ?_ | refine okW_minusS ?_ ?_)); done) | omega | rfl)).symm) bx620) ?_
       rintro d_ v_ w622 ⟨rfl, g623, bx624⟩
       have hS627 := hS605.gr' g623 (by rw [hCs435]; exact (allP_app ⟨(by simp only [add_block]; omega), (by simp only [add_block]; omega), trivial⟩ (ne_blk (by omega))))
       refine ⟨_, rfl, fun act626 f625 => ⟨hS627, ?_⟩⟩
       clear f608
       have szw622 := g623.size
       have e628 := e610.gr g623 (fun k h => by injection h; omega)
       clear e610
       have r629 := r611.gr g623 (fun k h => by injection h; omega)
       clear r611
       have r630 := r612.gr g623 (fun k h => by injection h; omega)
       clear r612
       have bx631 := bx613.gr g623 (fun h => by injection h; omega)
       clear bx613
       have bx632 := bx614.gr g623 (fun h => by injection h; omega)
       clear bx614
       have bx633 := bx615.gr g623 (fun h => by injection h; omega)
       clear bx615
       have ow634 := ow616.gr g623 (fun k hk => hk.1)
       clear ow616
       have bx635 := bx617.gr g623 (fun h => by injection h; omega)
       clear bx617
       have bx636 := bx618.gr g623 (fun h => by injection h; omega)
       clear bx618
       have r637 := r619.gr g623 (fun k h => by injection h; omega)
       clear r619
       clear bx620 g623
       refine AtH.done (by kernel_rfl) ?_
       clear hS627
       refine t_n ?_
       have f638 := f625.sub (r := [(17, .pointer (some ⟨w438.heap.size, 0, none⟩)), (16, .int .i64 (i)), (15, .pointer (some ⟨w330.heap.size, 0, none⟩)), (13, .pointer (some ⟨w215.heap.size, 0, none⟩)), (12, .int .i64 (((g.ow.length : Nat) : Int))), (5, .pointer (some ⟨w1.heap.size, 0, none⟩)), (4, .pointer (some ⟨w.heap.size, 0, none⟩)), (2, .int .i64 (p))]) ⟨rfl, rfl, rfl, rfl, rfl, rfl, rfl, rfl, trivial⟩
       exact ⟨w438.heap.size, f638, e628, r629, r630, bx631, bx632, bx633, (ow634.imp (fun g _ hs => ⟨hs.2.1, hs.2.2.1, hs.1, (by have := Sx_base hs; show w200.heap.size ≤ g; omega)⟩)), bx635, bx636, bx624, (by omega), (by omega)⟩
     ·clear r403
      clear r404
      clear bx405
      clear bx406
      clear bx407
      clear ow408
      clear bx409
      clear bx410
      clear f423 e402
      intro act639 w640 ⟨b_424, f641, e642, r643, r644, bx645, bx646, bx647, ow648, bx649, bx650, bx651, hb652, szz653⟩
      have szw640 := e642.size
      have := bx645.lt
      have := bx646.lt
      have := bx647.lt
      have := bx649.lt
      have := bx650.lt
      have := bx651.lt
      refine wp_seq ?_
      refine At.start ?_
      obtain ⟨ad655, hA656, _, _, hc657⟩ := RdI.get r643.ow (i) (by omega) (by omega)
      rcases Bool.eq_false_or_eq_true ((gI g.ow (i) : Int) == p) with h658 | h658
      ·have q659 := eq_of_beq h658
       refine At.rd f641 10 [[], [.ld (.slice Ag0 g.ow.length cg0)], [], [.ad ad655], [.ld (.int .i64 (gI g.ow (i)))], [], [], [.as_ (.bool true)], [.cs ((andS (ofW (gL g.mv (i))) (inS g s : List Int) : List Int).map wV)], [.cs ((ss : List Int).map wV)]] [(95, .agg ((ss : List Int).map wV).toArray), (94, .agg ((andS (ofW (gL g.mv (i))) (inS g s : List Int) : List Int).map wV).toArray), (93, .bool true), (92, .bool ((gI g.ow (i) : Int) == p)), (91, .int .i64 (p)), (90, .int .i64 (gI g.ow (i))), (89, .pointer (some (ad655.add ((i : Int).toNat * 1)))), (88, .int .i64 (i)), (87, .slice Ag0 g.ow.length cg0), (86, .pointer (some ⟨w.heap.size, 0, none⟩))] [(w640.cell? ⟨w.heap.size, 0, none⟩ = some (.slice Ag0 g.ow.length cg0)), (Ag0 = some ad655), (0 ≤ (i : Int)), ((i : Int) < (g.ow.length : Nat)), (w640.cell? (ad655.add ((i : Int).toNat * 1)) = some (.int .i64 (gI g.ow (i)))), ((.bool ((gI g.ow (i) : Int) == p) : Value) = .bool true), (((andS (ofW (gL g.mv (i))) (inS g s : List Int) : List Int).map wV).length = 4), (∀ (j : Nat) (v : Value), ((andS (ofW (gL g.mv (i))) (inS g s : List Int) : List Int).map wV)[j]? = some v → w640.cell? ((⟨b_424, 0, none⟩ : Addr).add j) = some v), (((ss : List Int).map wV).length = 4), (∀ (j : Nat) (v : Value), ((ss : List Int).map wV)[j]? = some v → w640.cell? ((⟨w215.heap.size, 0, none⟩ : Addr).add j) = some v)] (by kernel_rfl) ⟨(bx645.cell (i := 0) rfl), hA656, (by omega), (by omega), hc657, (congrArg Value.bool h658), ((List.length_map _).trans (okLen (okW_andS (ofW_ok _) (inS_ok (by assumption))))), bx651.whole, (by simp only [List.length_map, List.length_set, List.length_replicate, List.length_cons, List.length_nil]; first | done | assumption | exact from_len _ | exact of_len _ | exact ofZ_len _ | exact (ofW_ok _).1 | exact (fullW_W _).1 | exact (okW_with (by assumption)).1 | exact (okW_less (by assumption)).1 | exact put_len (from_len _) | exact orD_len _ _ | exact andD_len _ _ | exact minusD_len _ _ | exact fullD_len _ | (refine okLen ?_; (repeat (first | assumption | exact ofW_ok _ | exact fullW_W _ | apply okW_with | apply okW_less | refine okW_orS ?_ ?_ | refine okW_andS ?_ ?_ | refine okW_minusS ?_ ?_)); done) | omega | rfl), bx649.whole, trivial⟩ (fun act661 f660 => ?_)
       clear f641
       refine At.call f660 19 #[.agg ((andS (ofW (gL g.mv (i))) (inS g s : List Int) : List Int).map wV).toArray, .agg ((ss : List Int).map wV).toArray] (some 96) (by kernel_rfl) (andS_any (s := andS (ofW (gL g.mv (i))) (inS g s : List Int)) (t := ss) (okW_andS (ofW_ok _) (inS_ok (by assumption))) (by repeat (first | assumption | exact ofW_ok _ | exact fullW_W _ | exact wordsD_W _ | exact okW_0 | exact okW_00 | apply okW_orS | apply okW_andS | apply okW_minusS | apply okW_with | apply okW_less | apply okW_or | apply okW_and | apply okW_minus | (apply okW_lit <;> exact ⟨by omega, by omega⟩)))) ?_
       rintro e_ w662 ⟨rfl, he⟩
       refine ⟨_, rfl, _, rfl, fun act663 f664 => ?_⟩
       clear f660
       have g665 := gr_ext he
       have szw662 := g665.size
       have e666 := e642.gr g665 no_row
       clear e642
       have r667 := r643.gr g665 (fun _ h => by cases h)
       clear r643
       have r668 := r644.gr g665 (fun _ h => by cases h)
       clear r644
       have bx669 := bx645.gr g665 (by simp)
       clear bx645
       have bx670 := bx646.gr g665 (by simp)
       clear bx646
       have bx671 := bx647.gr g665 (by simp)
       clear bx647
       have ow672 := ow648.gr g665 (fun _ _ h => by cases h)
       clear ow648
       have bx673 := bx649.gr g665 (by simp)
       clear bx649
       have bx674 := bx650.gr g665 (by simp)
       clear bx650
       have bx675 := bx651.gr g665 (by simp)
       clear bx651
       clear g665 he
       obtain ⟨ad676, hA677, _, _, hc678⟩ := RdI.get r667.ow (i) (by omega) (by omega)
       rcases Bool.eq_false_or_eq_true ((gI g.ow (i) : Int) != p) with h679 | h679
       ·have q680 := bne_iff_ne.1 h679
        rcases Bool.eq_false_or_eq_true (!(decide ((andS (ofW (gL g.mv (i))) (inS g s : List Int) : List Int) = ([0, 0, 0, 0])))) with h681 | h681
        ·have q682 : (decide ((andS (ofW (gL g.mv (i))) (inS g s : List Int) : List Int) = ([0, 0, 0, 0]))) = false := by first | exact Eq.mp (Bool.not_eq_true' _) h681 | exact Eq.mp (Bool.not_eq_false' _) h681 | simpa using h681
         have q683 := of_decide_eq_false q682
         refine At.rd f664 19 [[], [.cs [wV (gI (andS (andS (ofW (gL g.mv (i))) (inS g s : List Int)) ss) 0), wV (gI (andS (andS (ofW (gL g.mv (i))) (inS g s : List Int)) ss) 1), wV (gI (andS (andS (ofW (gL g.mv (i))) (inS g s : List Int)) ss) 2), wV (gI (andS (andS (ofW (gL g.mv (i))) (inS g s : List Int)) ss) 3)], .cs [wV (gI ([0, 0, 0, 0]) 0), wV (gI ([0, 0, 0, 0]) 1), wV (gI ([0, 0, 0, 0]) 2), wV (gI ([0, 0, 0, 0]) 3)], .as_ (.bool false)], [], [], [], [.ld (.slice Ag0 g.ow.length cg0)], [], [.ad ad676], [.ld (.int .i64 (gI g.ow (i)))], [], [], [.as_ (.bool true)], [.cs ((andS (ofW (gL g.mv (i))) (inS g s : List Int) : List Int).map wV)], [], [.cs [wV (gI (andS (ofW (gL g.mv (i))) (inS g s : List Int)) 0), wV (gI (andS (ofW (gL g.mv (i))) (inS g s : List Int)) 1), wV (gI (andS (ofW (gL g.mv (i))) (inS g s : List Int)) 2), wV (gI (andS (ofW (gL g.mv (i))) (inS g s : List Int)) 3)], .cs [wV (gI ([0, 0, 0, 0]) 0), wV (gI ([0, 0, 0, 0]) 1), wV (gI ([0, 0, 0, 0]) 2), wV (gI ([0, 0, 0, 0]) 3)], .as_ (.bool (!(decide ((andS (ofW (gL g.mv (i))) (inS g s : List Int) : List Int) = ([0, 0, 0, 0])))))], [], [.as_ (.bool true)], [.cs ((andS (ofW (gL g.mv (i))) (inS g s : List Int) : List Int).map wV)], [.cs ((minusS (inS g s : List Int) ss : List Int).map wV)]] [(115, .agg ((minusS (inS g s : List Int) ss : List Int).map wV).toArray), (114, .agg ((andS (ofW (gL g.mv (i))) (inS g s : List Int) : List Int).map wV).toArray), (113, .bool true), (112, .bool (!(decide ((andS (ofW (gL g.mv (i))) (inS g s : List Int) : List Int) = ([0, 0, 0, 0]))))), (111, .bool (!(decide ((andS (ofW (gL g.mv (i))) (inS g s : List Int) : List Int) = ([0, 0, 0, 0]))))), (110, .agg (([0, 0, 0, 0] : List Int).map wV).toArray), (109, .agg ((andS (ofW (gL g.mv (i))) (inS g s : List Int) : List Int).map wV).toArray), (108, .bool true), (107, .bool ((gI g.ow (i) : Int) != p)), (106, .int .i64 (p)), (105, .int .i64 (gI g.ow (i))), (104, .pointer (some (ad676.add ((i : Int).toNat * 1)))), (103, .int .i64 (i)), (102, .slice Ag0 g.ow.length cg0), (101, .pointer (some ⟨w.heap.size, 0, none⟩)), (100, .bool false), (99, .bool false), (98, .bool false), (97, .agg (([0, 0, 0, 0] : List Int).map wV).toArray)] [(((andS (andS (ofW (gL g.mv (i))) (inS g s : List Int)) ss : List Int).map wV).toArray = ([wV (gI (andS (andS (ofW (gL g.mv (i))) (inS g s : List Int)) ss) 0), wV (gI (andS (andS (ofW (gL g.mv (i))) (inS g s : List Int)) ss) 1), wV (gI (andS (andS (ofW (gL g.mv (i))) (inS g s : List Int)) ss) 2), wV (gI (andS (andS (ofW (gL g.mv (i))) (inS g s : List Int)) ss) 3)] : List Value).toArray), ((([0, 0, 0, 0] : List Int).map wV).toArray = ([wV (gI ([0, 0, 0, 0]) 0), wV (gI ([0, 0, 0, 0]) 1), wV (gI ([0, 0, 0, 0]) 2), wV (gI ([0, 0, 0, 0]) 3)] : List Value).toArray), ((.bool (!(((gI (andS (andS (ofW (gL g.mv (i))) (inS g s : List Int)) ss) 0 : Int) == gI ([0, 0, 0, 0]) 0) && (((gI (andS (andS (ofW (gL g.mv (i))) (inS g s : List Int)) ss) 1 : Int) == gI ([0, 0, 0, 0]) 1) && (((gI (andS (andS (ofW (gL g.mv (i))) (inS g s : List Int)) ss) 2 : Int) == gI ([0, 0, 0, 0]) 2) && (((gI (andS (andS (ofW (gL g.mv (i))) (inS g s : List Int)) ss) 3 : Int) == gI ([0, 0, 0, 0]) 3) && true))))) : Value) = .bool false), (w662.cell? ⟨w.heap.size, 0, none⟩ = some (.slice Ag0 g.ow.length cg0)), (Ag0 = some ad676), (0 ≤ (i : Int)), ((i : Int) < (g.ow.length : Nat)), (w662.cell? (ad676.add ((i : Int).toNat * 1)) = some (.int .i64 (gI g.ow (i)))), ((.bool ((gI g.ow (i) : Int) != p) : Value) = .bool true), (((andS (ofW (gL g.mv (i))) (inS g s : List Int) : List Int).map wV).length = 4), (∀ (j : Nat) (v : Value), ((andS (ofW (gL g.mv (i))) (inS g s : List Int) : List Int).map wV)[j]? = some v → w662.cell? ((⟨b_424, 0, none⟩ : Addr).add j) = some v), (((andS (ofW (gL g.mv (i))) (inS g s : List Int) : List Int).map wV).toArray = ([wV (gI (andS (ofW (gL g.mv (i))) (inS g s : List Int)) 0), wV (gI (andS (ofW (gL g.mv (i))) (inS g s : List Int)) 1), wV (gI (andS (ofW (gL g.mv (i))) (inS g s : List Int)) 2), wV (gI (andS (ofW (gL g.mv (i))) (inS g s : List Int)) 3)] : List Value).toArray), ((([0, 0, 0, 0] : List Int).map wV).toArray = ([wV (gI ([0, 0, 0, 0]) 0), wV (gI ([0, 0, 0, 0]) 1), wV (gI ([0, 0, 0, 0]) 2), wV (gI ([0, 0, 0, 0]) 3)] : List Value).toArray), ((.bool (!(((gI (andS (ofW (gL g.mv (i))) (inS g s : List Int)) 0 : Int) == gI ([0, 0, 0, 0]) 0) && (((gI (andS (ofW (gL g.mv (i))) (inS g s : List Int)) 1 : Int) == gI ([0, 0, 0, 0]) 1) && (((gI (andS (ofW (gL g.mv (i))) (inS g s : List Int)) 2 : Int) == gI ([0, 0, 0, 0]) 2) && (((gI (andS (ofW (gL g.mv (i))) (inS g s : List Int)) 3 : Int) == gI ([0, 0, 0, 0]) 3) && true))))) : Value) = .bool (!(decide ((andS (ofW (gL g.mv (i))) (inS g s : List Int) : List Int) = ([0, 0, 0, 0]))))), ((.bool (!(decide ((andS (ofW (gL g.mv (i))) (inS g s : List Int) : List Int) = ([0, 0, 0, 0])))) : Value) = .bool true), (((andS (ofW (gL g.mv (i))) (inS g s : List Int) : List Int).map wV).length = 4), (∀ (j : Nat) (v : Value), ((andS (ofW (gL g.mv (i))) (inS g s : List Int) : List Int).map wV)[j]? = some v → w662.cell? ((⟨b_424, 0, none⟩ : Addr).add j) = some v), (((minusS (inS g s : List Int) ss : List Int).map wV).length = 4), (∀ (j : Nat) (v : Value), ((minusS (inS g s : List Int) ss : List Int).map wV)[j]? = some v → w662.cell? ((⟨w330.heap.size, 0, none⟩ : Addr).add j) = some v)] (by kernel_rfl) ⟨(map4 (okLen (okW_andS (okW_andS (ofW_ok _) (inS_ok (by assumption))) (by assumption)))), (map4 (okLen okW_00)), (Eq.trans (b := (.bool (!(decide ((andS (andS (ofW (gL g.mv (i))) (inS g s : List Int)) ss : List Int) = ([0, 0, 0, 0])))) : Value)) (congrArg (fun b => Value.bool (!b)) (w4_eq (okLen (okW_andS (okW_andS (ofW_ok _) (inS_ok (by assumption))) (by assumption))) (okLen okW_00))) (congrArg Value.bool (nb00 (traps_own hs hat hR hp01 (by omega) (by omega) (by assumption) (by omega))))), (bx669.cell (i := 0) rfl), hA677, (by omega), (by omega), hc678, (congrArg Value.bool h679), ((List.length_map _).trans (okLen (okW_andS (ofW_ok _) (inS_ok (by assumption))))), bx675.whole, (map4 (okLen (okW_andS (ofW_ok _) (inS_ok (by assumption))))), (map4 (okLen okW_00)), (congrArg (fun b => Value.bool (!b)) (w4_eq (okLen (okW_andS (ofW_ok _) (inS_ok (by assumption)))) (okLen okW_00))), (congrArg Value.bool h681), ((List.length_map _).trans (okLen (okW_andS (ofW_ok _) (inS_ok (by assumption))))), bx675.whole, ((List.length_map _).trans (okLen (okW_minusS (inS_ok (by assumption)) (by assumption)))), bx674.whole, trivial⟩ (fun act685 f684 => ?_)
         clear f664
         refine At.call f684 19 #[.agg ((andS (ofW (gL g.mv (i))) (inS g s : List Int) : List Int).map wV).toArray, .agg ((minusS (inS g s : List Int) ss : List Int).map wV).toArray] (some 116) (by kernel_rfl) (andS_any (s := andS (ofW (gL g.mv (i))) (inS g s : List Int)) (t := minusS (inS g s : List Int) ss) (okW_andS (ofW_ok _) (inS_ok (by assumption))) (okW_minusS (inS_ok (by assumption)) (by assumption))) ?_
         rintro e_ w686 ⟨rfl, he⟩
         refine ⟨_, rfl, _, rfl, fun act687 f688 => ?_⟩
         clear f684
         have g689 := gr_ext he
         have szw686 := g689.size
         have e690 := e666.gr g689 no_row
         clear e666
         have r691 := r667.gr g689 (fun _ h => by cases h)
         clear r667
         have r692 := r668.gr g689 (fun _ h => by cases h)
         clear r668
         have bx693 := bx669.gr g689 (by simp)
         clear bx669
         have bx694 := bx670.gr g689 (by simp)
         clear bx670
         have bx695 := bx671.gr g689 (by simp)
         clear bx671
         have ow696 := ow672.gr g689 (fun _ _ h => by cases h)
         clear ow672
         have bx697 := bx673.gr g689 (by simp)
         clear bx673
         have bx698 := bx674.gr g689 (by simp)
         clear bx674
         have bx699 := bx675.gr g689 (by simp)
         clear bx675
         clear g689 he
         refine At.rd f688 4 [[], [.cs [wV (gI (andS (andS (ofW (gL g.mv (i))) (inS g s : List Int)) (minusS (inS g s : List Int) ss)) 0), wV (gI (andS (andS (ofW (gL g.mv (i))) (inS g s : List Int)) (minusS (inS g s : List Int) ss)) 1), wV (gI (andS (andS (ofW (gL g.mv (i))) (inS g s : List Int)) (minusS (inS g s : List Int) ss)) 2), wV (gI (andS (andS (ofW (gL g.mv (i))) (inS g s : List Int)) (minusS (inS g s : List Int) ss)) 3)], .cs [wV (gI ([0, 0, 0, 0]) 0), wV (gI ([0, 0, 0, 0]) 1), wV (gI ([0, 0, 0, 0]) 2), wV (gI ([0, 0, 0, 0]) 3)], .as_ (.bool false)], [], []] [(120, .bool false), (119, .bool false), (118, .bool false), (117, .agg (([0, 0, 0, 0] : List Int).map wV).toArray)] [(((andS (andS (ofW (gL g.mv (i))) (inS g s : List Int)) (minusS (inS g s : List Int) ss) : List Int).map wV).toArray = ([wV (gI (andS (andS (ofW (gL g.mv (i))) (inS g s : List Int)) (minusS (inS g s : List Int) ss)) 0), wV (gI (andS (andS (ofW (gL g.mv (i))) (inS g s : List Int)) (minusS (inS g s : List Int) ss)) 1), wV (gI (andS (andS (ofW (gL g.mv (i))) (inS g s : List Int)) (minusS (inS g s : List Int) ss)) 2), wV (gI (andS (andS (ofW (gL g.mv (i))) (inS g s : List Int)) (minusS (inS g s : List Int) ss)) 3)] : List Value).toArray), ((([0, 0, 0, 0] : List Int).map wV).toArray = ([wV (gI ([0, 0, 0, 0]) 0), wV (gI ([0, 0, 0, 0]) 1), wV (gI ([0, 0, 0, 0]) 2), wV (gI ([0, 0, 0, 0]) 3)] : List Value).toArray), ((.bool ((((gI (andS (andS (ofW (gL g.mv (i))) (inS g s : List Int)) (minusS (inS g s : List Int) ss)) 0 : Int) == gI ([0, 0, 0, 0]) 0) && (((gI (andS (andS (ofW (gL g.mv (i))) (inS g s : List Int)) (minusS (inS g s : List Int) ss)) 1 : Int) == gI ([0, 0, 0, 0]) 1) && (((gI (andS (andS (ofW (gL g.mv (i))) (inS g s : List Int)) (minusS (inS g s : List Int) ss)) 2 : Int) == gI ([0, 0, 0, 0]) 2) && (((gI (andS (andS (ofW (gL g.mv (i))) (inS g s : List Int)) (minusS (inS g s : List Int) ss)) 3 : Int) == gI ([0, 0, 0, 0]) 3) && true))))) : Value) = .bool false)] (by kernel_rfl) ⟨(map4 (okLen (okW_andS (okW_andS (ofW_ok _) (inS_ok (by assumption))) (okW_minusS (inS_ok (by assumption)) (by assumption))))), (map4 (okLen okW_00)), (Eq.trans (b := (.bool (decide ((andS (andS (ofW (gL g.mv (i))) (inS g s : List Int)) (minusS (inS g s : List Int) ss) : List Int) = ([0, 0, 0, 0]))) : Value)) (congrArg (fun b => Value.bool b) (w4_eq (okLen (okW_andS (okW_andS (ofW_ok _) (inS_ok (by assumption))) (okW_minusS (inS_ok (by assumption)) (by assumption)))) (okLen okW_00))) (congrArg Value.bool (decide_eq_false (traps_oth hs hat hR hp01 (by omega) (by omega) (by assumption) (by omega) (of_nb (by assumption)))))), trivial⟩ (fun act701 f700 => ?_)
         clear f688
         refine At.done rfl ?_
         refine t_n ?_
         have f702 := f700.sub (r := [(120, .bool false), (119, .bool false), (118, .bool false), (117, .agg (([0, 0, 0, 0] : List Int).map wV).toArray), (116, .agg ((andS (andS (ofW (gL g.mv (i))) (inS g s : List Int)) (minusS (inS g s : List Int) ss) : List Int).map wV).toArray), (115, .agg ((minusS (inS g s : List Int) ss : List Int).map wV).toArray), (114, .agg ((andS (ofW (gL g.mv (i))) (inS g s : List Int) : List Int).map wV).toArray), (113, .bool true), (112, .bool (!(decide ((andS (ofW (gL g.mv (i))) (inS g s : List Int) : List Int) = ([0, 0, 0, 0]))))), (111, .bool (!(decide ((andS (ofW (gL g.mv (i))) (inS g s : List Int) : List Int) = ([0, 0, 0, 0]))))), (110, .agg (([0, 0, 0, 0] : List Int).map wV).toArray), (109, .agg ((andS (ofW (gL g.mv (i))) (inS g s : List Int) : List Int).map wV).toArray), (108, .bool true), (107, .bool ((gI g.ow (i) : Int) != p)), (106, .int .i64 (p)), (105, .int .i64 (gI g.ow (i))), (104, .pointer (some (ad676.add ((i : Int).toNat * 1)))), (103, .int .i64 (i)), (102, .slice Ag0 g.ow.length cg0), (101, .pointer (some ⟨w.heap.size, 0, none⟩)), (98, .bool false), (97, .agg (([0, 0, 0, 0] : List Int).map wV).toArray), (96, .agg ((andS (andS (ofW (gL g.mv (i))) (inS g s : List Int)) ss : List Int).map wV).toArray), (95, .agg ((ss : List Int).map wV).toArray), (94, .agg ((andS (ofW (gL g.mv (i))) (inS g s : List Int) : List Int).map wV).toArray), (16, .int .i64 (i)), (15, .pointer (some ⟨w330.heap.size, 0, none⟩)), (13, .pointer (some ⟨w215.heap.size, 0, none⟩)), (12, .int .i64 (((g.ow.length : Nat) : Int))), (5, .pointer (some ⟨w1.heap.size, 0, none⟩)), (4, .pointer (some ⟨w.heap.size, 0, none⟩)), (2, .int .i64 (p))]) ⟨rfl, rfl, rfl, rfl, rfl, rfl, rfl, rfl, rfl, rfl, rfl, rfl, rfl, rfl, rfl, rfl, rfl, rfl, rfl, rfl, rfl, rfl, rfl, rfl, rfl, rfl, rfl, rfl, rfl, rfl, rfl, rfl, trivial⟩
         clear f700
         refine cond_F f702 rfl ?_
         refine wp_skip ?_
         refine b_n ?_
         refine t_n ?_
         have f703 := f702.sub (r := [(119, .bool false), (118, .bool false), (117, .agg (([0, 0, 0, 0] : List Int).map wV).toArray), (116, .agg ((andS (andS (ofW (gL g.mv (i))) (inS g s : List Int)) (minusS (inS g s : List Int) ss) : List Int).map wV).toArray), (115, .agg ((minusS (inS g s : List Int) ss : List Int).map wV).toArray), (114, .agg ((andS (ofW (gL g.mv (i))) (inS g s : List Int) : List Int).map wV).toArray), (113, .bool true), (112, .bool (!(decide ((andS (ofW (gL g.mv (i))) (inS g s : List Int) : List Int) = ([0, 0, 0, 0]))))), (111, .bool (!(decide ((andS (ofW (gL g.mv (i))) (inS g s : List Int) : List Int) = ([0, 0, 0, 0]))))), (110, .agg (([0, 0, 0, 0] : List Int).map wV).toArray), (109, .agg ((andS (ofW (gL g.mv (i))) (inS g s : List Int) : List Int).map wV).toArray), (108, .bool true), (107, .bool ((gI g.ow (i) : Int) != p)), (106, .int .i64 (p)), (105, .int .i64 (gI g.ow (i))), (104, .pointer (some (ad676.add ((i : Int).toNat * 1)))), (103, .int .i64 (i)), (102, .slice Ag0 g.ow.length cg0), (101, .pointer (some ⟨w.heap.size, 0, none⟩)), (98, .bool false), (97, .agg (([0, 0, 0, 0] : List Int).map wV).toArray), (96, .agg ((andS (andS (ofW (gL g.mv (i))) (inS g s : List Int)) ss : List Int).map wV).toArray), (95, .agg ((ss : List Int).map wV).toArray), (94, .agg ((andS (ofW (gL g.mv (i))) (inS g s : List Int) : List Int).map wV).toArray), (16, .int .i64 (i)), (15, .pointer (some ⟨w330.heap.size, 0, none⟩)), (13, .pointer (some ⟨w215.heap.size, 0, none⟩)), (12, .int .i64 (((g.ow.length : Nat) : Int))), (5, .pointer (some ⟨w1.heap.size, 0, none⟩)), (4, .pointer (some ⟨w.heap.size, 0, none⟩)), (2, .int .i64 (p))]) ⟨rfl, rfl, rfl, rfl, rfl, rfl, rfl, rfl, rfl, rfl, rfl, rfl, rfl, rfl, rfl, rfl, rfl, rfl, rfl, rfl, rfl, rfl, rfl, rfl, rfl, rfl, rfl, rfl, rfl, rfl, rfl, trivial⟩
         clear f702
         refine At.start ?_
         refine At.rd f703 3 [[], [.as_ (.int .i64 (i + 1))], []] [(16, .int .i64 (i + 1)), (73, .int .i64 (i + 1)), (72, .int .i64 (i))] [((.int .i64 (IntKind.i64.wrap (i + 1)) : Value) = .int .i64 (i + 1))] (by kernel_rfl) ⟨(w64 (by omega) (by omega)), trivial⟩ (fun act705 f704 => ?_)
         clear f703
         refine At.done rfl ?_
         refine t_n ?_
         have f706 := f704.sub (r := [(16, .int .i64 (i + 1)), (15, .pointer (some ⟨w330.heap.size, 0, none⟩)), (13, .pointer (some ⟨w215.heap.size, 0, none⟩)), (12, .int .i64 (((g.ow.length : Nat) : Int))), (5, .pointer (some ⟨w1.heap.size, 0, none⟩)), (4, .pointer (some ⟨w.heap.size, 0, none⟩)), (2, .int .i64 (p))]) ⟨rfl, rfl, rfl, rfl, rfl, rfl, rfl, trivial⟩
         exact ⟨_, (by omega), (i + 1), rfl, f706, e690, r691, r692, bx693, bx694, bx695, (ow696.imp (fun g _ hs => ⟨hs.1, hs.2.1, hs.2.2.2⟩)), bx697, bx698, (by omega), (by omega), (by omega)⟩
        ·have q707 : (decide ((andS (ofW (gL g.mv (i))) (inS g s : List Int) : List Int) = ([0, 0, 0, 0]))) = true := by first | exact Eq.mp (Bool.not_eq_true' _) h681 | exact Eq.mp (Bool.not_eq_false' _) h681 | simpa using h681
         have q708 := of_decide_eq_true q707
         refine At.rd f664 24 [[], [.cs [wV (gI (andS (andS (ofW (gL g.mv (i))) (inS g s : List Int)) ss) 0), wV (gI (andS (andS (ofW (gL g.mv (i))) (inS g s : List Int)) ss) 1), wV (gI (andS (andS (ofW (gL g.mv (i))) (inS g s : List Int)) ss) 2), wV (gI (andS (andS (ofW (gL g.mv (i))) (inS g s : List Int)) ss) 3)], .cs [wV (gI ([0, 0, 0, 0]) 0), wV (gI ([0, 0, 0, 0]) 1), wV (gI ([0, 0, 0, 0]) 2), wV (gI ([0, 0, 0, 0]) 3)], .as_ (.bool false)], [], [], [], [.ld (.slice Ag0 g.ow.length cg0)], [], [.ad ad676], [.ld (.int .i64 (gI g.ow (i)))], [], [], [.as_ (.bool true)], [.cs ((andS (ofW (gL g.mv (i))) (inS g s : List Int) : List Int).map wV)], [], [.cs [wV (gI (andS (ofW (gL g.mv (i))) (inS g s : List Int)) 0), wV (gI (andS (ofW (gL g.mv (i))) (inS g s : List Int)) 1), wV (gI (andS (ofW (gL g.mv (i))) (inS g s : List Int)) 2), wV (gI (andS (ofW (gL g.mv (i))) (inS g s : List Int)) 3)], .cs [wV (gI ([0, 0, 0, 0]) 0), wV (gI ([0, 0, 0, 0]) 1), wV (gI ([0, 0, 0, 0]) 2), wV (gI ([0, 0, 0, 0]) 3)], .as_ (.bool (!(decide ((andS (ofW (gL g.mv (i))) (inS g s : List Int) : List Int) = ([0, 0, 0, 0])))))], [], [.as_ (.bool false)], [], [], [], [], [], [], []] [(120, .bool false), (119, .bool false), (118, undef), (117, undef), (116, undef), (115, undef), (114, undef), (113, .bool false), (112, .bool (!(decide ((andS (ofW (gL g.mv (i))) (inS g s : List Int) : List Int) = ([0, 0, 0, 0]))))), (111, .bool (!(decide ((andS (ofW (gL g.mv (i))) (inS g s : List Int) : List Int) = ([0, 0, 0, 0]))))), (110, .agg (([0, 0, 0, 0] : List Int).map wV).toArray), (109, .agg ((andS (ofW (gL g.mv (i))) (inS g s : List Int) : List Int).map wV).toArray), (108, .bool true), (107, .bool ((gI g.ow (i) : Int) != p)), (106, .int .i64 (p)), (105, .int .i64 (gI g.ow (i))), (104, .pointer (some (ad676.add ((i : Int).toNat * 1)))), (103, .int .i64 (i)), (102, .slice Ag0 g.ow.length cg0), (101, .pointer (some ⟨w.heap.size, 0, none⟩)), (100, .bool false), (99, .bool false), (98, .bool false), (97, .agg (([0, 0, 0, 0] : List Int).map wV).toArray)] [(((andS (andS (ofW (gL g.mv (i))) (inS g s : List Int)) ss : List Int).map wV).toArray = ([wV (gI (andS (andS (ofW (gL g.mv (i))) (inS g s : List Int)) ss) 0), wV (gI (andS (andS (ofW (gL g.mv (i))) (inS g s : List Int)) ss) 1), wV (gI (andS (andS (ofW (gL g.mv (i))) (inS g s : List Int)) ss) 2), wV (gI (andS (andS (ofW (gL g.mv (i))) (inS g s : List Int)) ss) 3)] : List Value).toArray), ((([0, 0, 0, 0] : List Int).map wV).toArray = ([wV (gI ([0, 0, 0, 0]) 0), wV (gI ([0, 0, 0, 0]) 1), wV (gI ([0, 0, 0, 0]) 2), wV (gI ([0, 0, 0, 0]) 3)] : List Value).toArray), ((.bool (!(((gI (andS (andS (ofW (gL g.mv (i))) (inS g s : List Int)) ss) 0 : Int) == gI ([0, 0, 0, 0]) 0) && (((gI (andS (andS (ofW (gL g.mv (i))) (inS g s : List Int)) ss) 1 : Int) == gI ([0, 0, 0, 0]) 1) && (((gI (andS (andS (ofW (gL g.mv (i))) (inS g s : List Int)) ss) 2 : Int) == gI ([0, 0, 0, 0]) 2) && (((gI (andS (andS (ofW (gL g.mv (i))) (inS g s : List Int)) ss) 3 : Int) == gI ([0, 0, 0, 0]) 3) && true))))) : Value) = .bool false), (w662.cell? ⟨w.heap.size, 0, none⟩ = some (.slice Ag0 g.ow.length cg0)), (Ag0 = some ad676), (0 ≤ (i : Int)), ((i : Int) < (g.ow.length : Nat)), (w662.cell? (ad676.add ((i : Int).toNat * 1)) = some (.int .i64 (gI g.ow (i)))), ((.bool ((gI g.ow (i) : Int) != p) : Value) = .bool true), (((andS (ofW (gL g.mv (i))) (inS g s : List Int) : List Int).map wV).length = 4), (∀ (j : Nat) (v : Value), ((andS (ofW (gL g.mv (i))) (inS g s : List Int) : List Int).map wV)[j]? = some v → w662.cell? ((⟨b_424, 0, none⟩ : Addr).add j) = some v), (((andS (ofW (gL g.mv (i))) (inS g s : List Int) : List Int).map wV).toArray = ([wV (gI (andS (ofW (gL g.mv (i))) (inS g s : List Int)) 0), wV (gI (andS (ofW (gL g.mv (i))) (inS g s : List Int)) 1), wV (gI (andS (ofW (gL g.mv (i))) (inS g s : List Int)) 2), wV (gI (andS (ofW (gL g.mv (i))) (inS g s : List Int)) 3)] : List Value).toArray), ((([0, 0, 0, 0] : List Int).map wV).toArray = ([wV (gI ([0, 0, 0, 0]) 0), wV (gI ([0, 0, 0, 0]) 1), wV (gI ([0, 0, 0, 0]) 2), wV (gI ([0, 0, 0, 0]) 3)] : List Value).toArray), ((.bool (!(((gI (andS (ofW (gL g.mv (i))) (inS g s : List Int)) 0 : Int) == gI ([0, 0, 0, 0]) 0) && (((gI (andS (ofW (gL g.mv (i))) (inS g s : List Int)) 1 : Int) == gI ([0, 0, 0, 0]) 1) && (((gI (andS (ofW (gL g.mv (i))) (inS g s : List Int)) 2 : Int) == gI ([0, 0, 0, 0]) 2) && (((gI (andS (ofW (gL g.mv (i))) (inS g s : List Int)) 3 : Int) == gI ([0, 0, 0, 0]) 3) && true))))) : Value) = .bool (!(decide ((andS (ofW (gL g.mv (i))) (inS g s : List Int) : List Int) = ([0, 0, 0, 0]))))), ((.bool (!(decide ((andS (ofW (gL g.mv (i))) (inS g s : List Int) : List Int) = ([0, 0, 0, 0])))) : Value) = .bool false)] (by kernel_rfl) ⟨(map4 (okLen (okW_andS (okW_andS (ofW_ok _) (inS_ok (by assumption))) (by assumption)))), (map4 (okLen okW_00)), (Eq.trans (b := (.bool (!(decide ((andS (andS (ofW (gL g.mv (i))) (inS g s : List Int)) ss : List Int) = ([0, 0, 0, 0])))) : Value)) (congrArg (fun b => Value.bool (!b)) (w4_eq (okLen (okW_andS (okW_andS (ofW_ok _) (inS_ok (by assumption))) (by assumption))) (okLen okW_00))) (congrArg Value.bool (nb00 (traps_own hs hat hR hp01 (by omega) (by omega) (by assumption) (by omega))))), (bx669.cell (i := 0) rfl), hA677, (by omega), (by omega), hc678, (congrArg Value.bool h679), ((List.length_map _).trans (okLen (okW_andS (ofW_ok _) (inS_ok (by assumption))))), bx675.whole, (map4 (okLen (okW_andS (ofW_ok _) (inS_ok (by assumption))))), (map4 (okLen okW_00)), (congrArg (fun b => Value.bool (!b)) (w4_eq (okLen (okW_andS (ofW_ok _) (inS_ok (by assumption)))) (okLen okW_00))), (congrArg Value.bool h681), trivial⟩ (fun act710 f709 => ?_)
         clear f664
         refine At.done rfl ?_
         refine t_n ?_
         have f711 := f709.sub (r := [(120, .bool false), (119, .bool false), (113, .bool false), (112, .bool (!(decide ((andS (ofW (gL g.mv (i))) (inS g s : List Int) : List Int) = ([0, 0, 0, 0]))))), (111, .bool (!(decide ((andS (ofW (gL g.mv (i))) (inS g s : List Int) : List Int) = ([0, 0, 0, 0]))))), (110, .agg (([0, 0, 0, 0] : List Int).map wV).toArray), (109, .agg ((andS (ofW (gL g.mv (i))) (inS g s : List Int) : List Int).map wV).toArray), (108, .bool true), (107, .bool ((gI g.ow (i) : Int) != p)), (106, .int .i64 (p)), (105, .int .i64 (gI g.ow (i))), (104, .pointer (some (ad676.add ((i : Int).toNat * 1)))), (103, .int .i64 (i)), (102, .slice Ag0 g.ow.length cg0), (101, .pointer (some ⟨w.heap.size, 0, none⟩)), (98, .bool false), (97, .agg (([0, 0, 0, 0] : List Int).map wV).toArray), (96, .agg ((andS (andS (ofW (gL g.mv (i))) (inS g s : List Int)) ss : List Int).map wV).toArray), (95, .agg ((ss : List Int).map wV).toArray), (94, .agg ((andS (ofW (gL g.mv (i))) (inS g s : List Int) : List Int).map wV).toArray), (16, .int .i64 (i)), (15, .pointer (some ⟨w330.heap.size, 0, none⟩)), (13, .pointer (some ⟨w215.heap.size, 0, none⟩)), (12, .int .i64 (((g.ow.length : Nat) : Int))), (5, .pointer (some ⟨w1.heap.size, 0, none⟩)), (4, .pointer (some ⟨w.heap.size, 0, none⟩)), (2, .int .i64 (p))]) ⟨rfl, rfl, rfl, rfl, rfl, rfl, rfl, rfl, rfl, rfl, rfl, rfl, rfl, rfl, rfl, rfl, rfl, rfl, rfl, rfl, rfl, rfl, rfl, rfl, rfl, rfl, rfl, trivial⟩
         clear f709
         refine cond_F f711 rfl ?_
         refine wp_skip ?_
         refine b_n ?_
         refine t_n ?_
         have f712 := f711.sub (r := [(119, .bool false), (113, .bool false), (112, .bool (!(decide ((andS (ofW (gL g.mv (i))) (inS g s : List Int) : List Int) = ([0, 0, 0, 0]))))), (111, .bool (!(decide ((andS (ofW (gL g.mv (i))) (inS g s : List Int) : List Int) = ([0, 0, 0, 0]))))), (110, .agg (([0, 0, 0, 0] : List Int).map wV).toArray), (109, .agg ((andS (ofW (gL g.mv (i))) (inS g s : List Int) : List Int).map wV).toArray), (108, .bool true), (107, .bool ((gI g.ow (i) : Int) != p)), (106, .int .i64 (p)), (105, .int .i64 (gI g.ow (i))), (104, .pointer (some (ad676.add ((i : Int).toNat * 1)))), (103, .int .i64 (i)), (102, .slice Ag0 g.ow.length cg0), (101, .pointer (some ⟨w.heap.size, 0, none⟩)), (98, .bool false), (97, .agg (([0, 0, 0, 0] : List Int).map wV).toArray), (96, .agg ((andS (andS (ofW (gL g.mv (i))) (inS g s : List Int)) ss : List Int).map wV).toArray), (95, .agg ((ss : List Int).map wV).toArray), (94, .agg ((andS (ofW (gL g.mv (i))) (inS g s : List Int) : List Int).map wV).toArray), (16, .int .i64 (i)), (15, .pointer (some ⟨w330.heap.size, 0, none⟩)), (13, .pointer (some ⟨w215.heap.size, 0, none⟩)), (12, .int .i64 (((g.ow.length : Nat) : Int))), (5, .pointer (some ⟨w1.heap.size, 0, none⟩)), (4, .pointer (some ⟨w.heap.size, 0, none⟩)), (2, .int .i64 (p))]) ⟨rfl, rfl, rfl, rfl, rfl, rfl, rfl, rfl, rfl, rfl, rfl, rfl, rfl, rfl, rfl, rfl, rfl, rfl, rfl, rfl, rfl, rfl, rfl, rfl, rfl, rfl, trivial⟩
         clear f711
         refine At.start ?_
         refine At.rd f712 3 [[], [.as_ (.int .i64 (i + 1))], []] [(16, .int .i64 (i + 1)), (73, .int .i64 (i + 1)), (72, .int .i64 (i))] [((.int .i64 (IntKind.i64.wrap (i + 1)) : Value) = .int .i64 (i + 1))] (by kernel_rfl) ⟨(w64 (by omega) (by omega)), trivial⟩ (fun act714 f713 => ?_)
         clear f712
         refine At.done rfl ?_
         refine t_n ?_
         have f715 := f713.sub (r := [(16, .int .i64 (i + 1)), (15, .pointer (some ⟨w330.heap.size, 0, none⟩)), (13, .pointer (some ⟨w215.heap.size, 0, none⟩)), (12, .int .i64 (((g.ow.length : Nat) : Int))), (5, .pointer (some ⟨w1.heap.size, 0, none⟩)), (4, .pointer (some ⟨w.heap.size, 0, none⟩)), (2, .int .i64 (p))]) ⟨rfl, rfl, rfl, rfl, rfl, rfl, rfl, trivial⟩
         exact ⟨_, (by omega), (i + 1), rfl, f715, e666, r667, r668, bx669, bx670, bx671, (ow672.imp (fun g _ hs => ⟨hs.1, hs.2.1, hs.2.2.2⟩)), bx673, bx674, (by omega), (by omega), (by omega)⟩
       ·have q716 := bne_eq_false_iff_eq.1 h679
        refine At.rd f664 24 [[], [.cs [wV (gI (andS (andS (ofW (gL g.mv (i))) (inS g s : List Int)) ss) 0), wV (gI (andS (andS (ofW (gL g.mv (i))) (inS g s : List Int)) ss) 1), wV (gI (andS (andS (ofW (gL g.mv (i))) (inS g s : List Int)) ss) 2), wV (gI (andS (andS (ofW (gL g.mv (i))) (inS g s : List Int)) ss) 3)], .cs [wV (gI ([0, 0, 0, 0]) 0), wV (gI ([0, 0, 0, 0]) 1), wV (gI ([0, 0, 0, 0]) 2), wV (gI ([0, 0, 0, 0]) 3)], .as_ (.bool false)], [], [], [], [.ld (.slice Ag0 g.ow.length cg0)], [], [.ad ad676], [.ld (.int .i64 (gI g.ow (i)))], [], [], [.as_ (.bool false)], [], [], [], [], [], [], [], [], [], [], [], []] [(120, .bool false), (119, .bool false), (118, undef), (117, undef), (116, undef), (115, undef), (114, undef), (113, .bool false), (112, .bool false), (111, undef), (110, undef), (109, undef), (108, .bool false), (107, .bool ((gI g.ow (i) : Int) != p)), (106, .int .i64 (p)), (105, .int .i64 (gI g.ow (i))), (104, .pointer (some (ad676.add ((i : Int).toNat * 1)))), (103, .int .i64 (i)), (102, .slice Ag0 g.ow.length cg0), (101, .pointer (some ⟨w.heap.size, 0, none⟩)), (100, .bool false), (99, .bool false), (98, .bool false), (97, .agg (([0, 0, 0, 0] : List Int).map wV).toArray)] [(((andS (andS (ofW (gL g.mv (i))) (inS g s : List Int)) ss : List Int).map wV).toArray = ([wV (gI (andS (andS (ofW (gL g.mv (i))) (inS g s : List Int)) ss) 0), wV (gI (andS (andS (ofW (gL g.mv (i))) (inS g s : List Int)) ss) 1), wV (gI (andS (andS (ofW (gL g.mv (i))) (inS g s : List Int)) ss) 2), wV (gI (andS (andS (ofW (gL g.mv (i))) (inS g s : List Int)) ss) 3)] : List Value).toArray), ((([0, 0, 0, 0] : List Int).map wV).toArray = ([wV (gI ([0, 0, 0, 0]) 0), wV (gI ([0, 0, 0, 0]) 1), wV (gI ([0, 0, 0, 0]) 2), wV (gI ([0, 0, 0, 0]) 3)] : List Value).toArray), ((.bool (!(((gI (andS (andS (ofW (gL g.mv (i))) (inS g s : List Int)) ss) 0 : Int) == gI ([0, 0, 0, 0]) 0) && (((gI (andS (andS (ofW (gL g.mv (i))) (inS g s : List Int)) ss) 1 : Int) == gI ([0, 0, 0, 0]) 1) && (((gI (andS (andS (ofW (gL g.mv (i))) (inS g s : List Int)) ss) 2 : Int) == gI ([0, 0, 0, 0]) 2) && (((gI (andS (andS (ofW (gL g.mv (i))) (inS g s : List Int)) ss) 3 : Int) == gI ([0, 0, 0, 0]) 3) && true))))) : Value) = .bool false), (w662.cell? ⟨w.heap.size, 0, none⟩ = some (.slice Ag0 g.ow.length cg0)), (Ag0 = some ad676), (0 ≤ (i : Int)), ((i : Int) < (g.ow.length : Nat)), (w662.cell? (ad676.add ((i : Int).toNat * 1)) = some (.int .i64 (gI g.ow (i)))), ((.bool ((gI g.ow (i) : Int) != p) : Value) = .bool false)] (by kernel_rfl) ⟨(map4 (okLen (okW_andS (okW_andS (ofW_ok _) (inS_ok (by assumption))) (by assumption)))), (map4 (okLen okW_00)), (Eq.trans (b := (.bool (!(decide ((andS (andS (ofW (gL g.mv (i))) (inS g s : List Int)) ss : List Int) = ([0, 0, 0, 0])))) : Value)) (congrArg (fun b => Value.bool (!b)) (w4_eq (okLen (okW_andS (okW_andS (ofW_ok _) (inS_ok (by assumption))) (by assumption))) (okLen okW_00))) (congrArg Value.bool (nb00 (traps_own hs hat hR hp01 (by omega) (by omega) (by assumption) (by omega))))), (bx669.cell (i := 0) rfl), hA677, (by omega), (by omega), hc678, (congrArg Value.bool h679), trivial⟩ (fun act718 f717 => ?_)
        clear f664
        refine At.done rfl ?_
        refine t_n ?_
        have f719 := f717.sub (r := [(120, .bool false), (119, .bool false), (113, .bool false), (112, .bool false), (108, .bool false), (107, .bool ((gI g.ow (i) : Int) != p)), (106, .int .i64 (p)), (105, .int .i64 (gI g.ow (i))), (104, .pointer (some (ad676.add ((i : Int).toNat * 1)))), (103, .int .i64 (i)), (102, .slice Ag0 g.ow.length cg0), (101, .pointer (some ⟨w.heap.size, 0, none⟩)), (98, .bool false), (97, .agg (([0, 0, 0, 0] : List Int).map wV).toArray), (96, .agg ((andS (andS (ofW (gL g.mv (i))) (inS g s : List Int)) ss : List Int).map wV).toArray), (95, .agg ((ss : List Int).map wV).toArray), (94, .agg ((andS (ofW (gL g.mv (i))) (inS g s : List Int) : List Int).map wV).toArray), (16, .int .i64 (i)), (15, .pointer (some ⟨w330.heap.size, 0, none⟩)), (13, .pointer (some ⟨w215.heap.size, 0, none⟩)), (12, .int .i64 (((g.ow.length : Nat) : Int))), (5, .pointer (some ⟨w1.heap.size, 0, none⟩)), (4, .pointer (some ⟨w.heap.size, 0, none⟩)), (2, .int .i64 (p))]) ⟨rfl, rfl, rfl, rfl, rfl, rfl, rfl, rfl, rfl, rfl, rfl, rfl, rfl, rfl, rfl, rfl, rfl, rfl, rfl, rfl, rfl, rfl, rfl, rfl, trivial⟩
        clear f717
        refine cond_F f719 rfl ?_
        refine wp_skip ?_
        refine b_n ?_
        refine t_n ?_
        have f720 := f719.sub (r := [(119, .bool false), (113, .bool false), (112, .bool false), (108, .bool false), (107, .bool ((gI g.ow (i) : Int) != p)), (106, .int .i64 (p)), (105, .int .i64 (gI g.ow (i))), (104, .pointer (some (ad676.add ((i : Int).toNat * 1)))), (103, .int .i64 (i)), (102, .slice Ag0 g.ow.length cg0), (101, .pointer (some ⟨w.heap.size, 0, none⟩)), (98, .bool false), (97, .agg (([0, 0, 0, 0] : List Int).map wV).toArray), (96, .agg ((andS (andS (ofW (gL g.mv (i))) (inS g s : List Int)) ss : List Int).map wV).toArray), (95, .agg ((ss : List Int).map wV).toArray), (94, .agg ((andS (ofW (gL g.mv (i))) (inS g s : List Int) : List Int).map wV).toArray), (16, .int .i64 (i)), (15, .pointer (some ⟨w330.heap.size, 0, none⟩)), (13, .pointer (some ⟨w215.heap.size, 0, none⟩)), (12, .int .i64 (((g.ow.length : Nat) : Int))), (5, .pointer (some ⟨w1.heap.size, 0, none⟩)), (4, .pointer (some ⟨w.heap.size, 0, none⟩)), (2, .int .i64 (p))]) ⟨rfl, rfl, rfl, rfl, rfl, rfl, rfl, rfl, rfl, rfl, rfl, rfl, rfl, rfl, rfl, rfl, rfl, rfl, rfl, rfl, rfl, rfl, rfl, trivial⟩
        clear f719
        refine At.start ?_
        refine At.rd f720 3 [[], [.as_ (.int .i64 (i + 1))], []] [(16, .int .i64 (i + 1)), (73, .int .i64 (i + 1)), (72, .int .i64 (i))] [((.int .i64 (IntKind.i64.wrap (i + 1)) : Value) = .int .i64 (i + 1))] (by kernel_rfl) ⟨(w64 (by omega) (by omega)), trivial⟩ (fun act722 f721 => ?_)
        clear f720
        refine At.done rfl ?_
        refine t_n ?_
        have f723 := f721.sub (r := [(16, .int .i64 (i + 1)), (15, .pointer (some ⟨w330.heap.size, 0, none⟩)), (13, .pointer (some ⟨w215.heap.size, 0, none⟩)), (12, .int .i64 (((g.ow.length : Nat) : Int))), (5, .pointer (some ⟨w1.heap.size, 0, none⟩)), (4, .pointer (some ⟨w.heap.size, 0, none⟩)), (2, .int .i64 (p))]) ⟨rfl, rfl, rfl, rfl, rfl, rfl, rfl, trivial⟩
        exact ⟨_, (by omega), (i + 1), rfl, f723, e666, r667, r668, bx669, bx670, bx671, (ow672.imp (fun g _ hs => ⟨hs.1, hs.2.1, hs.2.2.2⟩)), bx673, bx674, (by omega), (by omega), (by omega)⟩
      ·have q724 := ne_of_beq_false h658
       obtain ⟨ad725, hA726, _, _, hc727⟩ := RdI.get r643.ow (i) (by omega) (by omega)
       rcases Bool.eq_false_or_eq_true ((gI g.ow (i) : Int) != p) with h728 | h728
       ·have q729 := bne_iff_ne.1 h728
        rcases Bool.eq_false_or_eq_true (!(decide ((andS (ofW (gL g.mv (i))) (inS g s : List Int) : List Int) = ([0, 0, 0, 0])))) with h730 | h730
        ·have q731 : (decide ((andS (ofW (gL g.mv (i))) (inS g s : List Int) : List Int) = ([0, 0, 0, 0]))) = false := by first | exact Eq.mp (Bool.not_eq_true' _) h730 | exact Eq.mp (Bool.not_eq_false' _) h730 | simpa using h730
         have q732 := of_decide_eq_false q731
         refine At.rd f641 30 [[], [.ld (.slice Ag0 g.ow.length cg0)], [], [.ad ad655], [.ld (.int .i64 (gI g.ow (i)))], [], [], [.as_ (.bool false)], [], [], [], [], [], [], [], [], [.ld (.slice Ag0 g.ow.length cg0)], [], [.ad ad725], [.ld (.int .i64 (gI g.ow (i)))], [], [], [.as_ (.bool true)], [.cs ((andS (ofW (gL g.mv (i))) (inS g s : List Int) : List Int).map wV)], [], [.cs [wV (gI (andS (ofW (gL g.mv (i))) (inS g s : List Int)) 0), wV (gI (andS (ofW (gL g.mv (i))) (inS g s : List Int)) 1), wV (gI (andS (ofW (gL g.mv (i))) (inS g s : List Int)) 2), wV (gI (andS (ofW (gL g.mv (i))) (inS g s : List Int)) 3)], .cs [wV (gI ([0, 0, 0, 0]) 0), wV (gI ([0, 0, 0, 0]) 1), wV (gI ([0, 0, 0, 0]) 2), wV (gI ([0, 0, 0, 0]) 3)], .as_ (.bool (!(decide ((andS (ofW (gL g.mv (i))) (inS g s : List Int) : List Int) = ([0, 0, 0, 0])))))], [], [.as_ (.bool true)], [.cs ((andS (ofW (gL g.mv (i))) (inS g s : List Int) : List Int).map wV)], [.cs ((minusS (inS g s : List Int) ss : List Int).map wV)]] [(115, .agg ((minusS (inS g s : List Int) ss : List Int).map wV).toArray), (114, .agg ((andS (ofW (gL g.mv (i))) (inS g s : List Int) : List Int).map wV).toArray), (113, .bool true), (112, .bool (!(decide ((andS (ofW (gL g.mv (i))) (inS g s : List Int) : List Int) = ([0, 0, 0, 0]))))), (111, .bool (!(decide ((andS (ofW (gL g.mv (i))) (inS g s : List Int) : List Int) = ([0, 0, 0, 0]))))), (110, .agg (([0, 0, 0, 0] : List Int).map wV).toArray), (109, .agg ((andS (ofW (gL g.mv (i))) (inS g s : List Int) : List Int).map wV).toArray), (108, .bool true), (107, .bool ((gI g.ow (i) : Int) != p)), (106, .int .i64 (p)), (105, .int .i64 (gI g.ow (i))), (104, .pointer (some (ad725.add ((i : Int).toNat * 1)))), (103, .int .i64 (i)), (102, .slice Ag0 g.ow.length cg0), (101, .pointer (some ⟨w.heap.size, 0, none⟩)), (100, .bool false), (99, .bool false), (98, undef), (97, undef), (96, undef), (95, undef), (94, undef), (93, .bool false), (92, .bool ((gI g.ow (i) : Int) == p)), (91, .int .i64 (p)), (90, .int .i64 (gI g.ow (i))), (89, .pointer (some (ad655.add ((i : Int).toNat * 1)))), (88, .int .i64 (i)), (87, .slice Ag0 g.ow.length cg0), (86, .pointer (some ⟨w.heap.size, 0, none⟩))] [(w640.cell? ⟨w.heap.size, 0, none⟩ = some (.slice Ag0 g.ow.length cg0)), (Ag0 = some ad655), (0 ≤ (i : Int)), ((i : Int) < (g.ow.length : Nat)), (w640.cell? (ad655.add ((i : Int).toNat * 1)) = some (.int .i64 (gI g.ow (i)))), ((.bool ((gI g.ow (i) : Int) == p) : Value) = .bool false), (w640.cell? ⟨w.heap.size, 0, none⟩ = some (.slice Ag0 g.ow.length cg0)), (Ag0 = some ad725), (0 ≤ (i : Int)), ((i : Int) < (g.ow.length : Nat)), (w640.cell? (ad725.add ((i : Int).toNat * 1)) = some (.int .i64 (gI g.ow (i)))), ((.bool ((gI g.ow (i) : Int) != p) : Value) = .bool true), (((andS (ofW (gL g.mv (i))) (inS g s : List Int) : List Int).map wV).length = 4), (∀ (j : Nat) (v : Value), ((andS (ofW (gL g.mv (i))) (inS g s : List Int) : List Int).map wV)[j]? = some v → w640.cell? ((⟨b_424, 0, none⟩ : Addr).add j) = some v), (((andS (ofW (gL g.mv (i))) (inS g s : List Int) : List Int).map wV).toArray = ([wV (gI (andS (ofW (gL g.mv (i))) (inS g s : List Int)) 0), wV (gI (andS (ofW (gL g.mv (i))) (inS g s : List Int)) 1), wV (gI (andS (ofW (gL g.mv (i))) (inS g s : List Int)) 2), wV (gI (andS (ofW (gL g.mv (i))) (inS g s : List Int)) 3)] : List Value).toArray), ((([0, 0, 0, 0] : List Int).map wV).toArray = ([wV (gI ([0, 0, 0, 0]) 0), wV (gI ([0, 0, 0, 0]) 1), wV (gI ([0, 0, 0, 0]) 2), wV (gI ([0, 0, 0, 0]) 3)] : List Value).toArray), ((.bool (!(((gI (andS (ofW (gL g.mv (i))) (inS g s : List Int)) 0 : Int) == gI ([0, 0, 0, 0]) 0) && (((gI (andS (ofW (gL g.mv (i))) (inS g s : List Int)) 1 : Int) == gI ([0, 0, 0, 0]) 1) && (((gI (andS (ofW (gL g.mv (i))) (inS g s : List Int)) 2 : Int) == gI ([0, 0, 0, 0]) 2) && (((gI (andS (ofW (gL g.mv (i))) (inS g s : List Int)) 3 : Int) == gI ([0, 0, 0, 0]) 3) && true))))) : Value) = .bool (!(decide ((andS (ofW (gL g.mv (i))) (inS g s : List Int) : List Int) = ([0, 0, 0, 0]))))), ((.bool (!(decide ((andS (ofW (gL g.mv (i))) (inS g s : List Int) : List Int) = ([0, 0, 0, 0])))) : Value) = .bool true), (((andS (ofW (gL g.mv (i))) (inS g s : List Int) : List Int).map wV).length = 4), (∀ (j : Nat) (v : Value), ((andS (ofW (gL g.mv (i))) (inS g s : List Int) : List Int).map wV)[j]? = some v → w640.cell? ((⟨b_424, 0, none⟩ : Addr).add j) = some v), (((minusS (inS g s : List Int) ss : List Int).map wV).length = 4), (∀ (j : Nat) (v : Value), ((minusS (inS g s : List Int) ss : List Int).map wV)[j]? = some v → w640.cell? ((⟨w330.heap.size, 0, none⟩ : Addr).add j) = some v)] (by kernel_rfl) ⟨(bx645.cell (i := 0) rfl), hA656, (by omega), (by omega), hc657, (congrArg Value.bool h658), (bx645.cell (i := 0) rfl), hA726, (by omega), (by omega), hc727, (congrArg Value.bool h728), ((List.length_map _).trans (okLen (okW_andS (ofW_ok _) (inS_ok (by assumption))))), bx651.whole, (map4 (okLen (okW_andS (ofW_ok _) (inS_ok (by assumption))))), (map4 (okLen okW_00)), (congrArg (fun b => Value.bool (!b)) (w4_eq (okLen (okW_andS (ofW_ok _) (inS_ok (by assumption)))) (okLen okW_00))), (congrArg Value.bool h730), ((List.length_map _).trans (okLen (okW_andS (ofW_ok _) (inS_ok (by assumption))))), bx651.whole, ((List.length_map _).trans (okLen (okW_minusS (inS_ok (by assumption)) (by assumption)))), bx650.whole, trivial⟩ (fun act734 f733 => ?_)
         clear f641
         refine At.call f733 19 #[.agg ((andS (ofW (gL g.mv (i))) (inS g s : List Int) : List Int).map wV).toArray, .agg ((minusS (inS g s : List Int) ss : List Int).map wV).toArray] (some 116) (by kernel_rfl) (andS_any (s := andS (ofW (gL g.mv (i))) (inS g s : List Int)) (t := minusS (inS g s : List Int) ss) (okW_andS (ofW_ok _) (inS_ok (by assumption))) (okW_minusS (inS_ok (by assumption)) (by assumption))) ?_
         rintro e_ w735 ⟨rfl, he⟩
         refine ⟨_, rfl, _, rfl, fun act736 f737 => ?_⟩
         clear f733
         have g738 := gr_ext he
         have szw735 := g738.size
         have e739 := e642.gr g738 no_row
         clear e642
         have r740 := r643.gr g738 (fun _ h => by cases h)
         clear r643
         have r741 := r644.gr g738 (fun _ h => by cases h)
         clear r644
         have bx742 := bx645.gr g738 (by simp)
         clear bx645
         have bx743 := bx646.gr g738 (by simp)
         clear bx646
         have bx744 := bx647.gr g738 (by simp)
         clear bx647
         have ow745 := ow648.gr g738 (fun _ _ h => by cases h)
         clear ow648
         have bx746 := bx649.gr g738 (by simp)
         clear bx649
         have bx747 := bx650.gr g738 (by simp)
         clear bx650
         have bx748 := bx651.gr g738 (by simp)
         clear bx651
         clear g738 he
         refine At.rd f737 4 [[], [.cs [wV (gI (andS (andS (ofW (gL g.mv (i))) (inS g s : List Int)) (minusS (inS g s : List Int) ss)) 0), wV (gI (andS (andS (ofW (gL g.mv (i))) (inS g s : List Int)) (minusS (inS g s : List Int) ss)) 1), wV (gI (andS (andS (ofW (gL g.mv (i))) (inS g s : List Int)) (minusS (inS g s : List Int) ss)) 2), wV (gI (andS (andS (ofW (gL g.mv (i))) (inS g s : List Int)) (minusS (inS g s : List Int) ss)) 3)], .cs [wV (gI ([0, 0, 0, 0]) 0), wV (gI ([0, 0, 0, 0]) 1), wV (gI ([0, 0, 0, 0]) 2), wV (gI ([0, 0, 0, 0]) 3)], .as_ (.bool false)], [], []] [(120, .bool false), (119, .bool false), (118, .bool false), (117, .agg (([0, 0, 0, 0] : List Int).map wV).toArray)] [(((andS (andS (ofW (gL g.mv (i))) (inS g s : List Int)) (minusS (inS g s : List Int) ss) : List Int).map wV).toArray = ([wV (gI (andS (andS (ofW (gL g.mv (i))) (inS g s : List Int)) (minusS (inS g s : List Int) ss)) 0), wV (gI (andS (andS (ofW (gL g.mv (i))) (inS g s : List Int)) (minusS (inS g s : List Int) ss)) 1), wV (gI (andS (andS (ofW (gL g.mv (i))) (inS g s : List Int)) (minusS (inS g s : List Int) ss)) 2), wV (gI (andS (andS (ofW (gL g.mv (i))) (inS g s : List Int)) (minusS (inS g s : List Int) ss)) 3)] : List Value).toArray), ((([0, 0, 0, 0] : List Int).map wV).toArray = ([wV (gI ([0, 0, 0, 0]) 0), wV (gI ([0, 0, 0, 0]) 1), wV (gI ([0, 0, 0, 0]) 2), wV (gI ([0, 0, 0, 0]) 3)] : List Value).toArray), ((.bool ((((gI (andS (andS (ofW (gL g.mv (i))) (inS g s : List Int)) (minusS (inS g s : List Int) ss)) 0 : Int) == gI ([0, 0, 0, 0]) 0) && (((gI (andS (andS (ofW (gL g.mv (i))) (inS g s : List Int)) (minusS (inS g s : List Int) ss)) 1 : Int) == gI ([0, 0, 0, 0]) 1) && (((gI (andS (andS (ofW (gL g.mv (i))) (inS g s : List Int)) (minusS (inS g s : List Int) ss)) 2 : Int) == gI ([0, 0, 0, 0]) 2) && (((gI (andS (andS (ofW (gL g.mv (i))) (inS g s : List Int)) (minusS (inS g s : List Int) ss)) 3 : Int) == gI ([0, 0, 0, 0]) 3) && true))))) : Value) = .bool false)] (by kernel_rfl) ⟨(map4 (okLen (okW_andS (okW_andS (ofW_ok _) (inS_ok (by assumption))) (okW_minusS (inS_ok (by assumption)) (by assumption))))), (map4 (okLen okW_00)), (Eq.trans (b := (.bool (decide ((andS (andS (ofW (gL g.mv (i))) (inS g s : List Int)) (minusS (inS g s : List Int) ss) : List Int) = ([0, 0, 0, 0]))) : Value)) (congrArg (fun b => Value.bool b) (w4_eq (okLen (okW_andS (okW_andS (ofW_ok _) (inS_ok (by assumption))) (okW_minusS (inS_ok (by assumption)) (by assumption)))) (okLen okW_00))) (congrArg Value.bool (decide_eq_false (traps_oth hs hat hR hp01 (by omega) (by omega) (by assumption) (by omega) (of_nb (by assumption)))))), trivial⟩ (fun act750 f749 => ?_)
         clear f737
         refine At.done rfl ?_
         refine t_n ?_
         have f751 := f749.sub (r := [(120, .bool false), (119, .bool false), (118, .bool false), (117, .agg (([0, 0, 0, 0] : List Int).map wV).toArray), (116, .agg ((andS (andS (ofW (gL g.mv (i))) (inS g s : List Int)) (minusS (inS g s : List Int) ss) : List Int).map wV).toArray), (115, .agg ((minusS (inS g s : List Int) ss : List Int).map wV).toArray), (114, .agg ((andS (ofW (gL g.mv (i))) (inS g s : List Int) : List Int).map wV).toArray), (113, .bool true), (112, .bool (!(decide ((andS (ofW (gL g.mv (i))) (inS g s : List Int) : List Int) = ([0, 0, 0, 0]))))), (111, .bool (!(decide ((andS (ofW (gL g.mv (i))) (inS g s : List Int) : List Int) = ([0, 0, 0, 0]))))), (110, .agg (([0, 0, 0, 0] : List Int).map wV).toArray), (109, .agg ((andS (ofW (gL g.mv (i))) (inS g s : List Int) : List Int).map wV).toArray), (108, .bool true), (107, .bool ((gI g.ow (i) : Int) != p)), (106, .int .i64 (p)), (105, .int .i64 (gI g.ow (i))), (104, .pointer (some (ad725.add ((i : Int).toNat * 1)))), (103, .int .i64 (i)), (102, .slice Ag0 g.ow.length cg0), (101, .pointer (some ⟨w.heap.size, 0, none⟩)), (16, .int .i64 (i)), (15, .pointer (some ⟨w330.heap.size, 0, none⟩)), (13, .pointer (some ⟨w215.heap.size, 0, none⟩)), (12, .int .i64 (((g.ow.length : Nat) : Int))), (5, .pointer (some ⟨w1.heap.size, 0, none⟩)), (4, .pointer (some ⟨w.heap.size, 0, none⟩)), (2, .int .i64 (p))]) ⟨rfl, rfl, rfl, rfl, rfl, rfl, rfl, rfl, rfl, rfl, rfl, rfl, rfl, rfl, rfl, rfl, rfl, rfl, rfl, rfl, rfl, rfl, rfl, rfl, rfl, rfl, rfl, trivial⟩
         clear f749
         refine cond_F f751 rfl ?_
         refine wp_skip ?_
         refine b_n ?_
         refine t_n ?_
         have f752 := f751.sub (r := [(119, .bool false), (118, .bool false), (117, .agg (([0, 0, 0, 0] : List Int).map wV).toArray), (116, .agg ((andS (andS (ofW (gL g.mv (i))) (inS g s : List Int)) (minusS (inS g s : List Int) ss) : List Int).map wV).toArray), (115, .agg ((minusS (inS g s : List Int) ss : List Int).map wV).toArray), (114, .agg ((andS (ofW (gL g.mv (i))) (inS g s : List Int) : List Int).map wV).toArray), (113, .bool true), (112, .bool (!(decide ((andS (ofW (gL g.mv (i))) (inS g s : List Int) : List Int) = ([0, 0, 0, 0]))))), (111, .bool (!(decide ((andS (ofW (gL g.mv (i))) (inS g s : List Int) : List Int) = ([0, 0, 0, 0]))))), (110, .agg (([0, 0, 0, 0] : List Int).map wV).toArray), (109, .agg ((andS (ofW (gL g.mv (i))) (inS g s : List Int) : List Int).map wV).toArray), (108, .bool true), (107, .bool ((gI g.ow (i) : Int) != p)), (106, .int .i64 (p)), (105, .int .i64 (gI g.ow (i))), (104, .pointer (some (ad725.add ((i : Int).toNat * 1)))), (103, .int .i64 (i)), (102, .slice Ag0 g.ow.length cg0), (101, .pointer (some ⟨w.heap.size, 0, none⟩)), (16, .int .i64 (i)), (15, .pointer (some ⟨w330.heap.size, 0, none⟩)), (13, .pointer (some ⟨w215.heap.size, 0, none⟩)), (12, .int .i64 (((g.ow.length : Nat) : Int))), (5, .pointer (some ⟨w1.heap.size, 0, none⟩)), (4, .pointer (some ⟨w.heap.size, 0, none⟩)), (2, .int .i64 (p))]) ⟨rfl, rfl, rfl, rfl, rfl, rfl, rfl, rfl, rfl, rfl, rfl, rfl, rfl, rfl, rfl, rfl, rfl, rfl, rfl, rfl, rfl, rfl, rfl, rfl, rfl, rfl, trivial⟩
         clear f751
         refine At.start ?_
         refine At.rd f752 3 [[], [.as_ (.int .i64 (i + 1))], []] [(16, .int .i64 (i + 1)), (73, .int .i64 (i + 1)), (72, .int .i64 (i))] [((.int .i64 (IntKind.i64.wrap (i + 1)) : Value) = .int .i64 (i + 1))] (by kernel_rfl) ⟨(w64 (by omega) (by omega)), trivial⟩ (fun act754 f753 => ?_)
         clear f752
         refine At.done rfl ?_
         refine t_n ?_
         have f755 := f753.sub (r := [(16, .int .i64 (i + 1)), (15, .pointer (some ⟨w330.heap.size, 0, none⟩)), (13, .pointer (some ⟨w215.heap.size, 0, none⟩)), (12, .int .i64 (((g.ow.length : Nat) : Int))), (5, .pointer (some ⟨w1.heap.size, 0, none⟩)), (4, .pointer (some ⟨w.heap.size, 0, none⟩)), (2, .int .i64 (p))]) ⟨rfl, rfl, rfl, rfl, rfl, rfl, rfl, trivial⟩
         exact ⟨_, (by omega), (i + 1), rfl, f755, e739, r740, r741, bx742, bx743, bx744, (ow745.imp (fun g _ hs => ⟨hs.1, hs.2.1, hs.2.2.2⟩)), bx746, bx747, (by omega), (by omega), (by omega)⟩
        ·have q756 : (decide ((andS (ofW (gL g.mv (i))) (inS g s : List Int) : List Int) = ([0, 0, 0, 0]))) = true := by first | exact Eq.mp (Bool.not_eq_true' _) h730 | exact Eq.mp (Bool.not_eq_false' _) h730 | simpa using h730
         have q757 := of_decide_eq_true q756
         refine At.rd f641 35 [[], [.ld (.slice Ag0 g.ow.length cg0)], [], [.ad ad655], [.ld (.int .i64 (gI g.ow (i)))], [], [], [.as_ (.bool false)], [], [], [], [], [], [], [], [], [.ld (.slice Ag0 g.ow.length cg0)], [], [.ad ad725], [.ld (.int .i64 (gI g.ow (i)))], [], [], [.as_ (.bool true)], [.cs ((andS (ofW (gL g.mv (i))) (inS g s : List Int) : List Int).map wV)], [], [.cs [wV (gI (andS (ofW (gL g.mv (i))) (inS g s : List Int)) 0), wV (gI (andS (ofW (gL g.mv (i))) (inS g s : List Int)) 1), wV (gI (andS (ofW (gL g.mv (i))) (inS g s : List Int)) 2), wV (gI (andS (ofW (gL g.mv (i))) (inS g s : List Int)) 3)], .cs [wV (gI ([0, 0, 0, 0]) 0), wV (gI ([0, 0, 0, 0]) 1), wV (gI ([0, 0, 0, 0]) 2), wV (gI ([0, 0, 0, 0]) 3)], .as_ (.bool (!(decide ((andS (ofW (gL g.mv (i))) (inS g s : List Int) : List Int) = ([0, 0, 0, 0])))))], [], [.as_ (.bool false)], [], [], [], [], [], [], []] [(120, .bool false), (119, .bool false), (118, undef), (117, undef), (116, undef), (115, undef), (114, undef), (113, .bool false), (112, .bool (!(decide ((andS (ofW (gL g.mv (i))) (inS g s : List Int) : List Int) = ([0, 0, 0, 0]))))), (111, .bool (!(decide ((andS (ofW (gL g.mv (i))) (inS g s : List Int) : List Int) = ([0, 0, 0, 0]))))), (110, .agg (([0, 0, 0, 0] : List Int).map wV).toArray), (109, .agg ((andS (ofW (gL g.mv (i))) (inS g s : List Int) : List Int).map wV).toArray), (108, .bool true), (107, .bool ((gI g.ow (i) : Int) != p)), (106, .int .i64 (p)), (105, .int .i64 (gI g.ow (i))), (104, .pointer (some (ad725.add ((i : Int).toNat * 1)))), (103, .int .i64 (i)), (102, .slice Ag0 g.ow.length cg0), (101, .pointer (some ⟨w.heap.size, 0, none⟩)), (100, .bool false), (99, .bool false), (98, undef), (97, undef), (96, undef), (95, undef), (94, undef), (93, .bool false), (92, .bool ((gI g.ow (i) : Int) == p)), (91, .int .i64 (p)), (90, .int .i64 (gI g.ow (i))), (89, .pointer (some (ad655.add ((i : Int).toNat * 1)))), (88, .int .i64 (i)), (87, .slice Ag0 g.ow.length cg0), (86, .pointer (some ⟨w.heap.size, 0, none⟩))] [(w640.cell? ⟨w.heap.size, 0, none⟩ = some (.slice Ag0 g.ow.length cg0)), (Ag0 = some ad655), (0 ≤ (i : Int)), ((i : Int) < (g.ow.length : Nat)), (w640.cell? (ad655.add ((i : Int).toNat * 1)) = some (.int .i64 (gI g.ow (i)))), ((.bool ((gI g.ow (i) : Int) == p) : Value) = .bool false), (w640.cell? ⟨w.heap.size, 0, none⟩ = some (.slice Ag0 g.ow.length cg0)), (Ag0 = some ad725), (0 ≤ (i : Int)), ((i : Int) < (g.ow.length : Nat)), (w640.cell? (ad725.add ((i : Int).toNat * 1)) = some (.int .i64 (gI g.ow (i)))), ((.bool ((gI g.ow (i) : Int) != p) : Value) = .bool true), (((andS (ofW (gL g.mv (i))) (inS g s : List Int) : List Int).map wV).length = 4), (∀ (j : Nat) (v : Value), ((andS (ofW (gL g.mv (i))) (inS g s : List Int) : List Int).map wV)[j]? = some v → w640.cell? ((⟨b_424, 0, none⟩ : Addr).add j) = some v), (((andS (ofW (gL g.mv (i))) (inS g s : List Int) : List Int).map wV).toArray = ([wV (gI (andS (ofW (gL g.mv (i))) (inS g s : List Int)) 0), wV (gI (andS (ofW (gL g.mv (i))) (inS g s : List Int)) 1), wV (gI (andS (ofW (gL g.mv (i))) (inS g s : List Int)) 2), wV (gI (andS (ofW (gL g.mv (i))) (inS g s : List Int)) 3)] : List Value).toArray), ((([0, 0, 0, 0] : List Int).map wV).toArray = ([wV (gI ([0, 0, 0, 0]) 0), wV (gI ([0, 0, 0, 0]) 1), wV (gI ([0, 0, 0, 0]) 2), wV (gI ([0, 0, 0, 0]) 3)] : List Value).toArray), ((.bool (!(((gI (andS (ofW (gL g.mv (i))) (inS g s : List Int)) 0 : Int) == gI ([0, 0, 0, 0]) 0) && (((gI (andS (ofW (gL g.mv (i))) (inS g s : List Int)) 1 : Int) == gI ([0, 0, 0, 0]) 1) && (((gI (andS (ofW (gL g.mv (i))) (inS g s : List Int)) 2 : Int) == gI ([0, 0, 0, 0]) 2) && (((gI (andS (ofW (gL g.mv (i))) (inS g s : List Int)) 3 : Int) == gI ([0, 0, 0, 0]) 3) && true))))) : Value) = .bool (!(decide ((andS (ofW (gL g.mv (i))) (inS g s : List Int) : List Int) = ([0, 0, 0, 0]))))), ((.bool (!(decide ((andS (ofW (gL g.mv (i))) (inS g s : List Int) : List Int) = ([0, 0, 0, 0])))) : Value) = .bool false)] (by kernel_rfl) ⟨(bx645.cell (i := 0) rfl), hA656, (by omega), (by omega), hc657, (congrArg Value.bool h658), (bx645.cell (i := 0) rfl), hA726, (by omega), (by omega), hc727, (congrArg Value.bool h728), ((List.length_map _).trans (okLen (okW_andS (ofW_ok _) (inS_ok (by assumption))))), bx651.whole, (map4 (okLen (okW_andS (ofW_ok _) (inS_ok (by assumption))))), (map4 (okLen okW_00)), (congrArg (fun b => Value.bool (!b)) (w4_eq (okLen (okW_andS (ofW_ok _) (inS_ok (by assumption)))) (okLen okW_00))), (congrArg Value.bool h730), trivial⟩ (fun act759 f758 => ?_)
         clear f641
         refine At.done rfl ?_
         refine t_n ?_
         have f760 := f758.sub (r := [(120, .bool false), (119, .bool false), (113, .bool false), (112, .bool (!(decide ((andS (ofW (gL g.mv (i))) (inS g s : List Int) : List Int) = ([0, 0, 0, 0]))))), (111, .bool (!(decide ((andS (ofW (gL g.mv (i))) (inS g s : List Int) : List Int) = ([0, 0, 0, 0]))))), (110, .agg (([0, 0, 0, 0] : List Int).map wV).toArray), (109, .agg ((andS (ofW (gL g.mv (i))) (inS g s : List Int) : List Int).map wV).toArray), (108, .bool true), (107, .bool ((gI g.ow (i) : Int) != p)), (106, .int .i64 (p)), (105, .int .i64 (gI g.ow (i))), (104, .pointer (some (ad725.add ((i : Int).toNat * 1)))), (103, .int .i64 (i)), (102, .slice Ag0 g.ow.length cg0), (101, .pointer (some ⟨w.heap.size, 0, none⟩)), (16, .int .i64 (i)), (15, .pointer (some ⟨w330.heap.size, 0, none⟩)), (13, .pointer (some ⟨w215.heap.size, 0, none⟩)), (12, .int .i64 (((g.ow.length : Nat) : Int))), (5, .pointer (some ⟨w1.heap.size, 0, none⟩)), (4, .pointer (some ⟨w.heap.size, 0, none⟩)), (2, .int .i64 (p))]) ⟨rfl, rfl, rfl, rfl, rfl, rfl, rfl, rfl, rfl, rfl, rfl, rfl, rfl, rfl, rfl, rfl, rfl, rfl, rfl, rfl, rfl, rfl, trivial⟩
         clear f758
         refine cond_F f760 rfl ?_
         refine wp_skip ?_
         refine b_n ?_
         refine t_n ?_
         have f761 := f760.sub (r := [(119, .bool false), (113, .bool false), (112, .bool (!(decide ((andS (ofW (gL g.mv (i))) (inS g s : List Int) : List Int) = ([0, 0, 0, 0]))))), (111, .bool (!(decide ((andS (ofW (gL g.mv (i))) (inS g s : List Int) : List Int) = ([0, 0, 0, 0]))))), (110, .agg (([0, 0, 0, 0] : List Int).map wV).toArray), (109, .agg ((andS (ofW (gL g.mv (i))) (inS g s : List Int) : List Int).map wV).toArray), (108, .bool true), (107, .bool ((gI g.ow (i) : Int) != p)), (106, .int .i64 (p)), (105, .int .i64 (gI g.ow (i))), (104, .pointer (some (ad725.add ((i : Int).toNat * 1)))), (103, .int .i64 (i)), (102, .slice Ag0 g.ow.length cg0), (101, .pointer (some ⟨w.heap.size, 0, none⟩)), (16, .int .i64 (i)), (15, .pointer (some ⟨w330.heap.size, 0, none⟩)), (13, .pointer (some ⟨w215.heap.size, 0, none⟩)), (12, .int .i64 (((g.ow.length : Nat) : Int))), (5, .pointer (some ⟨w1.heap.size, 0, none⟩)), (4, .pointer (some ⟨w.heap.size, 0, none⟩)), (2, .int .i64 (p))]) ⟨rfl, rfl, rfl, rfl, rfl, rfl, rfl, rfl, rfl, rfl, rfl, rfl, rfl, rfl, rfl, rfl, rfl, rfl, rfl, rfl, rfl, trivial⟩
         clear f760
         refine At.start ?_
         refine At.rd f761 3 [[], [.as_ (.int .i64 (i + 1))], []] [(16, .int .i64 (i + 1)), (73, .int .i64 (i + 1)), (72, .int .i64 (i))] [((.int .i64 (IntKind.i64.wrap (i + 1)) : Value) = .int .i64 (i + 1))] (by kernel_rfl) ⟨(w64 (by omega) (by omega)), trivial⟩ (fun act763 f762 => ?_)
         clear f761
         refine At.done rfl ?_
         refine t_n ?_
         have f764 := f762.sub (r := [(16, .int .i64 (i + 1)), (15, .pointer (some ⟨w330.heap.size, 0, none⟩)), (13, .pointer (some ⟨w215.heap.size, 0, none⟩)), (12, .int .i64 (((g.ow.length : Nat) : Int))), (5, .pointer (some ⟨w1.heap.size, 0, none⟩)), (4, .pointer (some ⟨w.heap.size, 0, none⟩)), (2, .int .i64 (p))]) ⟨rfl, rfl, rfl, rfl, rfl, rfl, rfl, trivial⟩
         exact ⟨_, (by omega), (i + 1), rfl, f764, e642, r643, r644, bx645, bx646, bx647, (ow648.imp (fun g _ hs => ⟨hs.1, hs.2.1, hs.2.2.2⟩)), bx649, bx650, (by omega), (by omega), (by omega)⟩
       ·have q765 := bne_eq_false_iff_eq.1 h728
        refine At.rd f641 35 [[], [.ld (.slice Ag0 g.ow.length cg0)], [], [.ad ad655], [.ld (.int .i64 (gI g.ow (i)))], [], [], [.as_ (.bool false)], [], [], [], [], [], [], [], [], [.ld (.slice Ag0 g.ow.length cg0)], [], [.ad ad725], [.ld (.int .i64 (gI g.ow (i)))], [], [], [.as_ (.bool false)], [], [], [], [], [], [], [], [], [], [], [], []] [(120, .bool false), (119, .bool false), (118, undef), (117, undef), (116, undef), (115, undef), (114, undef), (113, .bool false), (112, .bool false), (111, undef), (110, undef), (109, undef), (108, .bool false), (107, .bool ((gI g.ow (i) : Int) != p)), (106, .int .i64 (p)), (105, .int .i64 (gI g.ow (i))), (104, .pointer (some (ad725.add ((i : Int).toNat * 1)))), (103, .int .i64 (i)), (102, .slice Ag0 g.ow.length cg0), (101, .pointer (some ⟨w.heap.size, 0, none⟩)), (100, .bool false), (99, .bool false), (98, undef), (97, undef), (96, undef), (95, undef), (94, undef), (93, .bool false), (92, .bool ((gI g.ow (i) : Int) == p)), (91, .int .i64 (p)), (90, .int .i64 (gI g.ow (i))), (89, .pointer (some (ad655.add ((i : Int).toNat * 1)))), (88, .int .i64 (i)), (87, .slice Ag0 g.ow.length cg0), (86, .pointer (some ⟨w.heap.size, 0, none⟩))] [(w640.cell? ⟨w.heap.size, 0, none⟩ = some (.slice Ag0 g.ow.length cg0)), (Ag0 = some ad655), (0 ≤ (i : Int)), ((i : Int) < (g.ow.length : Nat)), (w640.cell? (ad655.add ((i : Int).toNat * 1)) = some (.int .i64 (gI g.ow (i)))), ((.bool ((gI g.ow (i) : Int) == p) : Value) = .bool false), (w640.cell? ⟨w.heap.size, 0, none⟩ = some (.slice Ag0 g.ow.length cg0)), (Ag0 = some ad725), (0 ≤ (i : Int)), ((i : Int) < (g.ow.length : Nat)), (w640.cell? (ad725.add ((i : Int).toNat * 1)) = some (.int .i64 (gI g.ow (i)))), ((.bool ((gI g.ow (i) : Int) != p) : Value) = .bool false)] (by kernel_rfl) ⟨(bx645.cell (i := 0) rfl), hA656, (by omega), (by omega), hc657, (congrArg Value.bool h658), (bx645.cell (i := 0) rfl), hA726, (by omega), (by omega), hc727, (congrArg Value.bool h728), trivial⟩ (fun act767 f766 => ?_)
        clear f641
        refine At.done rfl ?_
        refine t_n ?_
        have f768 := f766.sub (r := [(120, .bool false), (119, .bool false), (113, .bool false), (112, .bool false), (108, .bool false), (107, .bool ((gI g.ow (i) : Int) != p)), (106, .int .i64 (p)), (105, .int .i64 (gI g.ow (i))), (104, .pointer (some (ad725.add ((i : Int).toNat * 1)))), (103, .int .i64 (i)), (102, .slice Ag0 g.ow.length cg0), (101, .pointer (some ⟨w.heap.size, 0, none⟩)), (16, .int .i64 (i)), (15, .pointer (some ⟨w330.heap.size, 0, none⟩)), (13, .pointer (some ⟨w215.heap.size, 0, none⟩)), (12, .int .i64 (((g.ow.length : Nat) : Int))), (5, .pointer (some ⟨w1.heap.size, 0, none⟩)), (4, .pointer (some ⟨w.heap.size, 0, none⟩)), (2, .int .i64 (p))]) ⟨rfl, rfl, rfl, rfl, rfl, rfl, rfl, rfl, rfl, rfl, rfl, rfl, rfl, rfl, rfl, rfl, rfl, rfl, rfl, trivial⟩
        clear f766
        refine cond_F f768 rfl ?_
        refine wp_skip ?_
        refine b_n ?_
        refine t_n ?_
        have f769 := f768.sub (r := [(119, .bool false), (113, .bool false), (112, .bool false), (108, .bool false), (107, .bool ((gI g.ow (i) : Int) != p)), (106, .int .i64 (p)), (105, .int .i64 (gI g.ow (i))), (104, .pointer (some (ad725.add ((i : Int).toNat * 1)))), (103, .int .i64 (i)), (102, .slice Ag0 g.ow.length cg0), (101, .pointer (some ⟨w.heap.size, 0, none⟩)), (16, .int .i64 (i)), (15, .pointer (some ⟨w330.heap.size, 0, none⟩)), (13, .pointer (some ⟨w215.heap.size, 0, none⟩)), (12, .int .i64 (((g.ow.length : Nat) : Int))), (5, .pointer (some ⟨w1.heap.size, 0, none⟩)), (4, .pointer (some ⟨w.heap.size, 0, none⟩)), (2, .int .i64 (p))]) ⟨rfl, rfl, rfl, rfl, rfl, rfl, rfl, rfl, rfl, rfl, rfl, rfl, rfl, rfl, rfl, rfl, rfl, rfl, trivial⟩
        clear f768
        refine At.start ?_
        refine At.rd f769 3 [[], [.as_ (.int .i64 (i + 1))], []] [(16, .int .i64 (i + 1)), (73, .int .i64 (i + 1)), (72, .int .i64 (i))] [((.int .i64 (IntKind.i64.wrap (i + 1)) : Value) = .int .i64 (i + 1))] (by kernel_rfl) ⟨(w64 (by omega) (by omega)), trivial⟩ (fun act771 f770 => ?_)
        clear f769
        refine At.done rfl ?_
        refine t_n ?_
        have f772 := f770.sub (r := [(16, .int .i64 (i + 1)), (15, .pointer (some ⟨w330.heap.size, 0, none⟩)), (13, .pointer (some ⟨w215.heap.size, 0, none⟩)), (12, .int .i64 (((g.ow.length : Nat) : Int))), (5, .pointer (some ⟨w1.heap.size, 0, none⟩)), (4, .pointer (some ⟨w.heap.size, 0, none⟩)), (2, .int .i64 (p))]) ⟨rfl, rfl, rfl, rfl, rfl, rfl, rfl, trivial⟩
        exact ⟨_, (by omega), (i + 1), rfl, f772, e642, r643, r644, bx645, bx646, bx647, (ow648.imp (fun g _ hs => ⟨hs.1, hs.2.1, hs.2.2.2⟩)), bx649, bx650, (by omega), (by omega), (by omega)⟩
   ·have q773 := of_decide_eq_false h393
    refine wp_exit ?_
    refine t_e ?_
    refine t_e ?_
    refine b_e ?_
    refine t_n ?_
    have f774 := f392.sub (r := []) trivial
    clear f392
    refine wp_seq ?_
    refine At.start ?_
    refine At.rd f774 1 [[]] [(8, .bool true)] [] (by kernel_rfl) trivial (fun act776 f775 => ?_)
    clear f774
    refine At.done rfl ?_
    refine t_n ?_
    refine wp_ret ?_
    refine ret_ f775 [] [.bool true] [] (by kernel_rfl) trivial ?_
    exact ⟨rfl, e376⟩

end Go.Proofs.YtkpljmalbmcdfaaDoor
