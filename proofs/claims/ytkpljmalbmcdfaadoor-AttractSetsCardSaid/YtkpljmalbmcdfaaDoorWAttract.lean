/-
  A walk of a Go function, printed by a program of this repo. Conditions: what the theorems name.
-/
import Derived.Test.YtkpljmalbmcdfaaDoorWRight2
import Derived.Test.YtkpljmalbmcdfaaDoorPureAttr
import Derived.Test.YtkpljmalbmcdfaaDoorWSetsP
set_option linter.unusedVariables false
set_option linter.unusedSimpArgs false
namespace Go.Proofs.YtkpljmalbmcdfaaDoor
open Go Go.RowKit

attribute [local irreducible] ofZ fromW wordsD ofD ofW lsD lenW lenN fullW withW lessW hasW hasD inW inD leastD putD onI tzI orS andS minusS orD andD minusD fullD emptyD
set_option maxHeartbeats 4000000 in
theorem attract_any {Ag0 Ag1 Ag2 : Option Addr} {cg0 cg1 cg2 : Nat} {g : GameL} {s : List Int} {t : List Int} {p : Int} {w : World} (rg : RdG w 0 w.heap.size Ag0 Ag1 Ag2 cg0 cg1 cg2 g) (hs : OkW s) (ht : OkW t) (rT : RdT w 0 w.heap.size) :
    Calls Tryd.prog 12 #[.agg #[.slice Ag0 g.ow.length cg0, .slice Ag1 g.pr.length cg1, .slice Ag2 g.mv.length cg2], .agg ((s : List Int).map wV).toArray, .int .i64 (p), .agg ((t : List Int).map wV).toArray] w fun e w' => ∃ A c ss mvs, e = .returned (.tuple #[.agg ((ss : List Int).map wV).toArray, .slice A (mvs : List Int).length c]) ∧ Ext w w' ∧ OwnR w' (Sx w.heap.size []) A c 3 mvs ∧ AttractT g s p t ss mvs := by
 have hlg0 := rg.ow.len
 have hlg1 := rg.pr.len
 have hlg2 := rg.mv.len
 have hkg0 := rg.k0
 have hkg1 := rg.k1
 have hkg2 := rg.k2
 have hls := hs.1
 have hlt := ht.1
 refine enter_ (args := [.agg #[.slice Ag0 g.ow.length cg0, .slice Ag1 g.pr.length cg1, .slice Ag2 g.mv.length cg2], .agg ((s : List Int).map wV).toArray, .int .i64 (p), .agg ((t : List Int).map wV).toArray]) Tryd.func12 rfl Tryd.ntmps12 (Nat.le_of_ble_eq_true rfl) (fun act0 f0 => ?_)
 have e0 := Ext.refl w
 refine wp_seq ?_
 refine At.start ?_
 refine At.seq f0 1 [[]] [(4, .pointer (some ⟨w.heap.size, 0, none⟩))] (w.alloc (.cells #[.slice Ag0 g.ow.length cg0, .slice Ag1 g.pr.length cg1, .slice Ag2 g.mv.length cg2] 25 (0, 0))) [] (by kernel_rfl) trivial (fun act4 w1 hw2 f3 => ?_)
 clear f0
 have g5 := gr_alloc hw2
 have szw1 := g5.size
 replace e0 := e0.gr g5 no_row
 have r8 := rg.gr g5 (fun _ h => by cases h)
 clear rg
 have r9 := rT.gr g5 (fun _ h => by cases h)
 clear rT
 have bx10 : Bx w1 (w.heap.size) [.slice Ag0 g.ow.length cg0, .slice Ag1 g.pr.length cg1, .slice Ag2 g.mv.length cg2] 25 := Bx.new hw2
 have := bx10.lt
 clear g5 hw2
 refine At.seq f3 1 [[]] [(5, .pointer (some ⟨w1.heap.size, 0, none⟩))] (w1.alloc (.cells ((s : List Int).map wV).toArray 28 (0, 0))) [] (by kernel_rfl) trivial (fun act14 w11 hw12 f13 => ?_)
 clear f3
 have g15 := gr_alloc hw12
 have szw11 := g15.size
 replace e0 := e0.gr g15 no_row
 replace r8 := r8.gr g15 (fun _ h => by cases h)
 replace r9 := r9.gr g15 (fun _ h => by cases h)
 replace bx10 := bx10.gr g15 (by simp)
 have bx21 : Bx w11 (w1.heap.size) ((s : List Int).map wV) 28 := Bx.new hw12
 have := bx21.lt
 clear g15 hw12
 refine At.seq f13 1 [[]] [(7, .pointer (some ⟨w11.heap.size, 0, none⟩))] (w11.alloc (.cells ((t : List Int).map wV).toArray 28 (0, 0))) [] (by kernel_rfl) trivial (fun act25 w22 hw23 f24 => ?_)
 clear f13
 have g26 := gr_alloc hw23
 have szw22 := g26.size
 replace e0 := e0.gr g26 no_row
 replace r8 := r8.gr g26 (fun _ h => by cases h)
 replace r9 := r9.gr g26 (fun _ h => by cases h)
 replace bx10 := bx10.gr g26 (by simp)
 replace bx21 := bx21.gr g26 (by simp)
 have bx33 : Bx w22 (w11.heap.size) ((t : List Int).map wV) 28 := Bx.new hw23
 have := bx33.lt
 clear g26 hw23
 refine At.seq f24 1 [[]] [(8, .pointer (some ⟨w22.heap.size, 0, none⟩))] (w22.alloc (.cells ((List.replicate 4 (0 : Int) : List Int).map wV).toArray 28 (0, 0))) [] (by kernel_rfl) trivial (fun act37 w34 hw35 f36 => ?_)
 clear f24
 have g38 := gr_alloc hw35
 have szw34 := g38.size
 replace e0 := e0.gr g38 no_row
 replace r8 := r8.gr g38 (fun _ h => by cases h)
 replace r9 := r9.gr g38 (fun _ h => by cases h)
 replace bx10 := bx10.gr g38 (by simp)
 replace bx21 := bx21.gr g38 (by simp)
 replace bx33 := bx33.gr g38 (by simp)
 have bx46 : Bx w34 (w22.heap.size) ((List.replicate 4 (0 : Int) : List Int).map wV) 28 := Bx.new hw35
 have := bx46.lt
 clear g38 hw35
 refine At.rd f36 1 [[]] [(9, .slice none 0 0)] [] (by kernel_rfl) trivial (fun act48 f47 => ?_)
 clear f36
 refine At.done rfl ?_
 refine t_n ?_
 refine wp_seq (cut (fun a_ w_ => (Frm 163 a_ [(8, .pointer (some ⟨w22.heap.size, 0, none⟩)), (7, .pointer (some ⟨w11.heap.size, 0, none⟩)), (5, .pointer (some ⟨w1.heap.size, 0, none⟩)), (4, .pointer (some ⟨w.heap.size, 0, none⟩)), (2, .int .i64 (p))]) ∧ (Ext w w_) ∧ (RdG w_ 0 w.heap.size Ag0 Ag1 Ag2 cg0 cg1 cg2 g) ∧ (RdT w_ 0 w.heap.size) ∧ (Bx w_ (w.heap.size) [.slice Ag0 g.ow.length cg0, .slice Ag1 g.pr.length cg1, .slice Ag2 g.mv.length cg2] 25) ∧ (Bx w_ (w1.heap.size) ((s : List Int).map wV) 28) ∧ (Bx w_ (w11.heap.size) ((t : List Int).map wV) 28) ∧ (Bx w_ (w22.heap.size) ((List.replicate 4 (0 : Int) : List Int).map wV) 28) ∧ ((rightP g).2 = 0) ∧ (p = 0 ∨ p = 1) ∧ (w34.heap.size ≤ w_.heap.size)) ?_ ?_)
 ·refine wp_seq ?_
  refine At.start ?_
  refine At.rd f47 1 [[.ld (.slice Ag0 g.ow.length cg0), .ld (.slice Ag1 g.pr.length cg1), .ld (.slice Ag2 g.mv.length cg2)]] [(25, .agg #[.slice Ag0 g.ow.length cg0, .slice Ag1 g.pr.length cg1, .slice Ag2 g.mv.length cg2])] [(w34.cell? ⟨w.heap.size, 0, none⟩ = some (.slice Ag0 g.ow.length cg0)), (w34.cell? ⟨w.heap.size, 1, none⟩ = some (.slice Ag1 g.pr.length cg1)), (w34.cell? ⟨w.heap.size, 2, none⟩ = some (.slice Ag2 g.mv.length cg2))] (by kernel_rfl) ⟨(bx10.cell (i := 0) rfl), (bx10.cell (i := 1) rfl), (bx10.cell (i := 2) rfl), trivial⟩ (fun act50 f49 => ?_)
  clear f47
  refine At.call f49 18 #[.agg #[.slice Ag0 g.ow.length cg0, .slice Ag1 g.pr.length cg1, .slice Ag2 g.mv.length cg2]] (some 26) (by kernel_rfl) (right_any (r8.wide (Nat.zero_le _) (by omega))) ?_
  rintro e_ w51 ⟨rfl, he⟩
  refine ⟨_, rfl, _, rfl, fun act52 f53 => ?_⟩
  clear f49
  have g54 := gr_ext he
  have szw51 := g54.size
  replace e0 := e0.gr g54 no_row
  replace r8 := r8.gr g54 (fun _ h => by cases h)
  replace r9 := r9.gr g54 (fun _ h => by cases h)
  replace bx10 := bx10.gr g54 (by simp)
  replace bx21 := bx21.gr g54 (by simp)
  replace bx33 := bx33.gr g54 (by simp)
  replace bx46 := bx46.gr g54 (by simp)
  clear g54 he
  refine At.rd f53 5 [[], [], [], [], []] [(11, .int .i64 ((rightP g).2)), (10, .int .i64 ((rightP g).1)), (28, .int .i64 ((rightP g).2)), (27, .int .i64 ((rightP g).1)), (24, .tuple #[.int .i64 ((rightP g).1), .int .i64 ((rightP g).2)])] [] (by kernel_rfl) trivial (fun act63 f62 => ?_)
  clear f53
  refine At.done rfl ?_
  refine t_n ?_
  refine wp_seq ?_
  refine At.start ?_
  rcases Bool.eq_false_or_eq_true (((rightP g).2 : Int) != 0) with h64 | h64
  ·have q65 := bne_iff_ne.1 h64
   refine At.rd f62 10 [[], [], [.as_ (.bool true)], [], [], [], [], [], [], []] [(38, .bool true), (37, undef), (36, undef), (35, undef), (34, undef), (33, undef), (32, undef), (31, .bool true), (30, .bool (((rightP g).2 : Int) != 0)), (29, .int .i64 ((rightP g).2))] [((.bool (((rightP g).2 : Int) != 0) : Value) = .bool true)] (by kernel_rfl) ⟨(congrArg Value.bool h64), trivial⟩ (fun act67 f66 => ?_)
   clear f62
   refine At.done rfl ?_
   refine t_n ?_
   refine cond_T f66 rfl ?_
   refine wp_seq ?_
   have hRn : ¬ (isR g = true ∧ (p = 0 ∨ p = 1)) := right_no3 (by omega)
   refine At.start ?_
   refine At.rd f66 1 [[]] [(39, .agg (([0, 0, 0, 0] : List Int).map wV).toArray)] [] (by kernel_rfl) trivial (fun act69 f68 => ?_)
   clear f66
   refine At.act f68 (storeBlk (t := 28) (b := w22.heap.size) (n := 4) (cs' := (([0, 0, 0, 0] : List Int).map wV)) (by kernel_rfl) (by kernel_rfl) ((List.length_map _).trans (okLen okW_00)) oneW_ ((show (([0, 0, 0, 0] : List Int).map wV).length = 4 from ((List.length_map _).trans (okLen okW_00))).trans (show ((List.replicate 4 (0 : Int) : List Int).map wV).length = 4 from (by simp only [List.length_map, List.length_set, List.length_replicate, List.length_cons, List.length_nil]; first | done | assumption | exact from_len _ | exact of_len _ | exact ofZ_len _ | exact (ofW_ok _).1 | exact (fullW_W _).1 | exact (okW_with (by assumption)).1 | exact (okW_less (by assumption)).1 | exact put_len (from_len _) | exact orD_len _ _ | exact andD_len _ _ | exact minusD_len _ _ | exact fullD_len _ | (refine okLen ?_; (repeat (first | assumption | exact ofW_ok _ | exact fullW_W _ | apply okW_with | apply okW_less | refine okW_orS ?_ ?_ | refine okW_andS ?_ ?_ | refine okW_minusS ?_ ?_)); done) | omega | rfl)).symm) bx46) ?_
   rintro d_ v_ w70 ⟨rfl, g71, bx72⟩
   refine ⟨_, rfl, fun act74 f73 => ?_⟩
   clear f68
   have szw70 := g71.size
   replace e0 := e0.gr g71 (fun k h => by injection h; omega)
   replace r8 := r8.gr g71 (fun k h => by injection h; omega)
   replace r9 := r9.gr g71 (fun k h => by injection h; omega)
   replace bx10 := bx10.gr g71 (fun h => by injection h; omega)
   replace bx21 := bx21.gr g71 (fun h => by injection h; omega)
   replace bx33 := bx33.gr g71 (fun h => by injection h; omega)
   clear bx46 g71
   refine At.rd f73 1 [[]] [(9, .slice none 0 0)] [] (by kernel_rfl) trivial (fun act82 f81 => ?_)
   clear f73
   refine At.done rfl ?_
   refine t_n ?_
   refine wp_ret ?_
   refine t_r ?_
   refine ret2B_ f81 (sl := 8) (cs := (([0, 0, 0, 0] : List Int).map wV)) (m := 4) (q := 9) (v := .slice none 0 0) rfl (by kernel_rfl) (by kernel_rfl) (by kernel_rfl) ((List.length_map _).trans (okLen okW_00)) bx72 ?_
   exact ⟨none, 0, _, [], rfl, e0, OwnR.nil, okW_00, .inl ⟨hRn, rfl, rfl⟩⟩
  ·have q83 := bne_eq_false_iff_eq.1 h64
   rcases Bool.eq_false_or_eq_true ((p : Int) != 0) with h84 | h84
   ·have q85 := bne_iff_ne.1 h84
    refine At.rd f62 10 [[], [], [.as_ (.bool false)], [], [], [.as_ (.bool true)], [], [], [], []] [(38, .bool ((p : Int) != 1)), (37, .bool ((p : Int) != 1)), (36, .bool ((p : Int) != 1)), (35, .int .i64 (p)), (34, .bool true), (33, .bool ((p : Int) != 0)), (32, .int .i64 (p)), (31, .bool false), (30, .bool (((rightP g).2 : Int) != 0)), (29, .int .i64 ((rightP g).2))] [((.bool (((rightP g).2 : Int) != 0) : Value) = .bool false), ((.bool ((p : Int) != 0) : Value) = .bool true)] (by kernel_rfl) ⟨(congrArg Value.bool h64), (congrArg Value.bool h84), trivial⟩ (fun act87 f86 => ?_)
    clear f62
    refine At.done rfl ?_
    refine t_n ?_
    refine cond_S f86 (t := (p : Int) != 1) rfl (fun h88 => ?_) (fun h88 => ?_)
    ·have q89 := bne_iff_ne.1 h88
     refine wp_seq ?_
     have hRn : ¬ (isR g = true ∧ (p = 0 ∨ p = 1)) := right_no3 (by omega)
     refine At.start ?_
     refine At.rd f86 1 [[]] [(39, .agg (([0, 0, 0, 0] : List Int).map wV).toArray)] [] (by kernel_rfl) trivial (fun act91 f90 => ?_)
     clear f86
     refine At.act f90 (storeBlk (t := 28) (b := w22.heap.size) (n := 4) (cs' := (([0, 0, 0, 0] : List Int).map wV)) (by kernel_rfl) (by kernel_rfl) ((List.length_map _).trans (okLen okW_00)) oneW_ ((show (([0, 0, 0, 0] : List Int).map wV).length = 4 from ((List.length_map _).trans (okLen okW_00))).trans (show ((List.replicate 4 (0 : Int) : List Int).map wV).length = 4 from (by simp only [List.length_map, List.length_set, List.length_replicate, List.length_cons, List.length_nil]; first | done | assumption | exact from_len _ | exact of_len _ | exact ofZ_len _ | exact (ofW_ok _).1 | exact (fullW_W _).1 | exact (okW_with (by assumption)).1 | exact (okW_less (by assumption)).1 | exact put_len (from_len _) | exact orD_len _ _ | exact andD_len _ _ | exact minusD_len _ _ | exact fullD_len _ | (refine okLen ?_; (repeat (first | assumption | exact ofW_ok _ | exact fullW_W _ | apply okW_with | apply okW_less | refine okW_orS ?_ ?_ | refine okW_andS ?_ ?_ | refine okW_minusS ?_ ?_)); done) | omega | rfl)).symm) bx46) ?_
     rintro d_ v_ w92 ⟨rfl, g93, bx94⟩
     refine ⟨_, rfl, fun act96 f95 => ?_⟩
     clear f90
     have szw92 := g93.size
     replace e0 := e0.gr g93 (fun k h => by injection h; omega)
     replace r8 := r8.gr g93 (fun k h => by injection h; omega)
     replace r9 := r9.gr g93 (fun k h => by injection h; omega)
     replace bx10 := bx10.gr g93 (fun h => by injection h; omega)
     replace bx21 := bx21.gr g93 (fun h => by injection h; omega)
     replace bx33 := bx33.gr g93 (fun h => by injection h; omega)
     clear bx46 g93
     refine At.rd f95 1 [[]] [(9, .slice none 0 0)] [] (by kernel_rfl) trivial (fun act104 f103 => ?_)
     clear f95
     refine At.done rfl ?_
     refine t_n ?_
     refine wp_ret ?_
     refine t_r ?_
     refine ret2B_ f103 (sl := 8) (cs := (([0, 0, 0, 0] : List Int).map wV)) (m := 4) (q := 9) (v := .slice none 0 0) rfl (by kernel_rfl) (by kernel_rfl) (by kernel_rfl) ((List.length_map _).trans (okLen okW_00)) bx94 ?_
     exact ⟨none, 0, _, [], rfl, e0, OwnR.nil, okW_00, .inl ⟨hRn, rfl, rfl⟩⟩
    ·have q105 := bne_eq_false_iff_eq.1 h88
     refine wp_skip ?_
     refine t_n ?_
     have f106 := f86.sub (r := [(8, .pointer (some ⟨w22.heap.size, 0, none⟩)), (7, .pointer (some ⟨w11.heap.size, 0, none⟩)), (5, .pointer (some ⟨w1.heap.size, 0, none⟩)), (4, .pointer (some ⟨w.heap.size, 0, none⟩)), (2, .int .i64 (p))]) ⟨rfl, rfl, rfl, rfl, rfl, trivial⟩
     exact ⟨f106, e0, r8, r9, bx10, bx21, bx33, bx46, (by omega), (by omega), (by omega)⟩
   ·have q107 := bne_eq_false_iff_eq.1 h84
    refine At.rd f62 10 [[], [], [.as_ (.bool false)], [], [], [.as_ (.bool false)], [], [], [], []] [(38, .bool false), (37, .bool false), (36, undef), (35, undef), (34, .bool false), (33, .bool ((p : Int) != 0)), (32, .int .i64 (p)), (31, .bool false), (30, .bool (((rightP g).2 : Int) != 0)), (29, .int .i64 ((rightP g).2))] [((.bool (((rightP g).2 : Int) != 0) : Value) = .bool false), ((.bool ((p : Int) != 0) : Value) = .bool false)] (by kernel_rfl) ⟨(congrArg Value.bool h64), (congrArg Value.bool h84), trivial⟩ (fun act109 f108 => ?_)
    clear f62
    refine At.done rfl ?_
    refine t_n ?_
    refine cond_F f108 rfl ?_
    refine wp_skip ?_
    refine t_n ?_
    have f110 := f108.sub (r := [(8, .pointer (some ⟨w22.heap.size, 0, none⟩)), (7, .pointer (some ⟨w11.heap.size, 0, none⟩)), (5, .pointer (some ⟨w1.heap.size, 0, none⟩)), (4, .pointer (some ⟨w.heap.size, 0, none⟩)), (2, .int .i64 (p))]) ⟨rfl, rfl, rfl, rfl, rfl, trivial⟩
    exact ⟨f110, e0, r8, r9, bx10, bx21, bx33, bx46, (by omega), (by omega), (by omega)⟩
 ·clear r8
  clear r9
  clear bx10
  clear bx21
  clear bx33
  clear bx46
  clear f47 e0
  intro act111 w112 ⟨f113, e114, r115, r116, bx117, bx118, bx119, bx120, i121, i122, i123⟩
  have szw112 := e114.size
  have := bx117.lt
  have := bx118.lt
  have := bx119.lt
  have := bx120.lt
  refine wp_seq ?_
  have hR : isR g = true := right_of2 (by omega)
  have hp01 : p = 0 ∨ p = 1 := by omega
  have hG := isR_ok hR
  have hn1 := hG.n1
  have hn0 := hG.n0
  have hpl := hG.pl
  have hml := hG.ml
  have hnd := mv_nd hG
  refine At.start ?_
  refine At.rd f113 4 [[], [.ld (.slice Ag0 g.ow.length cg0)], [], []] [(12, .int .i64 (((g.ow.length : Nat) : Int))), (42, .int .i64 (((g.ow.length : Nat) : Int))), (41, .slice Ag0 g.ow.length cg0), (40, .pointer (some ⟨w.heap.size, 0, none⟩))] [(w112.cell? ⟨w.heap.size, 0, none⟩ = some (.slice Ag0 g.ow.length cg0))] (by kernel_rfl) ⟨(bx117.cell (i := 0) rfl), trivial⟩ (fun act125 f124 => ?_)
  clear f113
  refine At.done rfl ?_
  refine t_n ?_
  refine wp_seq (cut (fun a_ w_ => (Frm 163 a_ [(12, .int .i64 (((g.ow.length : Nat) : Int))), (8, .pointer (some ⟨w22.heap.size, 0, none⟩)), (7, .pointer (some ⟨w11.heap.size, 0, none⟩)), (5, .pointer (some ⟨w1.heap.size, 0, none⟩)), (4, .pointer (some ⟨w.heap.size, 0, none⟩)), (2, .int .i64 (p))]) ∧ (Ext w w_) ∧ (RdG w_ 0 w.heap.size Ag0 Ag1 Ag2 cg0 cg1 cg2 g) ∧ (RdT w_ 0 w.heap.size) ∧ (Bx w_ (w.heap.size) [.slice Ag0 g.ow.length cg0, .slice Ag1 g.pr.length cg1, .slice Ag2 g.mv.length cg2] 25) ∧ (Bx w_ (w1.heap.size) (((inS g s : List Int) : List Int).map wV) 28) ∧ (Bx w_ (w11.heap.size) ((t : List Int).map wV) 28) ∧ (Bx w_ (w22.heap.size) ((List.replicate 4 (0 : Int) : List Int).map wV) 28) ∧ (w112.heap.size ≤ w_.heap.size)) ?_ ?_)
  ·obtain ⟨Cs126, hCs127⟩ : ∃ c : List (Addr × Value), c = [] := ⟨_, rfl⟩
   have hS128 : HoldsC Cs126 w112 := by rw [hCs127]; exact trivial
   refine AtH.start Cs126 5 #[false, false, false, false, false] (by kernel_rfl) rfl rfl (fun w130 hw131 => ?_)
   have g129 := gr_drew hw131
   have hS132 := hS128.gr g129
   have szw130 := g129.size
   replace e114 := e114.gr g129 no_row
   replace r115 := r115.gr g129 (fun _ h => by cases h)
   replace r116 := r116.gr g129 (fun _ h => by cases h)
   replace bx117 := bx117.gr g129 (by simp)
   replace bx118 := bx118.gr g129 (by simp)
   replace bx119 := bx119.gr g129 (by simp)
   replace bx120 := bx120.gr g129 (by simp)
   clear g129 hw131 hS128
   refine AtH.rd (by kernel_rfl) (fun d v c a w h => by cases d <;> exact h) hS132 [1] [[]] [(44, .int .i64 (((g.ow.length : Nat) : Int)))] #[false, true, false, false, false] [] 4 f124 (by kernel_rfl) trivial (fun act141 f140 => ?_)
   clear f124
   refine AtH.all [0, 2] 3 (by kernel_rfl) (by simp) ⟨?_, ?_, trivial⟩
   ·refine OneH.seq f140 [[.cs ((s : List Int).map wV)]] [(43, .agg ((s : List Int).map wV).toArray)] w130 [(((s : List Int).map wV).length = 4), (∀ (j : Nat) (v : Value), ((s : List Int).map wV)[j]? = some v → w130.cell? ((⟨w1.heap.size, 0, none⟩ : Addr).add j) = some v)] #[true, true, false, false, false] (by kernel_rfl) (by kernel_rfl) (by kernel_rfl) ⟨((List.length_map _).trans (by assumption)), bx118.whole, trivial⟩ (fun act143 w144 hw145 f142 => ?_)
    obtain rfl : w130 = w144 := hw145.symm
    clear f140
    refine ⟨hS132, ?_⟩
    refine AtH.all [2] 2 (by kernel_rfl) (by simp) ⟨?_, trivial⟩
    refine OneH.call f142 20 #[.int .i64 (((g.ow.length : Nat) : Int))] (some 45) #[true, true, true, false, false] (by kernel_rfl) (by kernel_rfl) (full_any (n := ((g.ow.length : Nat) : Int)) (by omega)) ?_
    rintro e_ w147 ⟨rfl, he⟩
    refine ⟨_, rfl, _, rfl, fun act148 f149 => ?_⟩
    clear f142
    have g150 := gr_ext he
    have hS146 := hS132.gr g150
    have szw147 := g150.size
    replace e114 := e114.gr g150 no_row
    replace r115 := r115.gr g150 (fun _ h => by cases h)
    replace r116 := r116.gr g150 (fun _ h => by cases h)
    replace bx117 := bx117.gr g150 (by simp)
    replace bx118 := bx118.gr g150 (by simp)
    replace bx119 := bx119.gr g150 (by simp)
    replace bx120 := bx120.gr g150 (by simp)
    clear g150 he
    refine ⟨hS146, ?_⟩
    refine AtH.all [3] 1 (by kernel_rfl) (by simp) ⟨?_, trivial⟩
    refine OneH.call f149 19 #[.agg ((s : List Int).map wV).toArray, .agg ((fullW ((g.ow.length : Nat) : Int) : List Int).map wV).toArray] (some 46) #[true, true, true, true, false] (by kernel_rfl) (by kernel_rfl) ((andS_any (s := s) (t := fullW ((g.ow.length : Nat) : Int)) (by assumption) (fullW_W _)).mono (R' := fun e w' => e = .returned (.agg (((inS g s : List Int) : List Int).map wV).toArray) ∧ Ext _ w') (fun e_ w_ h_ => by rw [show (andS s (fullW ((g.ow.length : Nat) : Int)) : List Int) = (inS g s : List Int) from rfl] at h_; exact h_)) ?_
    rintro e_ w159 ⟨rfl, he⟩
    refine ⟨_, rfl, _, rfl, fun act160 f161 => ?_⟩
    clear f149
    have g162 := gr_ext he
    have hS158 := hS146.gr g162
    have szw159 := g162.size
    replace e114 := e114.gr g162 no_row
    replace r115 := r115.gr g162 (fun _ h => by cases h)
    replace r116 := r116.gr g162 (fun _ h => by cases h)
    replace bx117 := bx117.gr g162 (by simp)
    replace bx118 := bx118.gr g162 (by simp)
    replace bx119 := bx119.gr g162 (by simp)
    replace bx120 := bx120.gr g162 (by simp)
    clear g162 he
    refine ⟨hS158, ?_⟩
    refine AtH.all [4] 0 (by kernel_rfl) (by simp) ⟨?_, trivial⟩
    refine OneH.act f161 #[true, true, true, true, true] (by kernel_rfl) (storeBlk (t := 28) (b := w1.heap.size) (n := 4) (cs' := (((inS g s : List Int) : List Int).map wV)) (by kernel_rfl) (by kernel_rfl) ((List.length_map _).trans (okLen (inS_ok (by assumption)))) oneW_ ((show (((inS g s : List Int) : List Int).map wV).length = 4 from ((List.length_map _).trans (okLen (inS_ok (by assumption))))).trans (show ((s : List Int).map wV).length = 4 from ((List.length_map _).trans (by assumption))).symm) bx118) ?_
    rintro d_ v_ w171 ⟨rfl, g172, bx173⟩
    have hS176 := hS158.gr' g172 (by rw [hCs127]; exact trivial)
    refine ⟨_, rfl, fun act175 f174 => ⟨hS176, ?_⟩⟩
    clear f161
    have szw171 := g172.size
    replace e114 := e114.gr g172 (fun k h => by injection h; omega)
    replace r115 := r115.gr g172 (fun k h => by injection h; omega)
    replace r116 := r116.gr g172 (fun k h => by injection h; omega)
    replace bx117 := bx117.gr g172 (fun h => by injection h; omega)
    replace bx119 := bx119.gr g172 (fun h => by injection h; omega)
    replace bx120 := bx120.gr g172 (fun h => by injection h; omega)
    clear bx118 g172
    refine AtH.done (by kernel_rfl) ?_
    clear hS176
    refine t_n ?_
    have f183 := f174.sub (r := [(12, .int .i64 (((g.ow.length : Nat) : Int))), (8, .pointer (some ⟨w22.heap.size, 0, none⟩)), (7, .pointer (some ⟨w11.heap.size, 0, none⟩)), (5, .pointer (some ⟨w1.heap.size, 0, none⟩)), (4, .pointer (some ⟨w.heap.size, 0, none⟩)), (2, .int .i64 (p))]) ⟨rfl, rfl, rfl, rfl, rfl, rfl, trivial⟩
    exact ⟨f183, e114, r115, r116, bx117, bx173, bx119, bx120, (by omega)⟩
   ·refine OneH.call f140 20 #[.int .i64 (((g.ow.length : Nat) : Int))] (some 45) #[false, true, true, false, false] (by kernel_rfl) (by kernel_rfl) (full_any (n := ((g.ow.length : Nat) : Int)) (by omega)) ?_
    rintro e_ w185 ⟨rfl, he⟩
    refine ⟨_, rfl, _, rfl, fun act186 f187 => ?_⟩
    clear f140
    have g188 := gr_ext he
    have hS184 := hS132.gr g188
    have szw185 := g188.size
    replace e114 := e114.gr g188 no_row
    replace r115 := r115.gr g188 (fun _ h => by cases h)
    replace r116 := r116.gr g188 (fun _ h => by cases h)
    replace bx117 := bx117.gr g188 (by simp)
    replace bx118 := bx118.gr g188 (by simp)
    replace bx119 := bx119.gr g188 (by simp)
    replace bx120 := bx120.gr g188 (by simp)
    clear g188 he
    refine ⟨hS184, ?_⟩
    refine AtH.all [0] 2 (by kernel_rfl) (by simp) ⟨?_, trivial⟩
    refine OneH.seq f187 [[.cs ((s : List Int).map wV)]] [(43, .agg ((s : List Int).map wV).toArray)] w185 [(((s : List Int).map wV).length = 4), (∀ (j : Nat) (v : Value), ((s : List Int).map wV)[j]? = some v → w185.cell? ((⟨w1.heap.size, 0, none⟩ : Addr).add j) = some v)] #[true, true, true, false, false] (by kernel_rfl) (by kernel_rfl) (by kernel_rfl) ⟨((List.length_map _).trans (by assumption)), bx118.whole, trivial⟩ (fun act197 w198 hw199 f196 => ?_)
    obtain rfl : w185 = w198 := hw199.symm
    clear f187
    refine ⟨hS184, ?_⟩
    refine AtH.all [3] 1 (by kernel_rfl) (by simp) ⟨?_, trivial⟩
    refine OneH.call f196 19 #[.agg ((s : List Int).map wV).toArray, .agg ((fullW ((g.ow.length : Nat) : Int) : List Int).map wV).toArray] (some 46) #[true, true, true, true, false] (by kernel_rfl) (by kernel_rfl) ((andS_any (s := s) (t := fullW ((g.ow.length : Nat) : Int)) (by assumption) (fullW_W _)).mono (R' := fun e w' => e = .returned (.agg (((inS g s : List Int) : List Int).map wV).toArray) ∧ Ext _ w') (fun e_ w_ h_ => by rw [show (andS s (fullW ((g.ow.length : Nat) : Int)) : List Int) = (inS g s : List Int) from rfl] at h_; exact h_)) ?_
    rintro e_ w201 ⟨rfl, he⟩
    refine ⟨_, rfl, _, rfl, fun act202 f203 => ?_⟩
    clear f196
    have g204 := gr_ext he
    have hS200 := hS184.gr g204
    have szw201 := g204.size
    replace e114 := e114.gr g204 no_row
    replace r115 := r115.gr g204 (fun _ h => by cases h)
    replace r116 := r116.gr g204 (fun _ h => by cases h)
    replace bx117 := bx117.gr g204 (by simp)
    replace bx118 := bx118.gr g204 (by simp)
    replace bx119 := bx119.gr g204 (by simp)
    replace bx120 := bx120.gr g204 (by simp)
    clear g204 he
    refine ⟨hS200, ?_⟩
    refine AtH.all [4] 0 (by kernel_rfl) (by simp) ⟨?_, trivial⟩
    refine OneH.act f203 #[true, true, true, true, true] (by kernel_rfl) (storeBlk (t := 28) (b := w1.heap.size) (n := 4) (cs' := (((inS g s : List Int) : List Int).map wV)) (by kernel_rfl) (by kernel_rfl) ((List.length_map _).trans (okLen (inS_ok (by assumption)))) oneW_ ((show (((inS g s : List Int) : List Int).map wV).length = 4 from ((List.length_map _).trans (okLen (inS_ok (by assumption))))).trans (show ((s : List Int).map wV).length = 4 from ((List.length_map _).trans (by assumption))).symm) bx118) ?_
    rintro d_ v_ w213 ⟨rfl, g214, bx215⟩
    have hS218 := hS200.gr' g214 (by rw [hCs127]; exact trivial)
    refine ⟨_, rfl, fun act217 f216 => ⟨hS218, ?_⟩⟩
    clear f203
    have szw213 := g214.size
    replace e114 := e114.gr g214 (fun k h => by injection h; omega)
    replace r115 := r115.gr g214 (fun k h => by injection h; omega)
    replace r116 := r116.gr g214 (fun k h => by injection h; omega)
    replace bx117 := bx117.gr g214 (fun h => by injection h; omega)
    replace bx119 := bx119.gr g214 (fun h => by injection h; omega)
    replace bx120 := bx120.gr g214 (fun h => by injection h; omega)
    clear bx118 g214
    refine AtH.done (by kernel_rfl) ?_
    clear hS218
    refine t_n ?_
    have f225 := f216.sub (r := [(12, .int .i64 (((g.ow.length : Nat) : Int))), (8, .pointer (some ⟨w22.heap.size, 0, none⟩)), (7, .pointer (some ⟨w11.heap.size, 0, none⟩)), (5, .pointer (some ⟨w1.heap.size, 0, none⟩)), (4, .pointer (some ⟨w.heap.size, 0, none⟩)), (2, .int .i64 (p))]) ⟨rfl, rfl, rfl, rfl, rfl, rfl, trivial⟩
    exact ⟨f225, e114, r115, r116, bx117, bx215, bx119, bx120, (by omega)⟩
  ·clear r115
   clear r116
   clear bx117
   clear bx118
   clear bx119
   clear bx120
   clear f124 e114
   intro act226 w227 ⟨f228, e229, r230, r231, bx232, bx233, bx234, bx235, szz236⟩
   have szw227 := e229.size
   have := bx232.lt
   have := bx233.lt
   have := bx234.lt
   have := bx235.lt
   refine wp_seq ?_
   refine At.start ?_
   refine At.rd f228 1 [[]] [(47, .int .i64 (((g.ow.length : Nat) : Int)))] [] (by kernel_rfl) trivial (fun act238 f237 => ?_)
   clear f228
   refine At.act f237 (makeR (k1 := .i64) (k2 := .i64) (α := SliceV) (e := 22) (bytes := 24) (t := 23) (d := 48) (n := ((g.ow.length : Nat) : Int)) (cap := ((g.ow.length : Nat) : Int)) ((⟨none, 0, 0⟩ : SliceV)) (by kernel_rfl) rfl (by kernel_rfl) (by omega) (by omega) (by omega) (by omega)) ?_
   rintro d_ v_ w239 ⟨rfl, rfl, g240, hO241⟩
   refine ⟨_, rfl, fun act245 f244 => ?_⟩
   clear f237
   replace hO241 := hO241 (Sx (w227.heap.size) []) (Nat.le_refl _)
   have szw239 := g240.size
   replace e229 := e229.gr g240 no_row
   replace r230 := r230.gr g240 (fun _ h => by cases h)
   replace r231 := r231.gr g240 (fun _ h => by cases h)
   replace bx232 := bx232.gr g240 (by simp)
   replace bx233 := bx233.gr g240 (by simp)
   replace bx234 := bx234.gr g240 (by simp)
   replace bx235 := bx235.gr g240 (by simp)
   clear g240
   have : (List.replicate (((g.ow.length : Nat) : Int) : Int).toNat ((⟨none, 0, 0⟩ : SliceV) : SliceV)).length = (((g.ow.length : Nat) : Int) : Int).toNat := List.length_replicate
   have ll253 : OwnLL w239 (w227.heap.size) [] (some ⟨w227.heap.size, 0, none⟩) ((((g.ow.length : Nat) : Int) : Int).toNat) 22 3 (List.replicate (((g.ow.length : Nat) : Int) : Int).toNat ([] : List Int) : List (List Int)) := hO241.ll
   have : (List.replicate (((g.ow.length : Nat) : Int) : Int).toNat ([] : List Int)).length = (((g.ow.length : Nat) : Int) : Int).toNat := List.length_replicate
   refine At.rd f244 1 [[]] [(13, .slice (some ⟨w227.heap.size, 0, none⟩) ((List.replicate (((g.ow.length : Nat) : Int) : Int).toNat ((⟨none, 0, 0⟩ : SliceV) : SliceV)).length) ((((g.ow.length : Nat) : Int) : Int).toNat))] [] (by kernel_rfl) trivial (fun act255 f254 => ?_)
   clear f244
   refine At.done rfl ?_
   refine t_n ?_
   refine wp_seq ?_
   refine At.start ?_
   refine At.rd f254 1 [[]] [(49, .int .i64 (((g.ow.length : Nat) : Int)))] [] (by kernel_rfl) trivial (fun act257 f256 => ?_)
   clear f254
   refine At.act f256 (makeR (k1 := .i64) (k2 := .i64) (α := Int) (e := 3) (bytes := 8) (t := 22) (d := 50) (n := ((g.ow.length : Nat) : Int)) (cap := ((g.ow.length : Nat) : Int)) (0) (by kernel_rfl) rfl (by kernel_rfl) (by omega) (by omega) (by omega) (by omega)) ?_
   rintro d_ v_ w258 ⟨rfl, rfl, g259, hO260⟩
   refine ⟨_, rfl, fun act264 f263 => ?_⟩
   clear f256
   replace hO260 := hO260 (Sx (w239.heap.size) [obk (some ⟨w227.heap.size, 0, none⟩)]) ⟨ll253.ne_new, (Nat.le_refl _)⟩
   have szw258 := g259.size
   replace e229 := e229.gr g259 no_row
   replace r230 := r230.gr g259 (fun _ h => by cases h)
   replace r231 := r231.gr g259 (fun _ h => by cases h)
   replace bx232 := bx232.gr g259 (by simp)
   replace bx233 := bx233.gr g259 (by simp)
   replace bx234 := bx234.gr g259 (by simp)
   replace bx235 := bx235.gr g259 (by simp)
   have ow272 : OwnLL w258 (w227.heap.size) [obk (some ⟨w239.heap.size, 0, none⟩)] (some ⟨w227.heap.size, 0, none⟩) ((((g.ow.length : Nat) : Int) : Int).toNat) 22 3 (List.replicate (((g.ow.length : Nat) : Int) : Int).toNat ([] : List Int) : List (List Int)) := ll253.grA g259 (fun _ _ h => by cases h) (fun k hk hs => ⟨(fun e => by simp only [obk, Option.map_some] at e; injection e; omega), hs⟩)
   clear ll253
   clear g259
   have : (List.replicate (((g.ow.length : Nat) : Int) : Int).toNat (0 : Int)).length = (((g.ow.length : Nat) : Int) : Int).toNat := List.length_replicate
   refine At.rd f263 1 [[]] [(14, .slice (some ⟨w239.heap.size, 0, none⟩) ((List.replicate (((g.ow.length : Nat) : Int) : Int).toNat (0 : Int)).length) ((((g.ow.length : Nat) : Int) : Int).toNat))] [] (by kernel_rfl) trivial (fun act274 f273 => ?_)
   clear f263
   refine At.done rfl ?_
   refine t_n ?_
   refine wp_seq ?_
   refine At.start ?_
   refine At.rd f273 1 [[]] [(51, .int .i64 (((g.ow.length : Nat) : Int)))] [] (by kernel_rfl) trivial (fun act276 f275 => ?_)
   clear f273
   refine At.act f275 (makeR (k1 := .i64) (k2 := .i64) (α := Int) (e := 3) (bytes := 8) (t := 22) (d := 52) (n := ((g.ow.length : Nat) : Int)) (cap := ((g.ow.length : Nat) : Int)) (0) (by kernel_rfl) rfl (by kernel_rfl) (by omega) (by omega) (by omega) (by omega)) ?_
   rintro d_ v_ w277 ⟨rfl, rfl, g278, hO279⟩
   refine ⟨_, rfl, fun act283 f282 => ?_⟩
   clear f275
   replace hO279 := hO279 (Sx (w258.heap.size) [obk (some ⟨w227.heap.size, 0, none⟩), obk (some ⟨w239.heap.size, 0, none⟩)]) ⟨ow272.ne_new, hO260.ne_new, (Nat.le_refl _)⟩
   have szw277 := g278.size
   replace e229 := e229.gr g278 no_row
   replace r230 := r230.gr g278 (fun _ h => by cases h)
   replace r231 := r231.gr g278 (fun _ h => by cases h)
   replace bx232 := bx232.gr g278 (by simp)
   replace bx233 := bx233.gr g278 (by simp)
   replace bx234 := bx234.gr g278 (by simp)
   replace bx235 := bx235.gr g278 (by simp)
   replace ow272 : OwnLL w277 (w227.heap.size) [obk (some ⟨w258.heap.size, 0, none⟩), obk (some ⟨w239.heap.size, 0, none⟩)] (some ⟨w227.heap.size, 0, none⟩) ((((g.ow.length : Nat) : Int) : Int).toNat) 22 3 (List.replicate (((g.ow.length : Nat) : Int) : Int).toNat ([] : List Int) : List (List Int)) := ow272.grA g278 (fun _ _ h => by cases h) (fun k hk hs => ⟨(fun e => by simp only [obk, Option.map_some] at e; injection e; omega), hs.1, hs.2⟩)
   have ow292 : OwnR w277 (Sx (w239.heap.size) [obk (some ⟨w258.heap.size, 0, none⟩), obk (some ⟨w227.heap.size, 0, none⟩)]) (some ⟨w239.heap.size, 0, none⟩) ((((g.ow.length : Nat) : Int) : Int).toNat) 3 (List.replicate (((g.ow.length : Nat) : Int) : Int).toNat (0 : Int) : List Int) := hO260.grA g278 (fun _ _ h => by cases h) (fun k hk hs => ⟨(fun e => by simp only [obk, Option.map_some] at e; injection e; omega), hs.1, hs.2⟩)
   clear hO260
   clear g278
   have : (List.replicate (((g.ow.length : Nat) : Int) : Int).toNat (0 : Int)).length = (((g.ow.length : Nat) : Int) : Int).toNat := List.length_replicate
   refine At.rd f282 1 [[]] [(15, .slice (some ⟨w258.heap.size, 0, none⟩) ((List.replicate (((g.ow.length : Nat) : Int) : Int).toNat (0 : Int)).length) ((((g.ow.length : Nat) : Int) : Int).toNat))] [] (by kernel_rfl) trivial (fun act294 f293 => ?_)
   clear f282
   refine At.done rfl ?_
   refine t_n ?_
   refine wp_seq ?_
   refine wp_seq ?_
   refine At.start ?_
   refine At.rd f293 2 [[], []] [(54, .int .i64 (0)), (53, .int .i64 (((g.ow.length : Nat) : Int)))] [] (by kernel_rfl) trivial (fun act296 f295 => ?_)
   clear f293
   refine At.done rfl ?_
   refine t_n ?_
   refine wp_block ?_
   have f304 := f295.as 15 (.slice (some ⟨w258.heap.size, 0, none⟩) ((List.replicate (((g.ow.length : Nat) : Int) : Int).toNat (0 : Int)).length) ((((g.ow.length : Nat) : Int) : Int).toNat)) (.slice (some ⟨w258.heap.size, 0, none⟩) ((List.replicate (((g.ow.length : Nat) : Int) : Int).toNat (0 : Int) : List Int).length) ((((g.ow.length : Nat) : Int) : Int).toNat)) rfl (slice_len (by first | rfl | omega | (simp; done) | (simp; omega)))
   clear f295
   have f305 := f304.as 14 (.slice (some ⟨w239.heap.size, 0, none⟩) ((List.replicate (((g.ow.length : Nat) : Int) : Int).toNat (0 : Int)).length) ((((g.ow.length : Nat) : Int) : Int).toNat)) (.slice (some ⟨w239.heap.size, 0, none⟩) ((List.replicate (((g.ow.length : Nat) : Int) : Int).toNat (0 : Int) : List Int).length) ((((g.ow.length : Nat) : Int) : Int).toNat)) rfl (slice_len (by first | rfl | omega | (simp; done) | (simp; omega)))
   clear f304
   have f306 := f305.as 13 (.slice (some ⟨w227.heap.size, 0, none⟩) ((List.replicate (((g.ow.length : Nat) : Int) : Int).toNat ((⟨none, 0, 0⟩ : SliceV) : SliceV)).length) ((((g.ow.length : Nat) : Int) : Int).toNat)) (.slice (some ⟨w227.heap.size, 0, none⟩) ((List.replicate (((g.ow.length : Nat) : Int) : Int).toNat ([] : List Int) : List (List Int)).length) ((((g.ow.length : Nat) : Int) : Int).toNat)) rfl (slice_len (by first | rfl | omega | (simp; done) | (simp; omega)))
   clear f305
   have f303 := f306.sub (r := [(54, .int .i64 (0)), (53, .int .i64 (((g.ow.length : Nat) : Int))), (15, .slice (some ⟨w258.heap.size, 0, none⟩) ((List.replicate (((g.ow.length : Nat) : Int) : Int).toNat (0 : Int) : List Int).length) ((((g.ow.length : Nat) : Int) : Int).toNat)), (14, .slice (some ⟨w239.heap.size, 0, none⟩) ((List.replicate (((g.ow.length : Nat) : Int) : Int).toNat (0 : Int) : List Int).length) ((((g.ow.length : Nat) : Int) : Int).toNat)), (13, .slice (some ⟨w227.heap.size, 0, none⟩) ((List.replicate (((g.ow.length : Nat) : Int) : Int).toNat ([] : List Int) : List (List Int)).length) ((((g.ow.length : Nat) : Int) : Int).toNat)), (8, .pointer (some ⟨w22.heap.size, 0, none⟩)), (7, .pointer (some ⟨w11.heap.size, 0, none⟩)), (5, .pointer (some ⟨w1.heap.size, 0, none⟩)), (4, .pointer (some ⟨w.heap.size, 0, none⟩)), (2, .int .i64 (p))]) ⟨rfl, rfl, rfl, rfl, rfl, rfl, rfl, rfl, rfl, rfl, trivial⟩
   refine loop_g (fun (m_ : Nat) a_ w_ => ∃ (i : Int) (fr : List (List Int)) (A_297 : Option Addr) (c_298 : Nat) (lf : List Int) (A_299 : Option Addr) (c_300 : Nat) (ms : List Int) (A_301 : Option Addr) (c_302 : Nat), m_ = ((g.ow.length : Int) - i).toNat ∧ (Frm 163 a_ [(54, .int .i64 (i)), (53, .int .i64 (((g.ow.length : Nat) : Int))), (15, .slice A_301 ms.length c_302), (14, .slice A_299 lf.length c_300), (13, .slice A_297 fr.length c_298), (8, .pointer (some ⟨w22.heap.size, 0, none⟩)), (7, .pointer (some ⟨w11.heap.size, 0, none⟩)), (5, .pointer (some ⟨w1.heap.size, 0, none⟩)), (4, .pointer (some ⟨w.heap.size, 0, none⟩)), (2, .int .i64 (p))]) ∧ (Ext w w_) ∧ (RdG w_ 0 w.heap.size Ag0 Ag1 Ag2 cg0 cg1 cg2 g) ∧ (RdT w_ 0 w.heap.size) ∧ (Bx w_ (w.heap.size) [.slice Ag0 g.ow.length cg0, .slice Ag1 g.pr.length cg1, .slice Ag2 g.mv.length cg2] 25) ∧ (Bx w_ (w1.heap.size) (((inS g s : List Int) : List Int).map wV) 28) ∧ (Bx w_ (w11.heap.size) ((t : List Int).map wV) 28) ∧ (Bx w_ (w22.heap.size) ((List.replicate 4 (0 : Int) : List Int).map wV) 28) ∧ (OwnLL w_ (w227.heap.size) [obk (A_301), obk (A_299)] A_297 c_298 22 3 (fr : List (List Int))) ∧ (OwnR w_ (Sx (w239.heap.size) [obk (A_301), obk (A_297)]) A_299 c_300 3 (lf : List Int)) ∧ (OwnR w_ (Sx (w258.heap.size) [obk (A_297), obk (A_299)]) A_301 c_302 3 (ms : List Int)) ∧ (0 ≤ i) ∧ (i ≤ (g.ow.length : Int)) ∧ (FrA g (inT g s) fr lf i 0) ∧ (ms.length = g.ow.length) ∧ (∀ j : Int, 0 ≤ j → j < i → gI ms j = -1) ∧ (w227.heap.size ≤ w_.heap.size) ∧ (w239.heap.size ≤ w_.heap.size) ∧ (w258.heap.size ≤ w_.heap.size)) _ ⟨0, (List.replicate (((g.ow.length : Nat) : Int) : Int).toNat ([] : List Int) : List (List Int)), some ⟨w227.heap.size, 0, none⟩, (((g.ow.length : Nat) : Int) : Int).toNat, (List.replicate (((g.ow.length : Nat) : Int) : Int).toNat (0 : Int) : List Int), some ⟨w239.heap.size, 0, none⟩, (((g.ow.length : Nat) : Int) : Int).toNat, (List.replicate (((g.ow.length : Nat) : Int) : Int).toNat (0 : Int) : List Int), some ⟨w258.heap.size, 0, none⟩, (((g.ow.length : Nat) : Int) : Int).toNat, rfl, f303, e229, r230, r231, bx232, bx233, bx234, bx235, ow272, ow292, hO279, (by omega), (by omega), (by simp only [Int.toNat_natCast]; exact fra0), (by simp), (fun j a b => by omega), (by omega), (by omega), (by omega)⟩ ?_
   clear f303 f306
   clear r230
   clear r231
   clear bx232
   clear bx233
   clear bx234
   clear bx235
   clear ow272
   clear ow292
   clear hO279
   clear e229
   intro m_ act307 w308 ⟨i, fr, A_297, c_298, lf, A_299, c_300, ms, A_301, c_302, hm310, f311, e309, r312, r313, bx314, bx315, bx316, bx317, r318, ow319, ow320, i321, i322, hfr, i323, hms, i324, i325, i326⟩
   have szw308 := e309.size
   have := bx314.lt
   have := bx315.lt
   have := bx316.lt
   have := bx317.lt
   have hfl_ := hfr.len
   have hll_ := hfr.ll
   refine wp_seq ?_
   refine At.start ?_
   refine At.rd f311 1 [[]] [(55, .bool (decide ((i : Int) < ((g.ow.length : Nat) : Int))))] [] (by kernel_rfl) trivial (fun act328 f327 => ?_)
   clear f311
   refine At.done rfl ?_
   refine t_n ?_
   refine wp_seq ?_
   refine cond_S f327 (t := decide ((i : Int) < ((g.ow.length : Nat) : Int))) rfl (fun h329 => ?_) (fun h329 => ?_)
   ·have q330 := of_decide_eq_true h329
    refine wp_skip ?_
    refine t_n ?_
    refine wp_seq ?_
    refine wp_block ?_
    refine wp_seq ?_
    refine At.start ?_
    refine At.rd f327 2 [[], []] [(16, .int .i64 (i)), (56, .int .i64 (i))] [] (by kernel_rfl) trivial (fun act332 f331 => ?_)
    clear f327
    refine At.done rfl ?_
    refine t_n ?_
    refine wp_seq ?_
    refine At.start ?_
    obtain ⟨ad333, hA334, hb337, hc336, hc335⟩ := ow320.get (i) (by omega) (by omega) (sz := 1) rfl
    refine At.rd f331 3 [[], [], [.ad ad333]] [(59, .pointer (some (ad333.add ((i : Int).toNat * 1)))), (58, .int .i64 (i)), (57, .slice A_301 ms.length c_302)] [(A_301 = some ad333), (0 ≤ (i : Int)), ((i : Int) < (ms.length : Nat))] (by kernel_rfl) ⟨hA334, (by omega), (by omega), trivial⟩ (fun act339 f338 => ?_)
    clear f331
    refine At.act f338 (storeR (α := Int) (t := 3) (i := i) (ad := ad333) (v := .int .i64 (-1)) (-1) (by kernel_rfl) rfl rfl (by kernel_rfl) hA334 ow320 (by omega) (by omega)) ?_
    rintro d_ v_ w340 ⟨rfl, g341, ow342⟩
    refine ⟨_, rfl, fun act345 f344 => ?_⟩
    clear f338
    have hl343 : ((ms).set (i : Int).toNat (-1)).length = (ms).length := List.length_set
    have szw340 := g341.size
    replace e309 := e309.gr g341 (fun k hk => by have := ow320.ge k hk; omega)
    replace r312 := r312.gr g341 (fun k hk => by have := ow320.ge k hk; omega)
    replace r313 := r313.gr g341 (fun k hk => by have := ow320.ge k hk; omega)
    replace bx314 := bx314.gr g341 (fun e => by have := ow320.ge _ e; omega)
    replace bx315 := bx315.gr g341 (fun e => by have := ow320.ge _ e; omega)
    replace bx316 := bx316.gr g341 (fun e => by have := ow320.ge _ e; omega)
    replace bx317 := bx317.gr g341 (fun e => by have := ow320.ge _ e; omega)
    have ow353 := r318.gr g341 (fun k hk => hk.1)
    clear r318
    replace ow319 := ow319.gr g341 (fun k hk => hk.1)
    clear ow320 g341
    refine At.done rfl ?_
    refine t_n ?_
    refine wp_seq ?_
    refine wp_seq ?_
    refine At.start ?_
    refine At.rd f344 2 [[.cs (((inS g s : List Int) : List Int).map wV)], []] [(61, .int .i64 (i)), (60, .agg (((inS g s : List Int) : List Int).map wV).toArray)] [((((inS g s : List Int) : List Int).map wV).length = 4), (∀ (j : Nat) (v : Value), (((inS g s : List Int) : List Int).map wV)[j]? = some v → w340.cell? ((⟨w1.heap.size, 0, none⟩ : Addr).add j) = some v)] (by kernel_rfl) ⟨((List.length_map _).trans (okLen (inS_ok (by assumption)))), bx315.whole, trivial⟩ (fun act356 f355 => ?_)
    clear f344
    refine At.call f355 23 #[.agg (((inS g s : List Int) : List Int).map wV).toArray, .int .i64 (i)] (some 62) (by kernel_rfl) (has_any (s := (inS g s : List Int)) (n := i) (inS_ok (by assumption))) ?_
    rintro e_ w357 ⟨rfl, he⟩
    refine ⟨_, rfl, _, rfl, fun act358 f359 => ?_⟩
    clear f355
    have g360 := gr_ext he
    have szw357 := g360.size
    replace e309 := e309.gr g360 no_row
    replace r312 := r312.gr g360 (fun _ h => by cases h)
    replace r313 := r313.gr g360 (fun _ h => by cases h)
    replace bx314 := bx314.gr g360 (by simp)
    replace bx315 := bx315.gr g360 (by simp)
    replace bx316 := bx316.gr g360 (by simp)
    replace bx317 := bx317.gr g360 (by simp)
    replace ow353 := ow353.gr g360 (fun _ _ h => by cases h)
    replace ow319 := ow319.gr g360 (fun _ _ h => by cases h)
    replace ow342 := ow342.gr g360 (fun _ _ h => by cases h)
    clear g360 he
    refine At.rd f359 1 [[]] [(63, .bool (!(hasW (inS g s : List Int) i)))] [] (by kernel_rfl) trivial (fun act372 f371 => ?_)
    clear f359
    refine At.done rfl ?_
    refine t_n ?_
    refine cond_S f371 (t := !(hasW (inS g s : List Int) i)) rfl (fun h373 => ?_) (fun h373 => ?_)
    ·have q374 : (hasW (inS g s : List Int) i) = false := by first | exact Eq.mp (Bool.not_eq_true' _) h373 | exact Eq.mp (Bool.not_eq_false' _) h373 | simpa using h373
     refine wp_exit ?_
     refine t_e ?_
     refine b_e ?_
     refine t_n ?_
     refine At.start ?_
     refine At.rd f371 2 [[.as_ (.int .i64 (i + 1))], []] [(54, .int .i64 (i + 1)), (94, .int .i64 (i + 1))] [((.int .i64 (IntKind.i64.wrap (i + 1)) : Value) = .int .i64 (i + 1))] (by kernel_rfl) ⟨(w64 (by omega) (by omega)), trivial⟩ (fun act377 f376 => ?_)
     clear f371
     refine At.done rfl ?_
     refine t_n ?_
     have f378 := f376.as 15 (.slice A_301 ms.length c_302) (.slice A_301 (((ms).set (i : Int).toNat (-1) : List Int).length) c_302) rfl (slice_len (by first | rfl | omega | (simp; done) | (simp; omega)))
     clear f376
     have f379 := f378.as 14 (.slice A_299 lf.length c_300) (.slice A_299 ((lf : List Int).length) c_300) rfl (slice_len (by first | rfl | omega | (simp; done) | (simp; omega)))
     clear f378
     have f380 := f379.as 13 (.slice A_297 fr.length c_298) (.slice A_297 ((fr : List (List Int)).length) c_298) rfl (slice_len (by first | rfl | omega | (simp; done) | (simp; omega)))
     clear f379
     have f381 := f380.sub (r := [(54, .int .i64 (i + 1)), (53, .int .i64 (((g.ow.length : Nat) : Int))), (15, .slice A_301 (((ms).set (i : Int).toNat (-1) : List Int).length) c_302), (14, .slice A_299 ((lf : List Int).length) c_300), (13, .slice A_297 ((fr : List (List Int)).length) c_298), (8, .pointer (some ⟨w22.heap.size, 0, none⟩)), (7, .pointer (some ⟨w11.heap.size, 0, none⟩)), (5, .pointer (some ⟨w1.heap.size, 0, none⟩)), (4, .pointer (some ⟨w.heap.size, 0, none⟩)), (2, .int .i64 (p))]) ⟨rfl, rfl, rfl, rfl, rfl, rfl, rfl, rfl, rfl, rfl, trivial⟩
     exact ⟨_, (by omega), (i + 1), (fr : List (List Int)), A_297, c_298, (lf : List Int), A_299, c_300, ((ms).set (i : Int).toNat (-1) : List Int), A_301, c_302, rfl, f381, e309, r312, r313, bx314, bx315, bx316, bx317, ow353, ow319, ow342, (by omega), (by omega), (fra_out hG hfr (by omega) (by omega) (by rw [← has_inT (by omega) (by omega)]; assumption)), (by rw [List.length_set]; assumption), (ms_next hms (by omega) (by omega)), (by omega), (by omega), (by omega)⟩
    ·have q382 : (hasW (inS g s : List Int) i) = true := by first | exact Eq.mp (Bool.not_eq_true' _) h373 | exact Eq.mp (Bool.not_eq_false' _) h373 | simpa using h373
     refine wp_skip ?_
     refine t_n ?_
     refine wp_seq ?_
     have hIi : gB (inT g s) i = true := by rw [← has_inT (by omega) (by omega)]; assumption
     have hrl := row_len hG (i := i) (by omega) (by omega)
     refine At.start ?_
     obtain ⟨ad384, R387, C388, hA385, _, _, hc386, hC389, r390⟩ := RdII.get r312.mv (i) (by omega) (by omega)
     have hl391 := r390.len
     refine At.rd f371 7 [[], [.ld (.slice Ag2 g.mv.length cg2)], [], [.ad ad384], [.ld (.slice R387 ((gL g.mv (i)).length) C388)], [], []] [(70, .int .i64 (0)), (69, .int .i64 ((((gL g.mv (i)).length : Nat) : Int))), (68, .slice R387 ((gL g.mv (i)).length) C388), (67, .pointer (some (ad384.add ((i : Int).toNat * 1)))), (66, .int .i64 (i)), (65, .slice Ag2 g.mv.length cg2), (64, .pointer (some ⟨w.heap.size, 2, none⟩))] [(w357.cell? ⟨w.heap.size, 2, none⟩ = some (.slice Ag2 g.mv.length cg2)), (Ag2 = some ad384), (0 ≤ (i : Int)), ((i : Int) < (g.mv.length : Nat)), (w357.cell? (ad384.add ((i : Int).toNat * 1)) = some (.slice R387 ((gL g.mv (i)).length) C388))] (by kernel_rfl) ⟨(bx314.cell (i := 2) rfl), hA385, (by omega), (by omega), hc386, trivial⟩ (fun act394 f393 => ?_)
     clear f371
     refine At.done rfl ?_
     refine t_n ?_
     refine wp_block ?_
     have f400 := f393.as 14 (.slice A_299 lf.length c_300) (.slice A_299 ((lf : List Int).length) c_300) rfl (slice_len (by first | rfl | omega | (simp; done) | (simp; omega)))
     clear f393
     have f401 := f400.as 13 (.slice A_297 fr.length c_298) (.slice A_297 ((fr : List (List Int)).length) c_298) rfl (slice_len (by first | rfl | omega | (simp; done) | (simp; omega)))
     clear f400
     have f399 := f401.sub (r := [(70, .int .i64 (0)), (69, .int .i64 ((((gL g.mv (i)).length : Nat) : Int))), (68, .slice R387 ((gL g.mv (i)).length) C388), (16, .int .i64 (i)), (54, .int .i64 (i)), (53, .int .i64 (((g.ow.length : Nat) : Int))), (15, .slice A_301 ms.length c_302), (14, .slice A_299 ((lf : List Int).length) c_300), (13, .slice A_297 ((fr : List (List Int)).length) c_298), (8, .pointer (some ⟨w22.heap.size, 0, none⟩)), (7, .pointer (some ⟨w11.heap.size, 0, none⟩)), (5, .pointer (some ⟨w1.heap.size, 0, none⟩)), (4, .pointer (some ⟨w.heap.size, 0, none⟩)), (2, .int .i64 (p))]) ⟨rfl, rfl, rfl, rfl, rfl, rfl, rfl, rfl, rfl, rfl, rfl, rfl, rfl, rfl, trivial⟩
     refine loop_g (fun (m_ : Nat) a_ w_ => ∃ (q : Int) (fr2 : List (List Int)) (A_395 : Option Addr) (c_396 : Nat) (lf2 : List Int) (A_397 : Option Addr) (c_398 : Nat), m_ = (((gL g.mv i).length : Int) - q).toNat ∧ (Frm 163 a_ [(70, .int .i64 (q)), (69, .int .i64 ((((gL g.mv (i)).length : Nat) : Int))), (68, .slice R387 ((gL g.mv (i)).length) C388), (16, .int .i64 (i)), (54, .int .i64 (i)), (53, .int .i64 (((g.ow.length : Nat) : Int))), (15, .slice A_301 ms.length c_302), (14, .slice A_397 lf2.length c_398), (13, .slice A_395 fr2.length c_396), (8, .pointer (some ⟨w22.heap.size, 0, none⟩)), (7, .pointer (some ⟨w11.heap.size, 0, none⟩)), (5, .pointer (some ⟨w1.heap.size, 0, none⟩)), (4, .pointer (some ⟨w.heap.size, 0, none⟩)), (2, .int .i64 (p))]) ∧ (Ext w w_) ∧ (RdG w_ 0 w.heap.size Ag0 Ag1 Ag2 cg0 cg1 cg2 g) ∧ (RdT w_ 0 w.heap.size) ∧ (Bx w_ (w.heap.size) [.slice Ag0 g.ow.length cg0, .slice Ag1 g.pr.length cg1, .slice Ag2 g.mv.length cg2] 25) ∧ (Bx w_ (w1.heap.size) (((inS g s : List Int) : List Int).map wV) 28) ∧ (Bx w_ (w11.heap.size) ((t : List Int).map wV) 28) ∧ (Bx w_ (w22.heap.size) ((List.replicate 4 (0 : Int) : List Int).map wV) 28) ∧ (OwnLL w_ (w227.heap.size) [obk (A_301), obk (A_397)] A_395 c_396 22 3 (fr2 : List (List Int))) ∧ (OwnR w_ (Sx (w239.heap.size) [obk (A_301), obk (A_395)]) A_397 c_398 3 (lf2 : List Int)) ∧ (OwnR w_ (Sx (w258.heap.size) [obk (A_395), obk (A_397)]) A_301 c_302 3 ((ms).set (i : Int).toNat (-1) : List Int)) ∧ (RdI w_ 0 w.heap.size R387 (gL g.mv (i))) ∧ (0 ≤ q) ∧ (q ≤ ((gL g.mv i).length : Int)) ∧ (FrA g (inT g s) fr2 lf2 i q) ∧ (w227.heap.size ≤ w_.heap.size) ∧ (w239.heap.size ≤ w_.heap.size) ∧ (w258.heap.size ≤ w_.heap.size)) _ ⟨0, (fr : List (List Int)), A_297, c_298, (lf : List Int), A_299, c_300, rfl, f399, e309, r312, r313, bx314, bx315, bx316, bx317, ow353, ow319, ow342, r390, (by omega), (by omega), hfr, (by omega), (by omega), (by omega)⟩ ?_
     clear f399 f401
     clear r312
     clear r313
     clear bx314
     clear bx315
     clear bx316
     clear bx317
     clear ow353
     clear ow319
     clear ow342
     clear r390
     clear e309
     intro m_ act402 w403 ⟨q, fr2, A_395, c_396, lf2, A_397, c_398, hm405, f406, e404, r407, r408, bx409, bx410, bx411, bx412, r413, ow414, ow415, r416, i417, i418, hfr2, i419, i420, i421⟩
     have szw403 := e404.size
     have := bx409.lt
     have := bx410.lt
     have := bx411.lt
     have := bx412.lt
     refine wp_seq ?_
     refine At.start ?_
     refine At.rd f406 1 [[]] [(71, .bool (decide ((q : Int) < (((gL g.mv (i)).length : Nat) : Int))))] [] (by kernel_rfl) trivial (fun act423 f422 => ?_)
     clear f406
     refine At.done rfl ?_
     refine t_n ?_
     refine wp_seq ?_
     refine cond_S f422 (t := decide ((q : Int) < (((gL g.mv (i)).length : Nat) : Int))) rfl (fun h424 => ?_) (fun h424 => ?_)
     ·have q425 := of_decide_eq_true h424
      refine wp_skip ?_
      refine t_n ?_
      refine wp_seq ?_
      refine wp_block ?_
      refine wp_seq ?_
      have hmk := hG.mv i (by omega) (by omega) q (by omega) (by omega)
      have hfl2 := hfr2.len
      have hll2 := hfr2.ll
      have hfc := hfr2.cnt _ hmk.1 hmk.2
      have hlb := fra_lb hfr2 (by omega) (by omega) (by omega)
      refine At.start ?_
      obtain ⟨ad426, hA427, _, _, hc428⟩ := RdI.get r416 (q) (by omega) (by omega)
      refine At.rd f422 3 [[.ad ad426], [.ld (.int .i64 (gI (gL g.mv (i)) (q)))], []] [(18, .int .i64 (gI (gL g.mv (i)) (q))), (73, .int .i64 (gI (gL g.mv (i)) (q))), (72, .pointer (some (ad426.add ((q : Int).toNat * 1))))] [(R387 = some ad426), (0 ≤ (q : Int)), ((q : Int) < ((gL g.mv (i)).length : Nat)), (w403.cell? (ad426.add ((q : Int).toNat * 1)) = some (.int .i64 (gI (gL g.mv (i)) (q))))] (by kernel_rfl) ⟨hA427, (by omega), (by omega), hc428, trivial⟩ (fun act430 f429 => ?_)
      clear f422
      refine At.done rfl ?_
      refine t_n ?_
      refine wp_seq ?_
      refine At.start ?_
      refine At.rd f429 2 [[.cs (((inS g s : List Int) : List Int).map wV)], []] [(75, .int .i64 (gI (gL g.mv (i)) (q))), (74, .agg (((inS g s : List Int) : List Int).map wV).toArray)] [((((inS g s : List Int) : List Int).map wV).length = 4), (∀ (j : Nat) (v : Value), (((inS g s : List Int) : List Int).map wV)[j]? = some v → w403.cell? ((⟨w1.heap.size, 0, none⟩ : Addr).add j) = some v)] (by kernel_rfl) ⟨((List.length_map _).trans (okLen (inS_ok (by assumption)))), bx410.whole, trivial⟩ (fun act432 f431 => ?_)
      clear f429
      refine At.call f431 23 #[.agg (((inS g s : List Int) : List Int).map wV).toArray, .int .i64 (gI (gL g.mv (i)) (q))] (some 76) (by kernel_rfl) (has_any (s := (inS g s : List Int)) (n := gI (gL g.mv (i)) (q)) (inS_ok (by assumption))) ?_
      rintro e_ w433 ⟨rfl, he⟩
      refine ⟨_, rfl, _, rfl, fun act434 f435 => ?_⟩
      clear f431
      have g436 := gr_ext he
      have szw433 := g436.size
      replace e404 := e404.gr g436 no_row
      replace r407 := r407.gr g436 (fun _ h => by cases h)
      replace r408 := r408.gr g436 (fun _ h => by cases h)
      replace bx409 := bx409.gr g436 (by simp)
      replace bx410 := bx410.gr g436 (by simp)
      replace bx411 := bx411.gr g436 (by simp)
      replace bx412 := bx412.gr g436 (by simp)
      have ow444 := r413.gr g436 (fun _ _ h => by cases h)
      clear r413
      replace ow414 := ow414.gr g436 (fun _ _ h => by cases h)
      replace ow415 := ow415.gr g436 (fun _ _ h => by cases h)
      replace r416 := r416.gr g436 (fun _ h => by cases h)
      clear g436 he
      refine At.done rfl ?_
      refine t_n ?_
      refine cond_S f435 (t := hasW (inS g s : List Int) (gI (gL g.mv (i)) (q))) rfl (fun h448 => ?_) (fun h448 => ?_)
      ·refine wp_seq ?_
       refine At.start ?_
       obtain ⟨ad450, R453, C454, hA451, hb455, hc452, ow456, ow457⟩ := ow444.get (gI (gL g.mv (i)) (q)) (by omega) (by omega)
       refine At.rd f435 7 [[], [], [], [], [.ad ad450], [.ld (.slice R453 ((gL fr2 (gI (gL g.mv (i)) (q))).length) C454)], []] [(83, .int .i64 (i)), (82, .slice R453 ((gL fr2 (gI (gL g.mv (i)) (q))).length) C454), (81, .pointer (some (ad450.add ((gI (gL g.mv (i)) (q) : Int).toNat * 1)))), (80, .int .i64 (gI (gL g.mv (i)) (q))), (79, .slice A_395 fr2.length c_396), (78, .int .i64 (gI (gL g.mv (i)) (q))), (77, .slice A_395 fr2.length c_396)] [(A_395 = some ad450), (0 ≤ (gI (gL g.mv (i)) (q) : Int)), ((gI (gL g.mv (i)) (q) : Int) < (fr2.length : Nat)), (w433.cell? (ad450.add ((gI (gL g.mv (i)) (q) : Int).toNat * 1)) = some (.slice R453 ((gL fr2 (gI (gL g.mv (i)) (q))).length) C454))] (by kernel_rfl) ⟨hA451, (by omega), (by omega), hc452, trivial⟩ (fun act461 f460 => ?_)
       clear f435
       refine At.seq f460 1 [[]] [(84, .slice (some ⟨w433.heap.size, 0, none⟩) 1 1)] (w433.alloc (.cells #[.int .i64 (i)] 3 (0, 0))) [] (by kernel_rfl) trivial (fun act465 w462 hw463 f464 => ?_)
       clear f460
       have g466 := gr_alloc hw463
       have szw462 := g466.size
       replace e404 := e404.gr g466 no_row
       replace r407 := r407.gr g466 (fun _ h => by cases h)
       replace r408 := r408.gr g466 (fun _ h => by cases h)
       replace bx409 := bx409.gr g466 (by simp)
       replace bx410 := bx410.gr g466 (by simp)
       replace bx411 := bx411.gr g466 (by simp)
       replace bx412 := bx412.gr g466 (by simp)
       replace ow444 : OwnLL w462 (w227.heap.size) [some (w433.heap.size), obk (A_301), obk (A_397)] A_395 c_396 22 3 (fr2 : List (List Int)) := ow444.grA g466 (fun _ _ h => by cases h) (fun k hk hs => ⟨(fun e => by injection e; omega), hs.1, hs.2.1, hs.2.2⟩)
       replace ow414 : OwnR w462 (Sx (w239.heap.size) [some (w433.heap.size), obk (A_301), obk (A_395)]) A_397 c_398 3 (lf2 : List Int) := ow414.grA g466 (fun _ _ h => by cases h) (fun k hk hs => ⟨(fun e => by injection e; omega), hs.1, hs.2.1, hs.2.2⟩)
       replace ow415 : OwnR w462 (Sx (w258.heap.size) [some (w433.heap.size), obk (A_395), obk (A_397)]) A_301 c_302 3 ((ms).set (i : Int).toNat (-1) : List Int) := ow415.grA g466 (fun _ _ h => by cases h) (fun k hk hs => ⟨(fun e => by injection e; omega), hs.1, hs.2.1, hs.2.2⟩)
       replace r416 := r416.gr g466 (fun _ h => by cases h)
       replace ow457 : HoleLL w462 (w227.heap.size) [some (w433.heap.size), obk (A_301), obk (A_397)] A_395 c_396 22 3 (fr2 : List (List Int)) (gI (gL g.mv (i)) (q) : Int).toNat R453 := ow457.grA g466 (fun _ _ h => by cases h) (fun k hk hs => ⟨(fun e => by injection e; omega), hs.1, hs.2.1, hs.2.2⟩)
       replace ow456 : OwnR w462 (Sx (w227.heap.size) [some (w433.heap.size), obk (A_395), obk (A_301), obk (A_397)]) R453 C454 3 (gL fr2 (gI (gL g.mv (i)) (q)) : List Int) := ow456.grA g466 (fun _ _ h => by cases h) (fun k hk hs => ⟨(fun e => by injection e; omega), hs.1, hs.2.1, hs.2.2.1, hs.2.2.2⟩)
       have bx468 : Bx w462 (w433.heap.size) [.int .i64 (i)] 3 := Bx.new hw463
       have := bx468.lt
       clear g466 hw463
       have hl486 : ((gL fr2 (gI (gL g.mv (i)) (q))) ++ ([i])).length = (gL fr2 (gI (gL g.mv (i)) (q))).length + ([i] : List Int).length := List.length_append
       simp only [List.length_cons, List.length_nil] at hl486
       refine At.act f464 (appendR (α := Int) (t := 22) (d := 85) (n := (gL fr2 (gI (gL g.mv (i)) (q))).length) (m := 1) (cc := 1) (xs := gL fr2 (gI (gL g.mv (i)) (q))) (ys := [i]) (bytes := 8) (by first | rfl | omega | (simp; done) | (simp; omega)) (by first | rfl | omega | (simp; done) | (simp; omega)) (by kernel_rfl) rfl (by kernel_rfl) ow456 (Bx.srcR (l := ([i] : List Int)) bx468 rfl) (by simp only [List.length_cons, List.length_nil]; omega) (by simp only [List.length_cons, List.length_nil]; omega)) ?_
       rintro d_ v_ w485 ⟨rfl, A482, c483, ha484⟩
       obtain rfl := ha484.val
       have g487 := ha484.gr
       refine ⟨_, rfl, fun act489 f488 => ?_⟩
       clear f464
       clear bx468
       have ow490 := ha484.own (Sx (w227.heap.size) [obk (A_395), obk (A_301), obk (A_397)]) (fun g _ hs => ⟨hs.2.1, hs.2.2.1, hs.2.2.2.1, hs.2.2.2.2⟩) ⟨ow444.ne_new, ow415.ne_new, ow414.ne_new, (show w227.heap.size ≤ w462.heap.size by omega)⟩
       have szw485 := g487.size
       replace e404 := e404.gr g487 (fun k hk => by have := ow456.ge k hk; omega)
       replace r407 := r407.gr g487 (fun k hk => by have := ow456.ge k hk; omega)
       replace r408 := r408.gr g487 (fun k hk => by have := ow456.ge k hk; omega)
       replace bx409 := bx409.gr g487 (fun e => by have := ow456.ge _ e; omega)
       replace bx410 := bx410.gr g487 (fun e => by have := ow456.ge _ e; omega)
       replace bx411 := bx411.gr g487 (fun e => by have := ow456.ge _ e; omega)
       replace bx412 := bx412.gr g487 (fun e => by have := ow456.ge _ e; omega)
       clear ow444
       replace ow414 := ow414.gr2 g487 (fun k hk e => (ow456.inS k e).2.2.2.1 hk)
       replace ow415 := ow415.gr2 g487 (fun k hk e => (ow456.inS k e).2.2.1 hk)
       replace r416 := r416.gr g487 (fun k hk => by have := ow456.ge k hk; omega)
       replace ow457 := ow457.moved g487 ha484.at_
       clear ow456 g487 ha484
       refine At.rd f488 1 [[.ad ad450]] [(86, .pointer (some (ad450.add ((gI (gL g.mv (i)) (q) : Int).toNat * 1))))] [(A_395 = some ad450), (0 ≤ (gI (gL g.mv (i)) (q) : Int)), ((gI (gL g.mv (i)) (q) : Int) < (fr2.length : Nat))] (by kernel_rfl) ⟨hA451, (by omega), (by omega), trivial⟩ (fun act503 f502 => ?_)
       clear f488
       replace ow457 : HoleLL w485 (w227.heap.size) [obk (A_301), obk (A_397)] A_395 c_396 22 3 (fr2 : List (List Int)) (gI (gL g.mv (i)) (q) : Int).toNat A482 := ow457.imp (fun g _ hs => ⟨hs.2.1, hs.2.2.1, hs.2.2.2⟩)
       refine At.act f502 (storeLL (t := 22) (i := gI (gL g.mv (i)) (q)) (ad := ad450) (xs := (gL fr2 (gI (gL g.mv (i)) (q))) ++ ([i])) (by kernel_rfl) (by kernel_rfl) hA451 ow457 ow490 (by first | rfl | omega | (simp; done) | (simp; omega)) (by omega) (by omega)) ?_
       rintro d_ v_ w504 ⟨rfl, g505, ow506⟩
       refine ⟨_, rfl, fun act510 f509 => ?_⟩
       clear f502
       have hl507 : ((fr2).set (gI (gL g.mv (i)) (q) : Int).toNat ((gL fr2 (gI (gL g.mv (i)) (q))) ++ ([i]))).length = (fr2).length := List.length_set
       have szw504 := g505.size
       replace e404 := e404.gr g505 (fun k hk => by have := (HoleLL.row ow457).ge k hk; omega)
       replace r407 := r407.gr g505 (fun k hk => by have := (HoleLL.row ow457).ge k hk; omega)
       replace r408 := r408.gr g505 (fun k hk => by have := (HoleLL.row ow457).ge k hk; omega)
       replace bx409 := bx409.gr g505 (fun e => by have := (HoleLL.row ow457).ge _ e; omega)
       replace bx410 := bx410.gr g505 (fun e => by have := (HoleLL.row ow457).ge _ e; omega)
       replace bx411 := bx411.gr g505 (fun e => by have := (HoleLL.row ow457).ge _ e; omega)
       replace bx412 := bx412.gr g505 (fun e => by have := (HoleLL.row ow457).ge _ e; omega)
       replace ow414 := ow414.gr g505 (fun k hk => hk.2.2.1)
       replace ow415 := ow415.gr g505 (fun k hk => hk.2.1)
       replace r416 := r416.gr g505 (fun k hk => by have := (HoleLL.row ow457).ge k hk; omega)
       clear ow457 ow490 g505
       refine At.done rfl ?_
       refine t_n ?_
       refine At.start ?_
       obtain ⟨ad521, hA522, hb525, hc524, hc523⟩ := ow414.get (i) (by omega) (by omega) (sz := 1) rfl
       obtain ⟨ad526, hA527, hb530, hc529, hc528⟩ := ow414.get (i) (by omega) (by omega) (sz := 1) rfl
       refine At.rd f509 6 [[], [], [.ad ad521], [.ld (.int .i64 (gI lf2 i))], [.as_ (.int .i64 ((gI lf2 i) + 1))], [.ad ad526]] [(92, .pointer (some (ad526.add ((i : Int).toNat * 1)))), (91, .int .i64 ((gI lf2 i) + 1)), (90, .int .i64 (gI lf2 i)), (89, .pointer (some (ad521.add ((i : Int).toNat * 1)))), (88, .int .i64 (i)), (87, .slice A_397 lf2.length c_398)] [(A_397 = some ad521), (0 ≤ (i : Int)), ((i : Int) < (lf2.length : Nat)), (w504.cell? (ad521.add ((i : Int).toNat * 1)) = some (.int .i64 (gI lf2 i))), ((.int .i64 (IntKind.i64.wrap ((gI lf2 i) + 1)) : Value) = .int .i64 ((gI lf2 i) + 1)), (A_397 = some ad526), (0 ≤ (i : Int)), ((i : Int) < (lf2.length : Nat))] (by kernel_rfl) ⟨hA522, (by omega), (by omega), hc524, (w64 (by omega) (by omega)), hA527, (by omega), (by omega), trivial⟩ (fun act532 f531 => ?_)
       clear f509
       refine At.act f531 (storeR (α := Int) (t := 3) (i := i) (ad := ad526) (v := .int .i64 ((gI lf2 i) + 1)) ((gI lf2 i) + 1) (by kernel_rfl) rfl rfl (by kernel_rfl) hA527 ow414 (by omega) (by omega)) ?_
       rintro d_ v_ w533 ⟨rfl, g534, ow535⟩
       refine ⟨_, rfl, fun act538 f537 => ?_⟩
       clear f531
       have hl536 : ((lf2).set (i : Int).toNat ((gI lf2 i) + 1)).length = (lf2).length := List.length_set
       have szw533 := g534.size
       replace e404 := e404.gr g534 (fun k hk => by have := ow414.ge k hk; omega)
       replace r407 := r407.gr g534 (fun k hk => by have := ow414.ge k hk; omega)
       replace r408 := r408.gr g534 (fun k hk => by have := ow414.ge k hk; omega)
       replace bx409 := bx409.gr g534 (fun e => by have := ow414.ge _ e; omega)
       replace bx410 := bx410.gr g534 (fun e => by have := ow414.ge _ e; omega)
       replace bx411 := bx411.gr g534 (fun e => by have := ow414.ge _ e; omega)
       replace bx412 := bx412.gr g534 (fun e => by have := ow414.ge _ e; omega)
       replace ow415 := ow415.gr g534 (fun k hk => hk.2.2.1)
       replace r416 := r416.gr g534 (fun k hk => by have := ow414.ge k hk; omega)
       replace ow506 := ow506.gr g534 (fun k hk => hk.2.1)
       clear ow414 g534
       refine At.done rfl ?_
       refine b_n ?_
       refine t_n ?_
       refine At.start ?_
       refine At.rd f537 2 [[.as_ (.int .i64 (q + 1))], []] [(70, .int .i64 (q + 1)), (93, .int .i64 (q + 1))] [((.int .i64 (IntKind.i64.wrap (q + 1)) : Value) = .int .i64 (q + 1))] (by kernel_rfl) ⟨(w64 (by omega) (by omega)), trivial⟩ (fun act550 f549 => ?_)
       clear f537
       refine At.done rfl ?_
       refine t_n ?_
       have f551 := f549.as 14 (.slice A_397 lf2.length c_398) (.slice A_397 (((lf2).set (i : Int).toNat ((gI lf2 i) + 1) : List Int).length) c_398) rfl (slice_len (by first | rfl | omega | (simp; done) | (simp; omega)))
       clear f549
       have f552 := f551.as 13 (.slice A_395 fr2.length c_396) (.slice A_395 (((fr2).set (gI (gL g.mv (i)) (q) : Int).toNat ((gL fr2 (gI (gL g.mv (i)) (q))) ++ ([i])) : List (List Int)).length) c_396) rfl (slice_len (by first | rfl | omega | (simp; done) | (simp; omega)))
       clear f551
       have f553 := f552.sub (r := [(70, .int .i64 (q + 1)), (69, .int .i64 ((((gL g.mv (i)).length : Nat) : Int))), (68, .slice R387 ((gL g.mv (i)).length) C388), (16, .int .i64 (i)), (54, .int .i64 (i)), (53, .int .i64 (((g.ow.length : Nat) : Int))), (15, .slice A_301 ms.length c_302), (14, .slice A_397 (((lf2).set (i : Int).toNat ((gI lf2 i) + 1) : List Int).length) c_398), (13, .slice A_395 (((fr2).set (gI (gL g.mv (i)) (q) : Int).toNat ((gL fr2 (gI (gL g.mv (i)) (q))) ++ ([i])) : List (List Int)).length) c_396), (8, .pointer (some ⟨w22.heap.size, 0, none⟩)), (7, .pointer (some ⟨w11.heap.size, 0, none⟩)), (5, .pointer (some ⟨w1.heap.size, 0, none⟩)), (4, .pointer (some ⟨w.heap.size, 0, none⟩)), (2, .int .i64 (p))]) ⟨rfl, rfl, rfl, rfl, rfl, rfl, rfl, rfl, rfl, rfl, rfl, rfl, rfl, rfl, trivial⟩
       exact ⟨_, (by omega), (q + 1), ((fr2).set (gI (gL g.mv (i)) (q) : Int).toNat ((gL fr2 (gI (gL g.mv (i)) (q))) ++ ([i])) : List (List Int)), A_395, c_396, ((lf2).set (i : Int).toNat ((gI lf2 i) + 1) : List Int), A_397, c_398, rfl, f553, e404, r407, r408, bx409, bx410, bx411, bx412, ow506, (ow535.imp (fun g _ hs => ⟨hs.2.1, hs.2.2.1, hs.2.2.2⟩)), (ow415.imp (fun g _ hs => ⟨hs.2.1, hs.2.2.1, hs.2.2.2⟩)), r416, (by omega), (by omega), (fra_push hG hfr2 (by omega) (by omega) (by omega) (by omega) hIi (by rw [← has_inT (by omega) (by omega)]; assumption)), (by omega), (by omega), (by omega)⟩
      ·refine wp_skip ?_
       refine b_n ?_
       refine t_n ?_
       refine At.start ?_
       refine At.rd f435 2 [[.as_ (.int .i64 (q + 1))], []] [(70, .int .i64 (q + 1)), (93, .int .i64 (q + 1))] [((.int .i64 (IntKind.i64.wrap (q + 1)) : Value) = .int .i64 (q + 1))] (by kernel_rfl) ⟨(w64 (by omega) (by omega)), trivial⟩ (fun act556 f555 => ?_)
       clear f435
       refine At.done rfl ?_
       refine t_n ?_
       have f557 := f555.as 14 (.slice A_397 lf2.length c_398) (.slice A_397 ((lf2 : List Int).length) c_398) rfl (slice_len (by first | rfl | omega | (simp; done) | (simp; omega)))
       clear f555
       have f558 := f557.as 13 (.slice A_395 fr2.length c_396) (.slice A_395 ((fr2 : List (List Int)).length) c_396) rfl (slice_len (by first | rfl | omega | (simp; done) | (simp; omega)))
       clear f557
       have f559 := f558.sub (r := [(70, .int .i64 (q + 1)), (69, .int .i64 ((((gL g.mv (i)).length : Nat) : Int))), (68, .slice R387 ((gL g.mv (i)).length) C388), (16, .int .i64 (i)), (54, .int .i64 (i)), (53, .int .i64 (((g.ow.length : Nat) : Int))), (15, .slice A_301 ms.length c_302), (14, .slice A_397 ((lf2 : List Int).length) c_398), (13, .slice A_395 ((fr2 : List (List Int)).length) c_396), (8, .pointer (some ⟨w22.heap.size, 0, none⟩)), (7, .pointer (some ⟨w11.heap.size, 0, none⟩)), (5, .pointer (some ⟨w1.heap.size, 0, none⟩)), (4, .pointer (some ⟨w.heap.size, 0, none⟩)), (2, .int .i64 (p))]) ⟨rfl, rfl, rfl, rfl, rfl, rfl, rfl, rfl, rfl, rfl, rfl, rfl, rfl, rfl, trivial⟩
       exact ⟨_, (by omega), (q + 1), (fr2 : List (List Int)), A_395, c_396, (lf2 : List Int), A_397, c_398, rfl, f559, e404, r407, r408, bx409, bx410, bx411, bx412, ow444, ow414, ow415, r416, (by omega), (by omega), (fra_skip hG hfr2 (by omega) (by omega) (by omega) (by omega) (by rw [← has_inT (by omega) (by omega)]; assumption)), (by omega), (by omega), (by omega)⟩
     ·have q560 := of_decide_eq_false h424
      refine wp_exit ?_
      refine t_e ?_
      refine t_e ?_
      refine b_e ?_
      refine b_n ?_
      refine t_n ?_
      refine At.start ?_
      refine At.rd f422 2 [[.as_ (.int .i64 (i + 1))], []] [(54, .int .i64 (i + 1)), (94, .int .i64 (i + 1))] [((.int .i64 (IntKind.i64.wrap (i + 1)) : Value) = .int .i64 (i + 1))] (by kernel_rfl) ⟨(w64 (by omega) (by omega)), trivial⟩ (fun act562 f561 => ?_)
      clear f422
      refine At.done rfl ?_
      refine t_n ?_
      have f563 := f561.as 15 (.slice A_301 ms.length c_302) (.slice A_301 (((ms).set (i : Int).toNat (-1) : List Int).length) c_302) rfl (slice_len (by first | rfl | omega | (simp; done) | (simp; omega)))
      clear f561
      have f564 := f563.as 14 (.slice A_397 lf2.length c_398) (.slice A_397 ((lf2 : List Int).length) c_398) rfl (slice_len (by first | rfl | omega | (simp; done) | (simp; omega)))
      clear f563
      have f565 := f564.as 13 (.slice A_395 fr2.length c_396) (.slice A_395 ((fr2 : List (List Int)).length) c_396) rfl (slice_len (by first | rfl | omega | (simp; done) | (simp; omega)))
      clear f564
      have f566 := f565.sub (r := [(54, .int .i64 (i + 1)), (53, .int .i64 (((g.ow.length : Nat) : Int))), (15, .slice A_301 (((ms).set (i : Int).toNat (-1) : List Int).length) c_302), (14, .slice A_397 ((lf2 : List Int).length) c_398), (13, .slice A_395 ((fr2 : List (List Int)).length) c_396), (8, .pointer (some ⟨w22.heap.size, 0, none⟩)), (7, .pointer (some ⟨w11.heap.size, 0, none⟩)), (5, .pointer (some ⟨w1.heap.size, 0, none⟩)), (4, .pointer (some ⟨w.heap.size, 0, none⟩)), (2, .int .i64 (p))]) ⟨rfl, rfl, rfl, rfl, rfl, rfl, rfl, rfl, rfl, rfl, trivial⟩
      exact ⟨_, (by omega), (i + 1), (fr2 : List (List Int)), A_395, c_396, (lf2 : List Int), A_397, c_398, ((ms).set (i : Int).toNat (-1) : List Int), A_301, c_302, rfl, f566, e404, r407, r408, bx409, bx410, bx411, bx412, r413, ow414, ow415, (by omega), (by omega), (fra_row hG hfr2 (by omega) (by omega) (by omega) (by omega) hIi), (by rw [List.length_set]; assumption), (ms_next hms (by omega) (by omega)), (by omega), (by omega), (by omega)⟩
   ·have q567 := of_decide_eq_false h329
    refine wp_exit ?_
    refine t_e ?_
    refine t_e ?_
    refine b_e ?_
    refine t_n ?_
    refine wp_seq ?_
    have hE : FrA g (inT g s) fr lf (g.ow.length : Int) 0 := by have e_ : i = (g.ow.length : Int) := (by omega); rw [← e_]; exact hfr
    have hmsE : ∀ j : Int, 0 ≤ j → j < (g.ow.length : Int) → gI ms j = -1 := fun j a b => hms j a (by omega)
    have hfle := hE.len
    have hlle := hE.ll
    refine At.start ?_
    refine At.rd f327 2 [[.cs ((t : List Int).map wV)], [.cs (((inS g s : List Int) : List Int).map wV)]] [(96, .agg (((inS g s : List Int) : List Int).map wV).toArray), (95, .agg ((t : List Int).map wV).toArray)] [(((t : List Int).map wV).length = 4), (∀ (j : Nat) (v : Value), ((t : List Int).map wV)[j]? = some v → w308.cell? ((⟨w11.heap.size, 0, none⟩ : Addr).add j) = some v), ((((inS g s : List Int) : List Int).map wV).length = 4), (∀ (j : Nat) (v : Value), (((inS g s : List Int) : List Int).map wV)[j]? = some v → w308.cell? ((⟨w1.heap.size, 0, none⟩ : Addr).add j) = some v)] (by kernel_rfl) ⟨((List.length_map _).trans (by assumption)), bx316.whole, ((List.length_map _).trans (okLen (inS_ok (by assumption)))), bx315.whole, trivial⟩ (fun act569 f568 => ?_)
    clear f327
    refine At.call f568 19 #[.agg ((t : List Int).map wV).toArray, .agg (((inS g s : List Int) : List Int).map wV).toArray] (some 97) (by kernel_rfl) (andS_any (s := t) (t := (inS g s : List Int)) (by assumption) (inS_ok (by assumption))) ?_
    rintro e_ w570 ⟨rfl, he⟩
    refine ⟨_, rfl, _, rfl, fun act571 f572 => ?_⟩
    clear f568
    have g573 := gr_ext he
    have szw570 := g573.size
    replace e309 := e309.gr g573 no_row
    replace r312 := r312.gr g573 (fun _ h => by cases h)
    replace r313 := r313.gr g573 (fun _ h => by cases h)
    replace bx314 := bx314.gr g573 (by simp)
    replace bx315 := bx315.gr g573 (by simp)
    replace bx316 := bx316.gr g573 (by simp)
    replace bx317 := bx317.gr g573 (by simp)
    have ow581 := r318.gr g573 (fun _ _ h => by cases h)
    clear r318
    replace ow319 := ow319.gr g573 (fun _ _ h => by cases h)
    replace ow320 := ow320.gr g573 (fun _ _ h => by cases h)
    clear g573 he
    refine At.seq f572 1 [[]] [(19, .pointer (some ⟨w570.heap.size, 0, none⟩))] (w570.alloc (.cells ((List.replicate 4 (0 : Int) : List Int).map wV).toArray 28 (0, 0))) [] (by kernel_rfl) trivial (fun act587 w584 hw585 f586 => ?_)
    clear f572
    have g588 := gr_alloc hw585
    have szw584 := g588.size
    replace e309 := e309.gr g588 no_row
    replace r312 := r312.gr g588 (fun _ h => by cases h)
    replace r313 := r313.gr g588 (fun _ h => by cases h)
    replace bx314 := bx314.gr g588 (by simp)
    replace bx315 := bx315.gr g588 (by simp)
    replace bx316 := bx316.gr g588 (by simp)
    replace bx317 := bx317.gr g588 (by simp)
    replace ow581 : OwnLL w584 (w227.heap.size) [some (w570.heap.size), obk (A_301), obk (A_299)] A_297 c_298 22 3 (fr : List (List Int)) := ow581.grA g588 (fun _ _ h => by cases h) (fun k hk hs => ⟨(fun e => by injection e; omega), hs.1, hs.2.1, hs.2.2⟩)
    replace ow319 : OwnR w584 (Sx (w239.heap.size) [some (w570.heap.size), obk (A_301), obk (A_297)]) A_299 c_300 3 (lf : List Int) := ow319.grA g588 (fun _ _ h => by cases h) (fun k hk hs => ⟨(fun e => by injection e; omega), hs.1, hs.2.1, hs.2.2⟩)
    replace ow320 : OwnR w584 (Sx (w258.heap.size) [some (w570.heap.size), obk (A_297), obk (A_299)]) A_301 c_302 3 (ms : List Int) := ow320.grA g588 (fun _ _ h => by cases h) (fun k hk hs => ⟨(fun e => by injection e; omega), hs.1, hs.2.1, hs.2.2⟩)
    have bx600 : Bx w584 (w570.heap.size) ((List.replicate 4 (0 : Int) : List Int).map wV) 28 := Bx.new hw585
    have := bx600.lt
    clear g588 hw585
    refine At.act f586 (storeBlk (t := 28) (b := w570.heap.size) (n := 4) (cs' := ((andS t (inS g s : List Int) : List Int).map wV)) (by kernel_rfl) (by kernel_rfl) ((List.length_map _).trans (okLen (okW_andS (by assumption) (inS_ok (by assumption))))) oneW_ ((show ((andS t (inS g s : List Int) : List Int).map wV).length = 4 from ((List.length_map _).trans (okLen (okW_andS (by assumption) (inS_ok (by assumption)))))).trans (show ((List.replicate 4 (0 : Int) : List Int).map wV).length = 4 from (by simp only [List.length_map, List.length_set, List.length_replicate, List.length_cons, List.length_nil]; first | done | assumption | exact from_len _ | exact of_len _ | exact ofZ_len _ | exact (ofW_ok _).1 | exact (fullW_W _).1 | exact (okW_with (by assumption)).1 | exact (okW_less (by assumption)).1 | exact put_len (from_len _) | exact orD_len _ _ | exact andD_len _ _ | exact minusD_len _ _ | exact fullD_len _ | (refine okLen ?_; (repeat (first | assumption | exact ofW_ok _ | exact fullW_W _ | apply okW_with | apply okW_less | refine okW_orS ?_ ?_ | refine okW_andS ?_ ?_ | refine okW_minusS ?_ ?_)); done) | omega | rfl)).symm) bx600) ?_
    rintro d_ v_ w601 ⟨rfl, g602, bx603⟩
    refine ⟨_, rfl, fun act605 f604 => ?_⟩
    clear f586
    have szw601 := g602.size
    replace e309 := e309.gr g602 (fun k h => by injection h; omega)
    replace r312 := r312.gr g602 (fun k h => by injection h; omega)
    replace r313 := r313.gr g602 (fun k h => by injection h; omega)
    replace bx314 := bx314.gr g602 (fun h => by injection h; omega)
    replace bx315 := bx315.gr g602 (fun h => by injection h; omega)
    replace bx316 := bx316.gr g602 (fun h => by injection h; omega)
    replace bx317 := bx317.gr g602 (fun h => by injection h; omega)
    replace ow581 := ow581.gr g602 (fun k hk => hk.1)
    replace ow319 := ow319.gr g602 (fun k hk => hk.1)
    replace ow320 := ow320.gr g602 (fun k hk => hk.1)
    clear bx600 g602
    refine At.done rfl ?_
    refine t_n ?_
    clear bx315
    clear bx316
    refine wp_seq ?_
    refine wp_seq ?_
    refine At.start ?_
    refine At.rd f604 1 [[.cs ((andS t (inS g s : List Int) : List Int).map wV)]] [(98, .agg ((andS t (inS g s : List Int) : List Int).map wV).toArray)] [(((andS t (inS g s : List Int) : List Int).map wV).length = 4), (∀ (j : Nat) (v : Value), ((andS t (inS g s : List Int) : List Int).map wV)[j]? = some v → w601.cell? ((⟨w570.heap.size, 0, none⟩ : Addr).add j) = some v)] (by kernel_rfl) ⟨((List.length_map _).trans (okLen (okW_andS (by assumption) (inS_ok (by assumption))))), bx603.whole, trivial⟩ (fun act617 f616 => ?_)
    clear f604
    refine At.call f616 31 #[.agg ((andS t (inS g s : List Int) : List Int).map wV).toArray] (some 99) (by kernel_rfl) (list_any (s := andS t (inS g s : List Int)) (okW_andS (by assumption) (inS_ok (by assumption))) (r313.wide (Nat.zero_le _) (by omega))) ?_
    rintro e_ w622 ⟨A618, c619, rfl, he, ow620⟩
    have := ls_len (fromW (andS t (inS g s : List Int))) 256
    refine ⟨_, rfl, _, rfl, fun act623 f624 => ?_⟩
    clear f616
    have g625 := gr_ext he
    have lt626 := ow581.lt
    have lt627 := ow319.lt
    have lt628 := ow320.lt
    have szw622 := g625.size
    replace e309 := e309.gr g625 no_row
    replace r312 := r312.gr g625 (fun _ h => by cases h)
    replace r313 := r313.gr g625 (fun _ h => by cases h)
    replace bx314 := bx314.gr g625 (by simp)
    replace bx317 := bx317.gr g625 (by simp)
    replace ow581 : OwnLL w622 (w227.heap.size) [obk (A618), some (w570.heap.size), obk (A_301), obk (A_299)] A_297 c_298 22 3 (fr : List (List Int)) := ow581.grA g625 (fun _ _ h => by cases h) (fun k hk hs => ⟨(fun e => by have := ow620.ge _ e; omega), hs.1, hs.2.1, hs.2.2.1, hs.2.2.2⟩)
    replace ow319 : OwnR w622 (Sx (w239.heap.size) [obk (A618), some (w570.heap.size), obk (A_301), obk (A_297)]) A_299 c_300 3 (lf : List Int) := ow319.grA g625 (fun _ _ h => by cases h) (fun k hk hs => ⟨(fun e => by have := ow620.ge _ e; omega), hs.1, hs.2.1, hs.2.2.1, hs.2.2.2⟩)
    replace ow320 : OwnR w622 (Sx (w258.heap.size) [obk (A618), some (w570.heap.size), obk (A_297), obk (A_299)]) A_301 c_302 3 (ms : List Int) := ow320.grA g625 (fun _ _ h => by cases h) (fun k hk hs => ⟨(fun e => by have := ow620.ge _ e; omega), hs.1, hs.2.1, hs.2.2.1, hs.2.2.2⟩)
    replace bx603 := bx603.gr g625 (by simp)
    replace ow620 : OwnR w622 (Sx (w601.heap.size) [obk (A_297), obk (A_299), obk (A_301)]) A618 c619 3 ((lsD (fromW (andS t (inS g s : List Int))) 256) : List Int) := ow620.imp (fun g _ hs => ⟨(fun e => by have := lt626 _ e; have := Sx_base hs; omega), (fun e => by have := lt627 _ e; have := Sx_base hs; omega), (fun e => by have := lt628 _ e; have := Sx_base hs; omega), hs⟩)
    clear lt626 lt627 lt628
    clear g625 he
    refine At.rd f624 1 [[]] [(20, .slice A618 ((lsD (fromW (andS t (inS g s : List Int))) 256).length) c619)] [] (by kernel_rfl) trivial (fun act640 f639 => ?_)
    clear f624
    refine At.done rfl ?_
    refine t_n ?_
    refine wp_block ?_
    have f648 := f639.as 20 (.slice A618 ((lsD (fromW (andS t (inS g s : List Int))) 256).length) c619) (.slice A618 (((lsD (fromW (andS t (inS g s : List Int))) 256) : List Int).length) c619) rfl (slice_len (by first | rfl | omega | (simp; done) | (simp; omega)))
    clear f639
    have f649 := f648.as 15 (.slice A_301 ms.length c_302) (.slice A_301 ((ms : List Int).length) c_302) rfl (slice_len (by first | rfl | omega | (simp; done) | (simp; omega)))
    clear f648
    have f650 := f649.as 14 (.slice A_299 lf.length c_300) (.slice A_299 ((lf : List Int).length) c_300) rfl (slice_len (by first | rfl | omega | (simp; done) | (simp; omega)))
    clear f649
    have f647 := f650.sub (r := [(20, .slice A618 (((lsD (fromW (andS t (inS g s : List Int))) 256) : List Int).length) c619), (19, .pointer (some ⟨w570.heap.size, 0, none⟩)), (15, .slice A_301 ((ms : List Int).length) c_302), (14, .slice A_299 ((lf : List Int).length) c_300), (13, .slice A_297 fr.length c_298), (8, .pointer (some ⟨w22.heap.size, 0, none⟩)), (4, .pointer (some ⟨w.heap.size, 0, none⟩)), (2, .int .i64 (p))]) ⟨rfl, rfl, rfl, rfl, rfl, rfl, rfl, rfl, trivial⟩
    refine loop_g (fun (m_ : Nat) a_ w_ => ∃ (ss : List Int) (lf3 : List Int) (A_641 : Option Addr) (c_642 : Nat) (ms3 : List Int) (A_643 : Option Addr) (c_644 : Nat) (op : List Int) (A_645 : Option Addr) (c_646 : Nat), m_ = (512 - 2 * lenW ss + (op.length : Int)).toNat ∧ (Frm 163 a_ [(20, .slice A_645 op.length c_646), (19, .pointer (some ⟨w570.heap.size, 0, none⟩)), (15, .slice A_643 ms3.length c_644), (14, .slice A_641 lf3.length c_642), (13, .slice A_297 fr.length c_298), (8, .pointer (some ⟨w22.heap.size, 0, none⟩)), (4, .pointer (some ⟨w.heap.size, 0, none⟩)), (2, .int .i64 (p))]) ∧ (Ext w w_) ∧ (RdG w_ 0 w.heap.size Ag0 Ag1 Ag2 cg0 cg1 cg2 g) ∧ (RdT w_ 0 w.heap.size) ∧ (Bx w_ (w.heap.size) [.slice Ag0 g.ow.length cg0, .slice Ag1 g.pr.length cg1, .slice Ag2 g.mv.length cg2] 25) ∧ (Bx w_ (w22.heap.size) ((List.replicate 4 (0 : Int) : List Int).map wV) 28) ∧ (OwnLL w_ (w227.heap.size) [obk (A_645), some (w570.heap.size), obk (A_643), obk (A_641)] A_297 c_298 22 3 (fr : List (List Int))) ∧ (OwnR w_ (Sx (w239.heap.size) [obk (A_645), some (w570.heap.size), obk (A_643), obk (A_297)]) A_641 c_642 3 (lf3 : List Int)) ∧ (OwnR w_ (Sx (w258.heap.size) [obk (A_645), some (w570.heap.size), obk (A_297), obk (A_641)]) A_643 c_644 3 (ms3 : List Int)) ∧ (Bx w_ (w570.heap.size) ((ss : List Int).map wV) 28) ∧ (OwnR w_ (Sx (w601.heap.size) [obk (A_297), obk (A_641), obk (A_643)]) A_645 c_646 3 (op : List Int)) ∧ (ss.length = 4) ∧ (OkW ss) ∧ (∃ pr, AW g (inT g s) p (fromW t) (fromW ss) op lf3 ms3 pr [] []) ∧ (w227.heap.size ≤ w_.heap.size) ∧ (w239.heap.size ≤ w_.heap.size) ∧ (w258.heap.size ≤ w_.heap.size) ∧ (w601.heap.size ≤ w_.heap.size)) _ ⟨andS t (inS g s : List Int), (lf : List Int), A_299, c_300, (ms : List Int), A_301, c_302, ((lsD (fromW (andS t (inS g s : List Int))) 256) : List Int), A618, c619, rfl, f647, e309, r312, r313, bx314, bx317, ow581, ow319, ow320, bx603, ow620, (okW_andS ht (inS_ok hs)).1, (okW_andS ht (inS_ok hs)), ⟨[], aw_start hG inT_lt (fun j a b => by rw [from_andS, gB_andD a b]; rfl) hE.ll (by omega) (fra_lf hE) hmsE⟩, (by omega), (by omega), (by omega), (by omega)⟩ ?_
    clear f647 f650
    clear r312
    clear r313
    clear bx314
    clear bx317
    clear ow581
    clear ow319
    clear ow320
    clear bx603
    clear ow620
    clear e309
    intro m_ act651 w652 ⟨ss, lf3, A_641, c_642, ms3, A_643, c_644, op, A_645, c_646, hm654, f655, e653, r656, r657, bx658, bx659, r660, ow661, ow662, bx663, ow664, i665, hok, hw, i666, i667, i668, i669⟩
    have szw652 := e653.size
    have := bx658.lt
    have := bx659.lt
    have := bx663.lt
    have hlw_ := lenW_le ss
    have hawl : op.length ≤ g.ow.length ∧ lf3.length = g.ow.length ∧ ms3.length = g.ow.length := by obtain ⟨pr_, hw_⟩ := hw; exact ⟨aw_len hw_, hw_.ll, hw_.ml⟩
    refine wp_seq ?_
    refine wp_seq ?_
    refine At.start ?_
    refine At.rd f655 3 [[], [], []] [(102, .bool (decide ((((op.length : Nat) : Int) : Int) > 0))), (101, .int .i64 (((op.length : Nat) : Int))), (100, .slice A_645 op.length c_646)] [] (by kernel_rfl) trivial (fun act671 f670 => ?_)
    clear f655
    refine At.done rfl ?_
    refine t_n ?_
    refine cond_S f670 (t := decide ((((op.length : Nat) : Int) : Int) > 0)) rfl (fun h672 => ?_) (fun h672 => ?_)
    ·have q673 := of_decide_eq_true h672
     refine wp_skip ?_
     refine t_n ?_
     refine wp_seq ?_
     refine wp_block ?_
     refine wp_seq ?_
     obtain ⟨pr, hw⟩ := hw
     have hop := op_cons (op := op) (by omega)
     have hw2 : AW g (inT g s) p (fromW t) (fromW ss) (gI op 0 :: op.drop 1) lf3 ms3 pr [] [] := by rw [← hop]; exact hw
     have hmr := hw2.rng (gI op 0) (by simp)
     have hld := fra_leads hE hmr.1 hmr.2.1
     have hwo := aw_open hw2 hld
     have hfc := hE.cnt _ hmr.1 hmr.2.1
     refine At.start ?_
     obtain ⟨ad674, hA675, hb678, hc677, hc676⟩ := ow664.get (0) (by omega) (by omega) (sz := 1) rfl
     refine At.rd f670 4 [[], [.ad ad674], [.ld (.int .i64 (gI op 0))], []] [(21, .int .i64 (gI op 0)), (107, .int .i64 (gI op 0)), (106, .pointer (some (ad674.add ((0 : Int).toNat * 1)))), (105, .slice A_645 op.length c_646)] [(A_645 = some ad674), (0 ≤ (0 : Int)), ((0 : Int) < (op.length : Nat)), (w652.cell? (ad674.add ((0 : Int).toNat * 1)) = some (.int .i64 (gI op 0)))] (by kernel_rfl) ⟨hA675, (by omega), (by omega), hc677, trivial⟩ (fun act680 f679 => ?_)
     clear f670
     refine At.done rfl ?_
     refine t_n ?_
     refine wp_seq ?_
     refine At.start ?_
     obtain ⟨ad681, R684, C685, hA682, hb686, hc683, ow687, ow688⟩ := r660.get (gI op 0) (by omega) (by omega)
     refine At.rd f679 6 [[], [], [.ad ad681], [.ld (.slice R684 ((gL fr (gI op 0)).length) C685)], [], []] [(113, .int .i64 (0)), (112, .int .i64 ((((gL fr (gI op 0)).length : Nat) : Int))), (111, .slice R684 ((gL fr (gI op 0)).length) C685), (110, .pointer (some (ad681.add ((gI op 0 : Int).toNat * 1)))), (109, .int .i64 (gI op 0)), (108, .slice A_297 fr.length c_298)] [(A_297 = some ad681), (0 ≤ (gI op 0 : Int)), ((gI op 0 : Int) < (fr.length : Nat)), (w652.cell? (ad681.add ((gI op 0 : Int).toNat * 1)) = some (.slice R684 ((gL fr (gI op 0)).length) C685))] (by kernel_rfl) ⟨hA682, (by omega), (by omega), hc683, trivial⟩ (fun act692 f691 => ?_)
     clear f679
     refine At.done rfl ?_
     refine t_n ?_
     refine wp_block ?_
     have f700 := f691.as 20 (.slice A_645 op.length c_646) (.slice A_645 ((op : List Int).length) c_646) rfl (slice_len (by first | rfl | omega | (simp; done) | (simp; omega)))
     clear f691
     have f701 := f700.as 15 (.slice A_643 ms3.length c_644) (.slice A_643 ((ms3 : List Int).length) c_644) rfl (slice_len (by first | rfl | omega | (simp; done) | (simp; omega)))
     clear f700
     have f702 := f701.as 14 (.slice A_641 lf3.length c_642) (.slice A_641 ((lf3 : List Int).length) c_642) rfl (slice_len (by first | rfl | omega | (simp; done) | (simp; omega)))
     clear f701
     have f699 := f702.sub (r := [(20, .slice A_645 ((op : List Int).length) c_646), (113, .int .i64 (0)), (112, .int .i64 ((((gL fr (gI op 0)).length : Nat) : Int))), (111, .slice R684 ((gL fr (gI op 0)).length) C685), (21, .int .i64 (gI op 0)), (19, .pointer (some ⟨w570.heap.size, 0, none⟩)), (15, .slice A_643 ((ms3 : List Int).length) c_644), (14, .slice A_641 ((lf3 : List Int).length) c_642), (13, .slice A_297 fr.length c_298), (8, .pointer (some ⟨w22.heap.size, 0, none⟩)), (4, .pointer (some ⟨w.heap.size, 0, none⟩)), (2, .int .i64 (p))]) ⟨rfl, rfl, rfl, rfl, rfl, rfl, rfl, rfl, rfl, rfl, rfl, rfl, trivial⟩
     refine loop_g (fun (m_ : Nat) a_ w_ => ∃ (q : Int) (ss2 : List Int) (lf4 : List Int) (A_693 : Option Addr) (c_694 : Nat) (ms4 : List Int) (A_695 : Option Addr) (c_696 : Nat) (op4 : List Int) (A_697 : Option Addr) (c_698 : Nat), m_ = (((gL fr (gI op 0)).length : Int) - q).toNat ∧ (Frm 163 a_ [(20, .slice A_697 op4.length c_698), (113, .int .i64 (q)), (112, .int .i64 ((((gL fr (gI op 0)).length : Nat) : Int))), (111, .slice R684 ((gL fr (gI op 0)).length) C685), (21, .int .i64 (gI op 0)), (19, .pointer (some ⟨w570.heap.size, 0, none⟩)), (15, .slice A_695 ms4.length c_696), (14, .slice A_693 lf4.length c_694), (13, .slice A_297 fr.length c_298), (8, .pointer (some ⟨w22.heap.size, 0, none⟩)), (4, .pointer (some ⟨w.heap.size, 0, none⟩)), (2, .int .i64 (p))]) ∧ (Ext w w_) ∧ (RdG w_ 0 w.heap.size Ag0 Ag1 Ag2 cg0 cg1 cg2 g) ∧ (RdT w_ 0 w.heap.size) ∧ (Bx w_ (w.heap.size) [.slice Ag0 g.ow.length cg0, .slice Ag1 g.pr.length cg1, .slice Ag2 g.mv.length cg2] 25) ∧ (Bx w_ (w22.heap.size) ((List.replicate 4 (0 : Int) : List Int).map wV) 28) ∧ (OwnLL w_ (w227.heap.size) [obk (A_697), some (w570.heap.size), obk (A_695), obk (A_693)] A_297 c_298 22 3 (fr : List (List Int))) ∧ (OwnR w_ (Sx (w239.heap.size) [obk (A_697), some (w570.heap.size), obk (A_695), obk (A_297)]) A_693 c_694 3 (lf4 : List Int)) ∧ (OwnR w_ (Sx (w258.heap.size) [obk (A_697), some (w570.heap.size), obk (A_297), obk (A_693)]) A_695 c_696 3 (ms4 : List Int)) ∧ (Bx w_ (w570.heap.size) ((ss2 : List Int).map wV) 28) ∧ (OwnR w_ (Sx (w601.heap.size) [obk (A_297), obk (A_693), obk (A_695)]) A_697 c_698 3 (op4 : List Int)) ∧ (OwnR w_ (Sx (w227.heap.size) [obk (A_297), obk (A_697), some (w570.heap.size), obk (A_695), obk (A_693)]) R684 C685 3 (gL fr (gI op 0) : List Int)) ∧ (0 ≤ q) ∧ (q ≤ ((gL fr (gI op 0)).length : Int)) ∧ (OkW ss2) ∧ (∃ tl, op4 = gI op 0 :: tl ∧ AW g (inT g s) p (fromW t) (fromW ss2) (gI op 0 :: tl) lf4 ms4 pr [gI op 0] ((gL fr (gI op 0)).drop q.toNat)) ∧ (2 * lenW ss - (op.length : Int) ≤ 2 * lenW ss2 - (op4.length : Int)) ∧ (ss2.length = 4) ∧ (w227.heap.size ≤ w_.heap.size) ∧ (w239.heap.size ≤ w_.heap.size) ∧ (w258.heap.size ≤ w_.heap.size) ∧ (w601.heap.size ≤ w_.heap.size)) _ ⟨0, ss, (lf3 : List Int), A_641, c_642, (ms3 : List Int), A_643, c_644, (op : List Int), A_645, c_646, rfl, f699, e653, r656, r657, bx658, bx659, r660, ow661, ow662, bx663, ow664, ow687, (by omega), (by omega), hok, ⟨_, hop, by rw [show (0 : Int).toNat = 0 from rfl, List.drop_zero]; exact hwo⟩, (Int.le_refl _), hok.1, (by omega), (by omega), (by omega), (by omega)⟩ ?_
     clear f699 f702
     clear r656
     clear r657
     clear bx658
     clear bx659
     clear r660
     clear ow661
     clear ow662
     clear bx663
     clear ow664
     clear ow687
     clear e653
     intro m_ act703 w704 ⟨q, ss2, lf4, A_693, c_694, ms4, A_695, c_696, op4, A_697, c_698, hm706, f707, e705, r708, r709, bx710, bx711, r712, ow713, ow714, bx715, ow716, ow717, i718, i719, hok2, hwi, hme, i720, i721, i722, i723, i724⟩
     have szw704 := e705.size
     have := bx710.lt
     have := bx711.lt
     have := bx715.lt
     have hlw2_ := lenW_le ss2
     refine wp_seq ?_
     refine At.start ?_
     refine At.rd f707 1 [[]] [(114, .bool (decide ((q : Int) < (((gL fr (gI op 0)).length : Nat) : Int))))] [] (by kernel_rfl) trivial (fun act726 f725 => ?_)
     clear f707
     refine At.done rfl ?_
     refine t_n ?_
     refine wp_seq ?_
     refine cond_S f725 (t := decide ((q : Int) < (((gL fr (gI op 0)).length : Nat) : Int))) rfl (fun h727 => ?_) (fun h727 => ?_)
     ·have q728 := of_decide_eq_true h727
      refine wp_skip ?_
      refine t_n ?_
      refine wp_seq ?_
      refine wp_block ?_
      refine wp_seq ?_
      obtain ⟨tl, hop4, hwi⟩ := hwi
      rw [drop_at (r := []) (by omega) (by omega)] at hwi
      have hil := (hld.2 (gI (gL fr (gI op 0)) q)).1 (mem_of_gI (by omega) (by omega))
      have hi1 := hil.1
      have hi2 := hil.2.1
      have hnr := nd_drop hld.1 (k := q) (by omega) (by omega)
      have hal := aw_lb hG hwi hi1 hi2 hil.2.2.1
      have hll4 := hwi.ll
      have hml4 := hwi.ml
      have hol := aw_len hwi
      have hol4 := congrArg List.length hop4
      simp only [List.length_cons] at hol hol4
      refine At.start ?_
      obtain ⟨ad729, hA730, hb733, hc732, hc731⟩ := ow717.get (q) (by omega) (by omega) (sz := 1) rfl
      refine At.rd f725 3 [[.ad ad729], [.ld (.int .i64 (gI (gL fr (gI op 0)) q))], []] [(23, .int .i64 (gI (gL fr (gI op 0)) q)), (116, .int .i64 (gI (gL fr (gI op 0)) q)), (115, .pointer (some (ad729.add ((q : Int).toNat * 1))))] [(R684 = some ad729), (0 ≤ (q : Int)), ((q : Int) < ((gL fr (gI op 0)).length : Nat)), (w704.cell? (ad729.add ((q : Int).toNat * 1)) = some (.int .i64 (gI (gL fr (gI op 0)) q)))] (by kernel_rfl) ⟨hA730, (by omega), (by omega), hc732, trivial⟩ (fun act735 f734 => ?_)
      clear f725
      refine At.done rfl ?_
      refine t_n ?_
      refine wp_seq ?_
      refine At.start ?_
      obtain ⟨ad736, hA737, hb740, hc739, hc738⟩ := ow713.get (gI (gL fr (gI op 0)) q) (by omega) (by omega) (sz := 1) rfl
      obtain ⟨ad741, hA742, hb745, hc744, hc743⟩ := ow713.get (gI (gL fr (gI op 0)) q) (by omega) (by omega) (sz := 1) rfl
      refine At.rd f734 6 [[], [], [.ad ad736], [.ld (.int .i64 (gI lf4 (gI (gL fr (gI op 0)) q)))], [.as_ (.int .i64 ((gI lf4 (gI (gL fr (gI op 0)) q)) - 1))], [.ad ad741]] [(122, .pointer (some (ad741.add ((gI (gL fr (gI op 0)) q : Int).toNat * 1)))), (121, .int .i64 ((gI lf4 (gI (gL fr (gI op 0)) q)) - 1)), (120, .int .i64 (gI lf4 (gI (gL fr (gI op 0)) q))), (119, .pointer (some (ad736.add ((gI (gL fr (gI op 0)) q : Int).toNat * 1)))), (118, .int .i64 (gI (gL fr (gI op 0)) q)), (117, .slice A_693 lf4.length c_694)] [(A_693 = some ad736), (0 ≤ (gI (gL fr (gI op 0)) q : Int)), ((gI (gL fr (gI op 0)) q : Int) < (lf4.length : Nat)), (w704.cell? (ad736.add ((gI (gL fr (gI op 0)) q : Int).toNat * 1)) = some (.int .i64 (gI lf4 (gI (gL fr (gI op 0)) q)))), ((.int .i64 (IntKind.i64.wrap ((gI lf4 (gI (gL fr (gI op 0)) q)) - 1)) : Value) = .int .i64 ((gI lf4 (gI (gL fr (gI op 0)) q)) - 1)), (A_693 = some ad741), (0 ≤ (gI (gL fr (gI op 0)) q : Int)), ((gI (gL fr (gI op 0)) q : Int) < (lf4.length : Nat))] (by kernel_rfl) ⟨hA737, (by omega), (by omega), hc739, (w64 (by omega) (by omega)), hA742, (by omega), (by omega), trivial⟩ (fun act747 f746 => ?_)
      clear f734
      refine At.act f746 (storeR (α := Int) (t := 3) (i := gI (gL fr (gI op 0)) q) (ad := ad741) (v := .int .i64 ((gI lf4 (gI (gL fr (gI op 0)) q)) - 1)) ((gI lf4 (gI (gL fr (gI op 0)) q)) - 1) (by kernel_rfl) rfl rfl (by kernel_rfl) hA742 ow713 (by omega) (by omega)) ?_
      rintro d_ v_ w748 ⟨rfl, g749, ow750⟩
      refine ⟨_, rfl, fun act753 f752 => ?_⟩
      clear f746
      have hl751 : ((lf4).set (gI (gL fr (gI op 0)) q : Int).toNat ((gI lf4 (gI (gL fr (gI op 0)) q)) - 1)).length = (lf4).length := List.length_set
      have szw748 := g749.size
      replace e705 := e705.gr g749 (fun k hk => by have := ow713.ge k hk; omega)
      replace r708 := r708.gr g749 (fun k hk => by have := ow713.ge k hk; omega)
      replace r709 := r709.gr g749 (fun k hk => by have := ow713.ge k hk; omega)
      replace bx710 := bx710.gr g749 (fun e => by have := ow713.ge _ e; omega)
      replace bx711 := bx711.gr g749 (fun e => by have := ow713.ge _ e; omega)
      have ow759 := r712.gr g749 (fun k hk => hk.2.2.2.1)
      clear r712
      replace ow714 := ow714.gr g749 (fun k hk => hk.2.2.2.1)
      replace bx715 := bx715.gr g749 (ow713.neb (fun g hs => hs.2.1))
      replace ow716 := ow716.gr g749 (fun k hk => hk.2.1)
      replace ow717 := ow717.gr g749 (fun k hk => hk.2.2.2.2.1)
      clear ow713 g749
      refine At.done rfl ?_
      refine t_n ?_
      refine wp_seq ?_
      refine wp_seq ?_
      have hgs : gI (lf4.set (gI (gL fr (gI op 0)) q).toNat (gI lf4 (gI (gL fr (gI op 0)) q) - 1)) (gI (gL fr (gI op 0)) q) = gI lf4 (gI (gL fr (gI op 0)) q) - 1 := by rw [gI_setE (by omega) (by omega) (by omega), if_pos rfl]
      refine At.start ?_
      refine At.rd f752 2 [[.cs ((ss2 : List Int).map wV)], []] [(124, .int .i64 (gI (gL fr (gI op 0)) q)), (123, .agg ((ss2 : List Int).map wV).toArray)] [(((ss2 : List Int).map wV).length = 4), (∀ (j : Nat) (v : Value), ((ss2 : List Int).map wV)[j]? = some v → w748.cell? ((⟨w570.heap.size, 0, none⟩ : Addr).add j) = some v)] (by kernel_rfl) ⟨((List.length_map _).trans (by assumption)), bx715.whole, trivial⟩ (fun act765 f764 => ?_)
      clear f752
      refine At.call f764 23 #[.agg ((ss2 : List Int).map wV).toArray, .int .i64 (gI (gL fr (gI op 0)) q)] (some 125) (by kernel_rfl) (has_any (s := ss2) (n := gI (gL fr (gI op 0)) q) (by assumption)) ?_
      rintro e_ w766 ⟨rfl, he⟩
      refine ⟨_, rfl, _, rfl, fun act767 f768 => ?_⟩
      clear f764
      have g769 := gr_ext he
      have szw766 := g769.size
      replace e705 := e705.gr g769 no_row
      replace r708 := r708.gr g769 (fun _ h => by cases h)
      replace r709 := r709.gr g769 (fun _ h => by cases h)
      replace bx710 := bx710.gr g769 (by simp)
      replace bx711 := bx711.gr g769 (by simp)
      replace ow759 := ow759.gr g769 (fun _ _ h => by cases h)
      replace ow750 := ow750.gr g769 (fun _ _ h => by cases h)
      replace ow714 := ow714.gr g769 (fun _ _ h => by cases h)
      replace bx715 := bx715.gr g769 (by simp)
      replace ow716 := ow716.gr g769 (fun _ _ h => by cases h)
      replace ow717 := ow717.gr g769 (fun _ _ h => by cases h)
      clear g769 he
      rcases Bool.eq_false_or_eq_true (hasW ss2 (gI (gL fr (gI op 0)) q)) with h781 | h781
      ·refine At.rd f768 16 [[.as_ (.bool true)], [], [], [], [], [], [], [], [], [], [], [], [], [], [], []] [(141, .bool true), (140, undef), (139, undef), (138, undef), (137, undef), (136, undef), (135, undef), (134, undef), (133, undef), (132, undef), (131, undef), (130, undef), (129, undef), (128, undef), (127, undef), (126, .bool true)] [((.bool (hasW ss2 (gI (gL fr (gI op 0)) q)) : Value) = .bool true)] (by kernel_rfl) ⟨(congrArg Value.bool h781), trivial⟩ (fun act784 f783 => ?_)
       clear f768
       refine At.done rfl ?_
       refine t_n ?_
       refine cond_T f783 rfl ?_
       refine wp_exit ?_
       refine t_e ?_
       refine b_e ?_
       refine t_n ?_
       refine At.start ?_
       refine At.rd f783 2 [[.as_ (.int .i64 (q + 1))], []] [(113, .int .i64 (q + 1)), (160, .int .i64 (q + 1))] [((.int .i64 (IntKind.i64.wrap (q + 1)) : Value) = .int .i64 (q + 1))] (by kernel_rfl) ⟨(w64 (by omega) (by omega)), trivial⟩ (fun act786 f785 => ?_)
       clear f783
       refine At.done rfl ?_
       refine t_n ?_
       have f787 := f785.as 20 (.slice A_697 op4.length c_698) (.slice A_697 ((op4 : List Int).length) c_698) rfl (slice_len (by first | rfl | omega | (simp; done) | (simp; omega)))
       clear f785
       have f788 := f787.as 15 (.slice A_695 ms4.length c_696) (.slice A_695 ((ms4 : List Int).length) c_696) rfl (slice_len (by first | rfl | omega | (simp; done) | (simp; omega)))
       clear f787
       have f789 := f788.as 14 (.slice A_693 lf4.length c_694) (.slice A_693 (((lf4).set (gI (gL fr (gI op 0)) q : Int).toNat ((gI lf4 (gI (gL fr (gI op 0)) q)) - 1) : List Int).length) c_694) rfl (slice_len (by first | rfl | omega | (simp; done) | (simp; omega)))
       clear f788
       have f790 := f789.sub (r := [(20, .slice A_697 ((op4 : List Int).length) c_698), (113, .int .i64 (q + 1)), (112, .int .i64 ((((gL fr (gI op 0)).length : Nat) : Int))), (111, .slice R684 ((gL fr (gI op 0)).length) C685), (21, .int .i64 (gI op 0)), (19, .pointer (some ⟨w570.heap.size, 0, none⟩)), (15, .slice A_695 ((ms4 : List Int).length) c_696), (14, .slice A_693 (((lf4).set (gI (gL fr (gI op 0)) q : Int).toNat ((gI lf4 (gI (gL fr (gI op 0)) q)) - 1) : List Int).length) c_694), (13, .slice A_297 fr.length c_298), (8, .pointer (some ⟨w22.heap.size, 0, none⟩)), (4, .pointer (some ⟨w.heap.size, 0, none⟩)), (2, .int .i64 (p))]) ⟨rfl, rfl, rfl, rfl, rfl, rfl, rfl, rfl, rfl, rfl, rfl, rfl, trivial⟩
       exact ⟨_, (by omega), (q + 1), ss2, ((lf4).set (gI (gL fr (gI op 0)) q : Int).toNat ((gI lf4 (gI (gL fr (gI op 0)) q)) - 1) : List Int), A_693, c_694, (ms4 : List Int), A_695, c_696, (op4 : List Int), A_697, c_698, rfl, f790, e705, r708, r709, bx710, bx711, ow759, ow750, ow714, bx715, ow716, ow717, (by omega), (by omega), hok2, ⟨tl, hop4, aw_skip hnd hwi hil hnr (by first | exact .inl (by rw [← has_W (by omega) (by omega)]; assumption) | exact .inr ⟨by omega, by omega⟩)⟩, (by omega), hok2.1, (by omega), (by omega), (by omega), (by omega)⟩
      ·obtain ⟨ad792, hA793, _, _, hc794⟩ := RdI.get r708.ow (gI (gL fr (gI op 0)) q) (by omega) (by omega)
       rcases Bool.eq_false_or_eq_true ((gI g.ow (gI (gL fr (gI op 0)) q) : Int) != p) with h795 | h795
       ·have q796 := bne_iff_ne.1 h795
        obtain ⟨ad797, hA798, hb801, hc800, hc799⟩ := ow750.get (gI (gL fr (gI op 0)) q) (by omega) (by omega) (sz := 1) rfl
        refine At.rd f768 16 [[.as_ (.bool false)], [], [.ld (.slice Ag0 g.ow.length cg0)], [], [.ad ad792], [.ld (.int .i64 (gI g.ow (gI (gL fr (gI op 0)) q)))], [], [], [.as_ (.bool true)], [], [], [.ad ad797], [.ld (.int .i64 (gI ((lf4).set (gI (gL fr (gI op 0)) q : Int).toNat ((gI lf4 (gI (gL fr (gI op 0)) q)) - 1)) (gI (gL fr (gI op 0)) q)))], [], [], []] [(141, .bool (decide ((gI ((lf4).set (gI (gL fr (gI op 0)) q : Int).toNat ((gI lf4 (gI (gL fr (gI op 0)) q)) - 1)) (gI (gL fr (gI op 0)) q) : Int) > 0))), (140, .bool (decide ((gI ((lf4).set (gI (gL fr (gI op 0)) q : Int).toNat ((gI lf4 (gI (gL fr (gI op 0)) q)) - 1)) (gI (gL fr (gI op 0)) q) : Int) > 0))), (139, .bool (decide ((gI ((lf4).set (gI (gL fr (gI op 0)) q : Int).toNat ((gI lf4 (gI (gL fr (gI op 0)) q)) - 1)) (gI (gL fr (gI op 0)) q) : Int) > 0))), (138, .int .i64 (gI ((lf4).set (gI (gL fr (gI op 0)) q : Int).toNat ((gI lf4 (gI (gL fr (gI op 0)) q)) - 1)) (gI (gL fr (gI op 0)) q))), (137, .pointer (some (ad797.add ((gI (gL fr (gI op 0)) q : Int).toNat * 1)))), (136, .int .i64 (gI (gL fr (gI op 0)) q)), (135, .slice A_693 lf4.length c_694), (134, .bool true), (133, .bool ((gI g.ow (gI (gL fr (gI op 0)) q) : Int) != p)), (132, .int .i64 (p)), (131, .int .i64 (gI g.ow (gI (gL fr (gI op 0)) q))), (130, .pointer (some (ad792.add ((gI (gL fr (gI op 0)) q : Int).toNat * 1)))), (129, .int .i64 (gI (gL fr (gI op 0)) q)), (128, .slice Ag0 g.ow.length cg0), (127, .pointer (some ⟨w.heap.size, 0, none⟩)), (126, .bool false)] [((.bool (hasW ss2 (gI (gL fr (gI op 0)) q)) : Value) = .bool false), (w766.cell? ⟨w.heap.size, 0, none⟩ = some (.slice Ag0 g.ow.length cg0)), (Ag0 = some ad792), (0 ≤ (gI (gL fr (gI op 0)) q : Int)), ((gI (gL fr (gI op 0)) q : Int) < (g.ow.length : Nat)), (w766.cell? (ad792.add ((gI (gL fr (gI op 0)) q : Int).toNat * 1)) = some (.int .i64 (gI g.ow (gI (gL fr (gI op 0)) q)))), ((.bool ((gI g.ow (gI (gL fr (gI op 0)) q) : Int) != p) : Value) = .bool true), (A_693 = some ad797), (0 ≤ (gI (gL fr (gI op 0)) q : Int)), ((gI (gL fr (gI op 0)) q : Int) < (lf4.length : Nat)), (w766.cell? (ad797.add ((gI (gL fr (gI op 0)) q : Int).toNat * 1)) = some (.int .i64 (gI ((lf4).set (gI (gL fr (gI op 0)) q : Int).toNat ((gI lf4 (gI (gL fr (gI op 0)) q)) - 1)) (gI (gL fr (gI op 0)) q))))] (by kernel_rfl) ⟨(congrArg Value.bool h781), (bx710.cell (i := 0) rfl), hA793, (by omega), (by omega), hc794, (congrArg Value.bool h795), hA798, (by omega), (by omega), hc800, trivial⟩ (fun act803 f802 => ?_)
        clear f768
        refine At.done rfl ?_
        refine t_n ?_
        refine cond_S f802 (t := decide ((gI ((lf4).set (gI (gL fr (gI op 0)) q : Int).toNat ((gI lf4 (gI (gL fr (gI op 0)) q)) - 1)) (gI (gL fr (gI op 0)) q) : Int) > 0)) rfl (fun h804 => ?_) (fun h804 => ?_)
        ·have q805 := of_decide_eq_true h804
         refine wp_exit ?_
         refine t_e ?_
         refine b_e ?_
         refine t_n ?_
         refine At.start ?_
         refine At.rd f802 2 [[.as_ (.int .i64 (q + 1))], []] [(113, .int .i64 (q + 1)), (160, .int .i64 (q + 1))] [((.int .i64 (IntKind.i64.wrap (q + 1)) : Value) = .int .i64 (q + 1))] (by kernel_rfl) ⟨(w64 (by omega) (by omega)), trivial⟩ (fun act807 f806 => ?_)
         clear f802
         refine At.done rfl ?_
         refine t_n ?_
         have f808 := f806.as 20 (.slice A_697 op4.length c_698) (.slice A_697 ((op4 : List Int).length) c_698) rfl (slice_len (by first | rfl | omega | (simp; done) | (simp; omega)))
         clear f806
         have f809 := f808.as 15 (.slice A_695 ms4.length c_696) (.slice A_695 ((ms4 : List Int).length) c_696) rfl (slice_len (by first | rfl | omega | (simp; done) | (simp; omega)))
         clear f808
         have f810 := f809.as 14 (.slice A_693 lf4.length c_694) (.slice A_693 (((lf4).set (gI (gL fr (gI op 0)) q : Int).toNat ((gI lf4 (gI (gL fr (gI op 0)) q)) - 1) : List Int).length) c_694) rfl (slice_len (by first | rfl | omega | (simp; done) | (simp; omega)))
         clear f809
         have f811 := f810.sub (r := [(20, .slice A_697 ((op4 : List Int).length) c_698), (113, .int .i64 (q + 1)), (112, .int .i64 ((((gL fr (gI op 0)).length : Nat) : Int))), (111, .slice R684 ((gL fr (gI op 0)).length) C685), (21, .int .i64 (gI op 0)), (19, .pointer (some ⟨w570.heap.size, 0, none⟩)), (15, .slice A_695 ((ms4 : List Int).length) c_696), (14, .slice A_693 (((lf4).set (gI (gL fr (gI op 0)) q : Int).toNat ((gI lf4 (gI (gL fr (gI op 0)) q)) - 1) : List Int).length) c_694), (13, .slice A_297 fr.length c_298), (8, .pointer (some ⟨w22.heap.size, 0, none⟩)), (4, .pointer (some ⟨w.heap.size, 0, none⟩)), (2, .int .i64 (p))]) ⟨rfl, rfl, rfl, rfl, rfl, rfl, rfl, rfl, rfl, rfl, rfl, rfl, trivial⟩
         exact ⟨_, (by omega), (q + 1), ss2, ((lf4).set (gI (gL fr (gI op 0)) q : Int).toNat ((gI lf4 (gI (gL fr (gI op 0)) q)) - 1) : List Int), A_693, c_694, (ms4 : List Int), A_695, c_696, (op4 : List Int), A_697, c_698, rfl, f811, e705, r708, r709, bx710, bx711, ow759, ow750, ow714, bx715, ow716, ow717, (by omega), (by omega), hok2, ⟨tl, hop4, aw_skip hnd hwi hil hnr (by first | exact .inl (by rw [← has_W (by omega) (by omega)]; assumption) | exact .inr ⟨by omega, by omega⟩)⟩, (by omega), hok2.1, (by omega), (by omega), (by omega), (by omega)⟩
        ·have q812 := of_decide_eq_false h804
         refine wp_skip ?_
         refine t_n ?_
         refine wp_seq ?_
         refine wp_seq ?_
         refine At.start ?_
         obtain ⟨ad813, hA814, _, _, hc815⟩ := RdI.get r708.ow (gI (gL fr (gI op 0)) q) (by omega) (by omega)
         refine At.rd f802 7 [[], [.ld (.slice Ag0 g.ow.length cg0)], [], [.ad ad813], [.ld (.int .i64 (gI g.ow (gI (gL fr (gI op 0)) q)))], [], []] [(148, .bool ((gI g.ow (gI (gL fr (gI op 0)) q) : Int) == p)), (147, .int .i64 (p)), (146, .int .i64 (gI g.ow (gI (gL fr (gI op 0)) q))), (145, .pointer (some (ad813.add ((gI (gL fr (gI op 0)) q : Int).toNat * 1)))), (144, .int .i64 (gI (gL fr (gI op 0)) q)), (143, .slice Ag0 g.ow.length cg0), (142, .pointer (some ⟨w.heap.size, 0, none⟩))] [(w766.cell? ⟨w.heap.size, 0, none⟩ = some (.slice Ag0 g.ow.length cg0)), (Ag0 = some ad813), (0 ≤ (gI (gL fr (gI op 0)) q : Int)), ((gI (gL fr (gI op 0)) q : Int) < (g.ow.length : Nat)), (w766.cell? (ad813.add ((gI (gL fr (gI op 0)) q : Int).toNat * 1)) = some (.int .i64 (gI g.ow (gI (gL fr (gI op 0)) q))))] (by kernel_rfl) ⟨(bx710.cell (i := 0) rfl), hA814, (by omega), (by omega), hc815, trivial⟩ (fun act817 f816 => ?_)
         clear f802
         refine At.done rfl ?_
         refine t_n ?_
         refine cond_S f816 (t := (gI g.ow (gI (gL fr (gI op 0)) q) : Int) == p) rfl (fun h818 => ?_) (fun h818 => ?_)
         ·have q819 := eq_of_beq h818
          refine At.start ?_
          obtain ⟨ad820, hA821, hb824, hc823, hc822⟩ := ow714.get (gI (gL fr (gI op 0)) q) (by omega) (by omega) (sz := 1) rfl
          refine At.rd f816 4 [[], [], [], [.ad ad820]] [(152, .pointer (some (ad820.add ((gI (gL fr (gI op 0)) q : Int).toNat * 1)))), (151, .int .i64 (gI op 0)), (150, .int .i64 (gI (gL fr (gI op 0)) q)), (149, .slice A_695 ms4.length c_696)] [(A_695 = some ad820), (0 ≤ (gI (gL fr (gI op 0)) q : Int)), ((gI (gL fr (gI op 0)) q : Int) < (ms4.length : Nat))] (by kernel_rfl) ⟨hA821, (by omega), (by omega), trivial⟩ (fun act826 f825 => ?_)
          clear f816
          refine At.act f825 (storeR (α := Int) (t := 3) (i := gI (gL fr (gI op 0)) q) (ad := ad820) (v := .int .i64 (gI op 0)) (gI op 0) (by kernel_rfl) rfl rfl (by kernel_rfl) hA821 ow714 (by omega) (by omega)) ?_
          rintro d_ v_ w827 ⟨rfl, g828, ow829⟩
          refine ⟨_, rfl, fun act832 f831 => ?_⟩
          clear f825
          have hl830 : ((ms4).set (gI (gL fr (gI op 0)) q : Int).toNat (gI op 0)).length = (ms4).length := List.length_set
          have szw827 := g828.size
          replace e705 := e705.gr g828 (fun k hk => by have := ow714.ge k hk; omega)
          replace r708 := r708.gr g828 (fun k hk => by have := ow714.ge k hk; omega)
          replace r709 := r709.gr g828 (fun k hk => by have := ow714.ge k hk; omega)
          replace bx710 := bx710.gr g828 (fun e => by have := ow714.ge _ e; omega)
          replace bx711 := bx711.gr g828 (fun e => by have := ow714.ge _ e; omega)
          replace ow759 := ow759.gr g828 (fun k hk => hk.2.2.1)
          replace ow750 := ow750.gr g828 (fun k hk => hk.2.2.1)
          replace bx715 := bx715.gr g828 (ow714.neb (fun g hs => hs.2.1))
          replace ow716 := ow716.gr g828 (fun k hk => hk.2.2.1)
          replace ow717 := ow717.gr g828 (fun k hk => hk.2.2.2.1)
          clear ow714 g828
          refine At.done rfl ?_
          refine t_n ?_
          refine wp_seq ?_
          refine At.start ?_
          refine At.rd f831 2 [[.cs ((ss2 : List Int).map wV)], []] [(154, .int .i64 (gI (gL fr (gI op 0)) q)), (153, .agg ((ss2 : List Int).map wV).toArray)] [(((ss2 : List Int).map wV).length = 4), (∀ (j : Nat) (v : Value), ((ss2 : List Int).map wV)[j]? = some v → w827.cell? ((⟨w570.heap.size, 0, none⟩ : Addr).add j) = some v)] (by kernel_rfl) ⟨((List.length_map _).trans (by assumption)), bx715.whole, trivial⟩ (fun act844 f843 => ?_)
          clear f831
          refine At.call f843 27 #[.agg ((ss2 : List Int).map wV).toArray, .int .i64 (gI (gL fr (gI op 0)) q)] (some 155) (by kernel_rfl) (with_any (s := ss2) (n := gI (gL fr (gI op 0)) q) (by assumption)) ?_
          rintro e_ w845 ⟨rfl, he⟩
          refine ⟨_, rfl, _, rfl, fun act846 f847 => ?_⟩
          clear f843
          have g848 := gr_ext he
          have szw845 := g848.size
          replace e705 := e705.gr g848 no_row
          replace r708 := r708.gr g848 (fun _ h => by cases h)
          replace r709 := r709.gr g848 (fun _ h => by cases h)
          replace bx710 := bx710.gr g848 (by simp)
          replace bx711 := bx711.gr g848 (by simp)
          replace ow759 := ow759.gr g848 (fun _ _ h => by cases h)
          replace ow750 := ow750.gr g848 (fun _ _ h => by cases h)
          replace ow829 := ow829.gr g848 (fun _ _ h => by cases h)
          replace bx715 := bx715.gr g848 (by simp)
          replace ow716 := ow716.gr g848 (fun _ _ h => by cases h)
          replace ow717 := ow717.gr g848 (fun _ _ h => by cases h)
          clear g848 he
          refine At.act f847 (storeBlk (t := 28) (b := w570.heap.size) (n := 4) (cs' := ((withW ss2 (gI (gL fr (gI op 0)) q) : List Int).map wV)) (by kernel_rfl) (by kernel_rfl) ((List.length_map _).trans (okLen (okW_with (by assumption)))) oneW_ ((show ((withW ss2 (gI (gL fr (gI op 0)) q) : List Int).map wV).length = 4 from ((List.length_map _).trans (okLen (okW_with (by assumption))))).trans (show ((ss2 : List Int).map wV).length = 4 from ((List.length_map _).trans (by assumption))).symm) bx715) ?_
          rintro d_ v_ w860 ⟨rfl, g861, bx862⟩
          refine ⟨_, rfl, fun act864 f863 => ?_⟩
          clear f847
          have szw860 := g861.size
          replace e705 := e705.gr g861 (fun k h => by injection h; omega)
          replace r708 := r708.gr g861 (fun k h => by injection h; omega)
          replace r709 := r709.gr g861 (fun k h => by injection h; omega)
          replace bx710 := bx710.gr g861 (fun h => by injection h; omega)
          replace bx711 := bx711.gr g861 (fun h => by injection h; omega)
          replace ow759 := ow759.gr g861 (fun k hk => hk.2.1)
          replace ow750 := ow750.gr g861 (fun k hk => hk.2.1)
          replace ow829 := ow829.gr g861 (fun k hk => hk.2.1)
          replace ow716 := ow716.gr g861 (fun k hk e => by have := Sx_base hk; injection e; omega)
          replace ow717 := ow717.gr g861 (fun k hk => hk.2.2.1)
          clear bx715 g861
          refine At.done rfl ?_
          refine t_n ?_
          refine At.start ?_
          refine At.rd f863 2 [[], []] [(157, .int .i64 (gI (gL fr (gI op 0)) q)), (156, .slice A_697 op4.length c_698)] [] (by kernel_rfl) trivial (fun act876 f875 => ?_)
          clear f863
          refine At.seq f875 1 [[]] [(158, .slice (some ⟨w860.heap.size, 0, none⟩) 1 1)] (w860.alloc (.cells #[.int .i64 (gI (gL fr (gI op 0)) q)] 3 (0, 0))) [] (by kernel_rfl) trivial (fun act880 w877 hw878 f879 => ?_)
          clear f875
          have g881 := gr_alloc hw878
          have szw877 := g881.size
          replace e705 := e705.gr g881 no_row
          replace r708 := r708.gr g881 (fun _ h => by cases h)
          replace r709 := r709.gr g881 (fun _ h => by cases h)
          replace bx710 := bx710.gr g881 (by simp)
          replace bx711 := bx711.gr g881 (by simp)
          replace ow759 : OwnLL w877 (w227.heap.size) [some (w860.heap.size), obk (A_697), some (w570.heap.size), obk (A_695), obk (A_693)] A_297 c_298 22 3 (fr : List (List Int)) := ow759.grA g881 (fun _ _ h => by cases h) (fun k hk hs => ⟨(fun e => by injection e; omega), hs.1, hs.2.1, hs.2.2.1, hs.2.2.2.1, hs.2.2.2.2⟩)
          replace ow750 : OwnR w877 (Sx (w239.heap.size) [some (w860.heap.size), obk (A_697), some (w570.heap.size), obk (A_695), obk (A_297)]) A_693 c_694 3 ((lf4).set (gI (gL fr (gI op 0)) q : Int).toNat ((gI lf4 (gI (gL fr (gI op 0)) q)) - 1) : List Int) := ow750.grA g881 (fun _ _ h => by cases h) (fun k hk hs => ⟨(fun e => by injection e; omega), hs.1, hs.2.1, hs.2.2.1, hs.2.2.2.1, hs.2.2.2.2⟩)
          replace ow829 : OwnR w877 (Sx (w258.heap.size) [some (w860.heap.size), obk (A_697), some (w570.heap.size), obk (A_297), obk (A_693)]) A_695 c_696 3 ((ms4).set (gI (gL fr (gI op 0)) q : Int).toNat (gI op 0) : List Int) := ow829.grA g881 (fun _ _ h => by cases h) (fun k hk hs => ⟨(fun e => by injection e; omega), hs.1, hs.2.1, hs.2.2.1, hs.2.2.2.1, hs.2.2.2.2⟩)
          replace bx862 := bx862.gr g881 (by simp)
          replace ow716 : OwnR w877 (Sx (w601.heap.size) [some (w860.heap.size), obk (A_297), obk (A_693), obk (A_695)]) A_697 c_698 3 (op4 : List Int) := ow716.grA g881 (fun _ _ h => by cases h) (fun k hk hs => ⟨(fun e => by injection e; omega), hs.1, hs.2.1, hs.2.2.1, hs.2.2.2⟩)
          replace ow717 : OwnR w877 (Sx (w227.heap.size) [some (w860.heap.size), obk (A_297), obk (A_697), some (w570.heap.size), obk (A_695), obk (A_693)]) R684 C685 3 (gL fr (gI op 0) : List Int) := ow717.grA g881 (fun _ _ h => by cases h) (fun k hk hs => ⟨(fun e => by injection e; omega), hs.1, hs.2.1, hs.2.2.1, hs.2.2.2.1, hs.2.2.2.2.1, hs.2.2.2.2.2⟩)
          have bx883 : Bx w877 (w860.heap.size) [.int .i64 (gI (gL fr (gI op 0)) q)] 3 := Bx.new hw878
          have := bx883.lt
          clear g881 hw878
          have hl899 : (op4 ++ ([gI (gL fr (gI op 0)) q])).length = (op4).length + ([gI (gL fr (gI op 0)) q] : List Int).length := List.length_append
          simp only [List.length_cons, List.length_nil] at hl899
          refine At.act f879 (appendR (α := Int) (t := 22) (d := 159) (n := op4.length) (m := 1) (cc := 1) (xs := op4) (ys := [gI (gL fr (gI op 0)) q]) (bytes := 8) (by first | rfl | omega | (simp; done) | (simp; omega)) (by first | rfl | omega | (simp; done) | (simp; omega)) (by kernel_rfl) rfl (by kernel_rfl) ow716 (Bx.srcR (l := ([gI (gL fr (gI op 0)) q] : List Int)) bx883 rfl) (by simp only [List.length_cons, List.length_nil]; omega) (by simp only [List.length_cons, List.length_nil]; omega)) ?_
          rintro d_ v_ w898 ⟨rfl, A895, c896, ha897⟩
          obtain rfl := ha897.val
          have g900 := ha897.gr
          refine ⟨_, rfl, fun act902 f901 => ?_⟩
          clear f879
          clear bx883
          have ow903 := ha897.own (Sx (w601.heap.size) [obk (A_297), obk (A_693), obk (A_695)]) (fun g _ hs => ⟨hs.2.1, hs.2.2.1, hs.2.2.2.1, hs.2.2.2.2⟩) ⟨ow759.ne_new, ow750.ne_new, ow829.ne_new, (show w601.heap.size ≤ w877.heap.size by omega)⟩
          have szw898 := g900.size
          replace e705 := e705.gr g900 (fun k hk => by have := ow716.ge k hk; omega)
          replace r708 := r708.gr g900 (fun k hk => by have := ow716.ge k hk; omega)
          replace r709 := r709.gr g900 (fun k hk => by have := ow716.ge k hk; omega)
          replace bx710 := bx710.gr g900 (fun e => by have := ow716.ge _ e; omega)
          replace bx711 := bx711.gr g900 (fun e => by have := ow716.ge _ e; omega)
          replace ow759 : OwnLL w898 (w227.heap.size) [some (w860.heap.size), obk (A895), some (w570.heap.size), obk (A_695), obk (A_693)] A_297 c_298 22 3 (fr : List (List Int)) := ow759.grA g900 (fun k hk => hk.2.1) (fun k hk hs => ⟨hs.1, own_repl ha897.at_ hs.2.1 hk, hs.2.2.1, hs.2.2.2.1, hs.2.2.2.2.1, hs.2.2.2.2.2⟩)
          replace ow750 : OwnR w898 (Sx (w239.heap.size) [some (w860.heap.size), obk (A895), some (w570.heap.size), obk (A_695), obk (A_297)]) A_693 c_694 3 ((lf4).set (gI (gL fr (gI op 0)) q : Int).toNat ((gI lf4 (gI (gL fr (gI op 0)) q)) - 1) : List Int) := ow750.grA g900 (fun k hk => hk.2.1) (fun k hk hs => ⟨hs.1, own_repl ha897.at_ hs.2.1 hk, hs.2.2.1, hs.2.2.2.1, hs.2.2.2.2.1, hs.2.2.2.2.2⟩)
          replace ow829 : OwnR w898 (Sx (w258.heap.size) [some (w860.heap.size), obk (A895), some (w570.heap.size), obk (A_297), obk (A_693)]) A_695 c_696 3 ((ms4).set (gI (gL fr (gI op 0)) q : Int).toNat (gI op 0) : List Int) := ow829.grA g900 (fun k hk => hk.2.1) (fun k hk hs => ⟨hs.1, own_repl ha897.at_ hs.2.1 hk, hs.2.2.1, hs.2.2.2.1, hs.2.2.2.2.1, hs.2.2.2.2.2⟩)
          replace bx862 := bx862.gr g900 (fun e => by have := ow716.ge _ e; omega)
          replace ow717 : OwnR w898 (Sx (w227.heap.size) [some (w860.heap.size), obk (A_297), obk (A895), some (w570.heap.size), obk (A_695), obk (A_693)]) R684 C685 3 (gL fr (gI op 0) : List Int) := ow717.grA g900 (fun k hk => hk.2.2.1) (fun k hk hs => ⟨hs.1, hs.2.1, own_repl ha897.at_ hs.2.2.1 hk, hs.2.2.2.1, hs.2.2.2.2.1, hs.2.2.2.2.2.1, hs.2.2.2.2.2.2⟩)
          clear ow716 g900 ha897
          refine At.rd f901 1 [[]] [(20, .slice A895 ((op4 ++ ([gI (gL fr (gI op 0)) q])).length) c896)] [] (by kernel_rfl) trivial (fun act915 f914 => ?_)
          clear f901
          refine At.done rfl ?_
          refine b_n ?_
          refine t_n ?_
          refine At.start ?_
          refine At.rd f914 2 [[.as_ (.int .i64 (q + 1))], []] [(113, .int .i64 (q + 1)), (160, .int .i64 (q + 1))] [((.int .i64 (IntKind.i64.wrap (q + 1)) : Value) = .int .i64 (q + 1))] (by kernel_rfl) ⟨(w64 (by omega) (by omega)), trivial⟩ (fun act917 f916 => ?_)
          clear f914
          refine At.done rfl ?_
          refine t_n ?_
          have f918 := f916.as 20 (.slice A895 ((op4 ++ ([gI (gL fr (gI op 0)) q])).length) c896) (.slice A895 ((op4 ++ ([gI (gL fr (gI op 0)) q]) : List Int).length) c896) rfl (slice_len (by first | rfl | omega | (simp; done) | (simp; omega)))
          clear f916
          have f919 := f918.as 15 (.slice A_695 ms4.length c_696) (.slice A_695 (((ms4).set (gI (gL fr (gI op 0)) q : Int).toNat (gI op 0) : List Int).length) c_696) rfl (slice_len (by first | rfl | omega | (simp; done) | (simp; omega)))
          clear f918
          have f920 := f919.as 14 (.slice A_693 lf4.length c_694) (.slice A_693 (((lf4).set (gI (gL fr (gI op 0)) q : Int).toNat ((gI lf4 (gI (gL fr (gI op 0)) q)) - 1) : List Int).length) c_694) rfl (slice_len (by first | rfl | omega | (simp; done) | (simp; omega)))
          clear f919
          have f921 := f920.sub (r := [(20, .slice A895 ((op4 ++ ([gI (gL fr (gI op 0)) q]) : List Int).length) c896), (113, .int .i64 (q + 1)), (112, .int .i64 ((((gL fr (gI op 0)).length : Nat) : Int))), (111, .slice R684 ((gL fr (gI op 0)).length) C685), (21, .int .i64 (gI op 0)), (19, .pointer (some ⟨w570.heap.size, 0, none⟩)), (15, .slice A_695 (((ms4).set (gI (gL fr (gI op 0)) q : Int).toNat (gI op 0) : List Int).length) c_696), (14, .slice A_693 (((lf4).set (gI (gL fr (gI op 0)) q : Int).toNat ((gI lf4 (gI (gL fr (gI op 0)) q)) - 1) : List Int).length) c_694), (13, .slice A_297 fr.length c_298), (8, .pointer (some ⟨w22.heap.size, 0, none⟩)), (4, .pointer (some ⟨w.heap.size, 0, none⟩)), (2, .int .i64 (p))]) ⟨rfl, rfl, rfl, rfl, rfl, rfl, rfl, rfl, rfl, rfl, rfl, rfl, trivial⟩
          exact ⟨_, (by omega), (q + 1), withW ss2 (gI (gL fr (gI op 0)) q), ((lf4).set (gI (gL fr (gI op 0)) q : Int).toNat ((gI lf4 (gI (gL fr (gI op 0)) q)) - 1) : List Int), A_693, c_694, ((ms4).set (gI (gL fr (gI op 0)) q : Int).toNat (gI op 0) : List Int), A_695, c_696, (op4 ++ ([gI (gL fr (gI op 0)) q]) : List Int), A895, c896, rfl, f921, e705, r708, r709, bx710, bx711, (ow759.imp (fun g _ hs => ⟨hs.2.1, hs.2.2.1, hs.2.2.2.1, hs.2.2.2.2.1, hs.2.2.2.2.2⟩)), (ow750.imp (fun g _ hs => ⟨hs.2.1, hs.2.2.1, hs.2.2.2.1, hs.2.2.2.2.1, hs.2.2.2.2.2⟩)), (ow829.imp (fun g _ hs => ⟨hs.2.1, hs.2.2.1, hs.2.2.2.1, hs.2.2.2.2.1, hs.2.2.2.2.2⟩)), bx862, ow903, (ow717.imp (fun g _ hs => ⟨hs.2.1, hs.2.2.1, hs.2.2.2.1, hs.2.2.2.2.1, hs.2.2.2.2.2.1, hs.2.2.2.2.2.2⟩)), (by omega), (by omega), (okW_with hok2), ⟨tl ++ [gI (gL fr (gI op 0)) q], by rw [hop4]; rfl, by rw [from_with hok2]; exact aw_add hG hnd (from_len _) hwi hil hnr (by rw [← has_W (by omega) (by omega)]; assumption) (by omega) (.inl ⟨by omega, rfl⟩)⟩, (by have hlw := len_with (n := gI (gL fr (gI op 0)) q) (m := 1) hok2 (if_pos ⟨by omega, by omega, by assumption⟩).symm; rw [List.length_append]; simp only [List.length_singleton]; omega), (okW_with hok2).1, (by omega), (by omega), (by omega), (by omega)⟩
         ·have q922 := ne_of_beq_false h818
          refine wp_skip ?_
          refine t_n ?_
          refine wp_seq ?_
          refine At.start ?_
          refine At.rd f816 2 [[.cs ((ss2 : List Int).map wV)], []] [(154, .int .i64 (gI (gL fr (gI op 0)) q)), (153, .agg ((ss2 : List Int).map wV).toArray)] [(((ss2 : List Int).map wV).length = 4), (∀ (j : Nat) (v : Value), ((ss2 : List Int).map wV)[j]? = some v → w766.cell? ((⟨w570.heap.size, 0, none⟩ : Addr).add j) = some v)] (by kernel_rfl) ⟨((List.length_map _).trans (by assumption)), bx715.whole, trivial⟩ (fun act924 f923 => ?_)
          clear f816
          refine At.call f923 27 #[.agg ((ss2 : List Int).map wV).toArray, .int .i64 (gI (gL fr (gI op 0)) q)] (some 155) (by kernel_rfl) (with_any (s := ss2) (n := gI (gL fr (gI op 0)) q) (by assumption)) ?_
          rintro e_ w925 ⟨rfl, he⟩
          refine ⟨_, rfl, _, rfl, fun act926 f927 => ?_⟩
          clear f923
          have g928 := gr_ext he
          have szw925 := g928.size
          replace e705 := e705.gr g928 no_row
          replace r708 := r708.gr g928 (fun _ h => by cases h)
          replace r709 := r709.gr g928 (fun _ h => by cases h)
          replace bx710 := bx710.gr g928 (by simp)
          replace bx711 := bx711.gr g928 (by simp)
          replace ow759 := ow759.gr g928 (fun _ _ h => by cases h)
          replace ow750 := ow750.gr g928 (fun _ _ h => by cases h)
          replace ow714 := ow714.gr g928 (fun _ _ h => by cases h)
          replace bx715 := bx715.gr g928 (by simp)
          replace ow716 := ow716.gr g928 (fun _ _ h => by cases h)
          replace ow717 := ow717.gr g928 (fun _ _ h => by cases h)
          clear g928 he
          refine At.act f927 (storeBlk (t := 28) (b := w570.heap.size) (n := 4) (cs' := ((withW ss2 (gI (gL fr (gI op 0)) q) : List Int).map wV)) (by kernel_rfl) (by kernel_rfl) ((List.length_map _).trans (okLen (okW_with (by assumption)))) oneW_ ((show ((withW ss2 (gI (gL fr (gI op 0)) q) : List Int).map wV).length = 4 from ((List.length_map _).trans (okLen (okW_with (by assumption))))).trans (show ((ss2 : List Int).map wV).length = 4 from ((List.length_map _).trans (by assumption))).symm) bx715) ?_
          rintro d_ v_ w940 ⟨rfl, g941, bx942⟩
          refine ⟨_, rfl, fun act944 f943 => ?_⟩
          clear f927
          have szw940 := g941.size
          replace e705 := e705.gr g941 (fun k h => by injection h; omega)
          replace r708 := r708.gr g941 (fun k h => by injection h; omega)
          replace r709 := r709.gr g941 (fun k h => by injection h; omega)
          replace bx710 := bx710.gr g941 (fun h => by injection h; omega)
          replace bx711 := bx711.gr g941 (fun h => by injection h; omega)
          replace ow759 := ow759.gr g941 (fun k hk => hk.2.1)
          replace ow750 := ow750.gr g941 (fun k hk => hk.2.1)
          replace ow714 := ow714.gr g941 (fun k hk => hk.2.1)
          replace ow716 := ow716.gr g941 (fun k hk e => by have := Sx_base hk; injection e; omega)
          replace ow717 := ow717.gr g941 (fun k hk => hk.2.2.1)
          clear bx715 g941
          refine At.done rfl ?_
          refine t_n ?_
          refine At.start ?_
          refine At.rd f943 2 [[], []] [(157, .int .i64 (gI (gL fr (gI op 0)) q)), (156, .slice A_697 op4.length c_698)] [] (by kernel_rfl) trivial (fun act956 f955 => ?_)
          clear f943
          refine At.seq f955 1 [[]] [(158, .slice (some ⟨w940.heap.size, 0, none⟩) 1 1)] (w940.alloc (.cells #[.int .i64 (gI (gL fr (gI op 0)) q)] 3 (0, 0))) [] (by kernel_rfl) trivial (fun act960 w957 hw958 f959 => ?_)
          clear f955
          have g961 := gr_alloc hw958
          have szw957 := g961.size
          replace e705 := e705.gr g961 no_row
          replace r708 := r708.gr g961 (fun _ h => by cases h)
          replace r709 := r709.gr g961 (fun _ h => by cases h)
          replace bx710 := bx710.gr g961 (by simp)
          replace bx711 := bx711.gr g961 (by simp)
          replace ow759 : OwnLL w957 (w227.heap.size) [some (w940.heap.size), obk (A_697), some (w570.heap.size), obk (A_695), obk (A_693)] A_297 c_298 22 3 (fr : List (List Int)) := ow759.grA g961 (fun _ _ h => by cases h) (fun k hk hs => ⟨(fun e => by injection e; omega), hs.1, hs.2.1, hs.2.2.1, hs.2.2.2.1, hs.2.2.2.2⟩)
          replace ow750 : OwnR w957 (Sx (w239.heap.size) [some (w940.heap.size), obk (A_697), some (w570.heap.size), obk (A_695), obk (A_297)]) A_693 c_694 3 ((lf4).set (gI (gL fr (gI op 0)) q : Int).toNat ((gI lf4 (gI (gL fr (gI op 0)) q)) - 1) : List Int) := ow750.grA g961 (fun _ _ h => by cases h) (fun k hk hs => ⟨(fun e => by injection e; omega), hs.1, hs.2.1, hs.2.2.1, hs.2.2.2.1, hs.2.2.2.2⟩)
          replace ow714 : OwnR w957 (Sx (w258.heap.size) [some (w940.heap.size), obk (A_697), some (w570.heap.size), obk (A_297), obk (A_693)]) A_695 c_696 3 (ms4 : List Int) := ow714.grA g961 (fun _ _ h => by cases h) (fun k hk hs => ⟨(fun e => by injection e; omega), hs.1, hs.2.1, hs.2.2.1, hs.2.2.2.1, hs.2.2.2.2⟩)
          replace bx942 := bx942.gr g961 (by simp)
          replace ow716 : OwnR w957 (Sx (w601.heap.size) [some (w940.heap.size), obk (A_297), obk (A_693), obk (A_695)]) A_697 c_698 3 (op4 : List Int) := ow716.grA g961 (fun _ _ h => by cases h) (fun k hk hs => ⟨(fun e => by injection e; omega), hs.1, hs.2.1, hs.2.2.1, hs.2.2.2⟩)
          replace ow717 : OwnR w957 (Sx (w227.heap.size) [some (w940.heap.size), obk (A_297), obk (A_697), some (w570.heap.size), obk (A_695), obk (A_693)]) R684 C685 3 (gL fr (gI op 0) : List Int) := ow717.grA g961 (fun _ _ h => by cases h) (fun k hk hs => ⟨(fun e => by injection e; omega), hs.1, hs.2.1, hs.2.2.1, hs.2.2.2.1, hs.2.2.2.2.1, hs.2.2.2.2.2⟩)
          have bx963 : Bx w957 (w940.heap.size) [.int .i64 (gI (gL fr (gI op 0)) q)] 3 := Bx.new hw958
          have := bx963.lt
          clear g961 hw958
          have hl979 : (op4 ++ ([gI (gL fr (gI op 0)) q])).length = (op4).length + ([gI (gL fr (gI op 0)) q] : List Int).length := List.length_append
          simp only [List.length_cons, List.length_nil] at hl979
          refine At.act f959 (appendR (α := Int) (t := 22) (d := 159) (n := op4.length) (m := 1) (cc := 1) (xs := op4) (ys := [gI (gL fr (gI op 0)) q]) (bytes := 8) (by first | rfl | omega | (simp; done) | (simp; omega)) (by first | rfl | omega | (simp; done) | (simp; omega)) (by kernel_rfl) rfl (by kernel_rfl) ow716 (Bx.srcR (l := ([gI (gL fr (gI op 0)) q] : List Int)) bx963 rfl) (by simp only [List.length_cons, List.length_nil]; omega) (by simp only [List.length_cons, List.length_nil]; omega)) ?_
          rintro d_ v_ w978 ⟨rfl, A975, c976, ha977⟩
          obtain rfl := ha977.val
          have g980 := ha977.gr
          refine ⟨_, rfl, fun act982 f981 => ?_⟩
          clear f959
          clear bx963
          have ow983 := ha977.own (Sx (w601.heap.size) [obk (A_297), obk (A_693), obk (A_695)]) (fun g _ hs => ⟨hs.2.1, hs.2.2.1, hs.2.2.2.1, hs.2.2.2.2⟩) ⟨ow759.ne_new, ow750.ne_new, ow714.ne_new, (show w601.heap.size ≤ w957.heap.size by omega)⟩
          have szw978 := g980.size
          replace e705 := e705.gr g980 (fun k hk => by have := ow716.ge k hk; omega)
          replace r708 := r708.gr g980 (fun k hk => by have := ow716.ge k hk; omega)
          replace r709 := r709.gr g980 (fun k hk => by have := ow716.ge k hk; omega)
          replace bx710 := bx710.gr g980 (fun e => by have := ow716.ge _ e; omega)
          replace bx711 := bx711.gr g980 (fun e => by have := ow716.ge _ e; omega)
          replace ow759 : OwnLL w978 (w227.heap.size) [some (w940.heap.size), obk (A975), some (w570.heap.size), obk (A_695), obk (A_693)] A_297 c_298 22 3 (fr : List (List Int)) := ow759.grA g980 (fun k hk => hk.2.1) (fun k hk hs => ⟨hs.1, own_repl ha977.at_ hs.2.1 hk, hs.2.2.1, hs.2.2.2.1, hs.2.2.2.2.1, hs.2.2.2.2.2⟩)
          replace ow750 : OwnR w978 (Sx (w239.heap.size) [some (w940.heap.size), obk (A975), some (w570.heap.size), obk (A_695), obk (A_297)]) A_693 c_694 3 ((lf4).set (gI (gL fr (gI op 0)) q : Int).toNat ((gI lf4 (gI (gL fr (gI op 0)) q)) - 1) : List Int) := ow750.grA g980 (fun k hk => hk.2.1) (fun k hk hs => ⟨hs.1, own_repl ha977.at_ hs.2.1 hk, hs.2.2.1, hs.2.2.2.1, hs.2.2.2.2.1, hs.2.2.2.2.2⟩)
          replace ow714 : OwnR w978 (Sx (w258.heap.size) [some (w940.heap.size), obk (A975), some (w570.heap.size), obk (A_297), obk (A_693)]) A_695 c_696 3 (ms4 : List Int) := ow714.grA g980 (fun k hk => hk.2.1) (fun k hk hs => ⟨hs.1, own_repl ha977.at_ hs.2.1 hk, hs.2.2.1, hs.2.2.2.1, hs.2.2.2.2.1, hs.2.2.2.2.2⟩)
          replace bx942 := bx942.gr g980 (fun e => by have := ow716.ge _ e; omega)
          replace ow717 : OwnR w978 (Sx (w227.heap.size) [some (w940.heap.size), obk (A_297), obk (A975), some (w570.heap.size), obk (A_695), obk (A_693)]) R684 C685 3 (gL fr (gI op 0) : List Int) := ow717.grA g980 (fun k hk => hk.2.2.1) (fun k hk hs => ⟨hs.1, hs.2.1, own_repl ha977.at_ hs.2.2.1 hk, hs.2.2.2.1, hs.2.2.2.2.1, hs.2.2.2.2.2.1, hs.2.2.2.2.2.2⟩)
          clear ow716 g980 ha977
          refine At.rd f981 1 [[]] [(20, .slice A975 ((op4 ++ ([gI (gL fr (gI op 0)) q])).length) c976)] [] (by kernel_rfl) trivial (fun act995 f994 => ?_)
          clear f981
          refine At.done rfl ?_
          refine b_n ?_
          refine t_n ?_
          refine At.start ?_
          refine At.rd f994 2 [[.as_ (.int .i64 (q + 1))], []] [(113, .int .i64 (q + 1)), (160, .int .i64 (q + 1))] [((.int .i64 (IntKind.i64.wrap (q + 1)) : Value) = .int .i64 (q + 1))] (by kernel_rfl) ⟨(w64 (by omega) (by omega)), trivial⟩ (fun act997 f996 => ?_)
          clear f994
          refine At.done rfl ?_
          refine t_n ?_
          have f998 := f996.as 20 (.slice A975 ((op4 ++ ([gI (gL fr (gI op 0)) q])).length) c976) (.slice A975 ((op4 ++ ([gI (gL fr (gI op 0)) q]) : List Int).length) c976) rfl (slice_len (by first | rfl | omega | (simp; done) | (simp; omega)))
          clear f996
          have f999 := f998.as 15 (.slice A_695 ms4.length c_696) (.slice A_695 ((ms4 : List Int).length) c_696) rfl (slice_len (by first | rfl | omega | (simp; done) | (simp; omega)))
          clear f998
          have f1000 := f999.as 14 (.slice A_693 lf4.length c_694) (.slice A_693 (((lf4).set (gI (gL fr (gI op 0)) q : Int).toNat ((gI lf4 (gI (gL fr (gI op 0)) q)) - 1) : List Int).length) c_694) rfl (slice_len (by first | rfl | omega | (simp; done) | (simp; omega)))
          clear f999
          have f1001 := f1000.sub (r := [(20, .slice A975 ((op4 ++ ([gI (gL fr (gI op 0)) q]) : List Int).length) c976), (113, .int .i64 (q + 1)), (112, .int .i64 ((((gL fr (gI op 0)).length : Nat) : Int))), (111, .slice R684 ((gL fr (gI op 0)).length) C685), (21, .int .i64 (gI op 0)), (19, .pointer (some ⟨w570.heap.size, 0, none⟩)), (15, .slice A_695 ((ms4 : List Int).length) c_696), (14, .slice A_693 (((lf4).set (gI (gL fr (gI op 0)) q : Int).toNat ((gI lf4 (gI (gL fr (gI op 0)) q)) - 1) : List Int).length) c_694), (13, .slice A_297 fr.length c_298), (8, .pointer (some ⟨w22.heap.size, 0, none⟩)), (4, .pointer (some ⟨w.heap.size, 0, none⟩)), (2, .int .i64 (p))]) ⟨rfl, rfl, rfl, rfl, rfl, rfl, rfl, rfl, rfl, rfl, rfl, rfl, trivial⟩
          exact ⟨_, (by omega), (q + 1), withW ss2 (gI (gL fr (gI op 0)) q), ((lf4).set (gI (gL fr (gI op 0)) q : Int).toNat ((gI lf4 (gI (gL fr (gI op 0)) q)) - 1) : List Int), A_693, c_694, (ms4 : List Int), A_695, c_696, (op4 ++ ([gI (gL fr (gI op 0)) q]) : List Int), A975, c976, rfl, f1001, e705, r708, r709, bx710, bx711, (ow759.imp (fun g _ hs => ⟨hs.2.1, hs.2.2.1, hs.2.2.2.1, hs.2.2.2.2.1, hs.2.2.2.2.2⟩)), (ow750.imp (fun g _ hs => ⟨hs.2.1, hs.2.2.1, hs.2.2.2.1, hs.2.2.2.2.1, hs.2.2.2.2.2⟩)), (ow714.imp (fun g _ hs => ⟨hs.2.1, hs.2.2.1, hs.2.2.2.1, hs.2.2.2.2.1, hs.2.2.2.2.2⟩)), bx942, ow983, (ow717.imp (fun g _ hs => ⟨hs.2.1, hs.2.2.1, hs.2.2.2.1, hs.2.2.2.2.1, hs.2.2.2.2.2.1, hs.2.2.2.2.2.2⟩)), (by omega), (by omega), (okW_with hok2), ⟨tl ++ [gI (gL fr (gI op 0)) q], by rw [hop4]; rfl, by rw [from_with hok2]; exact aw_add hG hnd (from_len _) hwi hil hnr (by rw [← has_W (by omega) (by omega)]; assumption) (by omega) (.inr ⟨by omega, rfl⟩)⟩, (by have hlw := len_with (n := gI (gL fr (gI op 0)) q) (m := 1) hok2 (if_pos ⟨by omega, by omega, by assumption⟩).symm; rw [List.length_append]; simp only [List.length_singleton]; omega), (okW_with hok2).1, (by omega), (by omega), (by omega), (by omega)⟩
       ·have q1002 := bne_eq_false_iff_eq.1 h795
        refine At.rd f768 16 [[.as_ (.bool false)], [], [.ld (.slice Ag0 g.ow.length cg0)], [], [.ad ad792], [.ld (.int .i64 (gI g.ow (gI (gL fr (gI op 0)) q)))], [], [], [.as_ (.bool false)], [], [], [], [], [], [], []] [(141, .bool false), (140, .bool false), (139, undef), (138, undef), (137, undef), (136, undef), (135, undef), (134, .bool false), (133, .bool ((gI g.ow (gI (gL fr (gI op 0)) q) : Int) != p)), (132, .int .i64 (p)), (131, .int .i64 (gI g.ow (gI (gL fr (gI op 0)) q))), (130, .pointer (some (ad792.add ((gI (gL fr (gI op 0)) q : Int).toNat * 1)))), (129, .int .i64 (gI (gL fr (gI op 0)) q)), (128, .slice Ag0 g.ow.length cg0), (127, .pointer (some ⟨w.heap.size, 0, none⟩)), (126, .bool false)] [((.bool (hasW ss2 (gI (gL fr (gI op 0)) q)) : Value) = .bool false), (w766.cell? ⟨w.heap.size, 0, none⟩ = some (.slice Ag0 g.ow.length cg0)), (Ag0 = some ad792), (0 ≤ (gI (gL fr (gI op 0)) q : Int)), ((gI (gL fr (gI op 0)) q : Int) < (g.ow.length : Nat)), (w766.cell? (ad792.add ((gI (gL fr (gI op 0)) q : Int).toNat * 1)) = some (.int .i64 (gI g.ow (gI (gL fr (gI op 0)) q)))), ((.bool ((gI g.ow (gI (gL fr (gI op 0)) q) : Int) != p) : Value) = .bool false)] (by kernel_rfl) ⟨(congrArg Value.bool h781), (bx710.cell (i := 0) rfl), hA793, (by omega), (by omega), hc794, (congrArg Value.bool h795), trivial⟩ (fun act1004 f1003 => ?_)
        clear f768
        refine At.done rfl ?_
        refine t_n ?_
        refine cond_F f1003 rfl ?_
        refine wp_skip ?_
        refine t_n ?_
        refine wp_seq ?_
        refine wp_seq ?_
        refine At.start ?_
        obtain ⟨ad1005, hA1006, _, _, hc1007⟩ := RdI.get r708.ow (gI (gL fr (gI op 0)) q) (by omega) (by omega)
        refine At.rd f1003 7 [[], [.ld (.slice Ag0 g.ow.length cg0)], [], [.ad ad1005], [.ld (.int .i64 (gI g.ow (gI (gL fr (gI op 0)) q)))], [], []] [(148, .bool ((gI g.ow (gI (gL fr (gI op 0)) q) : Int) == p)), (147, .int .i64 (p)), (146, .int .i64 (gI g.ow (gI (gL fr (gI op 0)) q))), (145, .pointer (some (ad1005.add ((gI (gL fr (gI op 0)) q : Int).toNat * 1)))), (144, .int .i64 (gI (gL fr (gI op 0)) q)), (143, .slice Ag0 g.ow.length cg0), (142, .pointer (some ⟨w.heap.size, 0, none⟩))] [(w766.cell? ⟨w.heap.size, 0, none⟩ = some (.slice Ag0 g.ow.length cg0)), (Ag0 = some ad1005), (0 ≤ (gI (gL fr (gI op 0)) q : Int)), ((gI (gL fr (gI op 0)) q : Int) < (g.ow.length : Nat)), (w766.cell? (ad1005.add ((gI (gL fr (gI op 0)) q : Int).toNat * 1)) = some (.int .i64 (gI g.ow (gI (gL fr (gI op 0)) q))))] (by kernel_rfl) ⟨(bx710.cell (i := 0) rfl), hA1006, (by omega), (by omega), hc1007, trivial⟩ (fun act1009 f1008 => ?_)
        clear f1003
        refine At.done rfl ?_
        refine t_n ?_
        refine cond_S f1008 (t := (gI g.ow (gI (gL fr (gI op 0)) q) : Int) == p) rfl (fun h1010 => ?_) (fun h1010 => ?_)
        ·have q1011 := eq_of_beq h1010
         refine At.start ?_
         obtain ⟨ad1012, hA1013, hb1016, hc1015, hc1014⟩ := ow714.get (gI (gL fr (gI op 0)) q) (by omega) (by omega) (sz := 1) rfl
         refine At.rd f1008 4 [[], [], [], [.ad ad1012]] [(152, .pointer (some (ad1012.add ((gI (gL fr (gI op 0)) q : Int).toNat * 1)))), (151, .int .i64 (gI op 0)), (150, .int .i64 (gI (gL fr (gI op 0)) q)), (149, .slice A_695 ms4.length c_696)] [(A_695 = some ad1012), (0 ≤ (gI (gL fr (gI op 0)) q : Int)), ((gI (gL fr (gI op 0)) q : Int) < (ms4.length : Nat))] (by kernel_rfl) ⟨hA1013, (by omega), (by omega), trivial⟩ (fun act1018 f1017 => ?_)
         clear f1008
         refine At.act f1017 (storeR (α := Int) (t := 3) (i := gI (gL fr (gI op 0)) q) (ad := ad1012) (v := .int .i64 (gI op 0)) (gI op 0) (by kernel_rfl) rfl rfl (by kernel_rfl) hA1013 ow714 (by omega) (by omega)) ?_
         rintro d_ v_ w1019 ⟨rfl, g1020, ow1021⟩
         refine ⟨_, rfl, fun act1024 f1023 => ?_⟩
         clear f1017
         have hl1022 : ((ms4).set (gI (gL fr (gI op 0)) q : Int).toNat (gI op 0)).length = (ms4).length := List.length_set
         have szw1019 := g1020.size
         replace e705 := e705.gr g1020 (fun k hk => by have := ow714.ge k hk; omega)
         replace r708 := r708.gr g1020 (fun k hk => by have := ow714.ge k hk; omega)
         replace r709 := r709.gr g1020 (fun k hk => by have := ow714.ge k hk; omega)
         replace bx710 := bx710.gr g1020 (fun e => by have := ow714.ge _ e; omega)
         replace bx711 := bx711.gr g1020 (fun e => by have := ow714.ge _ e; omega)
         replace ow759 := ow759.gr g1020 (fun k hk => hk.2.2.1)
         replace ow750 := ow750.gr g1020 (fun k hk => hk.2.2.1)
         replace bx715 := bx715.gr g1020 (ow714.neb (fun g hs => hs.2.1))
         replace ow716 := ow716.gr g1020 (fun k hk => hk.2.2.1)
         replace ow717 := ow717.gr g1020 (fun k hk => hk.2.2.2.1)
         clear ow714 g1020
         refine At.done rfl ?_
         refine t_n ?_
         refine wp_seq ?_
         refine At.start ?_
         refine At.rd f1023 2 [[.cs ((ss2 : List Int).map wV)], []] [(154, .int .i64 (gI (gL fr (gI op 0)) q)), (153, .agg ((ss2 : List Int).map wV).toArray)] [(((ss2 : List Int).map wV).length = 4), (∀ (j : Nat) (v : Value), ((ss2 : List Int).map wV)[j]? = some v → w1019.cell? ((⟨w570.heap.size, 0, none⟩ : Addr).add j) = some v)] (by kernel_rfl) ⟨((List.length_map _).trans (by assumption)), bx715.whole, trivial⟩ (fun act1036 f1035 => ?_)
         clear f1023
         refine At.call f1035 27 #[.agg ((ss2 : List Int).map wV).toArray, .int .i64 (gI (gL fr (gI op 0)) q)] (some 155) (by kernel_rfl) (with_any (s := ss2) (n := gI (gL fr (gI op 0)) q) (by assumption)) ?_
         rintro e_ w1037 ⟨rfl, he⟩
         refine ⟨_, rfl, _, rfl, fun act1038 f1039 => ?_⟩
         clear f1035
         have g1040 := gr_ext he
         have szw1037 := g1040.size
         replace e705 := e705.gr g1040 no_row
         replace r708 := r708.gr g1040 (fun _ h => by cases h)
         replace r709 := r709.gr g1040 (fun _ h => by cases h)
         replace bx710 := bx710.gr g1040 (by simp)
         replace bx711 := bx711.gr g1040 (by simp)
         replace ow759 := ow759.gr g1040 (fun _ _ h => by cases h)
         replace ow750 := ow750.gr g1040 (fun _ _ h => by cases h)
         replace ow1021 := ow1021.gr g1040 (fun _ _ h => by cases h)
         replace bx715 := bx715.gr g1040 (by simp)
         replace ow716 := ow716.gr g1040 (fun _ _ h => by cases h)
         replace ow717 := ow717.gr g1040 (fun _ _ h => by cases h)
         clear g1040 he
         refine At.act f1039 (storeBlk (t := 28) (b := w570.heap.size) (n := 4) (cs' := ((withW ss2 (gI (gL fr (gI op 0)) q) : List Int).map wV)) (by kernel_rfl) (by kernel_rfl) ((List.length_map _).trans (okLen (okW_with (by assumption)))) oneW_ ((show ((withW ss2 (gI (gL fr (gI op 0)) q) : List Int).map wV).length = 4 from ((List.length_map _).trans (okLen (okW_with (by assumption))))).trans (show ((ss2 : List Int).map wV).length = 4 from ((List.length_map _).trans (by assumption))).symm) bx715) ?_
         rintro d_ v_ w1052 ⟨rfl, g1053, bx1054⟩
         refine ⟨_, rfl, fun act1056 f1055 => ?_⟩
         clear f1039
         have szw1052 := g1053.size
         replace e705 := e705.gr g1053 (fun k h => by injection h; omega)
         replace r708 := r708.gr g1053 (fun k h => by injection h; omega)
         replace r709 := r709.gr g1053 (fun k h => by injection h; omega)
         replace bx710 := bx710.gr g1053 (fun h => by injection h; omega)
         replace bx711 := bx711.gr g1053 (fun h => by injection h; omega)
         replace ow759 := ow759.gr g1053 (fun k hk => hk.2.1)
         replace ow750 := ow750.gr g1053 (fun k hk => hk.2.1)
         replace ow1021 := ow1021.gr g1053 (fun k hk => hk.2.1)
         replace ow716 := ow716.gr g1053 (fun k hk e => by have := Sx_base hk; injection e; omega)
         replace ow717 := ow717.gr g1053 (fun k hk => hk.2.2.1)
         clear bx715 g1053
         refine At.done rfl ?_
         refine t_n ?_
         refine At.start ?_
         refine At.rd f1055 2 [[], []] [(157, .int .i64 (gI (gL fr (gI op 0)) q)), (156, .slice A_697 op4.length c_698)] [] (by kernel_rfl) trivial (fun act1068 f1067 => ?_)
         clear f1055
         refine At.seq f1067 1 [[]] [(158, .slice (some ⟨w1052.heap.size, 0, none⟩) 1 1)] (w1052.alloc (.cells #[.int .i64 (gI (gL fr (gI op 0)) q)] 3 (0, 0))) [] (by kernel_rfl) trivial (fun act1072 w1069 hw1070 f1071 => ?_)
         clear f1067
         have g1073 := gr_alloc hw1070
         have szw1069 := g1073.size
         replace e705 := e705.gr g1073 no_row
         replace r708 := r708.gr g1073 (fun _ h => by cases h)
         replace r709 := r709.gr g1073 (fun _ h => by cases h)
         replace bx710 := bx710.gr g1073 (by simp)
         replace bx711 := bx711.gr g1073 (by simp)
         replace ow759 : OwnLL w1069 (w227.heap.size) [some (w1052.heap.size), obk (A_697), some (w570.heap.size), obk (A_695), obk (A_693)] A_297 c_298 22 3 (fr : List (List Int)) := ow759.grA g1073 (fun _ _ h => by cases h) (fun k hk hs => ⟨(fun e => by injection e; omega), hs.1, hs.2.1, hs.2.2.1, hs.2.2.2.1, hs.2.2.2.2⟩)
         replace ow750 : OwnR w1069 (Sx (w239.heap.size) [some (w1052.heap.size), obk (A_697), some (w570.heap.size), obk (A_695), obk (A_297)]) A_693 c_694 3 ((lf4).set (gI (gL fr (gI op 0)) q : Int).toNat ((gI lf4 (gI (gL fr (gI op 0)) q)) - 1) : List Int) := ow750.grA g1073 (fun _ _ h => by cases h) (fun k hk hs => ⟨(fun e => by injection e; omega), hs.1, hs.2.1, hs.2.2.1, hs.2.2.2.1, hs.2.2.2.2⟩)
         replace ow1021 : OwnR w1069 (Sx (w258.heap.size) [some (w1052.heap.size), obk (A_697), some (w570.heap.size), obk (A_297), obk (A_693)]) A_695 c_696 3 ((ms4).set (gI (gL fr (gI op 0)) q : Int).toNat (gI op 0) : List Int) := ow1021.grA g1073 (fun _ _ h => by cases h) (fun k hk hs => ⟨(fun e => by injection e; omega), hs.1, hs.2.1, hs.2.2.1, hs.2.2.2.1, hs.2.2.2.2⟩)
         replace bx1054 := bx1054.gr g1073 (by simp)
         replace ow716 : OwnR w1069 (Sx (w601.heap.size) [some (w1052.heap.size), obk (A_297), obk (A_693), obk (A_695)]) A_697 c_698 3 (op4 : List Int) := ow716.grA g1073 (fun _ _ h => by cases h) (fun k hk hs => ⟨(fun e => by injection e; omega), hs.1, hs.2.1, hs.2.2.1, hs.2.2.2⟩)
         replace ow717 : OwnR w1069 (Sx (w227.heap.size) [some (w1052.heap.size), obk (A_297), obk (A_697), some (w570.heap.size), obk (A_695), obk (A_693)]) R684 C685 3 (gL fr (gI op 0) : List Int) := ow717.grA g1073 (fun _ _ h => by cases h) (fun k hk hs => ⟨(fun e => by injection e; omega), hs.1, hs.2.1, hs.2.2.1, hs.2.2.2.1, hs.2.2.2.2.1, hs.2.2.2.2.2⟩)
         have bx1075 : Bx w1069 (w1052.heap.size) [.int .i64 (gI (gL fr (gI op 0)) q)] 3 := Bx.new hw1070
         have := bx1075.lt
         clear g1073 hw1070
         have hl1091 : (op4 ++ ([gI (gL fr (gI op 0)) q])).length = (op4).length + ([gI (gL fr (gI op 0)) q] : List Int).length := List.length_append
         simp only [List.length_cons, List.length_nil] at hl1091
         refine At.act f1071 (appendR (α := Int) (t := 22) (d := 159) (n := op4.length) (m := 1) (cc := 1) (xs := op4) (ys := [gI (gL fr (gI op 0)) q]) (bytes := 8) (by first | rfl | omega | (simp; done) | (simp; omega)) (by first | rfl | omega | (simp; done) | (simp; omega)) (by kernel_rfl) rfl (by kernel_rfl) ow716 (Bx.srcR (l := ([gI (gL fr (gI op 0)) q] : List Int)) bx1075 rfl) (by simp only [List.length_cons, List.length_nil]; omega) (by simp only [List.length_cons, List.length_nil]; omega)) ?_
         rintro d_ v_ w1090 ⟨rfl, A1087, c1088, ha1089⟩
         obtain rfl := ha1089.val
         have g1092 := ha1089.gr
         refine ⟨_, rfl, fun act1094 f1093 => ?_⟩
         clear f1071
         clear bx1075
         have ow1095 := ha1089.own (Sx (w601.heap.size) [obk (A_297), obk (A_693), obk (A_695)]) (fun g _ hs => ⟨hs.2.1, hs.2.2.1, hs.2.2.2.1, hs.2.2.2.2⟩) ⟨ow759.ne_new, ow750.ne_new, ow1021.ne_new, (show w601.heap.size ≤ w1069.heap.size by omega)⟩
         have szw1090 := g1092.size
         replace e705 := e705.gr g1092 (fun k hk => by have := ow716.ge k hk; omega)
         replace r708 := r708.gr g1092 (fun k hk => by have := ow716.ge k hk; omega)
         replace r709 := r709.gr g1092 (fun k hk => by have := ow716.ge k hk; omega)
         replace bx710 := bx710.gr g1092 (fun e => by have := ow716.ge _ e; omega)
         replace bx711 := bx711.gr g1092 (fun e => by have := ow716.ge _ e; omega)
         replace ow759 : OwnLL w1090 (w227.heap.size) [some (w1052.heap.size), obk (A1087), some (w570.heap.size), obk (A_695), obk (A_693)] A_297 c_298 22 3 (fr : List (List Int)) := ow759.grA g1092 (fun k hk => hk.2.1) (fun k hk hs => ⟨hs.1, own_repl ha1089.at_ hs.2.1 hk, hs.2.2.1, hs.2.2.2.1, hs.2.2.2.2.1, hs.2.2.2.2.2⟩)
         replace ow750 : OwnR w1090 (Sx (w239.heap.size) [some (w1052.heap.size), obk (A1087), some (w570.heap.size), obk (A_695), obk (A_297)]) A_693 c_694 3 ((lf4).set (gI (gL fr (gI op 0)) q : Int).toNat ((gI lf4 (gI (gL fr (gI op 0)) q)) - 1) : List Int) := ow750.grA g1092 (fun k hk => hk.2.1) (fun k hk hs => ⟨hs.1, own_repl ha1089.at_ hs.2.1 hk, hs.2.2.1, hs.2.2.2.1, hs.2.2.2.2.1, hs.2.2.2.2.2⟩)
         replace ow1021 : OwnR w1090 (Sx (w258.heap.size) [some (w1052.heap.size), obk (A1087), some (w570.heap.size), obk (A_297), obk (A_693)]) A_695 c_696 3 ((ms4).set (gI (gL fr (gI op 0)) q : Int).toNat (gI op 0) : List Int) := ow1021.grA g1092 (fun k hk => hk.2.1) (fun k hk hs => ⟨hs.1, own_repl ha1089.at_ hs.2.1 hk, hs.2.2.1, hs.2.2.2.1, hs.2.2.2.2.1, hs.2.2.2.2.2⟩)
         replace bx1054 := bx1054.gr g1092 (fun e => by have := ow716.ge _ e; omega)
         replace ow717 : OwnR w1090 (Sx (w227.heap.size) [some (w1052.heap.size), obk (A_297), obk (A1087), some (w570.heap.size), obk (A_695), obk (A_693)]) R684 C685 3 (gL fr (gI op 0) : List Int) := ow717.grA g1092 (fun k hk => hk.2.2.1) (fun k hk hs => ⟨hs.1, hs.2.1, own_repl ha1089.at_ hs.2.2.1 hk, hs.2.2.2.1, hs.2.2.2.2.1, hs.2.2.2.2.2.1, hs.2.2.2.2.2.2⟩)
         clear ow716 g1092 ha1089
         refine At.rd f1093 1 [[]] [(20, .slice A1087 ((op4 ++ ([gI (gL fr (gI op 0)) q])).length) c1088)] [] (by kernel_rfl) trivial (fun act1107 f1106 => ?_)
         clear f1093
         refine At.done rfl ?_
         refine b_n ?_
         refine t_n ?_
         refine At.start ?_
         refine At.rd f1106 2 [[.as_ (.int .i64 (q + 1))], []] [(113, .int .i64 (q + 1)), (160, .int .i64 (q + 1))] [((.int .i64 (IntKind.i64.wrap (q + 1)) : Value) = .int .i64 (q + 1))] (by kernel_rfl) ⟨(w64 (by omega) (by omega)), trivial⟩ (fun act1109 f1108 => ?_)
         clear f1106
         refine At.done rfl ?_
         refine t_n ?_
         have f1110 := f1108.as 20 (.slice A1087 ((op4 ++ ([gI (gL fr (gI op 0)) q])).length) c1088) (.slice A1087 ((op4 ++ ([gI (gL fr (gI op 0)) q]) : List Int).length) c1088) rfl (slice_len (by first | rfl | omega | (simp; done) | (simp; omega)))
         clear f1108
         have f1111 := f1110.as 15 (.slice A_695 ms4.length c_696) (.slice A_695 (((ms4).set (gI (gL fr (gI op 0)) q : Int).toNat (gI op 0) : List Int).length) c_696) rfl (slice_len (by first | rfl | omega | (simp; done) | (simp; omega)))
         clear f1110
         have f1112 := f1111.as 14 (.slice A_693 lf4.length c_694) (.slice A_693 (((lf4).set (gI (gL fr (gI op 0)) q : Int).toNat ((gI lf4 (gI (gL fr (gI op 0)) q)) - 1) : List Int).length) c_694) rfl (slice_len (by first | rfl | omega | (simp; done) | (simp; omega)))
         clear f1111
         have f1113 := f1112.sub (r := [(20, .slice A1087 ((op4 ++ ([gI (gL fr (gI op 0)) q]) : List Int).length) c1088), (113, .int .i64 (q + 1)), (112, .int .i64 ((((gL fr (gI op 0)).length : Nat) : Int))), (111, .slice R684 ((gL fr (gI op 0)).length) C685), (21, .int .i64 (gI op 0)), (19, .pointer (some ⟨w570.heap.size, 0, none⟩)), (15, .slice A_695 (((ms4).set (gI (gL fr (gI op 0)) q : Int).toNat (gI op 0) : List Int).length) c_696), (14, .slice A_693 (((lf4).set (gI (gL fr (gI op 0)) q : Int).toNat ((gI lf4 (gI (gL fr (gI op 0)) q)) - 1) : List Int).length) c_694), (13, .slice A_297 fr.length c_298), (8, .pointer (some ⟨w22.heap.size, 0, none⟩)), (4, .pointer (some ⟨w.heap.size, 0, none⟩)), (2, .int .i64 (p))]) ⟨rfl, rfl, rfl, rfl, rfl, rfl, rfl, rfl, rfl, rfl, rfl, rfl, trivial⟩
         exact ⟨_, (by omega), (q + 1), withW ss2 (gI (gL fr (gI op 0)) q), ((lf4).set (gI (gL fr (gI op 0)) q : Int).toNat ((gI lf4 (gI (gL fr (gI op 0)) q)) - 1) : List Int), A_693, c_694, ((ms4).set (gI (gL fr (gI op 0)) q : Int).toNat (gI op 0) : List Int), A_695, c_696, (op4 ++ ([gI (gL fr (gI op 0)) q]) : List Int), A1087, c1088, rfl, f1113, e705, r708, r709, bx710, bx711, (ow759.imp (fun g _ hs => ⟨hs.2.1, hs.2.2.1, hs.2.2.2.1, hs.2.2.2.2.1, hs.2.2.2.2.2⟩)), (ow750.imp (fun g _ hs => ⟨hs.2.1, hs.2.2.1, hs.2.2.2.1, hs.2.2.2.2.1, hs.2.2.2.2.2⟩)), (ow1021.imp (fun g _ hs => ⟨hs.2.1, hs.2.2.1, hs.2.2.2.1, hs.2.2.2.2.1, hs.2.2.2.2.2⟩)), bx1054, ow1095, (ow717.imp (fun g _ hs => ⟨hs.2.1, hs.2.2.1, hs.2.2.2.1, hs.2.2.2.2.1, hs.2.2.2.2.2.1, hs.2.2.2.2.2.2⟩)), (by omega), (by omega), (okW_with hok2), ⟨tl ++ [gI (gL fr (gI op 0)) q], by rw [hop4]; rfl, by rw [from_with hok2]; exact aw_add hG hnd (from_len _) hwi hil hnr (by rw [← has_W (by omega) (by omega)]; assumption) (by omega) (.inl ⟨by omega, rfl⟩)⟩, (by have hlw := len_with (n := gI (gL fr (gI op 0)) q) (m := 1) hok2 (if_pos ⟨by omega, by omega, by assumption⟩).symm; rw [List.length_append]; simp only [List.length_singleton]; omega), (okW_with hok2).1, (by omega), (by omega), (by omega), (by omega)⟩
        ·have q1114 := ne_of_beq_false h1010
         refine wp_skip ?_
         refine t_n ?_
         refine wp_seq ?_
         refine At.start ?_
         refine At.rd f1008 2 [[.cs ((ss2 : List Int).map wV)], []] [(154, .int .i64 (gI (gL fr (gI op 0)) q)), (153, .agg ((ss2 : List Int).map wV).toArray)] [(((ss2 : List Int).map wV).length = 4), (∀ (j : Nat) (v : Value), ((ss2 : List Int).map wV)[j]? = some v → w766.cell? ((⟨w570.heap.size, 0, none⟩ : Addr).add j) = some v)] (by kernel_rfl) ⟨((List.length_map _).trans (by assumption)), bx715.whole, trivial⟩ (fun act1116 f1115 => ?_)
         clear f1008
         refine At.call f1115 27 #[.agg ((ss2 : List Int).map wV).toArray, .int .i64 (gI (gL fr (gI op 0)) q)] (some 155) (by kernel_rfl) (with_any (s := ss2) (n := gI (gL fr (gI op 0)) q) (by assumption)) ?_
         rintro e_ w1117 ⟨rfl, he⟩
         refine ⟨_, rfl, _, rfl, fun act1118 f1119 => ?_⟩
         clear f1115
         have g1120 := gr_ext he
         have szw1117 := g1120.size
         replace e705 := e705.gr g1120 no_row
         replace r708 := r708.gr g1120 (fun _ h => by cases h)
         replace r709 := r709.gr g1120 (fun _ h => by cases h)
         replace bx710 := bx710.gr g1120 (by simp)
         replace bx711 := bx711.gr g1120 (by simp)
         replace ow759 := ow759.gr g1120 (fun _ _ h => by cases h)
         replace ow750 := ow750.gr g1120 (fun _ _ h => by cases h)
         replace ow714 := ow714.gr g1120 (fun _ _ h => by cases h)
         replace bx715 := bx715.gr g1120 (by simp)
         replace ow716 := ow716.gr g1120 (fun _ _ h => by cases h)
         replace ow717 := ow717.gr g1120 (fun _ _ h => by cases h)
         clear g1120 he
         refine At.act f1119 (storeBlk (t := 28) (b := w570.heap.size) (n := 4) (cs' := ((withW ss2 (gI (gL fr (gI op 0)) q) : List Int).map wV)) (by kernel_rfl) (by kernel_rfl) ((List.length_map _).trans (okLen (okW_with (by assumption)))) oneW_ ((show ((withW ss2 (gI (gL fr (gI op 0)) q) : List Int).map wV).length = 4 from ((List.length_map _).trans (okLen (okW_with (by assumption))))).trans (show ((ss2 : List Int).map wV).length = 4 from ((List.length_map _).trans (by assumption))).symm) bx715) ?_
         rintro d_ v_ w1132 ⟨rfl, g1133, bx1134⟩
         refine ⟨_, rfl, fun act1136 f1135 => ?_⟩
         clear f1119
         have szw1132 := g1133.size
         replace e705 := e705.gr g1133 (fun k h => by injection h; omega)
         replace r708 := r708.gr g1133 (fun k h => by injection h; omega)
         replace r709 := r709.gr g1133 (fun k h => by injection h; omega)
         replace bx710 := bx710.gr g1133 (fun h => by injection h; omega)
         replace bx711 := bx711.gr g1133 (fun h => by injection h; omega)
         replace ow759 := ow759.gr g1133 (fun k hk => hk.2.1)
         replace ow750 := ow750.gr g1133 (fun k hk => hk.2.1)
         replace ow714 := ow714.gr g1133 (fun k hk => hk.2.1)
         replace ow716 := ow716.gr g1133 (fun k hk e => by have := Sx_base hk; injection e; omega)
         replace ow717 := ow717.gr g1133 (fun k hk => hk.2.2.1)
         clear bx715 g1133
         refine At.done rfl ?_
         refine t_n ?_
         refine At.start ?_
         refine At.rd f1135 2 [[], []] [(157, .int .i64 (gI (gL fr (gI op 0)) q)), (156, .slice A_697 op4.length c_698)] [] (by kernel_rfl) trivial (fun act1148 f1147 => ?_)
         clear f1135
         refine At.seq f1147 1 [[]] [(158, .slice (some ⟨w1132.heap.size, 0, none⟩) 1 1)] (w1132.alloc (.cells #[.int .i64 (gI (gL fr (gI op 0)) q)] 3 (0, 0))) [] (by kernel_rfl) trivial (fun act1152 w1149 hw1150 f1151 => ?_)
         clear f1147
         have g1153 := gr_alloc hw1150
         have szw1149 := g1153.size
         replace e705 := e705.gr g1153 no_row
         replace r708 := r708.gr g1153 (fun _ h => by cases h)
         replace r709 := r709.gr g1153 (fun _ h => by cases h)
         replace bx710 := bx710.gr g1153 (by simp)
         replace bx711 := bx711.gr g1153 (by simp)
         replace ow759 : OwnLL w1149 (w227.heap.size) [some (w1132.heap.size), obk (A_697), some (w570.heap.size), obk (A_695), obk (A_693)] A_297 c_298 22 3 (fr : List (List Int)) := ow759.grA g1153 (fun _ _ h => by cases h) (fun k hk hs => ⟨(fun e => by injection e; omega), hs.1, hs.2.1, hs.2.2.1, hs.2.2.2.1, hs.2.2.2.2⟩)
         replace ow750 : OwnR w1149 (Sx (w239.heap.size) [some (w1132.heap.size), obk (A_697), some (w570.heap.size), obk (A_695), obk (A_297)]) A_693 c_694 3 ((lf4).set (gI (gL fr (gI op 0)) q : Int).toNat ((gI lf4 (gI (gL fr (gI op 0)) q)) - 1) : List Int) := ow750.grA g1153 (fun _ _ h => by cases h) (fun k hk hs => ⟨(fun e => by injection e; omega), hs.1, hs.2.1, hs.2.2.1, hs.2.2.2.1, hs.2.2.2.2⟩)
         replace ow714 : OwnR w1149 (Sx (w258.heap.size) [some (w1132.heap.size), obk (A_697), some (w570.heap.size), obk (A_297), obk (A_693)]) A_695 c_696 3 (ms4 : List Int) := ow714.grA g1153 (fun _ _ h => by cases h) (fun k hk hs => ⟨(fun e => by injection e; omega), hs.1, hs.2.1, hs.2.2.1, hs.2.2.2.1, hs.2.2.2.2⟩)
         replace bx1134 := bx1134.gr g1153 (by simp)
         replace ow716 : OwnR w1149 (Sx (w601.heap.size) [some (w1132.heap.size), obk (A_297), obk (A_693), obk (A_695)]) A_697 c_698 3 (op4 : List Int) := ow716.grA g1153 (fun _ _ h => by cases h) (fun k hk hs => ⟨(fun e => by injection e; omega), hs.1, hs.2.1, hs.2.2.1, hs.2.2.2⟩)
         replace ow717 : OwnR w1149 (Sx (w227.heap.size) [some (w1132.heap.size), obk (A_297), obk (A_697), some (w570.heap.size), obk (A_695), obk (A_693)]) R684 C685 3 (gL fr (gI op 0) : List Int) := ow717.grA g1153 (fun _ _ h => by cases h) (fun k hk hs => ⟨(fun e => by injection e; omega), hs.1, hs.2.1, hs.2.2.1, hs.2.2.2.1, hs.2.2.2.2.1, hs.2.2.2.2.2⟩)
         have bx1155 : Bx w1149 (w1132.heap.size) [.int .i64 (gI (gL fr (gI op 0)) q)] 3 := Bx.new hw1150
         have := bx1155.lt
         clear g1153 hw1150
         have hl1171 : (op4 ++ ([gI (gL fr (gI op 0)) q])).length = (op4).length + ([gI (gL fr (gI op 0)) q] : List Int).length := List.length_append
         simp only [List.length_cons, List.length_nil] at hl1171
         refine At.act f1151 (appendR (α := Int) (t := 22) (d := 159) (n := op4.length) (m := 1) (cc := 1) (xs := op4) (ys := [gI (gL fr (gI op 0)) q]) (bytes := 8) (by first | rfl | omega | (simp; done) | (simp; omega)) (by first | rfl | omega | (simp; done) | (simp; omega)) (by kernel_rfl) rfl (by kernel_rfl) ow716 (Bx.srcR (l := ([gI (gL fr (gI op 0)) q] : List Int)) bx1155 rfl) (by simp only [List.length_cons, List.length_nil]; omega) (by simp only [List.length_cons, List.length_nil]; omega)) ?_
         rintro d_ v_ w1170 ⟨rfl, A1167, c1168, ha1169⟩
         obtain rfl := ha1169.val
         have g1172 := ha1169.gr
         refine ⟨_, rfl, fun act1174 f1173 => ?_⟩
         clear f1151
         clear bx1155
         have ow1175 := ha1169.own (Sx (w601.heap.size) [obk (A_297), obk (A_693), obk (A_695)]) (fun g _ hs => ⟨hs.2.1, hs.2.2.1, hs.2.2.2.1, hs.2.2.2.2⟩) ⟨ow759.ne_new, ow750.ne_new, ow714.ne_new, (show w601.heap.size ≤ w1149.heap.size by omega)⟩
         have szw1170 := g1172.size
         replace e705 := e705.gr g1172 (fun k hk => by have := ow716.ge k hk; omega)
         replace r708 := r708.gr g1172 (fun k hk => by have := ow716.ge k hk; omega)
         replace r709 := r709.gr g1172 (fun k hk => by have := ow716.ge k hk; omega)
         replace bx710 := bx710.gr g1172 (fun e => by have := ow716.ge _ e; omega)
         replace bx711 := bx711.gr g1172 (fun e => by have := ow716.ge _ e; omega)
         replace ow759 : OwnLL w1170 (w227.heap.size) [some (w1132.heap.size), obk (A1167), some (w570.heap.size), obk (A_695), obk (A_693)] A_297 c_298 22 3 (fr : List (List Int)) := ow759.grA g1172 (fun k hk => hk.2.1) (fun k hk hs => ⟨hs.1, own_repl ha1169.at_ hs.2.1 hk, hs.2.2.1, hs.2.2.2.1, hs.2.2.2.2.1, hs.2.2.2.2.2⟩)
         replace ow750 : OwnR w1170 (Sx (w239.heap.size) [some (w1132.heap.size), obk (A1167), some (w570.heap.size), obk (A_695), obk (A_297)]) A_693 c_694 3 ((lf4).set (gI (gL fr (gI op 0)) q : Int).toNat ((gI lf4 (gI (gL fr (gI op 0)) q)) - 1) : List Int) := ow750.grA g1172 (fun k hk => hk.2.1) (fun k hk hs => ⟨hs.1, own_repl ha1169.at_ hs.2.1 hk, hs.2.2.1, hs.2.2.2.1, hs.2.2.2.2.1, hs.2.2.2.2.2⟩)
         replace ow714 : OwnR w1170 (Sx (w258.heap.size) [some (w1132.heap.size), obk (A1167), some (w570.heap.size), obk (A_297), obk (A_693)]) A_695 c_696 3 (ms4 : List Int) := ow714.grA g1172 (fun k hk => hk.2.1) (fun k hk hs => ⟨hs.1, own_repl ha1169.at_ hs.2.1 hk, hs.2.2.1, hs.2.2.2.1, hs.2.2.2.2.1, hs.2.2.2.2.2⟩)
         replace bx1134 := bx1134.gr g1172 (fun e => by have := ow716.ge _ e; omega)
         replace ow717 : OwnR w1170 (Sx (w227.heap.size) [some (w1132.heap.size), obk (A_297), obk (A1167), some (w570.heap.size), obk (A_695), obk (A_693)]) R684 C685 3 (gL fr (gI op 0) : List Int) := ow717.grA g1172 (fun k hk => hk.2.2.1) (fun k hk hs => ⟨hs.1, hs.2.1, own_repl ha1169.at_ hs.2.2.1 hk, hs.2.2.2.1, hs.2.2.2.2.1, hs.2.2.2.2.2.1, hs.2.2.2.2.2.2⟩)
         clear ow716 g1172 ha1169
         refine At.rd f1173 1 [[]] [(20, .slice A1167 ((op4 ++ ([gI (gL fr (gI op 0)) q])).length) c1168)] [] (by kernel_rfl) trivial (fun act1187 f1186 => ?_)
         clear f1173
         refine At.done rfl ?_
         refine b_n ?_
         refine t_n ?_
         refine At.start ?_
         refine At.rd f1186 2 [[.as_ (.int .i64 (q + 1))], []] [(113, .int .i64 (q + 1)), (160, .int .i64 (q + 1))] [((.int .i64 (IntKind.i64.wrap (q + 1)) : Value) = .int .i64 (q + 1))] (by kernel_rfl) ⟨(w64 (by omega) (by omega)), trivial⟩ (fun act1189 f1188 => ?_)
         clear f1186
         refine At.done rfl ?_
         refine t_n ?_
         have f1190 := f1188.as 20 (.slice A1167 ((op4 ++ ([gI (gL fr (gI op 0)) q])).length) c1168) (.slice A1167 ((op4 ++ ([gI (gL fr (gI op 0)) q]) : List Int).length) c1168) rfl (slice_len (by first | rfl | omega | (simp; done) | (simp; omega)))
         clear f1188
         have f1191 := f1190.as 15 (.slice A_695 ms4.length c_696) (.slice A_695 ((ms4 : List Int).length) c_696) rfl (slice_len (by first | rfl | omega | (simp; done) | (simp; omega)))
         clear f1190
         have f1192 := f1191.as 14 (.slice A_693 lf4.length c_694) (.slice A_693 (((lf4).set (gI (gL fr (gI op 0)) q : Int).toNat ((gI lf4 (gI (gL fr (gI op 0)) q)) - 1) : List Int).length) c_694) rfl (slice_len (by first | rfl | omega | (simp; done) | (simp; omega)))
         clear f1191
         have f1193 := f1192.sub (r := [(20, .slice A1167 ((op4 ++ ([gI (gL fr (gI op 0)) q]) : List Int).length) c1168), (113, .int .i64 (q + 1)), (112, .int .i64 ((((gL fr (gI op 0)).length : Nat) : Int))), (111, .slice R684 ((gL fr (gI op 0)).length) C685), (21, .int .i64 (gI op 0)), (19, .pointer (some ⟨w570.heap.size, 0, none⟩)), (15, .slice A_695 ((ms4 : List Int).length) c_696), (14, .slice A_693 (((lf4).set (gI (gL fr (gI op 0)) q : Int).toNat ((gI lf4 (gI (gL fr (gI op 0)) q)) - 1) : List Int).length) c_694), (13, .slice A_297 fr.length c_298), (8, .pointer (some ⟨w22.heap.size, 0, none⟩)), (4, .pointer (some ⟨w.heap.size, 0, none⟩)), (2, .int .i64 (p))]) ⟨rfl, rfl, rfl, rfl, rfl, rfl, rfl, rfl, rfl, rfl, rfl, rfl, trivial⟩
         exact ⟨_, (by omega), (q + 1), withW ss2 (gI (gL fr (gI op 0)) q), ((lf4).set (gI (gL fr (gI op 0)) q : Int).toNat ((gI lf4 (gI (gL fr (gI op 0)) q)) - 1) : List Int), A_693, c_694, (ms4 : List Int), A_695, c_696, (op4 ++ ([gI (gL fr (gI op 0)) q]) : List Int), A1167, c1168, rfl, f1193, e705, r708, r709, bx710, bx711, (ow759.imp (fun g _ hs => ⟨hs.2.1, hs.2.2.1, hs.2.2.2.1, hs.2.2.2.2.1, hs.2.2.2.2.2⟩)), (ow750.imp (fun g _ hs => ⟨hs.2.1, hs.2.2.1, hs.2.2.2.1, hs.2.2.2.2.1, hs.2.2.2.2.2⟩)), (ow714.imp (fun g _ hs => ⟨hs.2.1, hs.2.2.1, hs.2.2.2.1, hs.2.2.2.2.1, hs.2.2.2.2.2⟩)), bx1134, ow1175, (ow717.imp (fun g _ hs => ⟨hs.2.1, hs.2.2.1, hs.2.2.2.1, hs.2.2.2.2.1, hs.2.2.2.2.2.1, hs.2.2.2.2.2.2⟩)), (by omega), (by omega), (okW_with hok2), ⟨tl ++ [gI (gL fr (gI op 0)) q], by rw [hop4]; rfl, by rw [from_with hok2]; exact aw_add hG hnd (from_len _) hwi hil hnr (by rw [← has_W (by omega) (by omega)]; assumption) (by omega) (.inr ⟨by omega, rfl⟩)⟩, (by have hlw := len_with (n := gI (gL fr (gI op 0)) q) (m := 1) hok2 (if_pos ⟨by omega, by omega, by assumption⟩).symm; rw [List.length_append]; simp only [List.length_singleton]; omega), (okW_with hok2).1, (by omega), (by omega), (by omega), (by omega)⟩
     ·have q1194 := of_decide_eq_false h727
      refine wp_exit ?_
      refine t_e ?_
      refine t_e ?_
      refine b_e ?_
      refine b_n ?_
      refine t_n ?_
      obtain ⟨tl, hop4, hwi⟩ := hwi
      have hol4 := congrArg List.length hop4
      simp only [List.length_cons] at hol4
      rw [List.drop_of_length_le (by omega)] at hwi
      refine At.start ?_
      obtain ⟨A1195, hA1196⟩ : ∃ A_ : Option Addr, (if c_698 = (1 : Int).toNat then A_697 else Option.map (fun a_ : Addr => a_.add ((1 : Int).toNat * 1)) (A_697)) = A_ := ⟨_, rfl⟩
      have ow1198 := ow716.drop ((1 : Int).toNat) (by omega) (sz := 1) rfl
      rw [hA1196] at ow1198
      clear ow716
      have hb1197 : obk A1195 = obk A_697 := by rw [← hA1196]; exact obk_drop
      have : ((op4).drop (1 : Int).toNat).length = (op4).length - (1 : Int).toNat := List.length_drop
      have ow1199 : OwnLL w704 (w227.heap.size) [obk (A1195), some (w570.heap.size), obk (A_695), obk (A_693)] A_297 c_298 22 3 (fr : List (List Int)) := by rw [hb1197]; exact r712
      clear r712
      replace ow713 : OwnR w704 (Sx (w239.heap.size) [obk (A1195), some (w570.heap.size), obk (A_695), obk (A_297)]) A_693 c_694 3 (lf4 : List Int) := by rw [hb1197]; exact ow713
      replace ow714 : OwnR w704 (Sx (w258.heap.size) [obk (A1195), some (w570.heap.size), obk (A_297), obk (A_693)]) A_695 c_696 3 (ms4 : List Int) := by rw [hb1197]; exact ow714
      replace ow717 : OwnR w704 (Sx (w227.heap.size) [obk (A_297), obk (A1195), some (w570.heap.size), obk (A_695), obk (A_693)]) R684 C685 3 (gL fr (gI op 0) : List Int) := by rw [hb1197]; exact ow717
      refine At.rd f725 3 [[], [.as_ (.slice A1195 (((op4).drop (1 : Int).toNat).length) (c_698 - (1 : Int).toNat))], []] [(20, .slice A1195 (((op4).drop (1 : Int).toNat).length) (c_698 - (1 : Int).toNat)), (104, .slice A1195 (((op4).drop (1 : Int).toNat).length) (c_698 - (1 : Int).toNat)), (103, .slice A_697 op4.length c_698)] [(0 ≤ (1 : Int)), ((1 : Int) ≤ ((op4.length : Nat) : Int)), ((.slice (if c_698 = (1 : Int).toNat then A_697 else Option.map (fun a_ : Addr => a_.add ((1 : Int).toNat * 1)) (A_697)) (op4.length - (1 : Int).toNat) (c_698 - (1 : Int).toNat) : Value) = .slice A1195 (((op4).drop (1 : Int).toNat).length) (c_698 - (1 : Int).toNat))] (by kernel_rfl) ⟨(by omega), (by omega), (by rw [hA1196, List.length_drop]), trivial⟩ (fun act1204 f1203 => ?_)
      clear f725
      refine At.done rfl ?_
      refine t_n ?_
      have f1205 := f1203.as 20 (.slice A1195 (((op4).drop (1 : Int).toNat).length) (c_698 - (1 : Int).toNat)) (.slice A1195 (((op4).drop (1 : Int).toNat : List Int).length) (c_698 - (1 : Int).toNat)) rfl (slice_len (by first | rfl | omega | (simp; done) | (simp; omega)))
      clear f1203
      have f1206 := f1205.as 15 (.slice A_695 ms4.length c_696) (.slice A_695 ((ms4 : List Int).length) c_696) rfl (slice_len (by first | rfl | omega | (simp; done) | (simp; omega)))
      clear f1205
      have f1207 := f1206.as 14 (.slice A_693 lf4.length c_694) (.slice A_693 ((lf4 : List Int).length) c_694) rfl (slice_len (by first | rfl | omega | (simp; done) | (simp; omega)))
      clear f1206
      have f1208 := f1207.sub (r := [(20, .slice A1195 (((op4).drop (1 : Int).toNat : List Int).length) (c_698 - (1 : Int).toNat)), (19, .pointer (some ⟨w570.heap.size, 0, none⟩)), (15, .slice A_695 ((ms4 : List Int).length) c_696), (14, .slice A_693 ((lf4 : List Int).length) c_694), (13, .slice A_297 fr.length c_298), (8, .pointer (some ⟨w22.heap.size, 0, none⟩)), (4, .pointer (some ⟨w.heap.size, 0, none⟩)), (2, .int .i64 (p))]) ⟨rfl, rfl, rfl, rfl, rfl, rfl, rfl, rfl, trivial⟩
      exact ⟨_, (by omega), ss2, (lf4 : List Int), A_693, c_694, (ms4 : List Int), A_695, c_696, ((op4).drop (1 : Int).toNat : List Int), A1195, (c_698 - (1 : Int).toNat), rfl, f1208, e705, r708, r709, bx710, bx711, ow1199, ow713, ow714, bx715, ow1198, hok2.1, hok2, ⟨_, by rw [hop4]; exact aw_close hwi⟩, (by omega), (by omega), (by omega), (by omega)⟩
    ·have q1209 := of_decide_eq_false h672
     refine wp_exit ?_
     refine t_e ?_
     refine t_e ?_
     refine b_e ?_
     refine t_n ?_
     clear bx658
     refine wp_seq ?_
     obtain ⟨pr, hw⟩ := hw
     have hnil : op = [] := List.length_eq_zero_iff.1 (by omega)
     rw [hnil] at hw
     have hend := aw_end hG hw
     refine At.start ?_
     refine At.rd f670 2 [[.cs ((ss : List Int).map wV)], []] [(162, .slice A_643 ms3.length c_644), (161, .agg ((ss : List Int).map wV).toArray)] [(((ss : List Int).map wV).length = 4), (∀ (j : Nat) (v : Value), ((ss : List Int).map wV)[j]? = some v → w652.cell? ((⟨w570.heap.size, 0, none⟩ : Addr).add j) = some v)] (by kernel_rfl) ⟨((List.length_map _).trans (by assumption)), bx663.whole, trivial⟩ (fun act1211 f1210 => ?_)
     clear f670
     refine At.act f1210 (storeBlk (t := 28) (b := w22.heap.size) (n := 4) (cs' := ((ss : List Int).map wV)) (by kernel_rfl) (by kernel_rfl) ((List.length_map _).trans (by assumption)) oneW_ ((show ((ss : List Int).map wV).length = 4 from ((List.length_map _).trans (by assumption))).trans (show ((List.replicate 4 (0 : Int) : List Int).map wV).length = 4 from (by simp only [List.length_map, List.length_set, List.length_replicate, List.length_cons, List.length_nil]; first | done | assumption | exact from_len _ | exact of_len _ | exact ofZ_len _ | exact (ofW_ok _).1 | exact (fullW_W _).1 | exact (okW_with (by assumption)).1 | exact (okW_less (by assumption)).1 | exact put_len (from_len _) | exact orD_len _ _ | exact andD_len _ _ | exact minusD_len _ _ | exact fullD_len _ | (refine okLen ?_; (repeat (first | assumption | exact ofW_ok _ | exact fullW_W _ | apply okW_with | apply okW_less | refine okW_orS ?_ ?_ | refine okW_andS ?_ ?_ | refine okW_minusS ?_ ?_)); done) | omega | rfl)).symm) bx659) ?_
     rintro d_ v_ w1212 ⟨rfl, g1213, bx1214⟩
     refine ⟨_, rfl, fun act1216 f1215 => ?_⟩
     clear f1210
     have szw1212 := g1213.size
     replace e653 := e653.gr g1213 (fun k h => by injection h; omega)
     replace r656 := r656.gr g1213 (fun k h => by injection h; omega)
     replace r657 := r657.gr g1213 (fun k h => by injection h; omega)
     have ow1220 := r660.gr g1213 (fun k hk e => by have := Sx_base hk; injection e; omega)
     clear r660
     replace ow661 := ow661.gr g1213 (fun k hk e => by have := Sx_base hk; injection e; omega)
     replace ow662 := ow662.gr g1213 (fun k hk e => by have := Sx_base hk; injection e; omega)
     replace bx663 := bx663.gr g1213 (fun h => by injection h; omega)
     replace ow664 := ow664.gr g1213 (fun k hk e => by have := Sx_base hk; injection e; omega)
     clear bx659 g1213
     refine At.rd f1215 1 [[]] [(9, .slice A_643 ms3.length c_644)] [] (by kernel_rfl) trivial (fun act1226 f1225 => ?_)
     clear f1215
     refine At.done rfl ?_
     refine t_n ?_
     clear bx663
     refine wp_ret ?_
     refine ret2B_ f1225 (sl := 8) (cs := ((ss : List Int).map wV)) (m := 4) (q := 9) (v := .slice A_643 ms3.length c_644) rfl (by kernel_rfl) (by kernel_rfl) (by kernel_rfl) ((List.length_map _).trans (by assumption)) bx1214 ?_
     exact ⟨A_643, c_644, _, _, rfl, e653, (ow662.imp (fun g _ hs => by have := Sx_base hs; show w.heap.size ≤ g; omega)), hok, .inr ⟨hR, hp01, hend.1, hend.2⟩⟩

end Go.Proofs.YtkpljmalbmcdfaaDoor
