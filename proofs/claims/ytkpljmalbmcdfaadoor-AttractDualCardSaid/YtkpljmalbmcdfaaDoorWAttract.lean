/-
  A walk of a Go function, printed by a program of this repo. Conditions: what the theorems name.
-/
import Derived.Test.YtkpljmalbmcdfaaDoorWRight2
import Derived.Test.YtkpljmalbmcdfaaDoorPureAttr
import Derived.Test.YtkpljmalbmcdfaaDoorWSetsP
set_option linter.unusedVariables false
set_option linter.unusedSimpArgs false
namespace Go.Proofs.YtkpljmalbmcdfaaDoor
open Go Go.RowKit

attribute [local irreducible] ofZ fromW wordsD ofD ofW lsD lenW lenN fullW withW lessW hasW hasD inW inD leastD putD onI tzI orS andS minusS orD andD minusD fullD emptyD
set_option maxHeartbeats 4000000 in
theorem attract_any {Ag0 Ag1 Ag2 : Option Addr} {cg0 cg1 cg2 : Nat} {g : GameL} {s : List Int} {t : List Int} {p : Int} {w : World} (rg : RdG w 0 w.heap.size Ag0 Ag1 Ag2 cg0 cg1 cg2 g) (hs : OkW s) (ht : OkW t) (rT : RdT w 0 w.heap.size) :
    Calls Tryd.prog 12 #[.agg #[.slice Ag0 g.ow.length cg0, .slice Ag1 g.pr.length cg1, .slice Ag2 g.mv.length cg2], .agg ((s : List Int).map wV).toArray, .int .i64 (p), .agg ((t : List Int).map wV).toArray] w fun e w' => ∃ A c ss mvs, e = .returned (.tuple #[.agg ((ss : List Int).map wV).toArray, .slice A (mvs : List Int).length c]) ∧ Ext w w' ∧ OwnR w' (Sx w.heap.size []) A c 3 mvs ∧ AttractT g s p t ss mvs := by
 have hlg0 := rg.ow.len
 have hlg1 := rg.pr.len
 have hlg2 := rg.mv.len
 have hkg0 := rg.k0
 have hkg1 := rg.k1
 have hkg2 := rg.k2
 have hls := hs.1
 have hlt := ht.1
 refine enter_ (args := [.agg #[.slice Ag0 g.ow.length cg0, .slice Ag1 g.pr.length cg1, .slice Ag2 g.mv.length cg2], .agg ((s : List Int).map wV).toArray, .int .i64 (p), .agg ((t : List Int).map wV).toArray]) Tryd.func12 rfl Tryd.ntmps12 (Nat.le_of_ble_eq_true rfl) (fun act0 f0 => ?_)
 have e0 := Ext.refl w
 refine wp_seq ?_
 refine At.start ?_
 refine At.seq f0 1 [[]] [(4, .pointer (some ⟨w.heap.size, 0, none⟩))] (w.alloc (.cells #[.slice Ag0 g.ow.length cg0, .slice Ag1 g.pr.length cg1, .slice Ag2 g.mv.length cg2] 25 (0, 0))) [] (by kernel_rfl) trivial (fun act4 w1 hw2 f3 => ?_)
 clear f0
 have g5 := gr_alloc hw2
 have szw1 := g5.size
 have e7 := e0.gr g5 no_row
 clear e0
 have r8 := rg.gr g5 (fun _ h => by cases h)
 clear rg
 have r9 := rT.gr g5 (fun _ h => by cases h)
 clear rT
 have bx10 : Bx w1 (w.heap.size) [.slice Ag0 g.ow.length cg0, .slice Ag1 g.pr.length cg1, .slice Ag2 g.mv.length cg2] 25 := Bx.new hw2
 have := bx10.lt
 clear g5 hw2
 refine At.seq f3 1 [[]] [(5, .pointer (some ⟨w1.heap.size, 0, none⟩))] (w1.alloc (.cells ((s : List Int).map wV).toArray 28 (0, 0))) [] (by kernel_rfl) trivial (fun act14 w11 hw12 f13 => ?_)
 clear f3
 have g15 := gr_alloc hw12
 have szw11 := g15.size
 have e17 := e7.gr g15 no_row
 clear e7
 have r18 := r8.gr g15 (fun _ h => by cases h)
 clear r8
 have r19 := r9.gr g15 (fun _ h => by cases h)
 clear r9
 have bx20 := bx10.gr g15 (by simp)
 clear bx10
 have bx21 : Bx w11 (w1.heap.size) ((s : List Int).map wV) 28 := Bx.new hw12
 have := bx21.lt
 clear g15 hw12
 refine At.seq f13 1 [[]] [(7, .pointer (some ⟨w11.heap.size, 0, none⟩))] (w11.alloc (.cells ((t : List Int).map wV).toArray 28 (0, 0))) [] (by kernel_rfl) trivial (fun act25 w22 hw23 f24 => ?_)
 clear f13
 have g26 := gr_alloc hw23
 have szw22 := g26.size
 have e28 := e17.gr g26 no_row
 clear e17
 have r29 := r18.gr g26 (fun _ h => by cases h)
 clear r18
 have r30 := r19.gr g26 (fun _ h => by cases h)
 clear r19
 have bx31 := bx20.gr g26 (by simp)
 clear bx20
 have bx32 := bx21.gr g26 (by simp)
 clear bx21
 have bx33 : Bx w22 (w11.heap.size) ((t : List Int).map wV) 28 := Bx.new hw23
 have := bx33.lt
 clear g26 hw23
 refine At.seq f24 1 [[]] [(8, .pointer (some ⟨w22.heap.size, 0, none⟩))] (w22.alloc (.cells ((List.replicate 4 (0 : Int) : List Int).map wV).toArray 28 (0, 0))) [] (by kernel_rfl) trivial (fun act37 w34 hw35 f36 => ?_)
 clear f24
 have g38 := gr_alloc hw35
 have szw34 := g38.size
 have e40 := e28.gr g38 no_row
 clear e28
 have r41 := r29.gr g38 (fun _ h => by cases h)
 clear r29
 have r42 := r30.gr g38 (fun _ h => by cases h)
 clear r30
 have bx43 := bx31.gr g38 (by simp)
 clear bx31
 have bx44 := bx32.gr g38 (by simp)
 clear bx32
 have bx45 := bx33.gr g38 (by simp)
 clear bx33
 have bx46 : Bx w34 (w22.heap.size) ((List.replicate 4 (0 : Int) : List Int).map wV) 28 := Bx.new hw35
 have := bx46.lt
 clear g38 hw35
 refine At.rd f36 1 [[]] [(9, .slice none 0 0)] [] (by kernel_rfl) trivial (fun act48 f47 => ?_)
 clear f36
 refine At.done rfl ?_
 refine t_n ?_
 have f49 := f47.sub (r := [(9, .slice none 0 0), (8, .pointer (some ⟨w22.heap.size, 0, none⟩)), (7, .pointer (some ⟨w11.heap.size, 0, none⟩)), (5, .pointer (some ⟨w1.heap.size, 0, none⟩)), (4, .pointer (some ⟨w.heap.size, 0, none⟩)), (2, .int .i64 (p))]) ⟨rfl, rfl, rfl, rfl, rfl, rfl, trivial⟩
 clear f47
 refine wp_seq (cut (fun a_ w_ => (Frm 163 a_ [(8, .pointer (some ⟨w22.heap.size, 0, none⟩)), (7, .pointer (some ⟨w11.heap.size, 0, none⟩)), (5, .pointer (some ⟨w1.heap.size, 0, none⟩)), (4, .pointer (some ⟨w.heap.size, 0, none⟩)), (2, .int .i64 (p))]) ∧ (Ext w w_) ∧ (RdG w_ 0 w.heap.size Ag0 Ag1 Ag2 cg0 cg1 cg2 g) ∧ (RdT w_ 0 w.heap.size) ∧ (Bx w_ (w.heap.size) [.slice Ag0 g.ow.length cg0, .slice Ag1 g.pr.length cg1, .slice Ag2 g.mv.length cg2] 25) ∧ (Bx w_ (w1.heap.size) ((s : List Int).map wV) 28) ∧ (Bx w_ (w11.heap.size) ((t : List Int).map wV) 28) ∧ (Bx w_ (w22.heap.size) ((List.replicate 4 (0 : Int) : List Int).map wV) 28) ∧ ((rightP g).2 = 0) ∧ (p = 0 ∨ p = 1) ∧ (w34.heap.size ≤ w_.heap.size)) ?_ ?_)
 ·refine wp_seq ?_
  refine At.start ?_
  refine At.rd f49 1 [[.ld (.slice Ag0 g.ow.length cg0), .ld (.slice Ag1 g.pr.length cg1), .ld (.slice Ag2 g.mv.length cg2)]] [(25, .agg #[.slice Ag0 g.ow.length cg0, .slice Ag1 g.pr.length cg1, .slice Ag2 g.mv.length cg2])] [(w34.cell? ⟨w.heap.size, 0, none⟩ = some (.slice Ag0 g.ow.length cg0)), (w34.cell? ⟨w.heap.size, 1, none⟩ = some (.slice Ag1 g.pr.length cg1)), (w34.cell? ⟨w.heap.size, 2, none⟩ = some (.slice Ag2 g.mv.length cg2))] (by kernel_rfl) ⟨(bx43.cell (i := 0) rfl), (bx43.cell (i := 1) rfl), (bx43.cell (i := 2) rfl), trivial⟩ (fun act51 f50 => ?_)
  clear f49
  refine At.call f50 18 #[.agg #[.slice Ag0 g.ow.length cg0, .slice Ag1 g.pr.length cg1, .slice Ag2 g.mv.length cg2]] (some 26) (by kernel_rfl) (right_any (r41.wide (Nat.zero_le _) (by omega))) ?_
  rintro e_ w52 ⟨rfl, he⟩
  refine ⟨_, rfl, _, rfl, fun act53 f54 => ?_⟩
  clear f50
  have g55 := gr_ext he
  have szw52 := g55.size
  have e56 := e40.gr g55 no_row
  clear e40
  have r57 := r41.gr g55 (fun _ h => by cases h)
  clear r41
  have r58 := r42.gr g55 (fun _ h => by cases h)
  clear r42
  have bx59 := bx43.gr g55 (by simp)
  clear bx43
  have bx60 := bx44.gr g55 (by simp)
  clear bx44
  have bx61 := bx45.gr g55 (by simp)
  clear bx45
  have bx62 := bx46.gr g55 (by simp)
  clear bx46
  clear g55 he
  refine At.rd f54 5 [[], [], [], [], []] [(11, .int .i64 ((rightP g).2)), (10, .int .i64 ((rightP g).1)), (28, .int .i64 ((rightP g).2)), (27, .int .i64 ((rightP g).1)), (24, .tuple #[.int .i64 ((rightP g).1), .int .i64 ((rightP g).2)])] [] (by kernel_rfl) trivial (fun act64 f63 => ?_)
  clear f54
  refine At.done rfl ?_
  refine t_n ?_
  have f65 := f63.sub (r := [(11, .int .i64 ((rightP g).2)), (9, .slice none 0 0), (8, .pointer (some ⟨w22.heap.size, 0, none⟩)), (7, .pointer (some ⟨w11.heap.size, 0, none⟩)), (5, .pointer (some ⟨w1.heap.size, 0, none⟩)), (4, .pointer (some ⟨w.heap.size, 0, none⟩)), (2, .int .i64 (p))]) ⟨rfl, rfl, rfl, rfl, rfl, rfl, rfl, trivial⟩
  clear f63
  refine wp_seq ?_
  refine At.start ?_
  rcases Bool.eq_false_or_eq_true (((rightP g).2 : Int) != 0) with h66 | h66
  ·have q67 := bne_iff_ne.1 h66
   refine At.rd f65 10 [[], [], [.as_ (.bool true)], [], [], [], [], [], [], []] [(38, .bool true), (37, undef), (36, undef), (35, undef), (34, undef), (33, undef), (32, undef), (31, .bool true), (30, .bool (((rightP g).2 : Int) != 0)), (29, .int .i64 ((rightP g).2))] [((.bool (((rightP g).2 : Int) != 0) : Value) = .bool true)] (by kernel_rfl) ⟨(congrArg Value.bool h66), trivial⟩ (fun act69 f68 => ?_)
   clear f65
   refine At.done rfl ?_
   refine t_n ?_
   have f70 := f68.sub (r := [(38, .bool true), (9, .slice none 0 0), (8, .pointer (some ⟨w22.heap.size, 0, none⟩)), (7, .pointer (some ⟨w11.heap.size, 0, none⟩)), (5, .pointer (some ⟨w1.heap.size, 0, none⟩)), (4, .pointer (some ⟨w.heap.size, 0, none⟩)), (2, .int .i64 (p))]) ⟨rfl, rfl, rfl, rfl, rfl, rfl, rfl, trivial⟩
   clear f68
   refine cond_T f70 rfl ?_
   refine wp_seq ?_
   have hRn : ¬ (isR g = true ∧ (p = 0 ∨ p = 1)) := right_no3 (by omega)
   refine At.start ?_
   refine At.rd f70 1 [[]] [(39, .agg (([0, 0, 0, 0] : List Int).map wV).toArray)] [] (by kernel_rfl) trivial (fun act72 f71 => ?_)
   clear f70
   refine At.act f71 (storeBlk (t := 28) (b := w22.heap.size) (n := 4) (cs' := (([0, 0, 0, 0] : List Int).map wV)) (by kernel_rfl) (by kernel_rfl) ((List.length_map _).trans (okLen okW_00)) oneW_ ((show (([0, 0, 0, 0] : List Int).map wV).length = 4 from ((List.length_map _).trans (okLen okW_00))).trans (show ((List.replicate 4 (0 : Int) : List Int).map wV).length = 4 from (by simp only [List.length_map, List.length_set, List.length_replicate, List.length_cons, List.length_nil]; first | done | assumption | exact from_len _ | exact of_len _ | exact ofZ_len _ | exact (ofW_ok _).1 | exact (fullW_W _).1 | exact (okW_with (by assumption)).1 | exact (okW_less (by assumption)).1 | exact put_len (from_len _) | exact orD_len _ _ | exact andD_len _ _ | exact minusD_len _ _ | exact fullD_len _ | (refine okLen ?_; (repeat (first | assumption | exact ofW_ok _ | exact fullW_W _ | apply okW_with | apply okW_less | refine okW_orS ?_ ?_ | refine okW_andS ?_ ?_ | refine okW_minusS ?_ ?_)); done) | omega | rfl)).symm) bx62) ?_
   rintro d_ v_ w73 ⟨rfl, g74, bx75⟩
   refine ⟨_, rfl, fun act77 f76 => ?_⟩
   clear f71
   have szw73 := g74.size
   have e78 := e56.gr g74 (fun k h => by injection h; omega)
   clear e56
   have r79 := r57.gr g74 (fun k h => by injection h; omega)
   clear r57
   have r80 := r58.gr g74 (fun k h => by injection h; omega)
   clear r58
   have bx81 := bx59.gr g74 (fun h => by injection h; omega)
   clear bx59
   have bx82 := bx60.gr g74 (fun h => by injection h; omega)
   clear bx60
   have bx83 := bx61.gr g74 (fun h => by injection h; omega)
   clear bx61
   clear bx62 g74
   refine At.rd f76 1 [[]] [(9, .slice none 0 0)] [] (by kernel_rfl) trivial (fun act85 f84 => ?_)
   clear f76
   refine At.done rfl ?_
   refine t_n ?_
   have f86 := f84.sub (r := [(9, .slice none 0 0), (8, .pointer (some ⟨w22.heap.size, 0, none⟩))]) ⟨rfl, rfl, trivial⟩
   clear f84
   refine wp_ret ?_
   refine t_r ?_
   refine ret2B_ f86 (sl := 8) (cs := (([0, 0, 0, 0] : List Int).map wV)) (m := 4) (q := 9) (v := .slice none 0 0) rfl (by kernel_rfl) (by kernel_rfl) (by kernel_rfl) ((List.length_map _).trans (okLen okW_00)) bx75 ?_
   exact ⟨none, 0, _, [], rfl, e78, OwnR.nil, okW_00, .inl ⟨hRn, rfl, rfl⟩⟩
  ·have q87 := bne_eq_false_iff_eq.1 h66
   rcases Bool.eq_false_or_eq_true ((p : Int) != 0) with h88 | h88
   ·have q89 := bne_iff_ne.1 h88
    refine At.rd f65 10 [[], [], [.as_ (.bool false)], [], [], [.as_ (.bool true)], [], [], [], []] [(38, .bool ((p : Int) != 1)), (37, .bool ((p : Int) != 1)), (36, .bool ((p : Int) != 1)), (35, .int .i64 (p)), (34, .bool true), (33, .bool ((p : Int) != 0)), (32, .int .i64 (p)), (31, .bool false), (30, .bool (((rightP g).2 : Int) != 0)), (29, .int .i64 ((rightP g).2))] [((.bool (((rightP g).2 : Int) != 0) : Value) = .bool false), ((.bool ((p : Int) != 0) : Value) = .bool true)] (by kernel_rfl) ⟨(congrArg Value.bool h66), (congrArg Value.bool h88), trivial⟩ (fun act91 f90 => ?_)
    clear f65
    refine At.done rfl ?_
    refine t_n ?_
    have f92 := f90.sub (r := [(38, .bool ((p : Int) != 1)), (9, .slice none 0 0), (8, .pointer (some ⟨w22.heap.size, 0, none⟩)), (7, .pointer (some ⟨w11.heap.size, 0, none⟩)), (5, .pointer (some ⟨w1.heap.size, 0, none⟩)), (4, .pointer (some ⟨w.heap.size, 0, none⟩)), (2, .int .i64 (p))]) ⟨rfl, rfl, rfl, rfl, rfl, rfl, rfl, trivial⟩
    clear f90
    refine cond_S f92 (t := (p : Int) != 1) rfl (fun h93 => ?_) (fun h93 => ?_)
    ·have q94 := bne_iff_ne.1 h93
     refine wp_seq ?_
     have hRn : ¬ (isR g = true ∧ (p = 0 ∨ p = 1)) := right_no3 (by omega)
     refine At.start ?_
     refine At.rd f92 1 [[]] [(39, .agg (([0, 0, 0, 0] : List Int).map wV).toArray)] [] (by kernel_rfl) trivial (fun act96 f95 => ?_)
     clear f92
     refine At.act f95 (storeBlk (t := 28) (b := w22.heap.size) (n := 4) (cs' := (([0, 0, 0, 0] : List Int).map wV)) (by kernel_rfl) (by kernel_rfl) ((List.length_map _).trans (okLen okW_00)) oneW_ ((show (([0, 0, 0, 0] : List Int).map wV).length = 4 from ((List.length_map _).trans (okLen okW_00))).trans (show ((List.replicate 4 (0 : Int) : List Int).map wV).length = 4 from (by simp only [List.length_map, List.length_set, List.length_replicate, List.length_cons, List.length_nil]; first | done | assumption | exact from_len _ | exact of_len _ | exact ofZ_len _ | exact (ofW_ok _).1 | exact (fullW_W _).1 | exact (okW_with (by assumption)).1 | exact (okW_less (by assumption)).1 | exact put_len (from_len _) | exact orD_len _ _ | exact andD_len _ _ | exact minusD_len _ _ | exact fullD_len _ | (refine okLen ?_; (repeat (first | assumption | exact ofW_ok _ | exact fullW_W _ | apply okW_with | apply okW_less | refine okW_orS ?_ ?_ | refine okW_andS ?_ ?_ | refine okW_minusS ?_ ?_)); done) | omega | rfl)).symm) bx62) ?_
     rintro d_ v_ w97 ⟨rfl, g98, bx99⟩
     refine ⟨_, rfl, fun act101 f100 => ?_⟩
     clear f95
     have szw97 := g98.size
     have e102 := e56.gr g98 (fun k h => by injection h; omega)
     clear e56
     have r103 := r57.gr g98 (fun k h => by injection h; omega)
     clear r57
     have r104 := r58.gr g98 (fun k h => by injection h; omega)
     clear r58
     have bx105 := bx59.gr g98 (fun h => by injection h; omega)
     clear bx59
     have bx106 := bx60.gr g98 (fun h => by injection h; omega)
     clear bx60
     have bx107 := bx61.gr g98 (fun h => by injection h; omega)
     clear bx61
     clear bx62 g98
     refine At.rd f100 1 [[]] [(9, .slice none 0 0)] [] (by kernel_rfl) trivial (fun act109 f108 => ?_)
     clear f100
     refine At.done rfl ?_
     refine t_n ?_
     have f110 := f108.sub (r := [(9, .slice none 0 0), (8, .pointer (some ⟨w22.heap.size, 0, none⟩))]) ⟨rfl, rfl, trivial⟩
     clear f108
     refine wp_ret ?_
     refine t_r ?_
     refine ret2B_ f110 (sl := 8) (cs := (([0, 0, 0, 0] : List Int).map wV)) (m := 4) (q := 9) (v := .slice none 0 0) rfl (by kernel_rfl) (by kernel_rfl) (by kernel_rfl) ((List.length_map _).trans (okLen okW_00)) bx99 ?_
     exact ⟨none, 0, _, [], rfl, e102, OwnR.nil, okW_00, .inl ⟨hRn, rfl, rfl⟩⟩
    ·have q111 := bne_eq_false_iff_eq.1 h93
     refine wp_skip ?_
     refine t_n ?_
     have f112 := f92.sub (r := [(8, .pointer (some ⟨w22.heap.size, 0, none⟩)), (7, .pointer (some ⟨w11.heap.size, 0, none⟩)), (5, .pointer (some ⟨w1.heap.size, 0, none⟩)), (4, .pointer (some ⟨w.heap.size, 0, none⟩)), (2, .int .i64 (p))]) ⟨rfl, rfl, rfl, rfl, rfl, trivial⟩
     exact ⟨f112, e56, r57, r58, bx59, bx60, bx61, bx62, (by omega), (by omega), (by omega)⟩
   ·have q113 := bne_eq_false_iff_eq.1 h88
    refine At.rd f65 10 [[], [], [.as_ (.bool false)], [], [], [.as_ (.bool false)], [], [], [], []] [(38, .bool false), (37, .bool false), (36, undef), (35, undef), (34, .bool false), (33, .bool ((p : Int) != 0)), (32, .int .i64 (p)), (31, .bool false), (30, .bool (((rightP g).2 : Int) != 0)), (29, .int .i64 ((rightP g).2))] [((.bool (((rightP g).2 : Int) != 0) : Value) = .bool false), ((.bool ((p : Int) != 0) : Value) = .bool false)] (by kernel_rfl) ⟨(congrArg Value.bool h66), (congrArg Value.bool h88), trivial⟩ (fun act115 f114 => ?_)
    clear f65
    refine At.done rfl ?_
    refine t_n ?_
    have f116 := f114.sub (r := [(38, .bool false), (9, .slice none 0 0), (8, .pointer (some ⟨w22.heap.size, 0, none⟩)), (7, .pointer (some ⟨w11.heap.size, 0, none⟩)), (5, .pointer (some ⟨w1.heap.size, 0, none⟩)), (4, .pointer (some ⟨w.heap.size, 0, none⟩)), (2, .int .i64 (p))]) ⟨rfl, rfl, rfl, rfl, rfl, rfl, rfl, trivial⟩
    clear f114
    refine cond_F f116 rfl ?_
    refine wp_skip ?_
    refine t_n ?_
    have f117 := f116.sub (r := [(8, .pointer (some ⟨w22.heap.size, 0, none⟩)), (7, .pointer (some ⟨w11.heap.size, 0, none⟩)), (5, .pointer (some ⟨w1.heap.size, 0, none⟩)), (4, .pointer (some ⟨w.heap.size, 0, none⟩)), (2, .int .i64 (p))]) ⟨rfl, rfl, rfl, rfl, rfl, trivial⟩
    exact ⟨f117, e56, r57, r58, bx59, bx60, bx61, bx62, (by omega), (by omega), (by omega)⟩
 ·clear r41
  clear r42
  clear bx43
  clear bx44
  clear bx45
  clear bx46
  clear f49 e40
  intro act118 w119 ⟨f120, e121, r122, r123, bx124, bx125, bx126, bx127, i128, i129, i130⟩
  have szw119 := e121.size
  have := bx124.lt
  have := bx125.lt
  have := bx126.lt
  have := bx127.lt
  refine wp_seq ?_
  have hR : isR g = true := right_of2 (by omega)
  have hp01 : p = 0 ∨ p = 1 := by omega
  have hG := isR_ok hR
  have hn1 := hG.n1
  have hn0 := hG.n0
  have hpl := hG.pl
  have hml := hG.ml
  have hnd := mv_nd hG
  refine At.start ?_
  refine At.rd f120 4 [[], [.ld (.slice Ag0 g.ow.length cg0)], [], []] [(12, .int .i64 (((g.ow.length : Nat) : Int))), (42, .int .i64 (((g.ow.length : Nat) : Int))), (41, .slice Ag0 g.ow.length cg0), (40, .pointer (some ⟨w.heap.size, 0, none⟩))] [(w119.cell? ⟨w.heap.size, 0, none⟩ = some (.slice Ag0 g.ow.length cg0))] (by kernel_rfl) ⟨(bx124.cell (i := 0) rfl), trivial⟩ (fun act132 f131 => ?_)
  clear f120
  refine At.done rfl ?_
  refine t_n ?_
  have f133 := f131.sub (r := [(12, .int .i64 (((g.ow.length : Nat) : Int))), (8, .pointer (some ⟨w22.heap.size, 0, none⟩)), (7, .pointer (some ⟨w11.heap.size, 0, none⟩)), (5, .pointer (some ⟨w1.heap.size, 0, none⟩)), (4, .pointer (some ⟨w.heap.size, 0, none⟩)), (2, .int .i64 (p))]) ⟨rfl, rfl, rfl, rfl, rfl, rfl, trivial⟩
  clear f131
  refine wp_seq (cut (fun a_ w_ => (Frm 163 a_ [(12, .int .i64 (((g.ow.length : Nat) : Int))), (8, .pointer (some ⟨w22.heap.size, 0, none⟩)), (7, .pointer (some ⟨w11.heap.size, 0, none⟩)), (5, .pointer (some ⟨w1.heap.size, 0, none⟩)), (4, .pointer (some ⟨w.heap.size, 0, none⟩)), (2, .int .i64 (p))]) ∧ (Ext w w_) ∧ (RdG w_ 0 w.heap.size Ag0 Ag1 Ag2 cg0 cg1 cg2 g) ∧ (RdT w_ 0 w.heap.size) ∧ (Bx w_ (w.heap.size) [.slice Ag0 g.ow.length cg0, .slice Ag1 g.pr.length cg1, .slice Ag2 g.mv.length cg2] 25) ∧ (Bx w_ (w1.heap.size) (((inS g s : List Int) : List Int).map wV) 28) ∧ (Bx w_ (w11.heap.size) ((t : List Int).map wV) 28) ∧ (Bx w_ (w22.heap.size) ((List.replicate 4 (0 : Int) : List Int).map wV) 28) ∧ (w119.heap.size ≤ w_.heap.size)) ?_ ?_)
  ·obtain ⟨Cs134, hCs135⟩ : ∃ c : List (Addr × Value), c = [] := ⟨_, rfl⟩
   have hS136 : HoldsC Cs134 w119 := by rw [hCs135]; exact trivial
   refine AtH.start Cs134 5 #[false, false, false, false, false] (by kernel_rfl) rfl rfl (fun w138 hw139 => ?_)
   have g137 := gr_drew hw139
   have hS140 := hS136.gr g137
   have szw138 := g137.size
   have e141 := e121.gr g137 no_row
   clear e121
   have r142 := r122.gr g137 (fun _ h => by cases h)
   clear r122
   have r143 := r123.gr g137 (fun _ h => by cases h)
   clear r123
   have bx144 := bx124.gr g137 (by simp)
   clear bx124
   have bx145 := bx125.gr g137 (by simp)
   clear bx125
   have bx146 := bx126.gr g137 (by simp)
   clear bx126
   have bx147 := bx127.gr g137 (by simp)
   clear bx127
   clear g137 hw139 hS136
   refine AtH.rd (by kernel_rfl) (fun d v c a w h => by cases d <;> exact h) hS140 [1] [[]] [(44, .int .i64 (((g.ow.length : Nat) : Int)))] #[false, true, false, false, false] [] 4 f133 (by kernel_rfl) trivial (fun act149 f148 => ?_)
   clear f133
   refine AtH.all [0, 2] 3 (by kernel_rfl) (by simp) ⟨?_, ?_, trivial⟩
   ·refine OneH.seq f148 [[.cs ((s : List Int).map wV)]] [(43, .agg ((s : List Int).map wV).toArray)] w138 [(((s : List Int).map wV).length = 4), (∀ (j : Nat) (v : Value), ((s : List Int).map wV)[j]? = some v → w138.cell? ((⟨w1.heap.size, 0, none⟩ : Addr).add j) = some v)] #[true, true, false, false, false] (by kernel_rfl) (by kernel_rfl) (by kernel_rfl) ⟨(by simp only [List.length_map, List.length_set, List.length_replicate, List.length_cons, List.length_nil]; first | done | assumption | exact from_len _ | exact of_len _ | exact ofZ_len _ | exact (ofW_ok _).1 | exact (fullW_W _).1 | exact (okW_with (by assumption)).1 | exact (okW_less (by assumption)).1 | exact put_len (from_len _) | exact orD_len _ _ | exact andD_len _ _ | exact minusD_len _ _ | exact fullD_len _ | (refine okLen ?_; (repeat (first | assumption | exact ofW_ok _ | exact fullW_W _ | apply okW_with | apply okW_less | refine okW_orS ?_ ?_ | refine okW_andS ?_ ?_ | refine okW_minusS ?_ ?_)); done) | omega | rfl), bx145.whole, trivial⟩ (fun act151 w152 hw153 f150 => ?_)
    obtain rfl : w138 = w152 := hw153.symm
    clear f148
    refine ⟨hS140, ?_⟩
    refine AtH.all [2] 2 (by kernel_rfl) (by simp) ⟨?_, trivial⟩
    refine OneH.call f150 20 #[.int .i64 (((g.ow.length : Nat) : Int))] (some 45) #[true, true, true, false, false] (by kernel_rfl) (by kernel_rfl) (full_any (n := ((g.ow.length : Nat) : Int)) (by omega)) ?_
    rintro e_ w155 ⟨rfl, he⟩
    refine ⟨_, rfl, _, rfl, fun act156 f157 => ?_⟩
    clear f150
    have g158 := gr_ext he
    have hS154 := hS140.gr g158
    have szw155 := g158.size
    have e159 := e141.gr g158 no_row
    clear e141
    have r160 := r142.gr g158 (fun _ h => by cases h)
    clear r142
    have r161 := r143.gr g158 (fun _ h => by cases h)
    clear r143
    have bx162 := bx144.gr g158 (by simp)
    clear bx144
    have bx163 := bx145.gr g158 (by simp)
    clear bx145
    have bx164 := bx146.gr g158 (by simp)
    clear bx146
    have bx165 := bx147.gr g158 (by simp)
    clear bx147
    clear g158 he
    refine ⟨hS154, ?_⟩
    refine AtH.all [3] 1 (by kernel_rfl) (by simp) ⟨?_, trivial⟩
    refine OneH.call f157 19 #[.agg ((s : List Int).map wV).toArray, .agg ((fullW ((g.ow.length : Nat) : Int) : List Int).map wV).toArray] (some 46) #[true, true, true, true, false] (by kernel_rfl) (by kernel_rfl) ((andS_any (s := s) (t := fullW ((g.ow.length : Nat) : Int)) (by repeat (first | assumption | exact ofW_ok _ | exact fullW_W _ | exact wordsD_W _ | exact okW_0 | exact okW_00 | apply okW_orS | apply okW_andS | apply okW_minusS | apply okW_with | apply okW_less | apply okW_or | apply okW_and | apply okW_minus | (apply okW_lit <;> exact ⟨by omega, by omega⟩))) (fullW_W _)).mono (R' := fun e w' => e = .returned (.agg (((inS g s : List Int) : List Int).map wV).toArray) ∧ Ext _ w') (fun e_ w_ h_ => by rw [show (andS s (fullW ((g.ow.length : Nat) : Int)) : List Int) = (inS g s : List Int) from rfl] at h_; exact h_)) ?_
    rintro e_ w167 ⟨rfl, he⟩
    refine ⟨_, rfl, _, rfl, fun act168 f169 => ?_⟩
    clear f157
    have g170 := gr_ext he
    have hS166 := hS154.gr g170
    have szw167 := g170.size
    have e171 := e159.gr g170 no_row
    clear e159
    have r172 := r160.gr g170 (fun _ h => by cases h)
    clear r160
    have r173 := r161.gr g170 (fun _ h => by cases h)
    clear r161
    have bx174 := bx162.gr g170 (by simp)
    clear bx162
    have bx175 := bx163.gr g170 (by simp)
    clear bx163
    have bx176 := bx164.gr g170 (by simp)
    clear bx164
    have bx177 := bx165.gr g170 (by simp)
    clear bx165
    clear g170 he
    refine ⟨hS166, ?_⟩
    refine AtH.all [4] 0 (by kernel_rfl) (by simp) ⟨?_, trivial⟩
    refine OneH.act f169 #[true, true, true, true, true] (by kernel_rfl) (storeBlk (t := 28) (b := w1.heap.size) (n := 4) (cs' := (((inS g s : List Int) : List Int).map wV)) (by kernel_rfl) (by kernel_rfl) ((List.length_map _).trans (okLen (inS_ok (by assumption)))) oneW_ ((show (((inS g s : List Int) : List Int).map wV).length = 4 from ((List.length_map _).trans (okLen (inS_ok (by assumption))))).trans (show ((s : List Int).map wV).length = 4 from (by simp only [List.length_map, List.length_set, List.length_replicate, List.length_cons, List.length_nil]; first | done | assumption | exact from_len _ | exact of_len _ | exact ofZ_len _ | exact (ofW_ok _).1 | exact (fullW_W _).1 | exact (okW_with (by assumption)).1 | exact (okW_less (by assumption)).1 | exact put_len (from_len _) | exact orD_len _ _ | exact andD_len _ _ | exact minusD_len _ _ | exact fullD_len _ | (refine okLen ?_; (repeat (first | assumption | exact ofW_ok _ | exact fullW_W _ | apply okW_with | apply okW_less | refine okW_orS ?_ ?_ | refine okW_andS ?_ ?_ | refine okW_minusS ?_ ?_)); done) | omega | rfl)).symm) bx175) ?_
    rintro d_ v_ w179 ⟨rfl, g180, bx181⟩
    have hS184 := hS166.gr' g180 (by rw [hCs135]; exact trivial)
    refine ⟨_, rfl, fun act183 f182 => ⟨hS184, ?_⟩⟩
    clear f169
    have szw179 := g180.size
    have e185 := e171.gr g180 (fun k h => by injection h; omega)
    clear e171
    have r186 := r172.gr g180 (fun k h => by injection h; omega)
    clear r172
    have r187 := r173.gr g180 (fun k h => by injection h; omega)
    clear r173
    have bx188 := bx174.gr g180 (fun h => by injection h; omega)
    clear bx174
    have bx189 := bx176.gr g180 (fun h => by injection h; omega)
    clear bx176
    have bx190 := bx177.gr g180 (fun h => by injection h; omega)
    clear bx177
    clear bx175 g180
    refine AtH.done (by kernel_rfl) ?_
    clear hS184
    refine t_n ?_
    have f191 := f182.sub (r := [(12, .int .i64 (((g.ow.length : Nat) : Int))), (8, .pointer (some ⟨w22.heap.size, 0, none⟩)), (7, .pointer (some ⟨w11.heap.size, 0, none⟩)), (5, .pointer (some ⟨w1.heap.size, 0, none⟩)), (4, .pointer (some ⟨w.heap.size, 0, none⟩)), (2, .int .i64 (p))]) ⟨rfl, rfl, rfl, rfl, rfl, rfl, trivial⟩
    exact ⟨f191, e185, r186, r187, bx188, bx181, bx189, bx190, (by omega)⟩
   ·refine OneH.call f148 20 #[.int .i64 (((g.ow.length : Nat) : Int))] (some 45) #[false, true, true, false, false] (by kernel_rfl) (by kernel_rfl) (full_any (n := ((g.ow.length : Nat) : Int)) (by omega)) ?_
    rintro e_ w193 ⟨rfl, he⟩
    refine ⟨_, rfl, _, rfl, fun act194 f195 => ?_⟩
    clear f148
    have g196 := gr_ext he
    have hS192 := hS140.gr g196
    have szw193 := g196.size
    have e197 := e141.gr g196 no_row
    clear e141
    have r198 := r142.gr g196 (fun _ h => by cases h)
    clear r142
    have r199 := r143.gr g196 (fun _ h => by cases h)
    clear r143
    have bx200 := bx144.gr g196 (by simp)
    clear bx144
    have bx201 := bx145.gr g196 (by simp)
    clear bx145
    have bx202 := bx146.gr g196 (by simp)
    clear bx146
    have bx203 := bx147.gr g196 (by simp)
    clear bx147
    clear g196 he
    refine ⟨hS192, ?_⟩
    refine AtH.all [0] 2 (by kernel_rfl) (by simp) ⟨?_, trivial⟩
    refine OneH.seq f195 [[.cs ((s : List Int).map wV)]] [(43, .agg ((s : List Int).map wV).toArray)] w193 [(((s : List Int).map wV).length = 4), (∀ (j : Nat) (v : Value), ((s : List Int).map wV)[j]? = some v → w193.cell? ((⟨w1.heap.size, 0, none⟩ : Addr).add j) = some v)] #[true, true, true, false, false] (by kernel_rfl) (by kernel_rfl) (by kernel_rfl) ⟨(by simp only [List.length_map, List.length_set, List.length_replicate, List.length_cons, List.length_nil]; first | done | assumption | exact from_len _ | exact of_len _ | exact ofZ_len _ | exact (ofW_ok _).1 | exact (fullW_W _).1 | exact (okW_with (by assumption)).1 | exact (okW_less (by assumption)).1 | exact put_len (from_len _) | exact orD_len _ _ | exact andD_len _ _ | exact minusD_len _ _ | exact fullD_len _ | (refine okLen ?_; (repeat (first | assumption | exact ofW_ok _ | exact fullW_W _ | apply okW_with | apply okW_less | refine okW_orS ?_ ?_ | refine okW_andS ?_ ?_ | refine okW_minusS ?_ ?_)); done) | omega | rfl), bx201.whole, trivial⟩ (fun act205 w206 hw207 f204 => ?_)
    obtain rfl : w193 = w206 := hw207.symm
    clear f195
    refine ⟨hS192, ?_⟩
    refine AtH.all [3] 1 (by kernel_rfl) (by simp) ⟨?_, trivial⟩
    refine OneH.call f204 19 #[.agg ((s : List Int).map wV).toArray, .agg ((fullW ((g.ow.length : Nat) : Int) : List Int).map wV).toArray] (some 46) #[true, true, true, true, false] (by kernel_rfl) (by kernel_rfl) ((andS_any (s := s) (t := fullW ((g.ow.length : Nat) : Int)) (by repeat (first | assumption | exact ofW_ok _ | exact fullW_W _ | exact wordsD_W _ | exact okW_0 | exact okW_00 | apply okW_orS | apply okW_andS | apply okW_minusS | apply okW_with | apply okW_less | apply okW_or | apply okW_and | apply okW_minus | (apply okW_lit <;> exact ⟨by omega, by omega⟩))) (fullW_W _)).mono (R' := fun e w' => e = .returned (.agg (((inS g s : List Int) : List Int).map wV).toArray) ∧ Ext _ w') (fun e_ w_ h_ => by rw [show (andS s (fullW ((g.ow.length : Nat) : Int)) : List Int) = (inS g s : List Int) from rfl] at h_; exact h_)) ?_
    rintro e_ w209 ⟨rfl, he⟩
    refine ⟨_, rfl, _, rfl, fun act210 f211 => ?_⟩
    clear f204
    have g212 := gr_ext he
    have hS208 := hS192.gr g212
    have szw209 := g212.size
    have e213 := e197.gr g212 no_row
    clear e197
    have r214 := r198.gr g212 (fun _ h => by cases h)
    clear r198
    have r215 := r199.gr g212 (fun _ h => by cases h)
    clear r199
    have bx216 := bx200.gr g212 (by simp)
    clear bx200
    have bx217 := bx201.gr g212 (by simp)
    clear bx201
    have bx218 := bx202.gr g212 (by simp)
    clear bx202
    have bx219 := bx203.gr g212 (by simp)
    clear bx203
    clear g212 he
    refine ⟨hS208, ?_⟩
    refine AtH.all [4] 0 (by kernel_rfl) (by simp) ⟨?_, trivial⟩
    refine OneH.act f211 #[true, true, true, true, true] (by kernel_rfl) (storeBlk (t := 28) (b := w1.heap.size) (n := 4) (cs' := (((inS g s : List Int) : List Int).map wV)) (by kernel_rfl) (by kernel_rfl) ((List.length_map _).trans (okLen (inS_ok (by assumption)))) oneW_ ((show (((inS g s : List Int) : List Int).map wV).length = 4 from ((List.length_map _).trans (okLen (inS_ok (by assumption))))).trans (show ((s : List Int).map wV).length = 4 from (by simp only [List.length_map, List.length_set, List.length_replicate, List.length_cons, List.length_nil]; first | done | assumption | exact from_len _ | exact of_len _ | exact ofZ_len _ | exact (ofW_ok _).1 | exact (fullW_W _).1 | exact (okW_with (by assumption)).1 | exact (okW_less (by assumption)).1 | exact put_len (from_len _) | exact orD_len _ _ | exact andD_len _ _ | exact minusD_len _ _ | exact fullD_len _ | (refine okLen ?_; (repeat (first | assumption | exact ofW_ok _ | exact fullW_W _ | apply okW_with | apply okW_less | refine okW_orS ?_ ?_ | refine okW_andS ?_ ?_ | refine okW_minusS ?_ ?_)); done) | omega | rfl)).symm) bx217) ?_
    rintro d_ v_ w221 ⟨rfl, g222, bx223⟩
    have hS226 := hS208.gr' g222 (by rw [hCs135]; exact trivial)
    refine ⟨_, rfl, fun act225 f224 => ⟨hS226, ?_⟩⟩
    clear f211
    have szw221 := g222.size
    have e227 := e213.gr g222 (fun k h => by injection h; omega)
    clear e213
    have r228 := r214.gr g222 (fun k h => by injection h; omega)
    clear r214
    have r229 := r215.gr g222 (fun k h => by injection h; omega)
    clear r215
    have bx230 := bx216.gr g222 (fun h => by injection h; omega)
    clear bx216
    have bx231 := bx218.gr g222 (fun h => by injection h; omega)
    clear bx218
    have bx232 := bx219.gr g222 (fun h => by injection h; omega)
    clear bx219
    clear bx217 g222
    refine AtH.done (by kernel_rfl) ?_
    clear hS226
    refine t_n ?_
    have f233 := f224.sub (r := [(12, .int .i64 (((g.ow.length : Nat) : Int))), (8, .pointer (some ⟨w22.heap.size, 0, none⟩)), (7, .pointer (some ⟨w11.heap.size, 0, none⟩)), (5, .pointer (some ⟨w1.heap.size, 0, none⟩)), (4, .pointer (some ⟨w.heap.size, 0, none⟩)), (2, .int .i64 (p))]) ⟨rfl, rfl, rfl, rfl, rfl, rfl, trivial⟩
    exact ⟨f233, e227, r228, r229, bx230, bx223, bx231, bx232, (by omega)⟩
  ·clear r122
   clear r123
   clear bx124
   clear bx125
   clear bx126
   clear bx127
   clear f133 e121
   intro act234 w235 ⟨f236, e237, r238, r239, bx240, bx241, bx242, bx243, szz244⟩
   have szw235 := e237.size
   have := bx240.lt
   have := bx241.lt
   have := bx242.lt
   have := bx243.lt
   refine wp_seq ?_
   refine At.start ?_
   refine At.rd f236 1 [[]] [(47, .int .i64 (((g.ow.length : Nat) : Int)))] [] (by kernel_rfl) trivial (fun act246 f245 => ?_)
   clear f236
   refine At.act f245 (makeR (k1 := .i64) (k2 := .i64) (α := SliceV) (e := 22) (bytes := 24) (t := 23) (d := 48) (n := ((g.ow.length : Nat) : Int)) (cap := ((g.ow.length : Nat) : Int)) ((⟨none, 0, 0⟩ : SliceV)) (by kernel_rfl) rfl (by kernel_rfl) (by omega) (by omega) (by omega) (by omega)) ?_
   rintro d_ v_ w247 ⟨rfl, rfl, g248, hO249⟩
   refine ⟨_, rfl, fun act253 f252 => ?_⟩
   clear f245
   replace hO249 := hO249 (Sx (w235.heap.size) []) (Nat.le_refl _)
   have szw247 := g248.size
   have e254 := e237.gr g248 no_row
   clear e237
   have r255 := r238.gr g248 (fun _ h => by cases h)
   clear r238
   have r256 := r239.gr g248 (fun _ h => by cases h)
   clear r239
   have bx257 := bx240.gr g248 (by simp)
   clear bx240
   have bx258 := bx241.gr g248 (by simp)
   clear bx241
   have bx259 := bx242.gr g248 (by simp)
   clear bx242
   have bx260 := bx243.gr g248 (by simp)
   clear bx243
   clear g248
   have : (List.replicate (((g.ow.length : Nat) : Int) : Int).toNat ((⟨none, 0, 0⟩ : SliceV) : SliceV)).length = (((g.ow.length : Nat) : Int) : Int).toNat := List.length_replicate
   have ll261 : OwnLL w247 (w235.heap.size) [] (some ⟨w235.heap.size, 0, none⟩) ((((g.ow.length : Nat) : Int) : Int).toNat) 22 3 (List.replicate (((g.ow.length : Nat) : Int) : Int).toNat ([] : List Int) : List (List Int)) := hO249.ll
   have : (List.replicate (((g.ow.length : Nat) : Int) : Int).toNat ([] : List Int)).length = (((g.ow.length : Nat) : Int) : Int).toNat := List.length_replicate
   refine At.rd f252 1 [[]] [(13, .slice (some ⟨w235.heap.size, 0, none⟩) ((List.replicate (((g.ow.length : Nat) : Int) : Int).toNat ((⟨none, 0, 0⟩ : SliceV) : SliceV)).length) ((((g.ow.length : Nat) : Int) : Int).toNat))] [] (by kernel_rfl) trivial (fun act263 f262 => ?_)
   clear f252
   refine At.done rfl ?_
   refine t_n ?_
   have f264 := f262.sub (r := [(13, .slice (some ⟨w235.heap.size, 0, none⟩) ((List.replicate (((g.ow.length : Nat) : Int) : Int).toNat ((⟨none, 0, 0⟩ : SliceV) : SliceV)).length) ((((g.ow.length : Nat) : Int) : Int).toNat)), (12, .int .i64 (((g.ow.length : Nat) : Int))), (8, .pointer (some ⟨w22.heap.size, 0, none⟩)), (7, .pointer (some ⟨w11.heap.size, 0, none⟩)), (5, .pointer (some ⟨w1.heap.size, 0, none⟩)), (4, .pointer (some ⟨w.heap.size, 0, none⟩)), (2, .int .i64 (p))]) ⟨rfl, rfl, rfl, rfl, rfl, rfl, rfl, trivial⟩
   clear f262
   refine wp_seq ?_
   refine At.start ?_
   refine At.rd f264 1 [[]] [(49, .int .i64 (((g.ow.length : Nat) : Int)))] [] (by kernel_rfl) trivial (fun act266 f265 => ?_)
   clear f264
   refine At.act f265 (makeR (k1 := .i64) (k2 := .i64) (α := Int) (e := 3) (bytes := 8) (t := 22) (d := 50) (n := ((g.ow.length : Nat) : Int)) (cap := ((g.ow.length : Nat) : Int)) (0) (by kernel_rfl) rfl (by kernel_rfl) (by omega) (by omega) (by omega) (by omega)) ?_
   rintro d_ v_ w267 ⟨rfl, rfl, g268, hO269⟩
   refine ⟨_, rfl, fun act273 f272 => ?_⟩
   clear f265
   replace hO269 := hO269 (Sx (w247.heap.size) [obk (some ⟨w235.heap.size, 0, none⟩)]) ⟨ll261.ne_new, (Nat.le_refl _)⟩
   have szw267 := g268.size
   have e274 := e254.gr g268 no_row
   clear e254
   have r275 := r255.gr g268 (fun _ h => by cases h)
   clear r255
   have r276 := r256.gr g268 (fun _ h => by cases h)
   clear r256
   have bx277 := bx257.gr g268 (by simp)
   clear bx257
   have bx278 := bx258.gr g268 (by simp)
   clear bx258
   have bx279 := bx259.gr g268 (by simp)
   clear bx259
   have bx280 := bx260.gr g268 (by simp)
   clear bx260
   have ow281 : OwnLL w267 (w235.heap.size) [obk (some ⟨w247.heap.size, 0, none⟩)] (some ⟨w235.heap.size, 0, none⟩) ((((g.ow.length : Nat) : Int) : Int).toNat) 22 3 (List.replicate (((g.ow.length : Nat) : Int) : Int).toNat ([] : List Int) : List (List Int)) := ll261.grA g268 (fun _ _ h => by cases h) (fun k hk hs => ⟨(fun e => by simp only [obk, Option.map_some] at e; injection e; omega), hs⟩)
   clear ll261
   clear g268
   have : (List.replicate (((g.ow.length : Nat) : Int) : Int).toNat (0 : Int)).length = (((g.ow.length : Nat) : Int) : Int).toNat := List.length_replicate
   refine At.rd f272 1 [[]] [(14, .slice (some ⟨w247.heap.size, 0, none⟩) ((List.replicate (((g.ow.length : Nat) : Int) : Int).toNat (0 : Int)).length) ((((g.ow.length : Nat) : Int) : Int).toNat))] [] (by kernel_rfl) trivial (fun act283 f282 => ?_)
   clear f272
   refine At.done rfl ?_
   refine t_n ?_
   have f284 := f282.sub (r := [(14, .slice (some ⟨w247.heap.size, 0, none⟩) ((List.replicate (((g.ow.length : Nat) : Int) : Int).toNat (0 : Int)).length) ((((g.ow.length : Nat) : Int) : Int).toNat)), (13, .slice (some ⟨w235.heap.size, 0, none⟩) ((List.replicate (((g.ow.length : Nat) : Int) : Int).toNat ((⟨none, 0, 0⟩ : SliceV) : SliceV)).length) ((((g.ow.length : Nat) : Int) : Int).toNat)), (12, .int .i64 (((g.ow.length : Nat) : Int))), (8, .pointer (some ⟨w22.heap.size, 0, none⟩)), (7, .pointer (some ⟨w11.heap.size, 0, none⟩)), (5, .pointer (some ⟨w1.heap.size, 0, none⟩)), (4, .pointer (some ⟨w.heap.size, 0, none⟩)), (2, .int .i64 (p))]) ⟨rfl, rfl, rfl, rfl, rfl, rfl, rfl, rfl, trivial⟩
   clear f282
   refine wp_seq ?_
   refine At.start ?_
   refine At.rd f284 1 [[]] [(51, .int .i64 (((g.ow.length : Nat) : Int)))] [] (by kernel_rfl) trivial (fun act286 f285 => ?_)
   clear f284
   refine At.act f285 (makeR (k1 := .i64) (k2 := .i64) (α := Int) (e := 3) (bytes := 8) (t := 22) (d := 52) (n := ((g.ow.length : Nat) : Int)) (cap := ((g.ow.length : Nat) : Int)) (0) (by kernel_rfl) rfl (by kernel_rfl) (by omega) (by omega) (by omega) (by omega)) ?_
   rintro d_ v_ w287 ⟨rfl, rfl, g288, hO289⟩
   refine ⟨_, rfl, fun act293 f292 => ?_⟩
   clear f285
   replace hO289 := hO289 (Sx (w267.heap.size) [obk (some ⟨w235.heap.size, 0, none⟩), obk (some ⟨w247.heap.size, 0, none⟩)]) ⟨ow281.ne_new, hO269.ne_new, (Nat.le_refl _)⟩
   have szw287 := g288.size
   have e294 := e274.gr g288 no_row
   clear e274
   have r295 := r275.gr g288 (fun _ h => by cases h)
   clear r275
   have r296 := r276.gr g288 (fun _ h => by cases h)
   clear r276
   have bx297 := bx277.gr g288 (by simp)
   clear bx277
   have bx298 := bx278.gr g288 (by simp)
   clear bx278
   have bx299 := bx279.gr g288 (by simp)
   clear bx279
   have bx300 := bx280.gr g288 (by simp)
   clear bx280
   have ow301 : OwnLL w287 (w235.heap.size) [obk (some ⟨w267.heap.size, 0, none⟩), obk (some ⟨w247.heap.size, 0, none⟩)] (some ⟨w235.heap.size, 0, none⟩) ((((g.ow.length : Nat) : Int) : Int).toNat) 22 3 (List.replicate (((g.ow.length : Nat) : Int) : Int).toNat ([] : List Int) : List (List Int)) := ow281.grA g288 (fun _ _ h => by cases h) (fun k hk hs => ⟨(fun e => by simp only [obk, Option.map_some] at e; injection e; omega), hs.1, hs.2⟩)
   clear ow281
   have ow302 : OwnR w287 (Sx (w247.heap.size) [obk (some ⟨w267.heap.size, 0, none⟩), obk (some ⟨w235.heap.size, 0, none⟩)]) (some ⟨w247.heap.size, 0, none⟩) ((((g.ow.length : Nat) : Int) : Int).toNat) 3 (List.replicate (((g.ow.length : Nat) : Int) : Int).toNat (0 : Int) : List Int) := hO269.grA g288 (fun _ _ h => by cases h) (fun k hk hs => ⟨(fun e => by simp only [obk, Option.map_some] at e; injection e; omega), hs.1, hs.2⟩)
   clear hO269
   clear g288
   have : (List.replicate (((g.ow.length : Nat) : Int) : Int).toNat (0 : Int)).length = (((g.ow.length : Nat) : Int) : Int).toNat := List.length_replicate
   refine At.rd f292 1 [[]] [(15, .slice (some ⟨w267.heap.size, 0, none⟩) ((List.replicate (((g.ow.length : Nat) : Int) : Int).toNat (0 : Int)).length) ((((g.ow.length : Nat) : Int) : Int).toNat))] [] (by kernel_rfl) trivial (fun act304 f303 => ?_)
   clear f292
   refine At.done rfl ?_
   refine t_n ?_
   have f305 := f303.sub (r := [(15, .slice (some ⟨w267.heap.size, 0, none⟩) ((List.replicate (((g.ow.length : Nat) : Int) : Int).toNat (0 : Int)).length) ((((g.ow.length : Nat) : Int) : Int).toNat)), (14, .slice (some ⟨w247.heap.size, 0, none⟩) ((List.replicate (((g.ow.length : Nat) : Int) : Int).toNat (0 : Int)).length) ((((g.ow.length : Nat) : Int) : Int).toNat)), (13, .slice (some ⟨w235.heap.size, 0, none⟩) ((List.replicate (((g.ow.length : Nat) : Int) : Int).toNat ((⟨none, 0, 0⟩ : SliceV) : SliceV)).length) ((((g.ow.length : Nat) : Int) : Int).toNat)), (12, .int .i64 (((g.ow.length : Nat) : Int))), (8, .pointer (some ⟨w22.heap.size, 0, none⟩)), (7, .pointer (some ⟨w11.heap.size, 0, none⟩)), (5, .pointer (some ⟨w1.heap.size, 0, none⟩)), (4, .pointer (some ⟨w.heap.size, 0, none⟩)), (2, .int .i64 (p))]) ⟨rfl, rfl, rfl, rfl, rfl, rfl, rfl, rfl, rfl, trivial⟩
   clear f303
   refine wp_seq ?_
   refine wp_seq ?_
   refine At.start ?_
   refine At.rd f305 2 [[], []] [(54, .int .i64 (0)), (53, .int .i64 (((g.ow.length : Nat) : Int)))] [] (by kernel_rfl) trivial (fun act307 f306 => ?_)
   clear f305
   refine At.done rfl ?_
   refine t_n ?_
   have f308 := f306.sub (r := [(54, .int .i64 (0)), (53, .int .i64 (((g.ow.length : Nat) : Int))), (15, .slice (some ⟨w267.heap.size, 0, none⟩) ((List.replicate (((g.ow.length : Nat) : Int) : Int).toNat (0 : Int)).length) ((((g.ow.length : Nat) : Int) : Int).toNat)), (14, .slice (some ⟨w247.heap.size, 0, none⟩) ((List.replicate (((g.ow.length : Nat) : Int) : Int).toNat (0 : Int)).length) ((((g.ow.length : Nat) : Int) : Int).toNat)), (13, .slice (some ⟨w235.heap.size, 0, none⟩) ((List.replicate (((g.ow.length : Nat) : Int) : Int).toNat ((⟨none, 0, 0⟩ : SliceV) : SliceV)).length) ((((g.ow.length : Nat) : Int) : Int).toNat)), (8, .pointer (some ⟨w22.heap.size, 0, none⟩)), (7, .pointer (some ⟨w11.heap.size, 0, none⟩)), (5, .pointer (some ⟨w1.heap.size, 0, none⟩)), (4, .pointer (some ⟨w.heap.size, 0, none⟩)), (2, .int .i64 (p))]) ⟨rfl, rfl, rfl, rfl, rfl, rfl, rfl, rfl, rfl, rfl, trivial⟩
   clear f306
   refine wp_block ?_
   have f316 := f308.as 15 (.slice (some ⟨w267.heap.size, 0, none⟩) ((List.replicate (((g.ow.length : Nat) : Int) : Int).toNat (0 : Int)).length) ((((g.ow.length : Nat) : Int) : Int).toNat)) (.slice (some ⟨w267.heap.size, 0, none⟩) ((List.replicate (((g.ow.length : Nat) : Int) : Int).toNat (0 : Int) : List Int).length) ((((g.ow.length : Nat) : Int) : Int).toNat)) rfl (slice_len (by first | rfl | omega | (simp; done) | (simp; omega)))
   clear f308
   have f317 := f316.as 14 (.slice (some ⟨w247.heap.size, 0, none⟩) ((List.replicate (((g.ow.length : Nat) : Int) : Int).toNat (0 : Int)).length) ((((g.ow.length : Nat) : Int) : Int).toNat)) (.slice (some ⟨w247.heap.size, 0, none⟩) ((List.replicate (((g.ow.length : Nat) : Int) : Int).toNat (0 : Int) : List Int).length) ((((g.ow.length : Nat) : Int) : Int).toNat)) rfl (slice_len (by first | rfl | omega | (simp; done) | (simp; omega)))
   clear f316
   have f318 := f317.as 13 (.slice (some ⟨w235.heap.size, 0, none⟩) ((List.replicate (((g.ow.length : Nat) : Int) : Int).toNat ((⟨none, 0, 0⟩ : SliceV) : SliceV)).length) ((((g.ow.length : Nat) : Int) : Int).toNat)) (.slice (some ⟨w235.heap.size, 0, none⟩) ((List.replicate (((g.ow.length : Nat) : Int) : Int).toNat ([] : List Int) : List (List Int)).length) ((((g.ow.length : Nat) : Int) : Int).toNat)) rfl (slice_len (by first | rfl | omega | (simp; done) | (simp; omega)))
   clear f317
   have f315 := f318.sub (r := [(54, .int .i64 (0)), (53, .int .i64 (((g.ow.length : Nat) : Int))), (15, .slice (some ⟨w267.heap.size, 0, none⟩) ((List.replicate (((g.ow.length : Nat) : Int) : Int).toNat (0 : Int) : List Int).length) ((((g.ow.length : Nat) : Int) : Int).toNat)), (14, .slice (some ⟨w247.heap.size, 0, none⟩) ((List.replicate (((g.ow.length : Nat) : Int) : Int).toNat (0 : Int) : List Int).length) ((((g.ow.length : Nat) : Int) : Int).toNat)), (13, .slice (some ⟨w235.heap.size, 0, none⟩) ((List.replicate (((g.ow.length : Nat) : Int) : Int).toNat ([] : List Int) : List (List Int)).length) ((((g.ow.length : Nat) : Int) : Int).toNat)), (8, .pointer (some ⟨w22.heap.size, 0, none⟩)), (7, .pointer (some ⟨w11.heap.size, 0, none⟩)), (5, .pointer (some ⟨w1.heap.size, 0, none⟩)), (4, .pointer (some ⟨w.heap.size, 0, none⟩)), (2, .int .i64 (p))]) ⟨rfl, rfl, rfl, rfl, rfl, rfl, rfl, rfl, rfl, rfl, trivial⟩
   refine loop_g (fun (m_ : Nat) a_ w_ => ∃ (i : Int) (fr : List (List Int)) (A_309 : Option Addr) (c_310 : Nat) (lf : List Int) (A_311 : Option Addr) (c_312 : Nat) (ms : List Int) (A_313 : Option Addr) (c_314 : Nat), m_ = ((g.ow.length : Int) - i).toNat ∧ (Frm 163 a_ [(54, .int .i64 (i)), (53, .int .i64 (((g.ow.length : Nat) : Int))), (15, .slice A_313 ms.length c_314), (14, .slice A_311 lf.length c_312), (13, .slice A_309 fr.length c_310), (8, .pointer (some ⟨w22.heap.size, 0, none⟩)), (7, .pointer (some ⟨w11.heap.size, 0, none⟩)), (5, .pointer (some ⟨w1.heap.size, 0, none⟩)), (4, .pointer (some ⟨w.heap.size, 0, none⟩)), (2, .int .i64 (p))]) ∧ (Ext w w_) ∧ (RdG w_ 0 w.heap.size Ag0 Ag1 Ag2 cg0 cg1 cg2 g) ∧ (RdT w_ 0 w.heap.size) ∧ (Bx w_ (w.heap.size) [.slice Ag0 g.ow.length cg0, .slice Ag1 g.pr.length cg1, .slice Ag2 g.mv.length cg2] 25) ∧ (Bx w_ (w1.heap.size) (((inS g s : List Int) : List Int).map wV) 28) ∧ (Bx w_ (w11.heap.size) ((t : List Int).map wV) 28) ∧ (Bx w_ (w22.heap.size) ((List.replicate 4 (0 : Int) : List Int).map wV) 28) ∧ (OwnLL w_ (w235.heap.size) [obk (A_313), obk (A_311)] A_309 c_310 22 3 (fr : List (List Int))) ∧ (OwnR w_ (Sx (w247.heap.size) [obk (A_313), obk (A_309)]) A_311 c_312 3 (lf : List Int)) ∧ (OwnR w_ (Sx (w267.heap.size) [obk (A_309), obk (A_311)]) A_313 c_314 3 (ms : List Int)) ∧ (0 ≤ i) ∧ (i ≤ (g.ow.length : Int)) ∧ (FrA g (inT g s) fr lf i 0) ∧ (ms.length = g.ow.length) ∧ (∀ j : Int, 0 ≤ j → j < i → gI ms j = -1) ∧ (w235.heap.size ≤ w_.heap.size) ∧ (w247.heap.size ≤ w_.heap.size) ∧ (w267.heap.size ≤ w_.heap.size)) _ ⟨0, (List.replicate (((g.ow.length : Nat) : Int) : Int).toNat ([] : List Int) : List (List Int)), some ⟨w235.heap.size, 0, none⟩, (((g.ow.length : Nat) : Int) : Int).toNat, (List.replicate (((g.ow.length : Nat) : Int) : Int).toNat (0 : Int) : List Int), some ⟨w247.heap.size, 0, none⟩, (((g.ow.length : Nat) : Int) : Int).toNat, (List.replicate (((g.ow.length : Nat) : Int) : Int).toNat (0 : Int) : List Int), some ⟨w267.heap.size, 0, none⟩, (((g.ow.length : Nat) : Int) : Int).toNat, rfl, f315, e294, r295, r296, bx297, bx298, bx299, bx300, ow301, ow302, hO289, (by omega), (by omega), (by simp only [Int.toNat_natCast]; exact fra0), (by simp), (fun j a b => by omega), (by omega), (by omega), (by omega)⟩ ?_
   clear f315 f318
   clear r295
   clear r296
   clear bx297
   clear bx298
   clear bx299
   clear bx300
   clear ow301
   clear ow302
   clear hO289
   clear e294
   intro m_ act319 w320 ⟨i, fr, A_309, c_310, lf, A_311, c_312, ms, A_313, c_314, hm322, f323, e321, r324, r325, bx326, bx327, bx328, bx329, r330, ow331, ow332, i333, i334, hfr, i335, hms, i336, i337, i338⟩
   have szw320 := e321.size
   have := bx326.lt
   have := bx327.lt
   have := bx328.lt
   have := bx329.lt
   have hfl_ := hfr.len
   have hll_ := hfr.ll
   refine wp_seq ?_
   refine At.start ?_
   refine At.rd f323 1 [[]] [(55, .bool (decide ((i : Int) < ((g.ow.length : Nat) : Int))))] [] (by kernel_rfl) trivial (fun act340 f339 => ?_)
   clear f323
   refine At.done rfl ?_
   refine t_n ?_
   refine wp_seq ?_
   refine cond_S f339 (t := decide ((i : Int) < ((g.ow.length : Nat) : Int))) rfl (fun h341 => ?_) (fun h341 => ?_)
   ·have q342 := of_decide_eq_true h341
    refine wp_skip ?_
    refine t_n ?_
    have f343 := f339.sub (r := [(54, .int .i64 (i)), (53, .int .i64 (((g.ow.length : Nat) : Int))), (15, .slice A_313 ms.length c_314), (14, .slice A_311 lf.length c_312), (13, .slice A_309 fr.length c_310), (8, .pointer (some ⟨w22.heap.size, 0, none⟩)), (7, .pointer (some ⟨w11.heap.size, 0, none⟩)), (5, .pointer (some ⟨w1.heap.size, 0, none⟩)), (4, .pointer (some ⟨w.heap.size, 0, none⟩)), (2, .int .i64 (p))]) ⟨rfl, rfl, rfl, rfl, rfl, rfl, rfl, rfl, rfl, rfl, trivial⟩
    clear f339
    refine wp_seq ?_
    refine wp_block ?_
    refine wp_seq ?_
    refine At.start ?_
    refine At.rd f343 2 [[], []] [(16, .int .i64 (i)), (56, .int .i64 (i))] [] (by kernel_rfl) trivial (fun act345 f344 => ?_)
    clear f343
    refine At.done rfl ?_
    refine t_n ?_
    have f346 := f344.sub (r := [(16, .int .i64 (i)), (54, .int .i64 (i)), (53, .int .i64 (((g.ow.length : Nat) : Int))), (15, .slice A_313 ms.length c_314), (14, .slice A_311 lf.length c_312), (13, .slice A_309 fr.length c_310), (8, .pointer (some ⟨w22.heap.size, 0, none⟩)), (7, .pointer (some ⟨w11.heap.size, 0, none⟩)), (5, .pointer (some ⟨w1.heap.size, 0, none⟩)), (4, .pointer (some ⟨w.heap.size, 0, none⟩)), (2, .int .i64 (p))]) ⟨rfl, rfl, rfl, rfl, rfl, rfl, rfl, rfl, rfl, rfl, rfl, trivial⟩
    clear f344
    refine wp_seq ?_
    refine At.start ?_
    obtain ⟨ad347, hA348, hb351, hc350, hc349⟩ := ow332.get (i) (by omega) (by omega) (sz := 1) rfl
    refine At.rd f346 3 [[], [], [.ad ad347]] [(59, .pointer (some (ad347.add ((i : Int).toNat * 1)))), (58, .int .i64 (i)), (57, .slice A_313 ms.length c_314)] [(A_313 = some ad347), (0 ≤ (i : Int)), ((i : Int) < (ms.length : Nat))] (by kernel_rfl) ⟨hA348, (by omega), (by omega), trivial⟩ (fun act353 f352 => ?_)
    clear f346
    refine At.act f352 (storeR (α := Int) (t := 3) (i := i) (ad := ad347) (v := .int .i64 (-1)) (-1) (by kernel_rfl) rfl rfl (by kernel_rfl) hA348 ow332 (by omega) (by omega)) ?_
    rintro d_ v_ w354 ⟨rfl, g355, ow356⟩
    refine ⟨_, rfl, fun act359 f358 => ?_⟩
    clear f352
    have hl357 : ((ms).set (i : Int).toNat (-1)).length = (ms).length := List.length_set
    have szw354 := g355.size
    have e360 := e321.gr g355 (fun k hk => by have := ow332.ge k hk; omega)
    clear e321
    have r361 := r324.gr g355 (fun k hk => by have := ow332.ge k hk; omega)
    clear r324
    have r362 := r325.gr g355 (fun k hk => by have := ow332.ge k hk; omega)
    clear r325
    have bx363 := bx326.gr g355 (fun e => by have := ow332.ge _ e; omega)
    clear bx326
    have bx364 := bx327.gr g355 (fun e => by have := ow332.ge _ e; omega)
    clear bx327
    have bx365 := bx328.gr g355 (fun e => by have := ow332.ge _ e; omega)
    clear bx328
    have bx366 := bx329.gr g355 (fun e => by have := ow332.ge _ e; omega)
    clear bx329
    have ow367 := r330.gr g355 (fun k hk => hk.1)
    clear r330
    have ow368 := ow331.gr g355 (fun k hk => hk.1)
    clear ow331
    clear ow332 g355
    refine At.done rfl ?_
    refine t_n ?_
    have f369 := f358.sub (r := [(16, .int .i64 (i)), (54, .int .i64 (i)), (53, .int .i64 (((g.ow.length : Nat) : Int))), (15, .slice A_313 ms.length c_314), (14, .slice A_311 lf.length c_312), (13, .slice A_309 fr.length c_310), (8, .pointer (some ⟨w22.heap.size, 0, none⟩)), (7, .pointer (some ⟨w11.heap.size, 0, none⟩)), (5, .pointer (some ⟨w1.heap.size, 0, none⟩)), (4, .pointer (some ⟨w.heap.size, 0, none⟩)), (2, .int .i64 (p))]) ⟨rfl, rfl, rfl, rfl, rfl, rfl, rfl, rfl, rfl, rfl, rfl, trivial⟩
    clear f358
    refine wp_seq ?_
    refine wp_seq ?_
    refine At.start ?_
    refine At.rd f369 2 [[.cs (((inS g s : List Int) : List Int).map wV)], []] [(61, .int .i64 (i)), (60, .agg (((inS g s : List Int) : List Int).map wV).toArray)] [((((inS g s : List Int) : List Int).map wV).length = 4), (∀ (j : Nat) (v : Value), (((inS g s : List Int) : List Int).map wV)[j]? = some v → w354.cell? ((⟨w1.heap.size, 0, none⟩ : Addr).add j) = some v)] (by kernel_rfl) ⟨((List.length_map _).trans (okLen (inS_ok (by assumption)))), bx364.whole, trivial⟩ (fun act371 f370 => ?_)
    clear f369
    refine At.call f370 23 #[.agg (((inS g s : List Int) : List Int).map wV).toArray, .int .i64 (i)] (some 62) (by kernel_rfl) (has_any (s := (inS g s : List Int)) (n := i) (inS_ok (by assumption))) ?_
    rintro e_ w372 ⟨rfl, he⟩
    refine ⟨_, rfl, _, rfl, fun act373 f374 => ?_⟩
    clear f370
    have g375 := gr_ext he
    have szw372 := g375.size
    have e376 := e360.gr g375 no_row
    clear e360
    have r377 := r361.gr g375 (fun _ h => by cases h)
    clear r361
    have r378 := r362.gr g375 (fun _ h => by cases h)
    clear r362
    have bx379 := bx363.gr g375 (by simp)
    clear bx363
    have bx380 := bx364.gr g375 (by simp)
    clear bx364
    have bx381 := bx365.gr g375 (by simp)
    clear bx365
    have bx382 := bx366.gr g375 (by simp)
    clear bx366
    have ow383 := ow367.gr g375 (fun _ _ h => by cases h)
    clear ow367
    have ow384 := ow368.gr g375 (fun _ _ h => by cases h)
    clear ow368
    have ow385 := ow356.gr g375 (fun _ _ h => by cases h)
    clear ow356
    clear g375 he
    refine At.rd f374 1 [[]] [(63, .bool (!(hasW (inS g s : List Int) i)))] [] (by kernel_rfl) trivial (fun act387 f386 => ?_)
    clear f374
    refine At.done rfl ?_
    refine t_n ?_
    have f388 := f386.sub (r := [(63, .bool (!(hasW (inS g s : List Int) i))), (16, .int .i64 (i)), (54, .int .i64 (i)), (53, .int .i64 (((g.ow.length : Nat) : Int))), (15, .slice A_313 ms.length c_314), (14, .slice A_311 lf.length c_312), (13, .slice A_309 fr.length c_310), (8, .pointer (some ⟨w22.heap.size, 0, none⟩)), (7, .pointer (some ⟨w11.heap.size, 0, none⟩)), (5, .pointer (some ⟨w1.heap.size, 0, none⟩)), (4, .pointer (some ⟨w.heap.size, 0, none⟩)), (2, .int .i64 (p))]) ⟨rfl, rfl, rfl, rfl, rfl, rfl, rfl, rfl, rfl, rfl, rfl, rfl, trivial⟩
    clear f386
    refine cond_S f388 (t := !(hasW (inS g s : List Int) i)) rfl (fun h389 => ?_) (fun h389 => ?_)
    ·have q390 : (hasW (inS g s : List Int) i) = false := by first | exact Eq.mp (Bool.not_eq_true' _) h389 | exact Eq.mp (Bool.not_eq_false' _) h389 | simpa using h389
     refine wp_exit ?_
     refine t_e ?_
     refine b_e ?_
     refine t_n ?_
     have f392 := f388.sub (r := [(54, .int .i64 (i)), (53, .int .i64 (((g.ow.length : Nat) : Int))), (15, .slice A_313 ms.length c_314), (14, .slice A_311 lf.length c_312), (13, .slice A_309 fr.length c_310), (8, .pointer (some ⟨w22.heap.size, 0, none⟩)), (7, .pointer (some ⟨w11.heap.size, 0, none⟩)), (5, .pointer (some ⟨w1.heap.size, 0, none⟩)), (4, .pointer (some ⟨w.heap.size, 0, none⟩)), (2, .int .i64 (p))]) ⟨rfl, rfl, rfl, rfl, rfl, rfl, rfl, rfl, rfl, rfl, trivial⟩
     clear f388
     refine At.start ?_
     refine At.rd f392 2 [[.as_ (.int .i64 (i + 1))], []] [(54, .int .i64 (i + 1)), (94, .int .i64 (i + 1))] [((.int .i64 (IntKind.i64.wrap (i + 1)) : Value) = .int .i64 (i + 1))] (by kernel_rfl) ⟨(w64 (by omega) (by omega)), trivial⟩ (fun act394 f393 => ?_)
     clear f392
     refine At.done rfl ?_
     refine t_n ?_
     have f395 := f393.as 15 (.slice A_313 ms.length c_314) (.slice A_313 (((ms).set (i : Int).toNat (-1) : List Int).length) c_314) rfl (slice_len (by first | rfl | omega | (simp; done) | (simp; omega)))
     clear f393
     have f396 := f395.as 14 (.slice A_311 lf.length c_312) (.slice A_311 ((lf : List Int).length) c_312) rfl (slice_len (by first | rfl | omega | (simp; done) | (simp; omega)))
     clear f395
     have f397 := f396.as 13 (.slice A_309 fr.length c_310) (.slice A_309 ((fr : List (List Int)).length) c_310) rfl (slice_len (by first | rfl | omega | (simp; done) | (simp; omega)))
     clear f396
     have f398 := f397.sub (r := [(54, .int .i64 (i + 1)), (53, .int .i64 (((g.ow.length : Nat) : Int))), (15, .slice A_313 (((ms).set (i : Int).toNat (-1) : List Int).length) c_314), (14, .slice A_311 ((lf : List Int).length) c_312), (13, .slice A_309 ((fr : List (List Int)).length) c_310), (8, .pointer (some ⟨w22.heap.size, 0, none⟩)), (7, .pointer (some ⟨w11.heap.size, 0, none⟩)), (5, .pointer (some ⟨w1.heap.size, 0, none⟩)), (4, .pointer (some ⟨w.heap.size, 0, none⟩)), (2, .int .i64 (p))]) ⟨rfl, rfl, rfl, rfl, rfl, rfl, rfl, rfl, rfl, rfl, trivial⟩
     exact ⟨_, (by omega), (i + 1), (fr : List (List Int)), A_309, c_310, (lf : List Int), A_311, c_312, ((ms).set (i : Int).toNat (-1) : List Int), A_313, c_314, rfl, f398, e376, r377, r378, bx379, bx380, bx381, bx382, ow383, ow384, ow385, (by omega), (by omega), (fra_out hG hfr (by omega) (by omega) (by rw [← has_inT (by omega) (by omega)]; assumption)), (by rw [List.length_set]; assumption), (ms_next hms (by omega) (by omega)), (by omega), (by omega), (by omega)⟩
    ·have q399 : (hasW (inS g s : List Int) i) = true := by first | exact Eq.mp (Bool.not_eq_true' _) h389 | exact Eq.mp (Bool.not_eq_false' _) h389 | simpa using h389
     refine wp_skip ?_
     refine t_n ?_
     have f401 := f388.sub (r := [(16, .int .i64 (i)), (54, .int .i64 (i)), (53, .int .i64 (((g.ow.length : Nat) : Int))), (15, .slice A_313 ms.length c_314), (14, .slice A_311 lf.length c_312), (13, .slice A_309 fr.length c_310), (8, .pointer (some ⟨w22.heap.size, 0, none⟩)), (7, .pointer (some ⟨w11.heap.size, 0, none⟩)), (5, .pointer (some ⟨w1.heap.size, 0, none⟩)), (4, .pointer (some ⟨w.heap.size, 0, none⟩)), (2, .int .i64 (p))]) ⟨rfl, rfl, rfl, rfl, rfl, rfl, rfl, rfl, rfl, rfl, rfl, trivial⟩
     clear f388
     refine wp_seq ?_
     have hIi : gB (inT g s) i = true := by rw [← has_inT (by omega) (by omega)]; assumption
     have hrl := row_len hG (i := i) (by omega) (by omega)
     refine At.start ?_
     obtain ⟨ad402, R405, C406, hA403, _, _, hc404, hC407, r408⟩ := RdII.get r377.mv (i) (by omega) (by omega)
     have hl409 := r408.len
     refine At.rd f401 7 [[], [.ld (.slice Ag2 g.mv.length cg2)], [], [.ad ad402], [.ld (.slice R405 ((gL g.mv (i)).length) C406)], [], []] [(70, .int .i64 (0)), (69, .int .i64 ((((gL g.mv (i)).length : Nat) : Int))), (68, .slice R405 ((gL g.mv (i)).length) C406), (67, .pointer (some (ad402.add ((i : Int).toNat * 1)))), (66, .int .i64 (i)), (65, .slice Ag2 g.mv.length cg2), (64, .pointer (some ⟨w.heap.size, 2, none⟩))] [(w372.cell? ⟨w.heap.size, 2, none⟩ = some (.slice Ag2 g.mv.length cg2)), (Ag2 = some ad402), (0 ≤ (i : Int)), ((i : Int) < (g.mv.length : Nat)), (w372.cell? (ad402.add ((i : Int).toNat * 1)) = some (.slice R405 ((gL g.mv (i)).length) C406))] (by kernel_rfl) ⟨(bx379.cell (i := 2) rfl), hA403, (by omega), (by omega), hc404, trivial⟩ (fun act412 f411 => ?_)
     clear f401
     refine At.done rfl ?_
     refine t_n ?_
     have f413 := f411.sub (r := [(70, .int .i64 (0)), (69, .int .i64 ((((gL g.mv (i)).length : Nat) : Int))), (68, .slice R405 ((gL g.mv (i)).length) C406), (16, .int .i64 (i)), (54, .int .i64 (i)), (53, .int .i64 (((g.ow.length : Nat) : Int))), (15, .slice A_313 ms.length c_314), (14, .slice A_311 lf.length c_312), (13, .slice A_309 fr.length c_310), (8, .pointer (some ⟨w22.heap.size, 0, none⟩)), (7, .pointer (some ⟨w11.heap.size, 0, none⟩)), (5, .pointer (some ⟨w1.heap.size, 0, none⟩)), (4, .pointer (some ⟨w.heap.size, 0, none⟩)), (2, .int .i64 (p))]) ⟨rfl, rfl, rfl, rfl, rfl, rfl, rfl, rfl, rfl, rfl, rfl, rfl, rfl, rfl, trivial⟩
     clear f411
     refine wp_block ?_
     have f419 := f413.as 14 (.slice A_311 lf.length c_312) (.slice A_311 ((lf : List Int).length) c_312) rfl (slice_len (by first | rfl | omega | (simp; done) | (simp; omega)))
     clear f413
     have f420 := f419.as 13 (.slice A_309 fr.length c_310) (.slice A_309 ((fr : List (List Int)).length) c_310) rfl (slice_len (by first | rfl | omega | (simp; done) | (simp; omega)))
     clear f419
     have f418 := f420.sub (r := [(70, .int .i64 (0)), (69, .int .i64 ((((gL g.mv (i)).length : Nat) : Int))), (68, .slice R405 ((gL g.mv (i)).length) C406), (16, .int .i64 (i)), (54, .int .i64 (i)), (53, .int .i64 (((g.ow.length : Nat) : Int))), (15, .slice A_313 ms.length c_314), (14, .slice A_311 ((lf : List Int).length) c_312), (13, .slice A_309 ((fr : List (List Int)).length) c_310), (8, .pointer (some ⟨w22.heap.size, 0, none⟩)), (7, .pointer (some ⟨w11.heap.size, 0, none⟩)), (5, .pointer (some ⟨w1.heap.size, 0, none⟩)), (4, .pointer (some ⟨w.heap.size, 0, none⟩)), (2, .int .i64 (p))]) ⟨rfl, rfl, rfl, rfl, rfl, rfl, rfl, rfl, rfl, rfl, rfl, rfl, rfl, rfl, trivial⟩
     refine loop_g (fun (m_ : Nat) a_ w_ => ∃ (q : Int) (fr2 : List (List Int)) (A_414 : Option Addr) (c_415 : Nat) (lf2 : List Int) (A_416 : Option Addr) (c_417 : Nat), m_ = (((gL g.mv i).length : Int) - q).toNat ∧ (Frm 163 a_ [(70, .int .i64 (q)), (69, .int .i64 ((((gL g.mv (i)).length : Nat) : Int))), (68, .slice R405 ((gL g.mv (i)).length) C406), (16, .int .i64 (i)), (54, .int .i64 (i)), (53, .int .i64 (((g.ow.length : Nat) : Int))), (15, .slice A_313 ms.length c_314), (14, .slice A_416 lf2.length c_417), (13, .slice A_414 fr2.length c_415), (8, .pointer (some ⟨w22.heap.size, 0, none⟩)), (7, .pointer (some ⟨w11.heap.size, 0, none⟩)), (5, .pointer (some ⟨w1.heap.size, 0, none⟩)), (4, .pointer (some ⟨w.heap.size, 0, none⟩)), (2, .int .i64 (p))]) ∧ (Ext w w_) ∧ (RdG w_ 0 w.heap.size Ag0 Ag1 Ag2 cg0 cg1 cg2 g) ∧ (RdT w_ 0 w.heap.size) ∧ (Bx w_ (w.heap.size) [.slice Ag0 g.ow.length cg0, .slice Ag1 g.pr.length cg1, .slice Ag2 g.mv.length cg2] 25) ∧ (Bx w_ (w1.heap.size) (((inS g s : List Int) : List Int).map wV) 28) ∧ (Bx w_ (w11.heap.size) ((t : List Int).map wV) 28) ∧ (Bx w_ (w22.heap.size) ((List.replicate 4 (0 : Int) : List Int).map wV) 28) ∧ (OwnLL w_ (w235.heap.size) [obk (A_313), obk (A_416)] A_414 c_415 22 3 (fr2 : List (List Int))) ∧ (OwnR w_ (Sx (w247.heap.size) [obk (A_313), obk (A_414)]) A_416 c_417 3 (lf2 : List Int)) ∧ (OwnR w_ (Sx (w267.heap.size) [obk (A_414), obk (A_416)]) A_313 c_314 3 ((ms).set (i : Int).toNat (-1) : List Int)) ∧ (RdI w_ 0 w.heap.size R405 (gL g.mv (i))) ∧ (0 ≤ q) ∧ (q ≤ ((gL g.mv i).length : Int)) ∧ (FrA g (inT g s) fr2 lf2 i q) ∧ (w235.heap.size ≤ w_.heap.size) ∧ (w247.heap.size ≤ w_.heap.size) ∧ (w267.heap.size ≤ w_.heap.size)) _ ⟨0, (fr : List (List Int)), A_309, c_310, (lf : List Int), A_311, c_312, rfl, f418, e376, r377, r378, bx379, bx380, bx381, bx382, ow383, ow384, ow385, r408, (by omega), (by omega), hfr, (by omega), (by omega), (by omega)⟩ ?_
     clear f418 f420
     clear r377
     clear r378
     clear bx379
     clear bx380
     clear bx381
     clear bx382
     clear ow383
     clear ow384
     clear ow385
     clear r408
     clear e376
     intro m_ act421 w422 ⟨q, fr2, A_414, c_415, lf2, A_416, c_417, hm424, f425, e423, r426, r427, bx428, bx429, bx430, bx431, r432, ow433, ow434, r435, i436, i437, hfr2, i438, i439, i440⟩
     have szw422 := e423.size
     have := bx428.lt
     have := bx429.lt
     have := bx430.lt
     have := bx431.lt
     refine wp_seq ?_
     refine At.start ?_
     refine At.rd f425 1 [[]] [(71, .bool (decide ((q : Int) < (((gL g.mv (i)).length : Nat) : Int))))] [] (by kernel_rfl) trivial (fun act442 f441 => ?_)
     clear f425
     refine At.done rfl ?_
     refine t_n ?_
     refine wp_seq ?_
     refine cond_S f441 (t := decide ((q : Int) < (((gL g.mv (i)).length : Nat) : Int))) rfl (fun h443 => ?_) (fun h443 => ?_)
     ·have q444 := of_decide_eq_true h443
      refine wp_skip ?_
      refine t_n ?_
      have f445 := f441.sub (r := [(70, .int .i64 (q)), (69, .int .i64 ((((gL g.mv (i)).length : Nat) : Int))), (68, .slice R405 ((gL g.mv (i)).length) C406), (16, .int .i64 (i)), (54, .int .i64 (i)), (53, .int .i64 (((g.ow.length : Nat) : Int))), (15, .slice A_313 ms.length c_314), (14, .slice A_416 lf2.length c_417), (13, .slice A_414 fr2.length c_415), (8, .pointer (some ⟨w22.heap.size, 0, none⟩)), (7, .pointer (some ⟨w11.heap.size, 0, none⟩)), (5, .pointer (some ⟨w1.heap.size, 0, none⟩)), (4, .pointer (some ⟨w.heap.size, 0, none⟩)), (2, .int .i64 (p))]) ⟨rfl, rfl, rfl, rfl, rfl, rfl, rfl, rfl, rfl, rfl, rfl, rfl, rfl, rfl, trivial⟩
      clear f441
      refine wp_seq ?_
      refine wp_block ?_
      refine wp_seq ?_
      have hmk := hG.mv i (by omega) (by omega) q (by omega) (by omega)
      have hfl2 := hfr2.len
      have hll2 := hfr2.ll
      have hfc := hfr2.cnt _ hmk.1 hmk.2
      have hlb := fra_lb hfr2 (by omega) (by omega) (by omega)
      refine At.start ?_
      obtain ⟨ad446, hA447, _, _, hc448⟩ := RdI.get r435 (q) (by omega) (by omega)
      refine At.rd f445 3 [[.ad ad446], [.ld (.int .i64 (gI (gL g.mv (i)) (q)))], []] [(18, .int .i64 (gI (gL g.mv (i)) (q))), (73, .int .i64 (gI (gL g.mv (i)) (q))), (72, .pointer (some (ad446.add ((q : Int).toNat * 1))))] [(R405 = some ad446), (0 ≤ (q : Int)), ((q : Int) < ((gL g.mv (i)).length : Nat)), (w422.cell? (ad446.add ((q : Int).toNat * 1)) = some (.int .i64 (gI (gL g.mv (i)) (q))))] (by kernel_rfl) ⟨hA447, (by omega), (by omega), hc448, trivial⟩ (fun act450 f449 => ?_)
      clear f445
      refine At.done rfl ?_
      refine t_n ?_
      have f451 := f449.sub (r := [(18, .int .i64 (gI (gL g.mv (i)) (q))), (70, .int .i64 (q)), (69, .int .i64 ((((gL g.mv (i)).length : Nat) : Int))), (68, .slice R405 ((gL g.mv (i)).length) C406), (16, .int .i64 (i)), (54, .int .i64 (i)), (53, .int .i64 (((g.ow.length : Nat) : Int))), (15, .slice A_313 ms.length c_314), (14, .slice A_416 lf2.length c_417), (13, .slice A_414 fr2.length c_415), (8, .pointer (some ⟨w22.heap.size, 0, none⟩)), (7, .pointer (some ⟨w11.heap.size, 0, none⟩)), (5, .pointer (some ⟨w1.heap.size, 0, none⟩)), (4, .pointer (some ⟨w.heap.size, 0, none⟩)), (2, .int .i64 (p))]) ⟨rfl, rfl, rfl, rfl, rfl, rfl, rfl, rfl, rfl, rfl, rfl, rfl, rfl, rfl, rfl, trivial⟩
      clear f449
      refine wp_seq ?_
      refine At.start ?_
      refine At.rd f451 2 [[.cs (((inS g s : List Int) : List Int).map wV)], []] [(75, .int .i64 (gI (gL g.mv (i)) (q))), (74, .agg (((inS g s : List Int) : List Int).map wV).toArray)] [((((inS g s : List Int) : List Int).map wV).length = 4), (∀ (j : Nat) (v : Value), (((inS g s : List Int) : List Int).map wV)[j]? = some v → w422.cell? ((⟨w1.heap.size, 0, none⟩ : Addr).add j) = some v)] (by kernel_rfl) ⟨((List.length_map _).trans (okLen (inS_ok (by assumption)))), bx429.whole, trivial⟩ (fun act453 f452 => ?_)
      clear f451
      refine At.call f452 23 #[.agg (((inS g s : List Int) : List Int).map wV).toArray, .int .i64 (gI (gL g.mv (i)) (q))] (some 76) (by kernel_rfl) (has_any (s := (inS g s : List Int)) (n := gI (gL g.mv (i)) (q)) (inS_ok (by assumption))) ?_
      rintro e_ w454 ⟨rfl, he⟩
      refine ⟨_, rfl, _, rfl, fun act455 f456 => ?_⟩
      clear f452
      have g457 := gr_ext he
      have szw454 := g457.size
      have e458 := e423.gr g457 no_row
      clear e423
      have r459 := r426.gr g457 (fun _ h => by cases h)
      clear r426
      have r460 := r427.gr g457 (fun _ h => by cases h)
      clear r427
      have bx461 := bx428.gr g457 (by simp)
      clear bx428
      have bx462 := bx429.gr g457 (by simp)
      clear bx429
      have bx463 := bx430.gr g457 (by simp)
      clear bx430
      have bx464 := bx431.gr g457 (by simp)
      clear bx431
      have ow465 := r432.gr g457 (fun _ _ h => by cases h)
      clear r432
      have ow466 := ow433.gr g457 (fun _ _ h => by cases h)
      clear ow433
      have ow467 := ow434.gr g457 (fun _ _ h => by cases h)
      clear ow434
      have r468 := r435.gr g457 (fun _ h => by cases h)
      clear r435
      clear g457 he
      refine At.done rfl ?_
      refine t_n ?_
      have f469 := f456.sub (r := [(76, .bool (hasW (inS g s : List Int) (gI (gL g.mv (i)) (q)))), (18, .int .i64 (gI (gL g.mv (i)) (q))), (70, .int .i64 (q)), (69, .int .i64 ((((gL g.mv (i)).length : Nat) : Int))), (68, .slice R405 ((gL g.mv (i)).length) C406), (16, .int .i64 (i)), (54, .int .i64 (i)), (53, .int .i64 (((g.ow.length : Nat) : Int))), (15, .slice A_313 ms.length c_314), (14, .slice A_416 lf2.length c_417), (13, .slice A_414 fr2.length c_415), (8, .pointer (some ⟨w22.heap.size, 0, none⟩)), (7, .pointer (some ⟨w11.heap.size, 0, none⟩)), (5, .pointer (some ⟨w1.heap.size, 0, none⟩)), (4, .pointer (some ⟨w.heap.size, 0, none⟩)), (2, .int .i64 (p))]) ⟨rfl, rfl, rfl, rfl, rfl, rfl, rfl, rfl, rfl, rfl, rfl, rfl, rfl, rfl, rfl, rfl, trivial⟩
      clear f456
      refine cond_S f469 (t := hasW (inS g s : List Int) (gI (gL g.mv (i)) (q))) rfl (fun h470 => ?_) (fun h470 => ?_)
      ·refine wp_seq ?_
       refine At.start ?_
       obtain ⟨ad472, R475, C476, hA473, hb477, hc474, ow478, ow479⟩ := ow465.get (gI (gL g.mv (i)) (q)) (by omega) (by omega)
       refine At.rd f469 7 [[], [], [], [], [.ad ad472], [.ld (.slice R475 ((gL fr2 (gI (gL g.mv (i)) (q))).length) C476)], []] [(83, .int .i64 (i)), (82, .slice R475 ((gL fr2 (gI (gL g.mv (i)) (q))).length) C476), (81, .pointer (some (ad472.add ((gI (gL g.mv (i)) (q) : Int).toNat * 1)))), (80, .int .i64 (gI (gL g.mv (i)) (q))), (79, .slice A_414 fr2.length c_415), (78, .int .i64 (gI (gL g.mv (i)) (q))), (77, .slice A_414 fr2.length c_415)] [(A_414 = some ad472), (0 ≤ (gI (gL g.mv (i)) (q) : Int)), ((gI (gL g.mv (i)) (q) : Int) < (fr2.length : Nat)), (w454.cell? (ad472.add ((gI (gL g.mv (i)) (q) : Int).toNat * 1)) = some (.slice R475 ((gL fr2 (gI (gL g.mv (i)) (q))).length) C476))] (by kernel_rfl) ⟨hA473, (by omega), (by omega), hc474, trivial⟩ (fun act483 f482 => ?_)
       clear f469
       refine At.seq f482 1 [[]] [(84, .slice (some ⟨w454.heap.size, 0, none⟩) 1 1)] (w454.alloc (.cells #[.int .i64 (i)] 3 (0, 0))) [] (by kernel_rfl) trivial (fun act487 w484 hw485 f486 => ?_)
       clear f482
       have g488 := gr_alloc hw485
       have szw484 := g488.size
       have e491 := e458.gr g488 no_row
       clear e458
       have r492 := r459.gr g488 (fun _ h => by cases h)
       clear r459
       have r493 := r460.gr g488 (fun _ h => by cases h)
       clear r460
       have bx494 := bx461.gr g488 (by simp)
       clear bx461
       have bx495 := bx462.gr g488 (by simp)
       clear bx462
       have bx496 := bx463.gr g488 (by simp)
       clear bx463
       have bx497 := bx464.gr g488 (by simp)
       clear bx464
       have ow498 : OwnLL w484 (w235.heap.size) [some (w454.heap.size), obk (A_313), obk (A_416)] A_414 c_415 22 3 (fr2 : List (List Int)) := ow465.grA g488 (fun _ _ h => by cases h) (fun k hk hs => ⟨(fun e => by injection e; omega), hs.1, hs.2.1, hs.2.2⟩)
       clear ow465
       have ow499 : OwnR w484 (Sx (w247.heap.size) [some (w454.heap.size), obk (A_313), obk (A_414)]) A_416 c_417 3 (lf2 : List Int) := ow466.grA g488 (fun _ _ h => by cases h) (fun k hk hs => ⟨(fun e => by injection e; omega), hs.1, hs.2.1, hs.2.2⟩)
       clear ow466
       have ow500 : OwnR w484 (Sx (w267.heap.size) [some (w454.heap.size), obk (A_414), obk (A_416)]) A_313 c_314 3 ((ms).set (i : Int).toNat (-1) : List Int) := ow467.grA g488 (fun _ _ h => by cases h) (fun k hk hs => ⟨(fun e => by injection e; omega), hs.1, hs.2.1, hs.2.2⟩)
       clear ow467
       have r501 := r468.gr g488 (fun _ h => by cases h)
       clear r468
       have ow502 : HoleLL w484 (w235.heap.size) [some (w454.heap.size), obk (A_313), obk (A_416)] A_414 c_415 22 3 (fr2 : List (List Int)) (gI (gL g.mv (i)) (q) : Int).toNat R475 := ow479.grA g488 (fun _ _ h => by cases h) (fun k hk hs => ⟨(fun e => by injection e; omega), hs.1, hs.2.1, hs.2.2⟩)
       clear ow479
       have ow503 : OwnR w484 (Sx (w235.heap.size) [some (w454.heap.size), obk (A_414), obk (A_313), obk (A_416)]) R475 C476 3 (gL fr2 (gI (gL g.mv (i)) (q)) : List Int) := ow478.grA g488 (fun _ _ h => by cases h) (fun k hk hs => ⟨(fun e => by injection e; omega), hs.1, hs.2.1, hs.2.2.1, hs.2.2.2⟩)
       clear ow478
       have bx490 : Bx w484 (w454.heap.size) [.int .i64 (i)] 3 := Bx.new hw485
       have := bx490.lt
       clear g488 hw485
       have hl508 : ((gL fr2 (gI (gL g.mv (i)) (q))) ++ ([i])).length = (gL fr2 (gI (gL g.mv (i)) (q))).length + ([i] : List Int).length := List.length_append
       simp only [List.length_cons, List.length_nil] at hl508
       refine At.act f486 (appendR (α := Int) (t := 22) (d := 85) (n := (gL fr2 (gI (gL g.mv (i)) (q))).length) (m := 1) (cc := 1) (xs := gL fr2 (gI (gL g.mv (i)) (q))) (ys := [i]) (bytes := 8) (by first | rfl | omega | (simp; done) | (simp; omega)) (by first | rfl | omega | (simp; done) | (simp; omega)) (by kernel_rfl) rfl (by kernel_rfl) ow503 (Bx.srcR (l := ([i] : List Int)) bx490 rfl) (by simp only [List.length_cons, List.length_nil]; omega) (by simp only [List.length_cons, List.length_nil]; omega)) ?_
       rintro d_ v_ w507 ⟨rfl, A504, c505, ha506⟩
       obtain rfl := ha506.val
       have g509 := ha506.gr
       refine ⟨_, rfl, fun act511 f510 => ?_⟩
       clear f486
       clear bx490
       have ow512 := ha506.own (Sx (w235.heap.size) [obk (A_414), obk (A_313), obk (A_416)]) (fun g _ hs => ⟨hs.2.1, hs.2.2.1, hs.2.2.2.1, hs.2.2.2.2⟩) ⟨ow498.ne_new, ow500.ne_new, ow499.ne_new, (show w235.heap.size ≤ w484.heap.size by omega)⟩
       have szw507 := g509.size
       have e513 := e491.gr g509 (fun k hk => by have := ow503.ge k hk; omega)
       clear e491
       have r514 := r492.gr g509 (fun k hk => by have := ow503.ge k hk; omega)
       clear r492
       have r515 := r493.gr g509 (fun k hk => by have := ow503.ge k hk; omega)
       clear r493
       have bx516 := bx494.gr g509 (fun e => by have := ow503.ge _ e; omega)
       clear bx494
       have bx517 := bx495.gr g509 (fun e => by have := ow503.ge _ e; omega)
       clear bx495
       have bx518 := bx496.gr g509 (fun e => by have := ow503.ge _ e; omega)
       clear bx496
       have bx519 := bx497.gr g509 (fun e => by have := ow503.ge _ e; omega)
       clear bx497
       clear ow498
       have ow520 := ow499.gr2 g509 (fun k hk e => (ow503.inS k e).2.2.2.1 hk)
       clear ow499
       have ow521 := ow500.gr2 g509 (fun k hk e => (ow503.inS k e).2.2.1 hk)
       clear ow500
       have r522 := r501.gr g509 (fun k hk => by have := ow503.ge k hk; omega)
       clear r501
       have ow523 := ow502.moved g509 ha506.at_
       clear ow502
       clear ow503 g509 ha506
       refine At.rd f510 1 [[.ad ad472]] [(86, .pointer (some (ad472.add ((gI (gL g.mv (i)) (q) : Int).toNat * 1))))] [(A_414 = some ad472), (0 ≤ (gI (gL g.mv (i)) (q) : Int)), ((gI (gL g.mv (i)) (q) : Int) < (fr2.length : Nat))] (by kernel_rfl) ⟨hA473, (by omega), (by omega), trivial⟩ (fun act525 f524 => ?_)
       clear f510
       have ow530 : HoleLL w507 (w235.heap.size) [obk (A_313), obk (A_416)] A_414 c_415 22 3 (fr2 : List (List Int)) (gI (gL g.mv (i)) (q) : Int).toNat A504 := ow523.imp (fun g _ hs => ⟨hs.2.1, hs.2.2.1, hs.2.2.2⟩)
       clear ow523
       refine At.act f524 (storeLL (t := 22) (i := gI (gL g.mv (i)) (q)) (ad := ad472) (xs := (gL fr2 (gI (gL g.mv (i)) (q))) ++ ([i])) (by kernel_rfl) (by kernel_rfl) hA473 ow530 ow512 (by first | rfl | omega | (simp; done) | (simp; omega)) (by omega) (by omega)) ?_
       rintro d_ v_ w526 ⟨rfl, g527, ow528⟩
       refine ⟨_, rfl, fun act532 f531 => ?_⟩
       clear f524
       have hl529 : ((fr2).set (gI (gL g.mv (i)) (q) : Int).toNat ((gL fr2 (gI (gL g.mv (i)) (q))) ++ ([i]))).length = (fr2).length := List.length_set
       have szw526 := g527.size
       have e533 := e513.gr g527 (fun k hk => by have := (HoleLL.row ow530).ge k hk; omega)
       clear e513
       have r534 := r514.gr g527 (fun k hk => by have := (HoleLL.row ow530).ge k hk; omega)
       clear r514
       have r535 := r515.gr g527 (fun k hk => by have := (HoleLL.row ow530).ge k hk; omega)
       clear r515
       have bx536 := bx516.gr g527 (fun e => by have := (HoleLL.row ow530).ge _ e; omega)
       clear bx516
       have bx537 := bx517.gr g527 (fun e => by have := (HoleLL.row ow530).ge _ e; omega)
       clear bx517
       have bx538 := bx518.gr g527 (fun e => by have := (HoleLL.row ow530).ge _ e; omega)
       clear bx518
       have bx539 := bx519.gr g527 (fun e => by have := (HoleLL.row ow530).ge _ e; omega)
       clear bx519
       have ow540 := ow520.gr g527 (fun k hk => hk.2.2.1)
       clear ow520
       have ow541 := ow521.gr g527 (fun k hk => hk.2.1)
       clear ow521
       have r542 := r522.gr g527 (fun k hk => by have := (HoleLL.row ow530).ge k hk; omega)
       clear r522
       clear ow530 ow512 g527
       refine At.done rfl ?_
       refine t_n ?_
       have f543 := f531.sub (r := [(70, .int .i64 (q)), (69, .int .i64 ((((gL g.mv (i)).length : Nat) : Int))), (68, .slice R405 ((gL g.mv (i)).length) C406), (16, .int .i64 (i)), (54, .int .i64 (i)), (53, .int .i64 (((g.ow.length : Nat) : Int))), (15, .slice A_313 ms.length c_314), (14, .slice A_416 lf2.length c_417), (13, .slice A_414 fr2.length c_415), (8, .pointer (some ⟨w22.heap.size, 0, none⟩)), (7, .pointer (some ⟨w11.heap.size, 0, none⟩)), (5, .pointer (some ⟨w1.heap.size, 0, none⟩)), (4, .pointer (some ⟨w.heap.size, 0, none⟩)), (2, .int .i64 (p))]) ⟨rfl, rfl, rfl, rfl, rfl, rfl, rfl, rfl, rfl, rfl, rfl, rfl, rfl, rfl, trivial⟩
       clear f531
       refine At.start ?_
       obtain ⟨ad544, hA545, hb548, hc547, hc546⟩ := ow540.get (i) (by omega) (by omega) (sz := 1) rfl
       obtain ⟨ad549, hA550, hb553, hc552, hc551⟩ := ow540.get (i) (by omega) (by omega) (sz := 1) rfl
       refine At.rd f543 6 [[], [], [.ad ad544], [.ld (.int .i64 (gI lf2 i))], [.as_ (.int .i64 ((gI lf2 i) + 1))], [.ad ad549]] [(92, .pointer (some (ad549.add ((i : Int).toNat * 1)))), (91, .int .i64 ((gI lf2 i) + 1)), (90, .int .i64 (gI lf2 i)), (89, .pointer (some (ad544.add ((i : Int).toNat * 1)))), (88, .int .i64 (i)), (87, .slice A_416 lf2.length c_417)] [(A_416 = some ad544), (0 ≤ (i : Int)), ((i : Int) < (lf2.length : Nat)), (w526.cell? (ad544.add ((i : Int).toNat * 1)) = some (.int .i64 (gI lf2 i))), ((.int .i64 (IntKind.i64.wrap ((gI lf2 i) + 1)) : Value) = .int .i64 ((gI lf2 i) + 1)), (A_416 = some ad549), (0 ≤ (i : Int)), ((i : Int) < (lf2.length : Nat))] (by kernel_rfl) ⟨hA545, (by omega), (by omega), hc547, (w64 (by omega) (by omega)), hA550, (by omega), (by omega), trivial⟩ (fun act555 f554 => ?_)
       clear f543
       refine At.act f554 (storeR (α := Int) (t := 3) (i := i) (ad := ad549) (v := .int .i64 ((gI lf2 i) + 1)) ((gI lf2 i) + 1) (by kernel_rfl) rfl rfl (by kernel_rfl) hA550 ow540 (by omega) (by omega)) ?_
       rintro d_ v_ w556 ⟨rfl, g557, ow558⟩
       refine ⟨_, rfl, fun act561 f560 => ?_⟩
       clear f554
       have hl559 : ((lf2).set (i : Int).toNat ((gI lf2 i) + 1)).length = (lf2).length := List.length_set
       have szw556 := g557.size
       have e562 := e533.gr g557 (fun k hk => by have := ow540.ge k hk; omega)
       clear e533
       have r563 := r534.gr g557 (fun k hk => by have := ow540.ge k hk; omega)
       clear r534
       have r564 := r535.gr g557 (fun k hk => by have := ow540.ge k hk; omega)
       clear r535
       have bx565 := bx536.gr g557 (fun e => by have := ow540.ge _ e; omega)
       clear bx536
       have bx566 := bx537.gr g557 (fun e => by have := ow540.ge _ e; omega)
       clear bx537
       have bx567 := bx538.gr g557 (fun e => by have := ow540.ge _ e; omega)
       clear bx538
       have bx568 := bx539.gr g557 (fun e => by have := ow540.ge _ e; omega)
       clear bx539
       have ow569 := ow541.gr g557 (fun k hk => hk.2.2.1)
       clear ow541
       have r570 := r542.gr g557 (fun k hk => by have := ow540.ge k hk; omega)
       clear r542
       have ow571 := ow528.gr g557 (fun k hk => hk.2.1)
       clear ow528
       clear ow540 g557
       refine At.done rfl ?_
       refine b_n ?_
       refine t_n ?_
       have f572 := f560.sub (r := [(70, .int .i64 (q)), (69, .int .i64 ((((gL g.mv (i)).length : Nat) : Int))), (68, .slice R405 ((gL g.mv (i)).length) C406), (16, .int .i64 (i)), (54, .int .i64 (i)), (53, .int .i64 (((g.ow.length : Nat) : Int))), (15, .slice A_313 ms.length c_314), (14, .slice A_416 lf2.length c_417), (13, .slice A_414 fr2.length c_415), (8, .pointer (some ⟨w22.heap.size, 0, none⟩)), (7, .pointer (some ⟨w11.heap.size, 0, none⟩)), (5, .pointer (some ⟨w1.heap.size, 0, none⟩)), (4, .pointer (some ⟨w.heap.size, 0, none⟩)), (2, .int .i64 (p))]) ⟨rfl, rfl, rfl, rfl, rfl, rfl, rfl, rfl, rfl, rfl, rfl, rfl, rfl, rfl, trivial⟩
       clear f560
       refine At.start ?_
       refine At.rd f572 2 [[.as_ (.int .i64 (q + 1))], []] [(70, .int .i64 (q + 1)), (93, .int .i64 (q + 1))] [((.int .i64 (IntKind.i64.wrap (q + 1)) : Value) = .int .i64 (q + 1))] (by kernel_rfl) ⟨(w64 (by omega) (by omega)), trivial⟩ (fun act574 f573 => ?_)
       clear f572
       refine At.done rfl ?_
       refine t_n ?_
       have f575 := f573.as 14 (.slice A_416 lf2.length c_417) (.slice A_416 (((lf2).set (i : Int).toNat ((gI lf2 i) + 1) : List Int).length) c_417) rfl (slice_len (by first | rfl | omega | (simp; done) | (simp; omega)))
       clear f573
       have f576 := f575.as 13 (.slice A_414 fr2.length c_415) (.slice A_414 (((fr2).set (gI (gL g.mv (i)) (q) : Int).toNat ((gL fr2 (gI (gL g.mv (i)) (q))) ++ ([i])) : List (List Int)).length) c_415) rfl (slice_len (by first | rfl | omega | (simp; done) | (simp; omega)))
       clear f575
       have f577 := f576.sub (r := [(70, .int .i64 (q + 1)), (69, .int .i64 ((((gL g.mv (i)).length : Nat) : Int))), (68, .slice R405 ((gL g.mv (i)).length) C406), (16, .int .i64 (i)), (54, .int .i64 (i)), (53, .int .i64 (((g.ow.length : Nat) : Int))), (15, .slice A_313 ms.length c_314), (14, .slice A_416 (((lf2).set (i : Int).toNat ((gI lf2 i) + 1) : List Int).length) c_417), (13, .slice A_414 (((fr2).set (gI (gL g.mv (i)) (q) : Int).toNat ((gL fr2 (gI (gL g.mv (i)) (q))) ++ ([i])) : List (List Int)).length) c_415), (8, .pointer (some ⟨w22.heap.size, 0, none⟩)), (7, .pointer (some ⟨w11.heap.size, 0, none⟩)), (5, .pointer (some ⟨w1.heap.size, 0, none⟩)), (4, .pointer (some ⟨w.heap.size, 0, none⟩)), (2, .int .i64 (p))]) ⟨rfl, rfl, rfl, rfl, rfl, rfl, rfl, rfl, rfl, rfl, rfl, rfl, rfl, rfl, trivial⟩
       exact ⟨_, (by omega), (q + 1), ((fr2).set (gI (gL g.mv (i)) (q) : Int).toNat ((gL fr2 (gI (gL g.mv (i)) (q))) ++ ([i])) : List (List Int)), A_414, c_415, ((lf2).set (i : Int).toNat ((gI lf2 i) + 1) : List Int), A_416, c_417, rfl, f577, e562, r563, r564, bx565, bx566, bx567, bx568, ow571, (ow558.imp (fun g _ hs => ⟨hs.2.1, hs.2.2.1, hs.2.2.2⟩)), (ow569.imp (fun g _ hs => ⟨hs.2.1, hs.2.2.1, hs.2.2.2⟩)), r570, (by omega), (by omega), (fra_push hG hfr2 (by omega) (by omega) (by omega) (by omega) hIi (by rw [← has_inT (by omega) (by omega)]; assumption)), (by omega), (by omega), (by omega)⟩
      ·refine wp_skip ?_
       refine b_n ?_
       refine t_n ?_
       have f579 := f469.sub (r := [(70, .int .i64 (q)), (69, .int .i64 ((((gL g.mv (i)).length : Nat) : Int))), (68, .slice R405 ((gL g.mv (i)).length) C406), (16, .int .i64 (i)), (54, .int .i64 (i)), (53, .int .i64 (((g.ow.length : Nat) : Int))), (15, .slice A_313 ms.length c_314), (14, .slice A_416 lf2.length c_417), (13, .slice A_414 fr2.length c_415), (8, .pointer (some ⟨w22.heap.size, 0, none⟩)), (7, .pointer (some ⟨w11.heap.size, 0, none⟩)), (5, .pointer (some ⟨w1.heap.size, 0, none⟩)), (4, .pointer (some ⟨w.heap.size, 0, none⟩)), (2, .int .i64 (p))]) ⟨rfl, rfl, rfl, rfl, rfl, rfl, rfl, rfl, rfl, rfl, rfl, rfl, rfl, rfl, trivial⟩
       clear f469
       refine At.start ?_
       refine At.rd f579 2 [[.as_ (.int .i64 (q + 1))], []] [(70, .int .i64 (q + 1)), (93, .int .i64 (q + 1))] [((.int .i64 (IntKind.i64.wrap (q + 1)) : Value) = .int .i64 (q + 1))] (by kernel_rfl) ⟨(w64 (by omega) (by omega)), trivial⟩ (fun act581 f580 => ?_)
       clear f579
       refine At.done rfl ?_
       refine t_n ?_
       have f582 := f580.as 14 (.slice A_416 lf2.length c_417) (.slice A_416 ((lf2 : List Int).length) c_417) rfl (slice_len (by first | rfl | omega | (simp; done) | (simp; omega)))
       clear f580
       have f583 := f582.as 13 (.slice A_414 fr2.length c_415) (.slice A_414 ((fr2 : List (List Int)).length) c_415) rfl (slice_len (by first | rfl | omega | (simp; done) | (simp; omega)))
       clear f582
       have f584 := f583.sub (r := [(70, .int .i64 (q + 1)), (69, .int .i64 ((((gL g.mv (i)).length : Nat) : Int))), (68, .slice R405 ((gL g.mv (i)).length) C406), (16, .int .i64 (i)), (54, .int .i64 (i)), (53, .int .i64 (((g.ow.length : Nat) : Int))), (15, .slice A_313 ms.length c_314), (14, .slice A_416 ((lf2 : List Int).length) c_417), (13, .slice A_414 ((fr2 : List (List Int)).length) c_415), (8, .pointer (some ⟨w22.heap.size, 0, none⟩)), (7, .pointer (some ⟨w11.heap.size, 0, none⟩)), (5, .pointer (some ⟨w1.heap.size, 0, none⟩)), (4, .pointer (some ⟨w.heap.size, 0, none⟩)), (2, .int .i64 (p))]) ⟨rfl, rfl, rfl, rfl, rfl, rfl, rfl, rfl, rfl, rfl, rfl, rfl, rfl, rfl, trivial⟩
       exact ⟨_, (by omega), (q + 1), (fr2 : List (List Int)), A_414, c_415, (lf2 : List Int), A_416, c_417, rfl, f584, e458, r459, r460, bx461, bx462, bx463, bx464, ow465, ow466, ow467, r468, (by omega), (by omega), (fra_skip hG hfr2 (by omega) (by omega) (by omega) (by omega) (by rw [← has_inT (by omega) (by omega)]; assumption)), (by omega), (by omega), (by omega)⟩
     ·have q585 := of_decide_eq_false h443
      refine wp_exit ?_
      refine t_e ?_
      refine t_e ?_
      refine b_e ?_
      refine b_n ?_
      refine t_n ?_
      have f586 := f441.sub (r := [(54, .int .i64 (i)), (53, .int .i64 (((g.ow.length : Nat) : Int))), (15, .slice A_313 ms.length c_314), (14, .slice A_416 lf2.length c_417), (13, .slice A_414 fr2.length c_415), (8, .pointer (some ⟨w22.heap.size, 0, none⟩)), (7, .pointer (some ⟨w11.heap.size, 0, none⟩)), (5, .pointer (some ⟨w1.heap.size, 0, none⟩)), (4, .pointer (some ⟨w.heap.size, 0, none⟩)), (2, .int .i64 (p))]) ⟨rfl, rfl, rfl, rfl, rfl, rfl, rfl, rfl, rfl, rfl, trivial⟩
      clear f441
      refine At.start ?_
      refine At.rd f586 2 [[.as_ (.int .i64 (i + 1))], []] [(54, .int .i64 (i + 1)), (94, .int .i64 (i + 1))] [((.int .i64 (IntKind.i64.wrap (i + 1)) : Value) = .int .i64 (i + 1))] (by kernel_rfl) ⟨(w64 (by omega) (by omega)), trivial⟩ (fun act588 f587 => ?_)
      clear f586
      refine At.done rfl ?_
      refine t_n ?_
      have f589 := f587.as 15 (.slice A_313 ms.length c_314) (.slice A_313 (((ms).set (i : Int).toNat (-1) : List Int).length) c_314) rfl (slice_len (by first | rfl | omega | (simp; done) | (simp; omega)))
      clear f587
      have f590 := f589.as 14 (.slice A_416 lf2.length c_417) (.slice A_416 ((lf2 : List Int).length) c_417) rfl (slice_len (by first | rfl | omega | (simp; done) | (simp; omega)))
      clear f589
      have f591 := f590.as 13 (.slice A_414 fr2.length c_415) (.slice A_414 ((fr2 : List (List Int)).length) c_415) rfl (slice_len (by first | rfl | omega | (simp; done) | (simp; omega)))
      clear f590
      have f592 := f591.sub (r := [(54, .int .i64 (i + 1)), (53, .int .i64 (((g.ow.length : Nat) : Int))), (15, .slice A_313 (((ms).set (i : Int).toNat (-1) : List Int).length) c_314), (14, .slice A_416 ((lf2 : List Int).length) c_417), (13, .slice A_414 ((fr2 : List (List Int)).length) c_415), (8, .pointer (some ⟨w22.heap.size, 0, none⟩)), (7, .pointer (some ⟨w11.heap.size, 0, none⟩)), (5, .pointer (some ⟨w1.heap.size, 0, none⟩)), (4, .pointer (some ⟨w.heap.size, 0, none⟩)), (2, .int .i64 (p))]) ⟨rfl, rfl, rfl, rfl, rfl, rfl, rfl, rfl, rfl, rfl, trivial⟩
      exact ⟨_, (by omega), (i + 1), (fr2 : List (List Int)), A_414, c_415, (lf2 : List Int), A_416, c_417, ((ms).set (i : Int).toNat (-1) : List Int), A_313, c_314, rfl, f592, e423, r426, r427, bx428, bx429, bx430, bx431, r432, ow433, ow434, (by omega), (by omega), (fra_row hG hfr2 (by omega) (by omega) (by omega) (by omega) hIi), (by rw [List.length_set]; assumption), (ms_next hms (by omega) (by omega)), (by omega), (by omega), (by omega)⟩
   ·have q593 := of_decide_eq_false h341
    refine wp_exit ?_
    refine t_e ?_
    refine t_e ?_
    refine b_e ?_
    refine t_n ?_
    have f594 := f339.sub (r := [(15, .slice A_313 ms.length c_314), (14, .slice A_311 lf.length c_312), (13, .slice A_309 fr.length c_310), (8, .pointer (some ⟨w22.heap.size, 0, none⟩)), (7, .pointer (some ⟨w11.heap.size, 0, none⟩)), (5, .pointer (some ⟨w1.heap.size, 0, none⟩)), (4, .pointer (some ⟨w.heap.size, 0, none⟩)), (2, .int .i64 (p))]) ⟨rfl, rfl, rfl, rfl, rfl, rfl, rfl, rfl, trivial⟩
    clear f339
    refine wp_seq ?_
    have hE : FrA g (inT g s) fr lf (g.ow.length : Int) 0 := by have e_ : i = (g.ow.length : Int) := (by omega); rw [← e_]; exact hfr
    have hmsE : ∀ j : Int, 0 ≤ j → j < (g.ow.length : Int) → gI ms j = -1 := fun j a b => hms j a (by omega)
    have hfle := hE.len
    have hlle := hE.ll
    refine At.start ?_
    refine At.rd f594 2 [[.cs ((t : List Int).map wV)], [.cs (((inS g s : List Int) : List Int).map wV)]] [(96, .agg (((inS g s : List Int) : List Int).map wV).toArray), (95, .agg ((t : List Int).map wV).toArray)] [(((t : List Int).map wV).length = 4), (∀ (j : Nat) (v : Value), ((t : List Int).map wV)[j]? = some v → w320.cell? ((⟨w11.heap.size, 0, none⟩ : Addr).add j) = some v), ((((inS g s : List Int) : List Int).map wV).length = 4), (∀ (j : Nat) (v : Value), (((inS g s : List Int) : List Int).map wV)[j]? = some v → w320.cell? ((⟨w1.heap.size, 0, none⟩ : Addr).add j) = some v)] (by kernel_rfl) ⟨(by simp only [List.length_map, List.length_set, List.length_replicate, List.length_cons, List.length_nil]; first | done | assumption | exact from_len _ | exact of_len _ | exact ofZ_len _ | exact (ofW_ok _).1 | exact (fullW_W _).1 | exact (okW_with (by assumption)).1 | exact (okW_less (by assumption)).1 | exact put_len (from_len _) | exact orD_len _ _ | exact andD_len _ _ | exact minusD_len _ _ | exact fullD_len _ | (refine okLen ?_; (repeat (first | assumption | exact ofW_ok _ | exact fullW_W _ | apply okW_with | apply okW_less | refine okW_orS ?_ ?_ | refine okW_andS ?_ ?_ | refine okW_minusS ?_ ?_)); done) | omega | rfl), bx328.whole, ((List.length_map _).trans (okLen (inS_ok (by assumption)))), bx327.whole, trivial⟩ (fun act596 f595 => ?_)
    clear f594
    refine At.call f595 19 #[.agg ((t : List Int).map wV).toArray, .agg (((inS g s : List Int) : List Int).map wV).toArray] (some 97) (by kernel_rfl) (andS_any (s := t) (t := (inS g s : List Int)) (by repeat (first | assumption | exact ofW_ok _ | exact fullW_W _ | exact wordsD_W _ | exact okW_0 | exact okW_00 | apply okW_orS | apply okW_andS | apply okW_minusS | apply okW_with | apply okW_less | apply okW_or | apply okW_and | apply okW_minus | (apply okW_lit <;> exact ⟨by omega, by omega⟩))) (inS_ok (by assumption))) ?_
    rintro e_ w597 ⟨rfl, he⟩
    refine ⟨_, rfl, _, rfl, fun act598 f599 => ?_⟩
    clear f595
    have g600 := gr_ext he
    have szw597 := g600.size
    have e601 := e321.gr g600 no_row
    clear e321
    have r602 := r324.gr g600 (fun _ h => by cases h)
    clear r324
    have r603 := r325.gr g600 (fun _ h => by cases h)
    clear r325
    have bx604 := bx326.gr g600 (by simp)
    clear bx326
    have bx605 := bx327.gr g600 (by simp)
    clear bx327
    have bx606 := bx328.gr g600 (by simp)
    clear bx328
    have bx607 := bx329.gr g600 (by simp)
    clear bx329
    have ow608 := r330.gr g600 (fun _ _ h => by cases h)
    clear r330
    have ow609 := ow331.gr g600 (fun _ _ h => by cases h)
    clear ow331
    have ow610 := ow332.gr g600 (fun _ _ h => by cases h)
    clear ow332
    clear g600 he
    refine At.seq f599 1 [[]] [(19, .pointer (some ⟨w597.heap.size, 0, none⟩))] (w597.alloc (.cells ((List.replicate 4 (0 : Int) : List Int).map wV).toArray 28 (0, 0))) [] (by kernel_rfl) trivial (fun act614 w611 hw612 f613 => ?_)
    clear f599
    have g615 := gr_alloc hw612
    have szw611 := g615.size
    have e617 := e601.gr g615 no_row
    clear e601
    have r618 := r602.gr g615 (fun _ h => by cases h)
    clear r602
    have r619 := r603.gr g615 (fun _ h => by cases h)
    clear r603
    have bx620 := bx604.gr g615 (by simp)
    clear bx604
    have bx621 := bx605.gr g615 (by simp)
    clear bx605
    have bx622 := bx606.gr g615 (by simp)
    clear bx606
    have bx623 := bx607.gr g615 (by simp)
    clear bx607
    have ow624 : OwnLL w611 (w235.heap.size) [some (w597.heap.size), obk (A_313), obk (A_311)] A_309 c_310 22 3 (fr : List (List Int)) := ow608.grA g615 (fun _ _ h => by cases h) (fun k hk hs => ⟨(fun e => by injection e; omega), hs.1, hs.2.1, hs.2.2⟩)
    clear ow608
    have ow625 : OwnR w611 (Sx (w247.heap.size) [some (w597.heap.size), obk (A_313), obk (A_309)]) A_311 c_312 3 (lf : List Int) := ow609.grA g615 (fun _ _ h => by cases h) (fun k hk hs => ⟨(fun e => by injection e; omega), hs.1, hs.2.1, hs.2.2⟩)
    clear ow609
    have ow626 : OwnR w611 (Sx (w267.heap.size) [some (w597.heap.size), obk (A_309), obk (A_311)]) A_313 c_314 3 (ms : List Int) := ow610.grA g615 (fun _ _ h => by cases h) (fun k hk hs => ⟨(fun e => by injection e; omega), hs.1, hs.2.1, hs.2.2⟩)
    clear ow610
    have bx627 : Bx w611 (w597.heap.size) ((List.replicate 4 (0 : Int) : List Int).map wV) 28 := Bx.new hw612
    have := bx627.lt
    clear g615 hw612
    refine At.act f613 (storeBlk (t := 28) (b := w597.heap.size) (n := 4) (cs' := ((andS t (inS g s : List Int) : List Int).map wV)) (by kernel_rfl) (by kernel_rfl) ((List.length_map _).trans (okLen (okW_andS (by assumption) (inS_ok (by assumption))))) oneW_ ((show ((andS t (inS g s : List Int) : List Int).map wV).length = 4 from ((List.length_map _).trans (okLen (okW_andS (by assumption) (inS_ok (by assumption)))))).trans (show ((List.replicate 4 (0 : Int) : List Int).map wV).length = 4 from (by simp only [List.length_map, List.length_set, List.length_replicate, List.length_cons, List.length_nil]; first | done | assumption | exact from_len _ | exact of_len _ | exact ofZ_len _ | exact (ofW_ok _).1 | exact (fullW_W _).1 | exact (okW_with (by assumption)).1 | exact (okW_less (by assumption)).1 | exact put_len (from_len _) | exact orD_len _ _ | exact andD_len _ _ | exact minusD_len _ _ | exact fullD_len _ | (refine okLen ?_; (repeat (first | assumption | exact ofW_ok _ | exact fullW_W _ | apply okW_with | apply okW_less | refine okW_orS ?_ ?_ | refine okW_andS ?_ ?_ | refine okW_minusS ?_ ?_)); done) | omega | rfl)).symm) bx627) ?_
    rintro d_ v_ w628 ⟨rfl, g629, bx630⟩
    refine ⟨_, rfl, fun act632 f631 => ?_⟩
    clear f613
    have szw628 := g629.size
    have e633 := e617.gr g629 (fun k h => by injection h; omega)
    clear e617
    have r634 := r618.gr g629 (fun k h => by injection h; omega)
    clear r618
    have r635 := r619.gr g629 (fun k h => by injection h; omega)
    clear r619
    have bx636 := bx620.gr g629 (fun h => by injection h; omega)
    clear bx620
    have bx637 := bx621.gr g629 (fun h => by injection h; omega)
    clear bx621
    have bx638 := bx622.gr g629 (fun h => by injection h; omega)
    clear bx622
    have bx639 := bx623.gr g629 (fun h => by injection h; omega)
    clear bx623
    have ow640 := ow624.gr g629 (fun k hk => hk.1)
    clear ow624
    have ow641 := ow625.gr g629 (fun k hk => hk.1)
    clear ow625
    have ow642 := ow626.gr g629 (fun k hk => hk.1)
    clear ow626
    clear bx627 g629
    refine At.done rfl ?_
    refine t_n ?_
    have f643 := f631.sub (r := [(19, .pointer (some ⟨w597.heap.size, 0, none⟩)), (15, .slice A_313 ms.length c_314), (14, .slice A_311 lf.length c_312), (13, .slice A_309 fr.length c_310), (8, .pointer (some ⟨w22.heap.size, 0, none⟩)), (4, .pointer (some ⟨w.heap.size, 0, none⟩)), (2, .int .i64 (p))]) ⟨rfl, rfl, rfl, rfl, rfl, rfl, rfl, trivial⟩
    clear f631
    refine wp_seq ?_
    refine wp_seq ?_
    refine At.start ?_
    refine At.rd f643 1 [[.cs ((andS t (inS g s : List Int) : List Int).map wV)]] [(98, .agg ((andS t (inS g s : List Int) : List Int).map wV).toArray)] [(((andS t (inS g s : List Int) : List Int).map wV).length = 4), (∀ (j : Nat) (v : Value), ((andS t (inS g s : List Int) : List Int).map wV)[j]? = some v → w628.cell? ((⟨w597.heap.size, 0, none⟩ : Addr).add j) = some v)] (by kernel_rfl) ⟨((List.length_map _).trans (okLen (okW_andS (by assumption) (inS_ok (by assumption))))), bx630.whole, trivial⟩ (fun act645 f644 => ?_)
    clear f643
    refine At.call f644 31 #[.agg ((andS t (inS g s : List Int) : List Int).map wV).toArray] (some 99) (by kernel_rfl) (list_any (s := andS t (inS g s : List Int)) (okW_andS (by assumption) (inS_ok (by assumption))) (r635.wide (Nat.zero_le _) (by omega))) ?_
    rintro e_ w650 ⟨A646, c647, rfl, he, ow648⟩
    have := ls_len (fromW (andS t (inS g s : List Int))) 256
    refine ⟨_, rfl, _, rfl, fun act651 f652 => ?_⟩
    clear f644
    have g653 := gr_ext he
    have lt654 := ow640.lt
    have lt655 := ow641.lt
    have lt656 := ow642.lt
    have szw650 := g653.size
    have e657 := e633.gr g653 no_row
    clear e633
    have r658 := r634.gr g653 (fun _ h => by cases h)
    clear r634
    have r659 := r635.gr g653 (fun _ h => by cases h)
    clear r635
    have bx660 := bx636.gr g653 (by simp)
    clear bx636
    have bx661 := bx637.gr g653 (by simp)
    clear bx637
    have bx662 := bx638.gr g653 (by simp)
    clear bx638
    have bx663 := bx639.gr g653 (by simp)
    clear bx639
    have ow664 : OwnLL w650 (w235.heap.size) [obk (A646), some (w597.heap.size), obk (A_313), obk (A_311)] A_309 c_310 22 3 (fr : List (List Int)) := ow640.grA g653 (fun _ _ h => by cases h) (fun k hk hs => ⟨(fun e => by have := ow648.ge _ e; omega), hs.1, hs.2.1, hs.2.2.1, hs.2.2.2⟩)
    clear ow640
    have ow665 : OwnR w650 (Sx (w247.heap.size) [obk (A646), some (w597.heap.size), obk (A_313), obk (A_309)]) A_311 c_312 3 (lf : List Int) := ow641.grA g653 (fun _ _ h => by cases h) (fun k hk hs => ⟨(fun e => by have := ow648.ge _ e; omega), hs.1, hs.2.1, hs.2.2.1, hs.2.2.2⟩)
    clear ow641
    have ow666 : OwnR w650 (Sx (w267.heap.size) [obk (A646), some (w597.heap.size), obk (A_309), obk (A_311)]) A_313 c_314 3 (ms : List Int) := ow642.grA g653 (fun _ _ h => by cases h) (fun k hk hs => ⟨(fun e => by have := ow648.ge _ e; omega), hs.1, hs.2.1, hs.2.2.1, hs.2.2.2⟩)
    clear ow642
    have bx667 := bx630.gr g653 (by simp)
    clear bx630
    have ow668 : OwnR w650 (Sx (w628.heap.size) [obk (A_309), obk (A_311), obk (A_313)]) A646 c647 3 ((lsD (fromW (andS t (inS g s : List Int))) 256) : List Int) := ow648.imp (fun g _ hs => ⟨(fun e => by have := lt654 _ e; have := Sx_base hs; omega), (fun e => by have := lt655 _ e; have := Sx_base hs; omega), (fun e => by have := lt656 _ e; have := Sx_base hs; omega), hs⟩)
    clear ow648
    clear lt654 lt655 lt656
    clear g653 he
    refine At.rd f652 1 [[]] [(20, .slice A646 ((lsD (fromW (andS t (inS g s : List Int))) 256).length) c647)] [] (by kernel_rfl) trivial (fun act670 f669 => ?_)
    clear f652
    refine At.done rfl ?_
    refine t_n ?_
    have f671 := f669.sub (r := [(20, .slice A646 ((lsD (fromW (andS t (inS g s : List Int))) 256).length) c647), (19, .pointer (some ⟨w597.heap.size, 0, none⟩)), (15, .slice A_313 ms.length c_314), (14, .slice A_311 lf.length c_312), (13, .slice A_309 fr.length c_310), (8, .pointer (some ⟨w22.heap.size, 0, none⟩)), (4, .pointer (some ⟨w.heap.size, 0, none⟩)), (2, .int .i64 (p))]) ⟨rfl, rfl, rfl, rfl, rfl, rfl, rfl, rfl, trivial⟩
    clear f669
    refine wp_block ?_
    have f679 := f671.as 20 (.slice A646 ((lsD (fromW (andS t (inS g s : List Int))) 256).length) c647) (.slice A646 (((lsD (fromW (andS t (inS g s : List Int))) 256) : List Int).length) c647) rfl (slice_len (by first | rfl | omega | (simp; done) | (simp; omega)))
    clear f671
    have f680 := f679.as 15 (.slice A_313 ms.length c_314) (.slice A_313 ((ms : List Int).length) c_314) rfl (slice_len (by first | rfl | omega | (simp; done) | (simp; omega)))
    clear f679
    have f681 := f680.as 14 (.slice A_311 lf.length c_312) (.slice A_311 ((lf : List Int).length) c_312) rfl (slice_len (by first | rfl | omega | (simp; done) | (simp; omega)))
    clear f680
    have f678 := f681.sub (r := [(20, .slice A646 (((lsD (fromW (andS t (inS g s : List Int))) 256) : List Int).length) c647), (19, .pointer (some ⟨w597.heap.size, 0, none⟩)), (15, .slice A_313 ((ms : List Int).length) c_314), (14, .slice A_311 ((lf : List Int).length) c_312), (13, .slice A_309 fr.length c_310), (8, .pointer (some ⟨w22.heap.size, 0, none⟩)), (4, .pointer (some ⟨w.heap.size, 0, none⟩)), (2, .int .i64 (p))]) ⟨rfl, rfl, rfl, rfl, rfl, rfl, rfl, rfl, trivial⟩
    refine loop_g (fun (m_ : Nat) a_ w_ => ∃ (ss : List Int) (lf3 : List Int) (A_672 : Option Addr) (c_673 : Nat) (ms3 : List Int) (A_674 : Option Addr) (c_675 : Nat) (op : List Int) (A_676 : Option Addr) (c_677 : Nat), m_ = (512 - 2 * lenW ss + (op.length : Int)).toNat ∧ (Frm 163 a_ [(20, .slice A_676 op.length c_677), (19, .pointer (some ⟨w597.heap.size, 0, none⟩)), (15, .slice A_674 ms3.length c_675), (14, .slice A_672 lf3.length c_673), (13, .slice A_309 fr.length c_310), (8, .pointer (some ⟨w22.heap.size, 0, none⟩)), (4, .pointer (some ⟨w.heap.size, 0, none⟩)), (2, .int .i64 (p))]) ∧ (Ext w w_) ∧ (RdG w_ 0 w.heap.size Ag0 Ag1 Ag2 cg0 cg1 cg2 g) ∧ (RdT w_ 0 w.heap.size) ∧ (Bx w_ (w.heap.size) [.slice Ag0 g.ow.length cg0, .slice Ag1 g.pr.length cg1, .slice Ag2 g.mv.length cg2] 25) ∧ (Bx w_ (w1.heap.size) (((inS g s : List Int) : List Int).map wV) 28) ∧ (Bx w_ (w11.heap.size) ((t : List Int).map wV) 28) ∧ (Bx w_ (w22.heap.size) ((List.replicate 4 (0 : Int) : List Int).map wV) 28) ∧ (OwnLL w_ (w235.heap.size) [obk (A_676), some (w597.heap.size), obk (A_674), obk (A_672)] A_309 c_310 22 3 (fr : List (List Int))) ∧ (OwnR w_ (Sx (w247.heap.size) [obk (A_676), some (w597.heap.size), obk (A_674), obk (A_309)]) A_672 c_673 3 (lf3 : List Int)) ∧ (OwnR w_ (Sx (w267.heap.size) [obk (A_676), some (w597.heap.size), obk (A_309), obk (A_672)]) A_674 c_675 3 (ms3 : List Int)) ∧ (Bx w_ (w597.heap.size) ((ss : List Int).map wV) 28) ∧ (OwnR w_ (Sx (w628.heap.size) [obk (A_309), obk (A_672), obk (A_674)]) A_676 c_677 3 (op : List Int)) ∧ (ss.length = 4) ∧ (OkW ss) ∧ (∃ pr, AW g (inT g s) p (fromW t) (fromW ss) op lf3 ms3 pr [] []) ∧ (w235.heap.size ≤ w_.heap.size) ∧ (w247.heap.size ≤ w_.heap.size) ∧ (w267.heap.size ≤ w_.heap.size) ∧ (w628.heap.size ≤ w_.heap.size)) _ ⟨andS t (inS g s : List Int), (lf : List Int), A_311, c_312, (ms : List Int), A_313, c_314, ((lsD (fromW (andS t (inS g s : List Int))) 256) : List Int), A646, c647, rfl, f678, e657, r658, r659, bx660, bx661, bx662, bx663, ow664, ow665, ow666, bx667, ow668, (okW_andS ht (inS_ok hs)).1, (okW_andS ht (inS_ok hs)), ⟨[], aw_start hG inT_lt (fun j a b => by rw [from_andS, gB_andD a b]; rfl) hE.ll (by omega) (fra_lf hE) hmsE⟩, (by omega), (by omega), (by omega), (by omega)⟩ ?_
    clear f678 f681
    clear r658
    clear r659
    clear bx660
    clear bx661
    clear bx662
    clear bx663
    clear ow664
    clear ow665
    clear ow666
    clear bx667
    clear ow668
    clear e657
    intro m_ act682 w683 ⟨ss, lf3, A_672, c_673, ms3, A_674, c_675, op, A_676, c_677, hm685, f686, e684, r687, r688, bx689, bx690, bx691, bx692, r693, ow694, ow695, bx696, ow697, i698, hok, hw, i699, i700, i701, i702⟩
    have szw683 := e684.size
    have := bx689.lt
    have := bx690.lt
    have := bx691.lt
    have := bx692.lt
    have := bx696.lt
    have hlw_ := lenW_le ss
    have hawl : op.length ≤ g.ow.length ∧ lf3.length = g.ow.length ∧ ms3.length = g.ow.length := by obtain ⟨pr_, hw_⟩ := hw; exact ⟨aw_len hw_, hw_.ll, hw_.ml⟩
    refine wp_seq ?_
    refine wp_seq ?_
    refine At.start ?_
    refine At.rd f686 3 [[], [], []] [(102, .bool (decide ((((op.length : Nat) : Int) : Int) > 0))), (101, .int .i64 (((op.length : Nat) : Int))), (100, .slice A_676 op.length c_677)] [] (by kernel_rfl) trivial (fun act704 f703 => ?_)
    clear f686
    refine At.done rfl ?_
    refine t_n ?_
    have f705 := f703.sub (r := [(102, .bool (decide ((((op.length : Nat) : Int) : Int) > 0))), (20, .slice A_676 op.length c_677), (19, .pointer (some ⟨w597.heap.size, 0, none⟩)), (15, .slice A_674 ms3.length c_675), (14, .slice A_672 lf3.length c_673), (13, .slice A_309 fr.length c_310), (8, .pointer (some ⟨w22.heap.size, 0, none⟩)), (4, .pointer (some ⟨w.heap.size, 0, none⟩)), (2, .int .i64 (p))]) ⟨rfl, rfl, rfl, rfl, rfl, rfl, rfl, rfl, rfl, trivial⟩
    clear f703
    refine cond_S f705 (t := decide ((((op.length : Nat) : Int) : Int) > 0)) rfl (fun h706 => ?_) (fun h706 => ?_)
    ·have q707 := of_decide_eq_true h706
     refine wp_skip ?_
     refine t_n ?_
     have f708 := f705.sub (r := [(20, .slice A_676 op.length c_677), (19, .pointer (some ⟨w597.heap.size, 0, none⟩)), (15, .slice A_674 ms3.length c_675), (14, .slice A_672 lf3.length c_673), (13, .slice A_309 fr.length c_310), (8, .pointer (some ⟨w22.heap.size, 0, none⟩)), (4, .pointer (some ⟨w.heap.size, 0, none⟩)), (2, .int .i64 (p))]) ⟨rfl, rfl, rfl, rfl, rfl, rfl, rfl, rfl, trivial⟩
     clear f705
     refine wp_seq ?_
     refine wp_block ?_
     refine wp_seq ?_
     obtain ⟨pr, hw⟩ := hw
     have hop := op_cons (op := op) (by omega)
     have hw2 : AW g (inT g s) p (fromW t) (fromW ss) (gI op 0 :: op.drop 1) lf3 ms3 pr [] [] := by rw [← hop]; exact hw
     have hmr := hw2.rng (gI op 0) (by simp)
     have hld := fra_leads hE hmr.1 hmr.2.1
     have hwo := aw_open hw2 hld
     have hfc := hE.cnt _ hmr.1 hmr.2.1
     refine At.start ?_
     obtain ⟨ad709, hA710, hb713, hc712, hc711⟩ := ow697.get (0) (by omega) (by omega) (sz := 1) rfl
     refine At.rd f708 4 [[], [.ad ad709], [.ld (.int .i64 (gI op 0))], []] [(21, .int .i64 (gI op 0)), (107, .int .i64 (gI op 0)), (106, .pointer (some (ad709.add ((0 : Int).toNat * 1)))), (105, .slice A_676 op.length c_677)] [(A_676 = some ad709), (0 ≤ (0 : Int)), ((0 : Int) < (op.length : Nat)), (w683.cell? (ad709.add ((0 : Int).toNat * 1)) = some (.int .i64 (gI op 0)))] (by kernel_rfl) ⟨hA710, (by omega), (by omega), hc712, trivial⟩ (fun act715 f714 => ?_)
     clear f708
     refine At.done rfl ?_
     refine t_n ?_
     have f716 := f714.sub (r := [(21, .int .i64 (gI op 0)), (20, .slice A_676 op.length c_677), (19, .pointer (some ⟨w597.heap.size, 0, none⟩)), (15, .slice A_674 ms3.length c_675), (14, .slice A_672 lf3.length c_673), (13, .slice A_309 fr.length c_310), (8, .pointer (some ⟨w22.heap.size, 0, none⟩)), (4, .pointer (some ⟨w.heap.size, 0, none⟩)), (2, .int .i64 (p))]) ⟨rfl, rfl, rfl, rfl, rfl, rfl, rfl, rfl, rfl, trivial⟩
     clear f714
     refine wp_seq ?_
     refine At.start ?_
     obtain ⟨ad717, R720, C721, hA718, hb722, hc719, ow723, ow724⟩ := r693.get (gI op 0) (by omega) (by omega)
     refine At.rd f716 6 [[], [], [.ad ad717], [.ld (.slice R720 ((gL fr (gI op 0)).length) C721)], [], []] [(113, .int .i64 (0)), (112, .int .i64 ((((gL fr (gI op 0)).length : Nat) : Int))), (111, .slice R720 ((gL fr (gI op 0)).length) C721), (110, .pointer (some (ad717.add ((gI op 0 : Int).toNat * 1)))), (109, .int .i64 (gI op 0)), (108, .slice A_309 fr.length c_310)] [(A_309 = some ad717), (0 ≤ (gI op 0 : Int)), ((gI op 0 : Int) < (fr.length : Nat)), (w683.cell? (ad717.add ((gI op 0 : Int).toNat * 1)) = some (.slice R720 ((gL fr (gI op 0)).length) C721))] (by kernel_rfl) ⟨hA718, (by omega), (by omega), hc719, trivial⟩ (fun act728 f727 => ?_)
     clear f716
     refine At.done rfl ?_
     refine t_n ?_
     have f729 := f727.sub (r := [(113, .int .i64 (0)), (112, .int .i64 ((((gL fr (gI op 0)).length : Nat) : Int))), (111, .slice R720 ((gL fr (gI op 0)).length) C721), (21, .int .i64 (gI op 0)), (20, .slice A_676 op.length c_677), (19, .pointer (some ⟨w597.heap.size, 0, none⟩)), (15, .slice A_674 ms3.length c_675), (14, .slice A_672 lf3.length c_673), (13, .slice A_309 fr.length c_310), (8, .pointer (some ⟨w22.heap.size, 0, none⟩)), (4, .pointer (some ⟨w.heap.size, 0, none⟩)), (2, .int .i64 (p))]) ⟨rfl, rfl, rfl, rfl, rfl, rfl, rfl, rfl, rfl, rfl, rfl, rfl, trivial⟩
     clear f727
     refine wp_block ?_
     have f737 := f729.as 20 (.slice A_676 op.length c_677) (.slice A_676 ((op : List Int).length) c_677) rfl (slice_len (by first | rfl | omega | (simp; done) | (simp; omega)))
     clear f729
     have f738 := f737.as 15 (.slice A_674 ms3.length c_675) (.slice A_674 ((ms3 : List Int).length) c_675) rfl (slice_len (by first | rfl | omega | (simp; done) | (simp; omega)))
     clear f737
     have f739 := f738.as 14 (.slice A_672 lf3.length c_673) (.slice A_672 ((lf3 : List Int).length) c_673) rfl (slice_len (by first | rfl | omega | (simp; done) | (simp; omega)))
     clear f738
     have f736 := f739.sub (r := [(20, .slice A_676 ((op : List Int).length) c_677), (113, .int .i64 (0)), (112, .int .i64 ((((gL fr (gI op 0)).length : Nat) : Int))), (111, .slice R720 ((gL fr (gI op 0)).length) C721), (21, .int .i64 (gI op 0)), (19, .pointer (some ⟨w597.heap.size, 0, none⟩)), (15, .slice A_674 ((ms3 : List Int).length) c_675), (14, .slice A_672 ((lf3 : List Int).length) c_673), (13, .slice A_309 fr.length c_310), (8, .pointer (some ⟨w22.heap.size, 0, none⟩)), (4, .pointer (some ⟨w.heap.size, 0, none⟩)), (2, .int .i64 (p))]) ⟨rfl, rfl, rfl, rfl, rfl, rfl, rfl, rfl, rfl, rfl, rfl, rfl, trivial⟩
     refine loop_g (fun (m_ : Nat) a_ w_ => ∃ (q : Int) (ss2 : List Int) (lf4 : List Int) (A_730 : Option Addr) (c_731 : Nat) (ms4 : List Int) (A_732 : Option Addr) (c_733 : Nat) (op4 : List Int) (A_734 : Option Addr) (c_735 : Nat), m_ = (((gL fr (gI op 0)).length : Int) - q).toNat ∧ (Frm 163 a_ [(20, .slice A_734 op4.length c_735), (113, .int .i64 (q)), (112, .int .i64 ((((gL fr (gI op 0)).length : Nat) : Int))), (111, .slice R720 ((gL fr (gI op 0)).length) C721), (21, .int .i64 (gI op 0)), (19, .pointer (some ⟨w597.heap.size, 0, none⟩)), (15, .slice A_732 ms4.length c_733), (14, .slice A_730 lf4.length c_731), (13, .slice A_309 fr.length c_310), (8, .pointer (some ⟨w22.heap.size, 0, none⟩)), (4, .pointer (some ⟨w.heap.size, 0, none⟩)), (2, .int .i64 (p))]) ∧ (Ext w w_) ∧ (RdG w_ 0 w.heap.size Ag0 Ag1 Ag2 cg0 cg1 cg2 g) ∧ (RdT w_ 0 w.heap.size) ∧ (Bx w_ (w.heap.size) [.slice Ag0 g.ow.length cg0, .slice Ag1 g.pr.length cg1, .slice Ag2 g.mv.length cg2] 25) ∧ (Bx w_ (w1.heap.size) (((inS g s : List Int) : List Int).map wV) 28) ∧ (Bx w_ (w11.heap.size) ((t : List Int).map wV) 28) ∧ (Bx w_ (w22.heap.size) ((List.replicate 4 (0 : Int) : List Int).map wV) 28) ∧ (OwnLL w_ (w235.heap.size) [obk (A_734), some (w597.heap.size), obk (A_732), obk (A_730)] A_309 c_310 22 3 (fr : List (List Int))) ∧ (OwnR w_ (Sx (w247.heap.size) [obk (A_734), some (w597.heap.size), obk (A_732), obk (A_309)]) A_730 c_731 3 (lf4 : List Int)) ∧ (OwnR w_ (Sx (w267.heap.size) [obk (A_734), some (w597.heap.size), obk (A_309), obk (A_730)]) A_732 c_733 3 (ms4 : List Int)) ∧ (Bx w_ (w597.heap.size) ((ss2 : List Int).map wV) 28) ∧ (OwnR w_ (Sx (w628.heap.size) [obk (A_309), obk (A_730), obk (A_732)]) A_734 c_735 3 (op4 : List Int)) ∧ (OwnR w_ (Sx (w235.heap.size) [obk (A_309), obk (A_734), some (w597.heap.size), obk (A_732), obk (A_730)]) R720 C721 3 (gL fr (gI op 0) : List Int)) ∧ (0 ≤ q) ∧ (q ≤ ((gL fr (gI op 0)).length : Int)) ∧ (OkW ss2) ∧ (∃ tl, op4 = gI op 0 :: tl ∧ AW g (inT g s) p (fromW t) (fromW ss2) (gI op 0 :: tl) lf4 ms4 pr [gI op 0] ((gL fr (gI op 0)).drop q.toNat)) ∧ (2 * lenW ss - (op.length : Int) ≤ 2 * lenW ss2 - (op4.length : Int)) ∧ (ss2.length = 4) ∧ (w235.heap.size ≤ w_.heap.size) ∧ (w247.heap.size ≤ w_.heap.size) ∧ (w267.heap.size ≤ w_.heap.size) ∧ (w628.heap.size ≤ w_.heap.size)) _ ⟨0, ss, (lf3 : List Int), A_672, c_673, (ms3 : List Int), A_674, c_675, (op : List Int), A_676, c_677, rfl, f736, e684, r687, r688, bx689, bx690, bx691, bx692, r693, ow694, ow695, bx696, ow697, ow723, (by omega), (by omega), hok, ⟨_, hop, by rw [show (0 : Int).toNat = 0 from rfl, List.drop_zero]; exact hwo⟩, (Int.le_refl _), hok.1, (by omega), (by omega), (by omega), (by omega)⟩ ?_
     clear f736 f739
     clear r687
     clear r688
     clear bx689
     clear bx690
     clear bx691
     clear bx692
     clear r693
     clear ow694
     clear ow695
     clear bx696
     clear ow697
     clear ow723
     clear e684
     intro m_ act740 w741 ⟨q, ss2, lf4, A_730, c_731, ms4, A_732, c_733, op4, A_734, c_735, hm743, f744, e742, r745, r746, bx747, bx748, bx749, bx750, r751, ow752, ow753, bx754, ow755, ow756, i757, i758, hok2, hwi, hme, i759, i760, i761, i762, i763⟩
     have szw741 := e742.size
     have := bx747.lt
     have := bx748.lt
     have := bx749.lt
     have := bx750.lt
     have := bx754.lt
     have hlw2_ := lenW_le ss2
     refine wp_seq ?_
     refine At.start ?_
     refine At.rd f744 1 [[]] [(114, .bool (decide ((q : Int) < (((gL fr (gI op 0)).length : Nat) : Int))))] [] (by kernel_rfl) trivial (fun act765 f764 => ?_)
     clear f744
     refine At.done rfl ?_
     refine t_n ?_
     refine wp_seq ?_
     refine cond_S f764 (t := decide ((q : Int) < (((gL fr (gI op 0)).length : Nat) : Int))) rfl (fun h766 => ?_) (fun h766 => ?_)
     ·have q767 := of_decide_eq_true h766
      refine wp_skip ?_
      refine t_n ?_
      have f768 := f764.sub (r := [(20, .slice A_734 op4.length c_735), (113, .int .i64 (q)), (112, .int .i64 ((((gL fr (gI op 0)).length : Nat) : Int))), (111, .slice R720 ((gL fr (gI op 0)).length) C721), (21, .int .i64 (gI op 0)), (19, .pointer (some ⟨w597.heap.size, 0, none⟩)), (15, .slice A_732 ms4.length c_733), (14, .slice A_730 lf4.length c_731), (13, .slice A_309 fr.length c_310), (8, .pointer (some ⟨w22.heap.size, 0, none⟩)), (4, .pointer (some ⟨w.heap.size, 0, none⟩)), (2, .int .i64 (p))]) ⟨rfl, rfl, rfl, rfl, rfl, rfl, rfl, rfl, rfl, rfl, rfl, rfl, trivial⟩
      clear f764
      refine wp_seq ?_
      refine wp_block ?_
      refine wp_seq ?_
      obtain ⟨tl, hop4, hwi⟩ := hwi
      rw [drop_at (r := []) (by omega) (by omega)] at hwi
      have hil := (hld.2 (gI (gL fr (gI op 0)) q)).1 (mem_of_gI (by omega) (by omega))
      have hi1 := hil.1
      have hi2 := hil.2.1
      have hnr := nd_drop hld.1 (k := q) (by omega) (by omega)
      have hal := aw_lb hG hwi hi1 hi2 hil.2.2.1
      have hll4 := hwi.ll
      have hml4 := hwi.ml
      have hol := aw_len hwi
      have hol4 := congrArg List.length hop4
      simp only [List.length_cons] at hol hol4
      refine At.start ?_
      obtain ⟨ad769, hA770, hb773, hc772, hc771⟩ := ow756.get (q) (by omega) (by omega) (sz := 1) rfl
      refine At.rd f768 3 [[.ad ad769], [.ld (.int .i64 (gI (gL fr (gI op 0)) q))], []] [(23, .int .i64 (gI (gL fr (gI op 0)) q)), (116, .int .i64 (gI (gL fr (gI op 0)) q)), (115, .pointer (some (ad769.add ((q : Int).toNat * 1))))] [(R720 = some ad769), (0 ≤ (q : Int)), ((q : Int) < ((gL fr (gI op 0)).length : Nat)), (w741.cell? (ad769.add ((q : Int).toNat * 1)) = some (.int .i64 (gI (gL fr (gI op 0)) q)))] (by kernel_rfl) ⟨hA770, (by omega), (by omega), hc772, trivial⟩ (fun act775 f774 => ?_)
      clear f768
      refine At.done rfl ?_
      refine t_n ?_
      have f776 := f774.sub (r := [(23, .int .i64 (gI (gL fr (gI op 0)) q)), (20, .slice A_734 op4.length c_735), (113, .int .i64 (q)), (112, .int .i64 ((((gL fr (gI op 0)).length : Nat) : Int))), (111, .slice R720 ((gL fr (gI op 0)).length) C721), (21, .int .i64 (gI op 0)), (19, .pointer (some ⟨w597.heap.size, 0, none⟩)), (15, .slice A_732 ms4.length c_733), (14, .slice A_730 lf4.length c_731), (13, .slice A_309 fr.length c_310), (8, .pointer (some ⟨w22.heap.size, 0, none⟩)), (4, .pointer (some ⟨w.heap.size, 0, none⟩)), (2, .int .i64 (p))]) ⟨rfl, rfl, rfl, rfl, rfl, rfl, rfl, rfl, rfl, rfl, rfl, rfl, rfl, trivial⟩
      clear f774
      refine wp_seq ?_
      refine At.start ?_
      obtain ⟨ad777, hA778, hb781, hc780, hc779⟩ := ow752.get (gI (gL fr (gI op 0)) q) (by omega) (by omega) (sz := 1) rfl
      obtain ⟨ad782, hA783, hb786, hc785, hc784⟩ := ow752.get (gI (gL fr (gI op 0)) q) (by omega) (by omega) (sz := 1) rfl
      refine At.rd f776 6 [[], [], [.ad ad777], [.ld (.int .i64 (gI lf4 (gI (gL fr (gI op 0)) q)))], [.as_ (.int .i64 ((gI lf4 (gI (gL fr (gI op 0)) q)) - 1))], [.ad ad782]] [(122, .pointer (some (ad782.add ((gI (gL fr (gI op 0)) q : Int).toNat * 1)))), (121, .int .i64 ((gI lf4 (gI (gL fr (gI op 0)) q)) - 1)), (120, .int .i64 (gI lf4 (gI (gL fr (gI op 0)) q))), (119, .pointer (some (ad777.add ((gI (gL fr (gI op 0)) q : Int).toNat * 1)))), (118, .int .i64 (gI (gL fr (gI op 0)) q)), (117, .slice A_730 lf4.length c_731)] [(A_730 = some ad777), (0 ≤ (gI (gL fr (gI op 0)) q : Int)), ((gI (gL fr (gI op 0)) q : Int) < (lf4.length : Nat)), (w741.cell? (ad777.add ((gI (gL fr (gI op 0)) q : Int).toNat * 1)) = some (.int .i64 (gI lf4 (gI (gL fr (gI op 0)) q)))), ((.int .i64 (IntKind.i64.wrap ((gI lf4 (gI (gL fr (gI op 0)) q)) - 1)) : Value) = .int .i64 ((gI lf4 (gI (gL fr (gI op 0)) q)) - 1)), (A_730 = some ad782), (0 ≤ (gI (gL fr (gI op 0)) q : Int)), ((gI (gL fr (gI op 0)) q : Int) < (lf4.length : Nat))] (by kernel_rfl) ⟨hA778, (by omega), (by omega), hc780, (w64 (by omega) (by omega)), hA783, (by omega), (by omega), trivial⟩ (fun act788 f787 => ?_)
      clear f776
      refine At.act f787 (storeR (α := Int) (t := 3) (i := gI (gL fr (gI op 0)) q) (ad := ad782) (v := .int .i64 ((gI lf4 (gI (gL fr (gI op 0)) q)) - 1)) ((gI lf4 (gI (gL fr (gI op 0)) q)) - 1) (by kernel_rfl) rfl rfl (by kernel_rfl) hA783 ow752 (by omega) (by omega)) ?_
      rintro d_ v_ w789 ⟨rfl, g790, ow791⟩
      refine ⟨_, rfl, fun act794 f793 => ?_⟩
      clear f787
      have hl792 : ((lf4).set (gI (gL fr (gI op 0)) q : Int).toNat ((gI lf4 (gI (gL fr (gI op 0)) q)) - 1)).length = (lf4).length := List.length_set
      have szw789 := g790.size
      have e795 := e742.gr g790 (fun k hk => by have := ow752.ge k hk; omega)
      clear e742
      have r796 := r745.gr g790 (fun k hk => by have := ow752.ge k hk; omega)
      clear r745
      have r797 := r746.gr g790 (fun k hk => by have := ow752.ge k hk; omega)
      clear r746
      have bx798 := bx747.gr g790 (fun e => by have := ow752.ge _ e; omega)
      clear bx747
      have bx799 := bx748.gr g790 (fun e => by have := ow752.ge _ e; omega)
      clear bx748
      have bx800 := bx749.gr g790 (fun e => by have := ow752.ge _ e; omega)
      clear bx749
      have bx801 := bx750.gr g790 (fun e => by have := ow752.ge _ e; omega)
      clear bx750
      have ow802 := r751.gr g790 (fun k hk => hk.2.2.2.1)
      clear r751
      have ow803 := ow753.gr g790 (fun k hk => hk.2.2.2.1)
      clear ow753
      have bx804 := bx754.gr g790 (ow752.neb (fun g hs => hs.2.1))
      clear bx754
      have ow805 := ow755.gr g790 (fun k hk => hk.2.1)
      clear ow755
      have ow806 := ow756.gr g790 (fun k hk => hk.2.2.2.2.1)
      clear ow756
      clear ow752 g790
      refine At.done rfl ?_
      refine t_n ?_
      have f807 := f793.sub (r := [(23, .int .i64 (gI (gL fr (gI op 0)) q)), (20, .slice A_734 op4.length c_735), (113, .int .i64 (q)), (112, .int .i64 ((((gL fr (gI op 0)).length : Nat) : Int))), (111, .slice R720 ((gL fr (gI op 0)).length) C721), (21, .int .i64 (gI op 0)), (19, .pointer (some ⟨w597.heap.size, 0, none⟩)), (15, .slice A_732 ms4.length c_733), (14, .slice A_730 lf4.length c_731), (13, .slice A_309 fr.length c_310), (8, .pointer (some ⟨w22.heap.size, 0, none⟩)), (4, .pointer (some ⟨w.heap.size, 0, none⟩)), (2, .int .i64 (p))]) ⟨rfl, rfl, rfl, rfl, rfl, rfl, rfl, rfl, rfl, rfl, rfl, rfl, rfl, trivial⟩
      clear f793
      refine wp_seq ?_
      refine wp_seq ?_
      have hgs : gI (lf4.set (gI (gL fr (gI op 0)) q).toNat (gI lf4 (gI (gL fr (gI op 0)) q) - 1)) (gI (gL fr (gI op 0)) q) = gI lf4 (gI (gL fr (gI op 0)) q) - 1 := by rw [gI_setE (by omega) (by omega) (by omega), if_pos rfl]
      refine At.start ?_
      refine At.rd f807 2 [[.cs ((ss2 : List Int).map wV)], []] [(124, .int .i64 (gI (gL fr (gI op 0)) q)), (123, .agg ((ss2 : List Int).map wV).toArray)] [(((ss2 : List Int).map wV).length = 4), (∀ (j : Nat) (v : Value), ((ss2 : List Int).map wV)[j]? = some v → w789.cell? ((⟨w597.heap.size, 0, none⟩ : Addr).add j) = some v)] (by kernel_rfl) ⟨(by simp only [List.length_map, List.length_set, List.length_replicate, List.length_cons, List.length_nil]; first | done | assumption | exact from_len _ | exact of_len _ | exact ofZ_len _ | exact (ofW_ok _).1 | exact (fullW_W _).1 | exact (okW_with (by assumption)).1 | exact (okW_less (by assumption)).1 | exact put_len (from_len _) | exact orD_len _ _ | exact andD_len _ _ | exact minusD_len _ _ | exact fullD_len _ | (refine okLen ?_; (repeat (first | assumption | exact ofW_ok _ | exact fullW_W _ | apply okW_with | apply okW_less | refine okW_orS ?_ ?_ | refine okW_andS ?_ ?_ | refine okW_minusS ?_ ?_)); done) | omega | rfl), bx804.whole, trivial⟩ (fun act809 f808 => ?_)
      clear f807
      refine At.call f808 23 #[.agg ((ss2 : List Int).map wV).toArray, .int .i64 (gI (gL fr (gI op 0)) q)] (some 125) (by kernel_rfl) (has_any (s := ss2) (n := gI (gL fr (gI op 0)) q) (by repeat (first | assumption | exact ofW_ok _ | exact fullW_W _ | exact wordsD_W _ | exact okW_0 | exact okW_00 | apply okW_orS | apply okW_andS | apply okW_minusS | apply okW_with | apply okW_less | apply okW_or | apply okW_and | apply okW_minus | (apply okW_lit <;> exact ⟨by omega, by omega⟩)))) ?_
      rintro e_ w810 ⟨rfl, he⟩
      refine ⟨_, rfl, _, rfl, fun act811 f812 => ?_⟩
      clear f808
      have g813 := gr_ext he
      have szw810 := g813.size
      have e814 := e795.gr g813 no_row
      clear e795
      have r815 := r796.gr g813 (fun _ h => by cases h)
      clear r796
      have r816 := r797.gr g813 (fun _ h => by cases h)
      clear r797
      have bx817 := bx798.gr g813 (by simp)
      clear bx798
      have bx818 := bx799.gr g813 (by simp)
      clear bx799
      have bx819 := bx800.gr g813 (by simp)
      clear bx800
      have bx820 := bx801.gr g813 (by simp)
      clear bx801
      have ow821 := ow802.gr g813 (fun _ _ h => by cases h)
      clear ow802
      have ow822 := ow791.gr g813 (fun _ _ h => by cases h)
      clear ow791
      have ow823 := ow803.gr g813 (fun _ _ h => by cases h)
      clear ow803
      have bx824 := bx804.gr g813 (by simp)
      clear bx804
      have ow825 := ow805.gr g813 (fun _ _ h => by cases h)
      clear ow805
      have ow826 := ow806.gr g813 (fun _ _ h => by cases h)
      clear ow806
      clear g813 he
      rcases Bool.eq_false_or_eq_true (hasW ss2 (gI (gL fr (gI op 0)) q)) with h827 | h827
      ·refine At.rd f812 16 [[.as_ (.bool true)], [], [], [], [], [], [], [], [], [], [], [], [], [], [], []] [(141, .bool true), (140, undef), (139, undef), (138, undef), (137, undef), (136, undef), (135, undef), (134, undef), (133, undef), (132, undef), (131, undef), (130, undef), (129, undef), (128, undef), (127, undef), (126, .bool true)] [((.bool (hasW ss2 (gI (gL fr (gI op 0)) q)) : Value) = .bool true)] (by kernel_rfl) ⟨(congrArg Value.bool h827), trivial⟩ (fun act830 f829 => ?_)
       clear f812
       refine At.done rfl ?_
       refine t_n ?_
       have f831 := f829.sub (r := [(141, .bool true), (23, .int .i64 (gI (gL fr (gI op 0)) q)), (20, .slice A_734 op4.length c_735), (113, .int .i64 (q)), (112, .int .i64 ((((gL fr (gI op 0)).length : Nat) : Int))), (111, .slice R720 ((gL fr (gI op 0)).length) C721), (21, .int .i64 (gI op 0)), (19, .pointer (some ⟨w597.heap.size, 0, none⟩)), (15, .slice A_732 ms4.length c_733), (14, .slice A_730 lf4.length c_731), (13, .slice A_309 fr.length c_310), (8, .pointer (some ⟨w22.heap.size, 0, none⟩)), (4, .pointer (some ⟨w.heap.size, 0, none⟩)), (2, .int .i64 (p))]) ⟨rfl, rfl, rfl, rfl, rfl, rfl, rfl, rfl, rfl, rfl, rfl, rfl, rfl, rfl, trivial⟩
       clear f829
       refine cond_T f831 rfl ?_
       refine wp_exit ?_
       refine t_e ?_
       refine b_e ?_
       refine t_n ?_
       have f832 := f831.sub (r := [(20, .slice A_734 op4.length c_735), (113, .int .i64 (q)), (112, .int .i64 ((((gL fr (gI op 0)).length : Nat) : Int))), (111, .slice R720 ((gL fr (gI op 0)).length) C721), (21, .int .i64 (gI op 0)), (19, .pointer (some ⟨w597.heap.size, 0, none⟩)), (15, .slice A_732 ms4.length c_733), (14, .slice A_730 lf4.length c_731), (13, .slice A_309 fr.length c_310), (8, .pointer (some ⟨w22.heap.size, 0, none⟩)), (4, .pointer (some ⟨w.heap.size, 0, none⟩)), (2, .int .i64 (p))]) ⟨rfl, rfl, rfl, rfl, rfl, rfl, rfl, rfl, rfl, rfl, rfl, rfl, trivial⟩
       clear f831
       refine At.start ?_
       refine At.rd f832 2 [[.as_ (.int .i64 (q + 1))], []] [(113, .int .i64 (q + 1)), (160, .int .i64 (q + 1))] [((.int .i64 (IntKind.i64.wrap (q + 1)) : Value) = .int .i64 (q + 1))] (by kernel_rfl) ⟨(w64 (by omega) (by omega)), trivial⟩ (fun act834 f833 => ?_)
       clear f832
       refine At.done rfl ?_
       refine t_n ?_
       have f835 := f833.as 20 (.slice A_734 op4.length c_735) (.slice A_734 ((op4 : List Int).length) c_735) rfl (slice_len (by first | rfl | omega | (simp; done) | (simp; omega)))
       clear f833
       have f836 := f835.as 15 (.slice A_732 ms4.length c_733) (.slice A_732 ((ms4 : List Int).length) c_733) rfl (slice_len (by first | rfl | omega | (simp; done) | (simp; omega)))
       clear f835
       have f837 := f836.as 14 (.slice A_730 lf4.length c_731) (.slice A_730 (((lf4).set (gI (gL fr (gI op 0)) q : Int).toNat ((gI lf4 (gI (gL fr (gI op 0)) q)) - 1) : List Int).length) c_731) rfl (slice_len (by first | rfl | omega | (simp; done) | (simp; omega)))
       clear f836
       have f838 := f837.sub (r := [(20, .slice A_734 ((op4 : List Int).length) c_735), (113, .int .i64 (q + 1)), (112, .int .i64 ((((gL fr (gI op 0)).length : Nat) : Int))), (111, .slice R720 ((gL fr (gI op 0)).length) C721), (21, .int .i64 (gI op 0)), (19, .pointer (some ⟨w597.heap.size, 0, none⟩)), (15, .slice A_732 ((ms4 : List Int).length) c_733), (14, .slice A_730 (((lf4).set (gI (gL fr (gI op 0)) q : Int).toNat ((gI lf4 (gI (gL fr (gI op 0)) q)) - 1) : List Int).length) c_731), (13, .slice A_309 fr.length c_310), (8, .pointer (some ⟨w22.heap.size, 0, none⟩)), (4, .pointer (some ⟨w.heap.size, 0, none⟩)), (2, .int .i64 (p))]) ⟨rfl, rfl, rfl, rfl, rfl, rfl, rfl, rfl, rfl, rfl, rfl, rfl, trivial⟩
       exact ⟨_, (by omega), (q + 1), ss2, ((lf4).set (gI (gL fr (gI op 0)) q : Int).toNat ((gI lf4 (gI (gL fr (gI op 0)) q)) - 1) : List Int), A_730, c_731, (ms4 : List Int), A_732, c_733, (op4 : List Int), A_734, c_735, rfl, f838, e814, r815, r816, bx817, bx818, bx819, bx820, ow821, ow822, ow823, bx824, ow825, ow826, (by omega), (by omega), hok2, ⟨tl, hop4, aw_skip hnd hwi hil hnr (by first | exact .inl (by rw [← has_W (by omega) (by omega)]; assumption) | exact .inr ⟨by omega, by omega⟩)⟩, (by omega), hok2.1, (by omega), (by omega), (by omega), (by omega)⟩
      ·obtain ⟨ad840, hA841, _, _, hc842⟩ := RdI.get r815.ow (gI (gL fr (gI op 0)) q) (by omega) (by omega)
       rcases Bool.eq_false_or_eq_true ((gI g.ow (gI (gL fr (gI op 0)) q) : Int) != p) with h843 | h843
       ·have q844 := bne_iff_ne.1 h843
        obtain ⟨ad845, hA846, hb849, hc848, hc847⟩ := ow822.get (gI (gL fr (gI op 0)) q) (by omega) (by omega) (sz := 1) rfl
        refine At.rd f812 16 [[.as_ (.bool false)], [], [.ld (.slice Ag0 g.ow.length cg0)], [], [.ad ad840], [.ld (.int .i64 (gI g.ow (gI (gL fr (gI op 0)) q)))], [], [], [.as_ (.bool true)], [], [], [.ad ad845], [.ld (.int .i64 (gI ((lf4).set (gI (gL fr (gI op 0)) q : Int).toNat ((gI lf4 (gI (gL fr (gI op 0)) q)) - 1)) (gI (gL fr (gI op 0)) q)))], [], [], []] [(141, .bool (decide ((gI ((lf4).set (gI (gL fr (gI op 0)) q : Int).toNat ((gI lf4 (gI (gL fr (gI op 0)) q)) - 1)) (gI (gL fr (gI op 0)) q) : Int) > 0))), (140, .bool (decide ((gI ((lf4).set (gI (gL fr (gI op 0)) q : Int).toNat ((gI lf4 (gI (gL fr (gI op 0)) q)) - 1)) (gI (gL fr (gI op 0)) q) : Int) > 0))), (139, .bool (decide ((gI ((lf4).set (gI (gL fr (gI op 0)) q : Int).toNat ((gI lf4 (gI (gL fr (gI op 0)) q)) - 1)) (gI (gL fr (gI op 0)) q) : Int) > 0))), (138, .int .i64 (gI ((lf4).set (gI (gL fr (gI op 0)) q : Int).toNat ((gI lf4 (gI (gL fr (gI op 0)) q)) - 1)) (gI (gL fr (gI op 0)) q))), (137, .pointer (some (ad845.add ((gI (gL fr (gI op 0)) q : Int).toNat * 1)))), (136, .int .i64 (gI (gL fr (gI op 0)) q)), (135, .slice A_730 lf4.length c_731), (134, .bool true), (133, .bool ((gI g.ow (gI (gL fr (gI op 0)) q) : Int) != p)), (132, .int .i64 (p)), (131, .int .i64 (gI g.ow (gI (gL fr (gI op 0)) q))), (130, .pointer (some (ad840.add ((gI (gL fr (gI op 0)) q : Int).toNat * 1)))), (129, .int .i64 (gI (gL fr (gI op 0)) q)), (128, .slice Ag0 g.ow.length cg0), (127, .pointer (some ⟨w.heap.size, 0, none⟩)), (126, .bool false)] [((.bool (hasW ss2 (gI (gL fr (gI op 0)) q)) : Value) = .bool false), (w810.cell? ⟨w.heap.size, 0, none⟩ = some (.slice Ag0 g.ow.length cg0)), (Ag0 = some ad840), (0 ≤ (gI (gL fr (gI op 0)) q : Int)), ((gI (gL fr (gI op 0)) q : Int) < (g.ow.length : Nat)), (w810.cell? (ad840.add ((gI (gL fr (gI op 0)) q : Int).toNat * 1)) = some (.int .i64 (gI g.ow (gI (gL fr (gI op 0)) q)))), ((.bool ((gI g.ow (gI (gL fr (gI op 0)) q) : Int) != p) : Value) = .bool true), (A_730 = some ad845), (0 ≤ (gI (gL fr (gI op 0)) q : Int)), ((gI (gL fr (gI op 0)) q : Int) < (lf4.length : Nat)), (w810.cell? (ad845.add ((gI (gL fr (gI op 0)) q : Int).toNat * 1)) = some (.int .i64 (gI ((lf4).set (gI (gL fr (gI op 0)) q : Int).toNat ((gI lf4 (gI (gL fr (gI op 0)) q)) - 1)) (gI (gL fr (gI op 0)) q))))] (by kernel_rfl) ⟨(congrArg Value.bool h827), (bx817.cell (i := 0) rfl), hA841, (by omega), (by omega), hc842, (congrArg Value.bool h843), hA846, (by omega), (by omega), hc848, trivial⟩ (fun act851 f850 => ?_)
        clear f812
        refine At.done rfl ?_
        refine t_n ?_
        have f852 := f850.sub (r := [(141, .bool (decide ((gI ((lf4).set (gI (gL fr (gI op 0)) q : Int).toNat ((gI lf4 (gI (gL fr (gI op 0)) q)) - 1)) (gI (gL fr (gI op 0)) q) : Int) > 0))), (140, .bool (decide ((gI ((lf4).set (gI (gL fr (gI op 0)) q : Int).toNat ((gI lf4 (gI (gL fr (gI op 0)) q)) - 1)) (gI (gL fr (gI op 0)) q) : Int) > 0))), (139, .bool (decide ((gI ((lf4).set (gI (gL fr (gI op 0)) q : Int).toNat ((gI lf4 (gI (gL fr (gI op 0)) q)) - 1)) (gI (gL fr (gI op 0)) q) : Int) > 0))), (138, .int .i64 (gI ((lf4).set (gI (gL fr (gI op 0)) q : Int).toNat ((gI lf4 (gI (gL fr (gI op 0)) q)) - 1)) (gI (gL fr (gI op 0)) q))), (137, .pointer (some (ad845.add ((gI (gL fr (gI op 0)) q : Int).toNat * 1)))), (136, .int .i64 (gI (gL fr (gI op 0)) q)), (135, .slice A_730 lf4.length c_731), (134, .bool true), (133, .bool ((gI g.ow (gI (gL fr (gI op 0)) q) : Int) != p)), (132, .int .i64 (p)), (131, .int .i64 (gI g.ow (gI (gL fr (gI op 0)) q))), (130, .pointer (some (ad840.add ((gI (gL fr (gI op 0)) q : Int).toNat * 1)))), (129, .int .i64 (gI (gL fr (gI op 0)) q)), (128, .slice Ag0 g.ow.length cg0), (127, .pointer (some ⟨w.heap.size, 0, none⟩)), (23, .int .i64 (gI (gL fr (gI op 0)) q)), (20, .slice A_734 op4.length c_735), (113, .int .i64 (q)), (112, .int .i64 ((((gL fr (gI op 0)).length : Nat) : Int))), (111, .slice R720 ((gL fr (gI op 0)).length) C721), (21, .int .i64 (gI op 0)), (19, .pointer (some ⟨w597.heap.size, 0, none⟩)), (15, .slice A_732 ms4.length c_733), (14, .slice A_730 lf4.length c_731), (13, .slice A_309 fr.length c_310), (8, .pointer (some ⟨w22.heap.size, 0, none⟩)), (4, .pointer (some ⟨w.heap.size, 0, none⟩)), (2, .int .i64 (p))]) ⟨rfl, rfl, rfl, rfl, rfl, rfl, rfl, rfl, rfl, rfl, rfl, rfl, rfl, rfl, rfl, rfl, rfl, rfl, rfl, rfl, rfl, rfl, rfl, rfl, rfl, rfl, rfl, rfl, trivial⟩
        clear f850
        refine cond_S f852 (t := decide ((gI ((lf4).set (gI (gL fr (gI op 0)) q : Int).toNat ((gI lf4 (gI (gL fr (gI op 0)) q)) - 1)) (gI (gL fr (gI op 0)) q) : Int) > 0)) rfl (fun h853 => ?_) (fun h853 => ?_)
        ·have q854 := of_decide_eq_true h853
         refine wp_exit ?_
         refine t_e ?_
         refine b_e ?_
         refine t_n ?_
         have f855 := f852.sub (r := [(140, .bool (decide ((gI ((lf4).set (gI (gL fr (gI op 0)) q : Int).toNat ((gI lf4 (gI (gL fr (gI op 0)) q)) - 1)) (gI (gL fr (gI op 0)) q) : Int) > 0))), (139, .bool (decide ((gI ((lf4).set (gI (gL fr (gI op 0)) q : Int).toNat ((gI lf4 (gI (gL fr (gI op 0)) q)) - 1)) (gI (gL fr (gI op 0)) q) : Int) > 0))), (138, .int .i64 (gI ((lf4).set (gI (gL fr (gI op 0)) q : Int).toNat ((gI lf4 (gI (gL fr (gI op 0)) q)) - 1)) (gI (gL fr (gI op 0)) q))), (137, .pointer (some (ad845.add ((gI (gL fr (gI op 0)) q : Int).toNat * 1)))), (136, .int .i64 (gI (gL fr (gI op 0)) q)), (135, .slice A_730 lf4.length c_731), (134, .bool true), (133, .bool ((gI g.ow (gI (gL fr (gI op 0)) q) : Int) != p)), (132, .int .i64 (p)), (131, .int .i64 (gI g.ow (gI (gL fr (gI op 0)) q))), (130, .pointer (some (ad840.add ((gI (gL fr (gI op 0)) q : Int).toNat * 1)))), (129, .int .i64 (gI (gL fr (gI op 0)) q)), (128, .slice Ag0 g.ow.length cg0), (127, .pointer (some ⟨w.heap.size, 0, none⟩)), (20, .slice A_734 op4.length c_735), (113, .int .i64 (q)), (112, .int .i64 ((((gL fr (gI op 0)).length : Nat) : Int))), (111, .slice R720 ((gL fr (gI op 0)).length) C721), (21, .int .i64 (gI op 0)), (19, .pointer (some ⟨w597.heap.size, 0, none⟩)), (15, .slice A_732 ms4.length c_733), (14, .slice A_730 lf4.length c_731), (13, .slice A_309 fr.length c_310), (8, .pointer (some ⟨w22.heap.size, 0, none⟩)), (4, .pointer (some ⟨w.heap.size, 0, none⟩)), (2, .int .i64 (p))]) ⟨rfl, rfl, rfl, rfl, rfl, rfl, rfl, rfl, rfl, rfl, rfl, rfl, rfl, rfl, rfl, rfl, rfl, rfl, rfl, rfl, rfl, rfl, rfl, rfl, rfl, rfl, trivial⟩
         clear f852
         refine At.start ?_
         refine At.rd f855 2 [[.as_ (.int .i64 (q + 1))], []] [(113, .int .i64 (q + 1)), (160, .int .i64 (q + 1))] [((.int .i64 (IntKind.i64.wrap (q + 1)) : Value) = .int .i64 (q + 1))] (by kernel_rfl) ⟨(w64 (by omega) (by omega)), trivial⟩ (fun act857 f856 => ?_)
         clear f855
         refine At.done rfl ?_
         refine t_n ?_
         have f858 := f856.as 20 (.slice A_734 op4.length c_735) (.slice A_734 ((op4 : List Int).length) c_735) rfl (slice_len (by first | rfl | omega | (simp; done) | (simp; omega)))
         clear f856
         have f859 := f858.as 15 (.slice A_732 ms4.length c_733) (.slice A_732 ((ms4 : List Int).length) c_733) rfl (slice_len (by first | rfl | omega | (simp; done) | (simp; omega)))
         clear f858
         have f860 := f859.as 14 (.slice A_730 lf4.length c_731) (.slice A_730 (((lf4).set (gI (gL fr (gI op 0)) q : Int).toNat ((gI lf4 (gI (gL fr (gI op 0)) q)) - 1) : List Int).length) c_731) rfl (slice_len (by first | rfl | omega | (simp; done) | (simp; omega)))
         clear f859
         have f861 := f860.sub (r := [(20, .slice A_734 ((op4 : List Int).length) c_735), (113, .int .i64 (q + 1)), (112, .int .i64 ((((gL fr (gI op 0)).length : Nat) : Int))), (111, .slice R720 ((gL fr (gI op 0)).length) C721), (21, .int .i64 (gI op 0)), (19, .pointer (some ⟨w597.heap.size, 0, none⟩)), (15, .slice A_732 ((ms4 : List Int).length) c_733), (14, .slice A_730 (((lf4).set (gI (gL fr (gI op 0)) q : Int).toNat ((gI lf4 (gI (gL fr (gI op 0)) q)) - 1) : List Int).length) c_731), (13, .slice A_309 fr.length c_310), (8, .pointer (some ⟨w22.heap.size, 0, none⟩)), (4, .pointer (some ⟨w.heap.size, 0, none⟩)), (2, .int .i64 (p))]) ⟨rfl, rfl, rfl, rfl, rfl, rfl, rfl, rfl, rfl, rfl, rfl, rfl, trivial⟩
         exact ⟨_, (by omega), (q + 1), ss2, ((lf4).set (gI (gL fr (gI op 0)) q : Int).toNat ((gI lf4 (gI (gL fr (gI op 0)) q)) - 1) : List Int), A_730, c_731, (ms4 : List Int), A_732, c_733, (op4 : List Int), A_734, c_735, rfl, f861, e814, r815, r816, bx817, bx818, bx819, bx820, ow821, ow822, ow823, bx824, ow825, ow826, (by omega), (by omega), hok2, ⟨tl, hop4, aw_skip hnd hwi hil hnr (by first | exact .inl (by rw [← has_W (by omega) (by omega)]; assumption) | exact .inr ⟨by omega, by omega⟩)⟩, (by omega), hok2.1, (by omega), (by omega), (by omega), (by omega)⟩
        ·have q862 := of_decide_eq_false h853
         refine wp_skip ?_
         refine t_n ?_
         have f863 := f852.sub (r := [(140, .bool (decide ((gI ((lf4).set (gI (gL fr (gI op 0)) q : Int).toNat ((gI lf4 (gI (gL fr (gI op 0)) q)) - 1)) (gI (gL fr (gI op 0)) q) : Int) > 0))), (139, .bool (decide ((gI ((lf4).set (gI (gL fr (gI op 0)) q : Int).toNat ((gI lf4 (gI (gL fr (gI op 0)) q)) - 1)) (gI (gL fr (gI op 0)) q) : Int) > 0))), (138, .int .i64 (gI ((lf4).set (gI (gL fr (gI op 0)) q : Int).toNat ((gI lf4 (gI (gL fr (gI op 0)) q)) - 1)) (gI (gL fr (gI op 0)) q))), (137, .pointer (some (ad845.add ((gI (gL fr (gI op 0)) q : Int).toNat * 1)))), (136, .int .i64 (gI (gL fr (gI op 0)) q)), (135, .slice A_730 lf4.length c_731), (134, .bool true), (133, .bool ((gI g.ow (gI (gL fr (gI op 0)) q) : Int) != p)), (132, .int .i64 (p)), (131, .int .i64 (gI g.ow (gI (gL fr (gI op 0)) q))), (130, .pointer (some (ad840.add ((gI (gL fr (gI op 0)) q : Int).toNat * 1)))), (129, .int .i64 (gI (gL fr (gI op 0)) q)), (128, .slice Ag0 g.ow.length cg0), (127, .pointer (some ⟨w.heap.size, 0, none⟩)), (23, .int .i64 (gI (gL fr (gI op 0)) q)), (20, .slice A_734 op4.length c_735), (113, .int .i64 (q)), (112, .int .i64 ((((gL fr (gI op 0)).length : Nat) : Int))), (111, .slice R720 ((gL fr (gI op 0)).length) C721), (21, .int .i64 (gI op 0)), (19, .pointer (some ⟨w597.heap.size, 0, none⟩)), (15, .slice A_732 ms4.length c_733), (14, .slice A_730 lf4.length c_731), (13, .slice A_309 fr.length c_310), (8, .pointer (some ⟨w22.heap.size, 0, none⟩)), (4, .pointer (some ⟨w.heap.size, 0, none⟩)), (2, .int .i64 (p))]) ⟨rfl, rfl, rfl, rfl, rfl, rfl, rfl, rfl, rfl, rfl, rfl, rfl, rfl, rfl, rfl, rfl, rfl, rfl, rfl, rfl, rfl, rfl, rfl, rfl, rfl, rfl, rfl, trivial⟩
         clear f852
         refine wp_seq ?_
         refine wp_seq ?_
         refine At.start ?_
         obtain ⟨ad864, hA865, _, _, hc866⟩ := RdI.get r815.ow (gI (gL fr (gI op 0)) q) (by omega) (by omega)
         refine At.rd f863 7 [[], [.ld (.slice Ag0 g.ow.length cg0)], [], [.ad ad864], [.ld (.int .i64 (gI g.ow (gI (gL fr (gI op 0)) q)))], [], []] [(148, .bool ((gI g.ow (gI (gL fr (gI op 0)) q) : Int) == p)), (147, .int .i64 (p)), (146, .int .i64 (gI g.ow (gI (gL fr (gI op 0)) q))), (145, .pointer (some (ad864.add ((gI (gL fr (gI op 0)) q : Int).toNat * 1)))), (144, .int .i64 (gI (gL fr (gI op 0)) q)), (143, .slice Ag0 g.ow.length cg0), (142, .pointer (some ⟨w.heap.size, 0, none⟩))] [(w810.cell? ⟨w.heap.size, 0, none⟩ = some (.slice Ag0 g.ow.length cg0)), (Ag0 = some ad864), (0 ≤ (gI (gL fr (gI op 0)) q : Int)), ((gI (gL fr (gI op 0)) q : Int) < (g.ow.length : Nat)), (w810.cell? (ad864.add ((gI (gL fr (gI op 0)) q : Int).toNat * 1)) = some (.int .i64 (gI g.ow (gI (gL fr (gI op 0)) q))))] (by kernel_rfl) ⟨(bx817.cell (i := 0) rfl), hA865, (by omega), (by omega), hc866, trivial⟩ (fun act868 f867 => ?_)
         clear f863
         refine At.done rfl ?_
         refine t_n ?_
         have f869 := f867.sub (r := [(148, .bool ((gI g.ow (gI (gL fr (gI op 0)) q) : Int) == p)), (140, .bool (decide ((gI ((lf4).set (gI (gL fr (gI op 0)) q : Int).toNat ((gI lf4 (gI (gL fr (gI op 0)) q)) - 1)) (gI (gL fr (gI op 0)) q) : Int) > 0))), (139, .bool (decide ((gI ((lf4).set (gI (gL fr (gI op 0)) q : Int).toNat ((gI lf4 (gI (gL fr (gI op 0)) q)) - 1)) (gI (gL fr (gI op 0)) q) : Int) > 0))), (138, .int .i64 (gI ((lf4).set (gI (gL fr (gI op 0)) q : Int).toNat ((gI lf4 (gI (gL fr (gI op 0)) q)) - 1)) (gI (gL fr (gI op 0)) q))), (137, .pointer (some (ad845.add ((gI (gL fr (gI op 0)) q : Int).toNat * 1)))), (136, .int .i64 (gI (gL fr (gI op 0)) q)), (135, .slice A_730 lf4.length c_731), (134, .bool true), (133, .bool ((gI g.ow (gI (gL fr (gI op 0)) q) : Int) != p)), (132, .int .i64 (p)), (131, .int .i64 (gI g.ow (gI (gL fr (gI op 0)) q))), (130, .pointer (some (ad840.add ((gI (gL fr (gI op 0)) q : Int).toNat * 1)))), (129, .int .i64 (gI (gL fr (gI op 0)) q)), (128, .slice Ag0 g.ow.length cg0), (127, .pointer (some ⟨w.heap.size, 0, none⟩)), (23, .int .i64 (gI (gL fr (gI op 0)) q)), (20, .slice A_734 op4.length c_735), (113, .int .i64 (q)), (112, .int .i64 ((((gL fr (gI op 0)).length : Nat) : Int))), (111, .slice R720 ((gL fr (gI op 0)).length) C721), (21, .int .i64 (gI op 0)), (19, .pointer (some ⟨w597.heap.size, 0, none⟩)), (15, .slice A_732 ms4.length c_733), (14, .slice A_730 lf4.length c_731), (13, .slice A_309 fr.length c_310), (8, .pointer (some ⟨w22.heap.size, 0, none⟩)), (4, .pointer (some ⟨w.heap.size, 0, none⟩)), (2, .int .i64 (p))]) ⟨rfl, rfl, rfl, rfl, rfl, rfl, rfl, rfl, rfl, rfl, rfl, rfl, rfl, rfl, rfl, rfl, rfl, rfl, rfl, rfl, rfl, rfl, rfl, rfl, rfl, rfl, rfl, rfl, trivial⟩
         clear f867
         refine cond_S f869 (t := (gI g.ow (gI (gL fr (gI op 0)) q) : Int) == p) rfl (fun h870 => ?_) (fun h870 => ?_)
         ·have q871 := eq_of_beq h870
          refine At.start ?_
          obtain ⟨ad872, hA873, hb876, hc875, hc874⟩ := ow823.get (gI (gL fr (gI op 0)) q) (by omega) (by omega) (sz := 1) rfl
          refine At.rd f869 4 [[], [], [], [.ad ad872]] [(152, .pointer (some (ad872.add ((gI (gL fr (gI op 0)) q : Int).toNat * 1)))), (151, .int .i64 (gI op 0)), (150, .int .i64 (gI (gL fr (gI op 0)) q)), (149, .slice A_732 ms4.length c_733)] [(A_732 = some ad872), (0 ≤ (gI (gL fr (gI op 0)) q : Int)), ((gI (gL fr (gI op 0)) q : Int) < (ms4.length : Nat))] (by kernel_rfl) ⟨hA873, (by omega), (by omega), trivial⟩ (fun act878 f877 => ?_)
          clear f869
          refine At.act f877 (storeR (α := Int) (t := 3) (i := gI (gL fr (gI op 0)) q) (ad := ad872) (v := .int .i64 (gI op 0)) (gI op 0) (by kernel_rfl) rfl rfl (by kernel_rfl) hA873 ow823 (by omega) (by omega)) ?_
          rintro d_ v_ w879 ⟨rfl, g880, ow881⟩
          refine ⟨_, rfl, fun act884 f883 => ?_⟩
          clear f877
          have hl882 : ((ms4).set (gI (gL fr (gI op 0)) q : Int).toNat (gI op 0)).length = (ms4).length := List.length_set
          have szw879 := g880.size
          have e885 := e814.gr g880 (fun k hk => by have := ow823.ge k hk; omega)
          clear e814
          have r886 := r815.gr g880 (fun k hk => by have := ow823.ge k hk; omega)
          clear r815
          have r887 := r816.gr g880 (fun k hk => by have := ow823.ge k hk; omega)
          clear r816
          have bx888 := bx817.gr g880 (fun e => by have := ow823.ge _ e; omega)
          clear bx817
          have bx889 := bx818.gr g880 (fun e => by have := ow823.ge _ e; omega)
          clear bx818
          have bx890 := bx819.gr g880 (fun e => by have := ow823.ge _ e; omega)
          clear bx819
          have bx891 := bx820.gr g880 (fun e => by have := ow823.ge _ e; omega)
          clear bx820
          have ow892 := ow821.gr g880 (fun k hk => hk.2.2.1)
          clear ow821
          have ow893 := ow822.gr g880 (fun k hk => hk.2.2.1)
          clear ow822
          have bx894 := bx824.gr g880 (ow823.neb (fun g hs => hs.2.1))
          clear bx824
          have ow895 := ow825.gr g880 (fun k hk => hk.2.2.1)
          clear ow825
          have ow896 := ow826.gr g880 (fun k hk => hk.2.2.2.1)
          clear ow826
          clear ow823 g880
          refine At.done rfl ?_
          refine t_n ?_
          have f897 := f883.sub (r := [(140, .bool (decide ((gI ((lf4).set (gI (gL fr (gI op 0)) q : Int).toNat ((gI lf4 (gI (gL fr (gI op 0)) q)) - 1)) (gI (gL fr (gI op 0)) q) : Int) > 0))), (139, .bool (decide ((gI ((lf4).set (gI (gL fr (gI op 0)) q : Int).toNat ((gI lf4 (gI (gL fr (gI op 0)) q)) - 1)) (gI (gL fr (gI op 0)) q) : Int) > 0))), (138, .int .i64 (gI ((lf4).set (gI (gL fr (gI op 0)) q : Int).toNat ((gI lf4 (gI (gL fr (gI op 0)) q)) - 1)) (gI (gL fr (gI op 0)) q))), (137, .pointer (some (ad845.add ((gI (gL fr (gI op 0)) q : Int).toNat * 1)))), (136, .int .i64 (gI (gL fr (gI op 0)) q)), (135, .slice A_730 lf4.length c_731), (134, .bool true), (133, .bool ((gI g.ow (gI (gL fr (gI op 0)) q) : Int) != p)), (132, .int .i64 (p)), (131, .int .i64 (gI g.ow (gI (gL fr (gI op 0)) q))), (130, .pointer (some (ad840.add ((gI (gL fr (gI op 0)) q : Int).toNat * 1)))), (129, .int .i64 (gI (gL fr (gI op 0)) q)), (128, .slice Ag0 g.ow.length cg0), (127, .pointer (some ⟨w.heap.size, 0, none⟩)), (23, .int .i64 (gI (gL fr (gI op 0)) q)), (20, .slice A_734 op4.length c_735), (113, .int .i64 (q)), (112, .int .i64 ((((gL fr (gI op 0)).length : Nat) : Int))), (111, .slice R720 ((gL fr (gI op 0)).length) C721), (21, .int .i64 (gI op 0)), (19, .pointer (some ⟨w597.heap.size, 0, none⟩)), (15, .slice A_732 ms4.length c_733), (14, .slice A_730 lf4.length c_731), (13, .slice A_309 fr.length c_310), (8, .pointer (some ⟨w22.heap.size, 0, none⟩)), (4, .pointer (some ⟨w.heap.size, 0, none⟩)), (2, .int .i64 (p))]) ⟨rfl, rfl, rfl, rfl, rfl, rfl, rfl, rfl, rfl, rfl, rfl, rfl, rfl, rfl, rfl, rfl, rfl, rfl, rfl, rfl, rfl, rfl, rfl, rfl, rfl, rfl, rfl, trivial⟩
          clear f883
          refine wp_seq ?_
          refine At.start ?_
          refine At.rd f897 2 [[.cs ((ss2 : List Int).map wV)], []] [(154, .int .i64 (gI (gL fr (gI op 0)) q)), (153, .agg ((ss2 : List Int).map wV).toArray)] [(((ss2 : List Int).map wV).length = 4), (∀ (j : Nat) (v : Value), ((ss2 : List Int).map wV)[j]? = some v → w879.cell? ((⟨w597.heap.size, 0, none⟩ : Addr).add j) = some v)] (by kernel_rfl) ⟨(by simp only [List.length_map, List.length_set, List.length_replicate, List.length_cons, List.length_nil]; first | done | assumption | exact from_len _ | exact of_len _ | exact ofZ_len _ | exact (ofW_ok _).1 | exact (fullW_W _).1 | exact (okW_with (by assumption)).1 | exact (okW_less (by assumption)).1 | exact put_len (from_len _) | exact orD_len _ _ | exact andD_len _ _ | exact minusD_len _ _ | exact fullD_len _ | (refine okLen ?_; (repeat (first | assumption | exact ofW_ok _ | exact fullW_W _ | apply okW_with | apply okW_less | refine okW_orS ?_ ?_ | refine okW_andS ?_ ?_ | refine okW_minusS ?_ ?_)); done) | omega | rfl), bx894.whole, trivial⟩ (fun act899 f898 => ?_)
          clear f897
          refine At.call f898 27 #[.agg ((ss2 : List Int).map wV).toArray, .int .i64 (gI (gL fr (gI op 0)) q)] (some 155) (by kernel_rfl) (with_any (s := ss2) (n := gI (gL fr (gI op 0)) q) (by repeat (first | assumption | exact ofW_ok _ | exact fullW_W _ | exact wordsD_W _ | exact okW_0 | exact okW_00 | apply okW_orS | apply okW_andS | apply okW_minusS | apply okW_with | apply okW_less | apply okW_or | apply okW_and | apply okW_minus | (apply okW_lit <;> exact ⟨by omega, by omega⟩)))) ?_
          rintro e_ w900 ⟨rfl, he⟩
          refine ⟨_, rfl, _, rfl, fun act901 f902 => ?_⟩
          clear f898
          have g903 := gr_ext he
          have szw900 := g903.size
          have e904 := e885.gr g903 no_row
          clear e885
          have r905 := r886.gr g903 (fun _ h => by cases h)
          clear r886
          have r906 := r887.gr g903 (fun _ h => by cases h)
          clear r887
          have bx907 := bx888.gr g903 (by simp)
          clear bx888
          have bx908 := bx889.gr g903 (by simp)
          clear bx889
          have bx909 := bx890.gr g903 (by simp)
          clear bx890
          have bx910 := bx891.gr g903 (by simp)
          clear bx891
          have ow911 := ow892.gr g903 (fun _ _ h => by cases h)
          clear ow892
          have ow912 := ow893.gr g903 (fun _ _ h => by cases h)
          clear ow893
          have ow913 := ow881.gr g903 (fun _ _ h => by cases h)
          clear ow881
          have bx914 := bx894.gr g903 (by simp)
          clear bx894
          have ow915 := ow895.gr g903 (fun _ _ h => by cases h)
          clear ow895
          have ow916 := ow896.gr g903 (fun _ _ h => by cases h)
          clear ow896
          clear g903 he
          refine At.act f902 (storeBlk (t := 28) (b := w597.heap.size) (n := 4) (cs' := ((withW ss2 (gI (gL fr (gI op 0)) q) : List Int).map wV)) (by kernel_rfl) (by kernel_rfl) ((List.length_map _).trans (okLen (okW_with (by assumption)))) oneW_ ((show ((withW ss2 (gI (gL fr (gI op 0)) q) : List Int).map wV).length = 4 from ((List.length_map _).trans (okLen (okW_with (by assumption))))).trans (show ((ss2 : List Int).map wV).length = 4 from (by simp only [List.length_map, List.length_set, List.length_replicate, List.length_cons, List.length_nil]; first | done | assumption | exact from_len _ | exact of_len _ | exact ofZ_len _ | exact (ofW_ok _).1 | exact (fullW_W _).1 | exact (okW_with (by assumption)).1 | exact (okW_less (by assumption)).1 | exact put_len (from_len _) | exact orD_len _ _ | exact andD_len _ _ | exact minusD_len _ _ | exact fullD_len _ | (refine okLen ?_; (repeat (first | assumption | exact ofW_ok _ | exact fullW_W _ | apply okW_with | apply okW_less | refine okW_orS ?_ ?_ | refine okW_andS ?_ ?_ | refine okW_minusS ?_ ?_)); done) | omega | rfl)).symm) bx914) ?_
          rintro d_ v_ w917 ⟨rfl, g918, bx919⟩
          refine ⟨_, rfl, fun act921 f920 => ?_⟩
          clear f902
          have szw917 := g918.size
          have e922 := e904.gr g918 (fun k h => by injection h; omega)
          clear e904
          have r923 := r905.gr g918 (fun k h => by injection h; omega)
          clear r905
          have r924 := r906.gr g918 (fun k h => by injection h; omega)
          clear r906
          have bx925 := bx907.gr g918 (fun h => by injection h; omega)
          clear bx907
          have bx926 := bx908.gr g918 (fun h => by injection h; omega)
          clear bx908
          have bx927 := bx909.gr g918 (fun h => by injection h; omega)
          clear bx909
          have bx928 := bx910.gr g918 (fun h => by injection h; omega)
          clear bx910
          have ow929 := ow911.gr g918 (fun k hk => hk.2.1)
          clear ow911
          have ow930 := ow912.gr g918 (fun k hk => hk.2.1)
          clear ow912
          have ow931 := ow913.gr g918 (fun k hk => hk.2.1)
          clear ow913
          have ow932 := ow915.gr g918 (fun k hk e => by have := Sx_base hk; injection e; omega)
          clear ow915
          have ow933 := ow916.gr g918 (fun k hk => hk.2.2.1)
          clear ow916
          clear bx914 g918
          refine At.done rfl ?_
          refine t_n ?_
          have f934 := f920.sub (r := [(140, .bool (decide ((gI ((lf4).set (gI (gL fr (gI op 0)) q : Int).toNat ((gI lf4 (gI (gL fr (gI op 0)) q)) - 1)) (gI (gL fr (gI op 0)) q) : Int) > 0))), (139, .bool (decide ((gI ((lf4).set (gI (gL fr (gI op 0)) q : Int).toNat ((gI lf4 (gI (gL fr (gI op 0)) q)) - 1)) (gI (gL fr (gI op 0)) q) : Int) > 0))), (138, .int .i64 (gI ((lf4).set (gI (gL fr (gI op 0)) q : Int).toNat ((gI lf4 (gI (gL fr (gI op 0)) q)) - 1)) (gI (gL fr (gI op 0)) q))), (137, .pointer (some (ad845.add ((gI (gL fr (gI op 0)) q : Int).toNat * 1)))), (136, .int .i64 (gI (gL fr (gI op 0)) q)), (135, .slice A_730 lf4.length c_731), (134, .bool true), (133, .bool ((gI g.ow (gI (gL fr (gI op 0)) q) : Int) != p)), (132, .int .i64 (p)), (131, .int .i64 (gI g.ow (gI (gL fr (gI op 0)) q))), (130, .pointer (some (ad840.add ((gI (gL fr (gI op 0)) q : Int).toNat * 1)))), (129, .int .i64 (gI (gL fr (gI op 0)) q)), (128, .slice Ag0 g.ow.length cg0), (127, .pointer (some ⟨w.heap.size, 0, none⟩)), (23, .int .i64 (gI (gL fr (gI op 0)) q)), (20, .slice A_734 op4.length c_735), (113, .int .i64 (q)), (112, .int .i64 ((((gL fr (gI op 0)).length : Nat) : Int))), (111, .slice R720 ((gL fr (gI op 0)).length) C721), (21, .int .i64 (gI op 0)), (19, .pointer (some ⟨w597.heap.size, 0, none⟩)), (15, .slice A_732 ms4.length c_733), (14, .slice A_730 lf4.length c_731), (13, .slice A_309 fr.length c_310), (8, .pointer (some ⟨w22.heap.size, 0, none⟩)), (4, .pointer (some ⟨w.heap.size, 0, none⟩)), (2, .int .i64 (p))]) ⟨rfl, rfl, rfl, rfl, rfl, rfl, rfl, rfl, rfl, rfl, rfl, rfl, rfl, rfl, rfl, rfl, rfl, rfl, rfl, rfl, rfl, rfl, rfl, rfl, rfl, rfl, rfl, trivial⟩
          clear f920
          refine At.start ?_
          refine At.rd f934 2 [[], []] [(157, .int .i64 (gI (gL fr (gI op 0)) q)), (156, .slice A_734 op4.length c_735)] [] (by kernel_rfl) trivial (fun act936 f935 => ?_)
          clear f934
          refine At.seq f935 1 [[]] [(158, .slice (some ⟨w917.heap.size, 0, none⟩) 1 1)] (w917.alloc (.cells #[.int .i64 (gI (gL fr (gI op 0)) q)] 3 (0, 0))) [] (by kernel_rfl) trivial (fun act940 w937 hw938 f939 => ?_)
          clear f935
          have g941 := gr_alloc hw938
          have szw937 := g941.size
          have e944 := e922.gr g941 no_row
          clear e922
          have r945 := r923.gr g941 (fun _ h => by cases h)
          clear r923
          have r946 := r924.gr g941 (fun _ h => by cases h)
          clear r924
          have bx947 := bx925.gr g941 (by simp)
          clear bx925
          have bx948 := bx926.gr g941 (by simp)
          clear bx926
          have bx949 := bx927.gr g941 (by simp)
          clear bx927
          have bx950 := bx928.gr g941 (by simp)
          clear bx928
          have ow951 : OwnLL w937 (w235.heap.size) [some (w917.heap.size), obk (A_734), some (w597.heap.size), obk (A_732), obk (A_730)] A_309 c_310 22 3 (fr : List (List Int)) := ow929.grA g941 (fun _ _ h => by cases h) (fun k hk hs => ⟨(fun e => by injection e; omega), hs.1, hs.2.1, hs.2.2.1, hs.2.2.2.1, hs.2.2.2.2⟩)
          clear ow929
          have ow952 : OwnR w937 (Sx (w247.heap.size) [some (w917.heap.size), obk (A_734), some (w597.heap.size), obk (A_732), obk (A_309)]) A_730 c_731 3 ((lf4).set (gI (gL fr (gI op 0)) q : Int).toNat ((gI lf4 (gI (gL fr (gI op 0)) q)) - 1) : List Int) := ow930.grA g941 (fun _ _ h => by cases h) (fun k hk hs => ⟨(fun e => by injection e; omega), hs.1, hs.2.1, hs.2.2.1, hs.2.2.2.1, hs.2.2.2.2⟩)
          clear ow930
          have ow953 : OwnR w937 (Sx (w267.heap.size) [some (w917.heap.size), obk (A_734), some (w597.heap.size), obk (A_309), obk (A_730)]) A_732 c_733 3 ((ms4).set (gI (gL fr (gI op 0)) q : Int).toNat (gI op 0) : List Int) := ow931.grA g941 (fun _ _ h => by cases h) (fun k hk hs => ⟨(fun e => by injection e; omega), hs.1, hs.2.1, hs.2.2.1, hs.2.2.2.1, hs.2.2.2.2⟩)
          clear ow931
          have bx954 := bx919.gr g941 (by simp)
          clear bx919
          have ow955 : OwnR w937 (Sx (w628.heap.size) [some (w917.heap.size), obk (A_309), obk (A_730), obk (A_732)]) A_734 c_735 3 (op4 : List Int) := ow932.grA g941 (fun _ _ h => by cases h) (fun k hk hs => ⟨(fun e => by injection e; omega), hs.1, hs.2.1, hs.2.2.1, hs.2.2.2⟩)
          clear ow932
          have ow956 : OwnR w937 (Sx (w235.heap.size) [some (w917.heap.size), obk (A_309), obk (A_734), some (w597.heap.size), obk (A_732), obk (A_730)]) R720 C721 3 (gL fr (gI op 0) : List Int) := ow933.grA g941 (fun _ _ h => by cases h) (fun k hk hs => ⟨(fun e => by injection e; omega), hs.1, hs.2.1, hs.2.2.1, hs.2.2.2.1, hs.2.2.2.2.1, hs.2.2.2.2.2⟩)
          clear ow933
          have bx943 : Bx w937 (w917.heap.size) [.int .i64 (gI (gL fr (gI op 0)) q)] 3 := Bx.new hw938
          have := bx943.lt
          clear g941 hw938
          have hl961 : (op4 ++ ([gI (gL fr (gI op 0)) q])).length = (op4).length + ([gI (gL fr (gI op 0)) q] : List Int).length := List.length_append
          simp only [List.length_cons, List.length_nil] at hl961
          refine At.act f939 (appendR (α := Int) (t := 22) (d := 159) (n := op4.length) (m := 1) (cc := 1) (xs := op4) (ys := [gI (gL fr (gI op 0)) q]) (bytes := 8) (by first | rfl | omega | (simp; done) | (simp; omega)) (by first | rfl | omega | (simp; done) | (simp; omega)) (by kernel_rfl) rfl (by kernel_rfl) ow955 (Bx.srcR (l := ([gI (gL fr (gI op 0)) q] : List Int)) bx943 rfl) (by simp only [List.length_cons, List.length_nil]; omega) (by simp only [List.length_cons, List.length_nil]; omega)) ?_
          rintro d_ v_ w960 ⟨rfl, A957, c958, ha959⟩
          obtain rfl := ha959.val
          have g962 := ha959.gr
          refine ⟨_, rfl, fun act964 f963 => ?_⟩
          clear f939
          clear bx943
          have ow965 := ha959.own (Sx (w628.heap.size) [obk (A_309), obk (A_730), obk (A_732)]) (fun g _ hs => ⟨hs.2.1, hs.2.2.1, hs.2.2.2.1, hs.2.2.2.2⟩) ⟨ow951.ne_new, ow952.ne_new, ow953.ne_new, (show w628.heap.size ≤ w937.heap.size by omega)⟩
          have szw960 := g962.size
          have e966 := e944.gr g962 (fun k hk => by have := ow955.ge k hk; omega)
          clear e944
          have r967 := r945.gr g962 (fun k hk => by have := ow955.ge k hk; omega)
          clear r945
          have r968 := r946.gr g962 (fun k hk => by have := ow955.ge k hk; omega)
          clear r946
          have bx969 := bx947.gr g962 (fun e => by have := ow955.ge _ e; omega)
          clear bx947
          have bx970 := bx948.gr g962 (fun e => by have := ow955.ge _ e; omega)
          clear bx948
          have bx971 := bx949.gr g962 (fun e => by have := ow955.ge _ e; omega)
          clear bx949
          have bx972 := bx950.gr g962 (fun e => by have := ow955.ge _ e; omega)
          clear bx950
          have ow973 : OwnLL w960 (w235.heap.size) [some (w917.heap.size), obk (A957), some (w597.heap.size), obk (A_732), obk (A_730)] A_309 c_310 22 3 (fr : List (List Int)) := ow951.grA g962 (fun k hk => hk.2.1) (fun k hk hs => ⟨hs.1, own_repl ha959.at_ hs.2.1 hk, hs.2.2.1, hs.2.2.2.1, hs.2.2.2.2.1, hs.2.2.2.2.2⟩)
          clear ow951
          have ow974 : OwnR w960 (Sx (w247.heap.size) [some (w917.heap.size), obk (A957), some (w597.heap.size), obk (A_732), obk (A_309)]) A_730 c_731 3 ((lf4).set (gI (gL fr (gI op 0)) q : Int).toNat ((gI lf4 (gI (gL fr (gI op 0)) q)) - 1) : List Int) := ow952.grA g962 (fun k hk => hk.2.1) (fun k hk hs => ⟨hs.1, own_repl ha959.at_ hs.2.1 hk, hs.2.2.1, hs.2.2.2.1, hs.2.2.2.2.1, hs.2.2.2.2.2⟩)
          clear ow952
          have ow975 : OwnR w960 (Sx (w267.heap.size) [some (w917.heap.size), obk (A957), some (w597.heap.size), obk (A_309), obk (A_730)]) A_732 c_733 3 ((ms4).set (gI (gL fr (gI op 0)) q : Int).toNat (gI op 0) : List Int) := ow953.grA g962 (fun k hk => hk.2.1) (fun k hk hs => ⟨hs.1, own_repl ha959.at_ hs.2.1 hk, hs.2.2.1, hs.2.2.2.1, hs.2.2.2.2.1, hs.2.2.2.2.2⟩)
          clear ow953
          have bx976 := bx954.gr g962 (fun e => by have := ow955.ge _ e; omega)
          clear bx954
          have ow977 : OwnR w960 (Sx (w235.heap.size) [some (w917.heap.size), obk (A_309), obk (A957), some (w597.heap.size), obk (A_732), obk (A_730)]) R720 C721 3 (gL fr (gI op 0) : List Int) := ow956.grA g962 (fun k hk => hk.2.2.1) (fun k hk hs => ⟨hs.1, hs.2.1, own_repl ha959.at_ hs.2.2.1 hk, hs.2.2.2.1, hs.2.2.2.2.1, hs.2.2.2.2.2.1, hs.2.2.2.2.2.2⟩)
          clear ow956
          clear ow955 g962 ha959
          refine At.rd f963 1 [[]] [(20, .slice A957 ((op4 ++ ([gI (gL fr (gI op 0)) q])).length) c958)] [] (by kernel_rfl) trivial (fun act979 f978 => ?_)
          clear f963
          refine At.done rfl ?_
          refine b_n ?_
          refine t_n ?_
          have f980 := f978.sub (r := [(20, .slice A957 ((op4 ++ ([gI (gL fr (gI op 0)) q])).length) c958), (140, .bool (decide ((gI ((lf4).set (gI (gL fr (gI op 0)) q : Int).toNat ((gI lf4 (gI (gL fr (gI op 0)) q)) - 1)) (gI (gL fr (gI op 0)) q) : Int) > 0))), (139, .bool (decide ((gI ((lf4).set (gI (gL fr (gI op 0)) q : Int).toNat ((gI lf4 (gI (gL fr (gI op 0)) q)) - 1)) (gI (gL fr (gI op 0)) q) : Int) > 0))), (138, .int .i64 (gI ((lf4).set (gI (gL fr (gI op 0)) q : Int).toNat ((gI lf4 (gI (gL fr (gI op 0)) q)) - 1)) (gI (gL fr (gI op 0)) q))), (137, .pointer (some (ad845.add ((gI (gL fr (gI op 0)) q : Int).toNat * 1)))), (136, .int .i64 (gI (gL fr (gI op 0)) q)), (135, .slice A_730 lf4.length c_731), (134, .bool true), (133, .bool ((gI g.ow (gI (gL fr (gI op 0)) q) : Int) != p)), (132, .int .i64 (p)), (131, .int .i64 (gI g.ow (gI (gL fr (gI op 0)) q))), (130, .pointer (some (ad840.add ((gI (gL fr (gI op 0)) q : Int).toNat * 1)))), (129, .int .i64 (gI (gL fr (gI op 0)) q)), (128, .slice Ag0 g.ow.length cg0), (127, .pointer (some ⟨w.heap.size, 0, none⟩)), (113, .int .i64 (q)), (112, .int .i64 ((((gL fr (gI op 0)).length : Nat) : Int))), (111, .slice R720 ((gL fr (gI op 0)).length) C721), (21, .int .i64 (gI op 0)), (19, .pointer (some ⟨w597.heap.size, 0, none⟩)), (15, .slice A_732 ms4.length c_733), (14, .slice A_730 lf4.length c_731), (13, .slice A_309 fr.length c_310), (8, .pointer (some ⟨w22.heap.size, 0, none⟩)), (4, .pointer (some ⟨w.heap.size, 0, none⟩)), (2, .int .i64 (p))]) ⟨rfl, rfl, rfl, rfl, rfl, rfl, rfl, rfl, rfl, rfl, rfl, rfl, rfl, rfl, rfl, rfl, rfl, rfl, rfl, rfl, rfl, rfl, rfl, rfl, rfl, rfl, trivial⟩
          clear f978
          refine At.start ?_
          refine At.rd f980 2 [[.as_ (.int .i64 (q + 1))], []] [(113, .int .i64 (q + 1)), (160, .int .i64 (q + 1))] [((.int .i64 (IntKind.i64.wrap (q + 1)) : Value) = .int .i64 (q + 1))] (by kernel_rfl) ⟨(w64 (by omega) (by omega)), trivial⟩ (fun act982 f981 => ?_)
          clear f980
          refine At.done rfl ?_
          refine t_n ?_
          have f983 := f981.as 20 (.slice A957 ((op4 ++ ([gI (gL fr (gI op 0)) q])).length) c958) (.slice A957 ((op4 ++ ([gI (gL fr (gI op 0)) q]) : List Int).length) c958) rfl (slice_len (by first | rfl | omega | (simp; done) | (simp; omega)))
          clear f981
          have f984 := f983.as 15 (.slice A_732 ms4.length c_733) (.slice A_732 (((ms4).set (gI (gL fr (gI op 0)) q : Int).toNat (gI op 0) : List Int).length) c_733) rfl (slice_len (by first | rfl | omega | (simp; done) | (simp; omega)))
          clear f983
          have f985 := f984.as 14 (.slice A_730 lf4.length c_731) (.slice A_730 (((lf4).set (gI (gL fr (gI op 0)) q : Int).toNat ((gI lf4 (gI (gL fr (gI op 0)) q)) - 1) : List Int).length) c_731) rfl (slice_len (by first | rfl | omega | (simp; done) | (simp; omega)))
          clear f984
          have f986 := f985.sub (r := [(20, .slice A957 ((op4 ++ ([gI (gL fr (gI op 0)) q]) : List Int).length) c958), (113, .int .i64 (q + 1)), (112, .int .i64 ((((gL fr (gI op 0)).length : Nat) : Int))), (111, .slice R720 ((gL fr (gI op 0)).length) C721), (21, .int .i64 (gI op 0)), (19, .pointer (some ⟨w597.heap.size, 0, none⟩)), (15, .slice A_732 (((ms4).set (gI (gL fr (gI op 0)) q : Int).toNat (gI op 0) : List Int).length) c_733), (14, .slice A_730 (((lf4).set (gI (gL fr (gI op 0)) q : Int).toNat ((gI lf4 (gI (gL fr (gI op 0)) q)) - 1) : List Int).length) c_731), (13, .slice A_309 fr.length c_310), (8, .pointer (some ⟨w22.heap.size, 0, none⟩)), (4, .pointer (some ⟨w.heap.size, 0, none⟩)), (2, .int .i64 (p))]) ⟨rfl, rfl, rfl, rfl, rfl, rfl, rfl, rfl, rfl, rfl, rfl, rfl, trivial⟩
          exact ⟨_, (by omega), (q + 1), withW ss2 (gI (gL fr (gI op 0)) q), ((lf4).set (gI (gL fr (gI op 0)) q : Int).toNat ((gI lf4 (gI (gL fr (gI op 0)) q)) - 1) : List Int), A_730, c_731, ((ms4).set (gI (gL fr (gI op 0)) q : Int).toNat (gI op 0) : List Int), A_732, c_733, (op4 ++ ([gI (gL fr (gI op 0)) q]) : List Int), A957, c958, rfl, f986, e966, r967, r968, bx969, bx970, bx971, bx972, (ow973.imp (fun g _ hs => ⟨hs.2.1, hs.2.2.1, hs.2.2.2.1, hs.2.2.2.2.1, hs.2.2.2.2.2⟩)), (ow974.imp (fun g _ hs => ⟨hs.2.1, hs.2.2.1, hs.2.2.2.1, hs.2.2.2.2.1, hs.2.2.2.2.2⟩)), (ow975.imp (fun g _ hs => ⟨hs.2.1, hs.2.2.1, hs.2.2.2.1, hs.2.2.2.2.1, hs.2.2.2.2.2⟩)), bx976, ow965, (ow977.imp (fun g _ hs => ⟨hs.2.1, hs.2.2.1, hs.2.2.2.1, hs.2.2.2.2.1, hs.2.2.2.2.2.1, hs.2.2.2.2.2.2⟩)), (by omega), (by omega), (okW_with hok2), ⟨tl ++ [gI (gL fr (gI op 0)) q], by rw [hop4]; rfl, by rw [from_with hok2]; exact aw_add hG hnd (from_len _) hwi hil hnr (by rw [← has_W (by omega) (by omega)]; assumption) (by omega) (.inl ⟨by omega, rfl⟩)⟩, (by have hlw := len_with (n := gI (gL fr (gI op 0)) q) (m := 1) hok2 (if_pos ⟨by omega, by omega, by assumption⟩).symm; rw [List.length_append]; simp only [List.length_singleton]; omega), (okW_with hok2).1, (by omega), (by omega), (by omega), (by omega)⟩
         ·have q987 := ne_of_beq_false h870
          refine wp_skip ?_
          refine t_n ?_
          have f988 := f869.sub (r := [(140, .bool (decide ((gI ((lf4).set (gI (gL fr (gI op 0)) q : Int).toNat ((gI lf4 (gI (gL fr (gI op 0)) q)) - 1)) (gI (gL fr (gI op 0)) q) : Int) > 0))), (139, .bool (decide ((gI ((lf4).set (gI (gL fr (gI op 0)) q : Int).toNat ((gI lf4 (gI (gL fr (gI op 0)) q)) - 1)) (gI (gL fr (gI op 0)) q) : Int) > 0))), (138, .int .i64 (gI ((lf4).set (gI (gL fr (gI op 0)) q : Int).toNat ((gI lf4 (gI (gL fr (gI op 0)) q)) - 1)) (gI (gL fr (gI op 0)) q))), (137, .pointer (some (ad845.add ((gI (gL fr (gI op 0)) q : Int).toNat * 1)))), (136, .int .i64 (gI (gL fr (gI op 0)) q)), (135, .slice A_730 lf4.length c_731), (134, .bool true), (133, .bool ((gI g.ow (gI (gL fr (gI op 0)) q) : Int) != p)), (132, .int .i64 (p)), (131, .int .i64 (gI g.ow (gI (gL fr (gI op 0)) q))), (130, .pointer (some (ad840.add ((gI (gL fr (gI op 0)) q : Int).toNat * 1)))), (129, .int .i64 (gI (gL fr (gI op 0)) q)), (128, .slice Ag0 g.ow.length cg0), (127, .pointer (some ⟨w.heap.size, 0, none⟩)), (23, .int .i64 (gI (gL fr (gI op 0)) q)), (20, .slice A_734 op4.length c_735), (113, .int .i64 (q)), (112, .int .i64 ((((gL fr (gI op 0)).length : Nat) : Int))), (111, .slice R720 ((gL fr (gI op 0)).length) C721), (21, .int .i64 (gI op 0)), (19, .pointer (some ⟨w597.heap.size, 0, none⟩)), (15, .slice A_732 ms4.length c_733), (14, .slice A_730 lf4.length c_731), (13, .slice A_309 fr.length c_310), (8, .pointer (some ⟨w22.heap.size, 0, none⟩)), (4, .pointer (some ⟨w.heap.size, 0, none⟩)), (2, .int .i64 (p))]) ⟨rfl, rfl, rfl, rfl, rfl, rfl, rfl, rfl, rfl, rfl, rfl, rfl, rfl, rfl, rfl, rfl, rfl, rfl, rfl, rfl, rfl, rfl, rfl, rfl, rfl, rfl, rfl, trivial⟩
          clear f869
          refine wp_seq ?_
          refine At.start ?_
          refine At.rd f988 2 [[.cs ((ss2 : List Int).map wV)], []] [(154, .int .i64 (gI (gL fr (gI op 0)) q)), (153, .agg ((ss2 : List Int).map wV).toArray)] [(((ss2 : List Int).map wV).length = 4), (∀ (j : Nat) (v : Value), ((ss2 : List Int).map wV)[j]? = some v → w810.cell? ((⟨w597.heap.size, 0, none⟩ : Addr).add j) = some v)] (by kernel_rfl) ⟨(by simp only [List.length_map, List.length_set, List.length_replicate, List.length_cons, List.length_nil]; first | done | assumption | exact from_len _ | exact of_len _ | exact ofZ_len _ | exact (ofW_ok _).1 | exact (fullW_W _).1 | exact (okW_with (by assumption)).1 | exact (okW_less (by assumption)).1 | exact put_len (from_len _) | exact orD_len _ _ | exact andD_len _ _ | exact minusD_len _ _ | exact fullD_len _ | (refine okLen ?_; (repeat (first | assumption | exact ofW_ok _ | exact fullW_W _ | apply okW_with | apply okW_less | refine okW_orS ?_ ?_ | refine okW_andS ?_ ?_ | refine okW_minusS ?_ ?_)); done) | omega | rfl), bx824.whole, trivial⟩ (fun act990 f989 => ?_)
          clear f988
          refine At.call f989 27 #[.agg ((ss2 : List Int).map wV).toArray, .int .i64 (gI (gL fr (gI op 0)) q)] (some 155) (by kernel_rfl) (with_any (s := ss2) (n := gI (gL fr (gI op 0)) q) (by repeat (first | assumption | exact ofW_ok _ | exact fullW_W _ | exact wordsD_W _ | exact okW_0 | exact okW_00 | apply okW_orS | apply okW_andS | apply okW_minusS | apply okW_with | apply okW_less | apply okW_or | apply okW_and | apply okW_minus | (apply okW_lit <;> exact ⟨by omega, by omega⟩)))) ?_
          rintro e_ w991 ⟨rfl, he⟩
          refine ⟨_, rfl, _, rfl, fun act992 f993 => ?_⟩
          clear f989
          have g994 := gr_ext he
          have szw991 := g994.size
          have e995 := e814.gr g994 no_row
          clear e814
          have r996 := r815.gr g994 (fun _ h => by cases h)
          clear r815
          have r997 := r816.gr g994 (fun _ h => by cases h)
          clear r816
          have bx998 := bx817.gr g994 (by simp)
          clear bx817
          have bx999 := bx818.gr g994 (by simp)
          clear bx818
          have bx1000 := bx819.gr g994 (by simp)
          clear bx819
          have bx1001 := bx820.gr g994 (by simp)
          clear bx820
          have ow1002 := ow821.gr g994 (fun _ _ h => by cases h)
          clear ow821
          have ow1003 := ow822.gr g994 (fun _ _ h => by cases h)
          clear ow822
          have ow1004 := ow823.gr g994 (fun _ _ h => by cases h)
          clear ow823
          have bx1005 := bx824.gr g994 (by simp)
          clear bx824
          have ow1006 := ow825.gr g994 (fun _ _ h => by cases h)
          clear ow825
          have ow1007 := ow826.gr g994 (fun _ _ h => by cases h)
          clear ow826
          clear g994 he
          refine At.act f993 (storeBlk (t := 28) (b := w597.heap.size) (n := 4) (cs' := ((withW ss2 (gI (gL fr (gI op 0)) q) : List Int).map wV)) (by kernel_rfl) (by kernel_rfl) ((List.length_map _).trans (okLen (okW_with (by assumption)))) oneW_ ((show ((withW ss2 (gI (gL fr (gI op 0)) q) : List Int).map wV).length = 4 from ((List.length_map _).trans (okLen (okW_with (by assumption))))).trans (show ((ss2 : List Int).map wV).length = 4 from (by simp only [List.length_map, List.length_set, List.length_replicate, List.length_cons, List.length_nil]; first | done | assumption | exact from_len _ | exact of_len _ | exact ofZ_len _ | exact (ofW_ok _).1 | exact (fullW_W _).1 | exact (okW_with (by assumption)).1 | exact (okW_less (by assumption)).1 | exact put_len (from_len _) | exact orD_len _ _ | exact andD_len _ _ | exact minusD_len _ _ | exact fullD_len _ | (refine okLen ?_; (repeat (first | assumption | exact ofW_ok _ | exact fullW_W _ | apply okW_with | apply okW_less | refine okW_orS ?_ ?_ | refine okW_andS ?_ ?_ | refine okW_minusS ?_ ?_)); done) | omega | rfl)).symm) bx1005) ?_
          rintro d_ v_ w1008 ⟨rfl, g1009, bx1010⟩
          refine ⟨_, rfl, fun act1012 f1011 => ?_⟩
          clear f993
          have szw1008 := g1009.size
          have e1013 := e995.gr g1009 (fun k h => by injection h; omega)
          clear e995
          have r1014 := r996.gr g1009 (fun k h => by injection h; omega)
          clear r996
          have r1015 := r997.gr g1009 (fun k h => by injection h; omega)
          clear r997
          have bx1016 := bx998.gr g1009 (fun h => by injection h; omega)
          clear bx998
          have bx1017 := bx999.gr g1009 (fun h => by injection h; omega)
          clear bx999
          have bx1018 := bx1000.gr g1009 (fun h => by injection h; omega)
          clear bx1000
          have bx1019 := bx1001.gr g1009 (fun h => by injection h; omega)
          clear bx1001
          have ow1020 := ow1002.gr g1009 (fun k hk => hk.2.1)
          clear ow1002
          have ow1021 := ow1003.gr g1009 (fun k hk => hk.2.1)
          clear ow1003
          have ow1022 := ow1004.gr g1009 (fun k hk => hk.2.1)
          clear ow1004
          have ow1023 := ow1006.gr g1009 (fun k hk e => by have := Sx_base hk; injection e; omega)
          clear ow1006
          have ow1024 := ow1007.gr g1009 (fun k hk => hk.2.2.1)
          clear ow1007
          clear bx1005 g1009
          refine At.done rfl ?_
          refine t_n ?_
          have f1025 := f1011.sub (r := [(140, .bool (decide ((gI ((lf4).set (gI (gL fr (gI op 0)) q : Int).toNat ((gI lf4 (gI (gL fr (gI op 0)) q)) - 1)) (gI (gL fr (gI op 0)) q) : Int) > 0))), (139, .bool (decide ((gI ((lf4).set (gI (gL fr (gI op 0)) q : Int).toNat ((gI lf4 (gI (gL fr (gI op 0)) q)) - 1)) (gI (gL fr (gI op 0)) q) : Int) > 0))), (138, .int .i64 (gI ((lf4).set (gI (gL fr (gI op 0)) q : Int).toNat ((gI lf4 (gI (gL fr (gI op 0)) q)) - 1)) (gI (gL fr (gI op 0)) q))), (137, .pointer (some (ad845.add ((gI (gL fr (gI op 0)) q : Int).toNat * 1)))), (136, .int .i64 (gI (gL fr (gI op 0)) q)), (135, .slice A_730 lf4.length c_731), (134, .bool true), (133, .bool ((gI g.ow (gI (gL fr (gI op 0)) q) : Int) != p)), (132, .int .i64 (p)), (131, .int .i64 (gI g.ow (gI (gL fr (gI op 0)) q))), (130, .pointer (some (ad840.add ((gI (gL fr (gI op 0)) q : Int).toNat * 1)))), (129, .int .i64 (gI (gL fr (gI op 0)) q)), (128, .slice Ag0 g.ow.length cg0), (127, .pointer (some ⟨w.heap.size, 0, none⟩)), (23, .int .i64 (gI (gL fr (gI op 0)) q)), (20, .slice A_734 op4.length c_735), (113, .int .i64 (q)), (112, .int .i64 ((((gL fr (gI op 0)).length : Nat) : Int))), (111, .slice R720 ((gL fr (gI op 0)).length) C721), (21, .int .i64 (gI op 0)), (19, .pointer (some ⟨w597.heap.size, 0, none⟩)), (15, .slice A_732 ms4.length c_733), (14, .slice A_730 lf4.length c_731), (13, .slice A_309 fr.length c_310), (8, .pointer (some ⟨w22.heap.size, 0, none⟩)), (4, .pointer (some ⟨w.heap.size, 0, none⟩)), (2, .int .i64 (p))]) ⟨rfl, rfl, rfl, rfl, rfl, rfl, rfl, rfl, rfl, rfl, rfl, rfl, rfl, rfl, rfl, rfl, rfl, rfl, rfl, rfl, rfl, rfl, rfl, rfl, rfl, rfl, rfl, trivial⟩
          clear f1011
          refine At.start ?_
          refine At.rd f1025 2 [[], []] [(157, .int .i64 (gI (gL fr (gI op 0)) q)), (156, .slice A_734 op4.length c_735)] [] (by kernel_rfl) trivial (fun act1027 f1026 => ?_)
          clear f1025
          refine At.seq f1026 1 [[]] [(158, .slice (some ⟨w1008.heap.size, 0, none⟩) 1 1)] (w1008.alloc (.cells #[.int .i64 (gI (gL fr (gI op 0)) q)] 3 (0, 0))) [] (by kernel_rfl) trivial (fun act1031 w1028 hw1029 f1030 => ?_)
          clear f1026
          have g1032 := gr_alloc hw1029
          have szw1028 := g1032.size
          have e1035 := e1013.gr g1032 no_row
          clear e1013
          have r1036 := r1014.gr g1032 (fun _ h => by cases h)
          clear r1014
          have r1037 := r1015.gr g1032 (fun _ h => by cases h)
          clear r1015
          have bx1038 := bx1016.gr g1032 (by simp)
          clear bx1016
          have bx1039 := bx1017.gr g1032 (by simp)
          clear bx1017
          have bx1040 := bx1018.gr g1032 (by simp)
          clear bx1018
          have bx1041 := bx1019.gr g1032 (by simp)
          clear bx1019
          have ow1042 : OwnLL w1028 (w235.heap.size) [some (w1008.heap.size), obk (A_734), some (w597.heap.size), obk (A_732), obk (A_730)] A_309 c_310 22 3 (fr : List (List Int)) := ow1020.grA g1032 (fun _ _ h => by cases h) (fun k hk hs => ⟨(fun e => by injection e; omega), hs.1, hs.2.1, hs.2.2.1, hs.2.2.2.1, hs.2.2.2.2⟩)
          clear ow1020
          have ow1043 : OwnR w1028 (Sx (w247.heap.size) [some (w1008.heap.size), obk (A_734), some (w597.heap.size), obk (A_732), obk (A_309)]) A_730 c_731 3 ((lf4).set (gI (gL fr (gI op 0)) q : Int).toNat ((gI lf4 (gI (gL fr (gI op 0)) q)) - 1) : List Int) := ow1021.grA g1032 (fun _ _ h => by cases h) (fun k hk hs => ⟨(fun e => by injection e; omega), hs.1, hs.2.1, hs.2.2.1, hs.2.2.2.1, hs.2.2.2.2⟩)
          clear ow1021
          have ow1044 : OwnR w1028 (Sx (w267.heap.size) [some (w1008.heap.size), obk (A_734), some (w597.heap.size), obk (A_309), obk (A_730)]) A_732 c_733 3 (ms4 : List Int) := ow1022.grA g1032 (fun _ _ h => by cases h) (fun k hk hs => ⟨(fun e => by injection e; omega), hs.1, hs.2.1, hs.2.2.1, hs.2.2.2.1, hs.2.2.2.2⟩)
          clear ow1022
          have bx1045 := bx1010.gr g1032 (by simp)
          clear bx1010
          have ow1046 : OwnR w1028 (Sx (w628.heap.size) [some (w1008.heap.size), obk (A_309), obk (A_730), obk (A_732)]) A_734 c_735 3 (op4 : List Int) := ow1023.grA g1032 (fun _ _ h => by cases h) (fun k hk hs => ⟨(fun e => by injection e; omega), hs.1, hs.2.1, hs.2.2.1, hs.2.2.2⟩)
          clear ow1023
          have ow1047 : OwnR w1028 (Sx (w235.heap.size) [some (w1008.heap.size), obk (A_309), obk (A_734), some (w597.heap.size), obk (A_732), obk (A_730)]) R720 C721 3 (gL fr (gI op 0) : List Int) := ow1024.grA g1032 (fun _ _ h => by cases h) (fun k hk hs => ⟨(fun e => by injection e; omega), hs.1, hs.2.1, hs.2.2.1, hs.2.2.2.1, hs.2.2.2.2.1, hs.2.2.2.2.2⟩)
          clear ow1024
          have bx1034 : Bx w1028 (w1008.heap.size) [.int .i64 (gI (gL fr (gI op 0)) q)] 3 := Bx.new hw1029
          have := bx1034.lt
          clear g1032 hw1029
          have hl1052 : (op4 ++ ([gI (gL fr (gI op 0)) q])).length = (op4).length + ([gI (gL fr (gI op 0)) q] : List Int).length := List.length_append
          simp only [List.length_cons, List.length_nil] at hl1052
          refine At.act f1030 (appendR (α := Int) (t := 22) (d := 159) (n := op4.length) (m := 1) (cc := 1) (xs := op4) (ys := [gI (gL fr (gI op 0)) q]) (bytes := 8) (by first | rfl | omega | (simp; done) | (simp; omega)) (by first | rfl | omega | (simp; done) | (simp; omega)) (by kernel_rfl) rfl (by kernel_rfl) ow1046 (Bx.srcR (l := ([gI (gL fr (gI op 0)) q] : List Int)) bx1034 rfl) (by simp only [List.length_cons, List.length_nil]; omega) (by simp only [List.length_cons, List.length_nil]; omega)) ?_
          rintro d_ v_ w1051 ⟨rfl, A1048, c1049, ha1050⟩
          obtain rfl := ha1050.val
          have g1053 := ha1050.gr
          refine ⟨_, rfl, fun act1055 f1054 => ?_⟩
          clear f1030
          clear bx1034
          have ow1056 := ha1050.own (Sx (w628.heap.size) [obk (A_309), obk (A_730), obk (A_732)]) (fun g _ hs => ⟨hs.2.1, hs.2.2.1, hs.2.2.2.1, hs.2.2.2.2⟩) ⟨ow1042.ne_new, ow1043.ne_new, ow1044.ne_new, (show w628.heap.size ≤ w1028.heap.size by omega)⟩
          have szw1051 := g1053.size
          have e1057 := e1035.gr g1053 (fun k hk => by have := ow1046.ge k hk; omega)
          clear e1035
          have r1058 := r1036.gr g1053 (fun k hk => by have := ow1046.ge k hk; omega)
          clear r1036
          have r1059 := r1037.gr g1053 (fun k hk => by have := ow1046.ge k hk; omega)
          clear r1037
          have bx1060 := bx1038.gr g1053 (fun e => by have := ow1046.ge _ e; omega)
          clear bx1038
          have bx1061 := bx1039.gr g1053 (fun e => by have := ow1046.ge _ e; omega)
          clear bx1039
          have bx1062 := bx1040.gr g1053 (fun e => by have := ow1046.ge _ e; omega)
          clear bx1040
          have bx1063 := bx1041.gr g1053 (fun e => by have := ow1046.ge _ e; omega)
          clear bx1041
          have ow1064 : OwnLL w1051 (w235.heap.size) [some (w1008.heap.size), obk (A1048), some (w597.heap.size), obk (A_732), obk (A_730)] A_309 c_310 22 3 (fr : List (List Int)) := ow1042.grA g1053 (fun k hk => hk.2.1) (fun k hk hs => ⟨hs.1, own_repl ha1050.at_ hs.2.1 hk, hs.2.2.1, hs.2.2.2.1, hs.2.2.2.2.1, hs.2.2.2.2.2⟩)
          clear ow1042
          have ow1065 : OwnR w1051 (Sx (w247.heap.size) [some (w1008.heap.size), obk (A1048), some (w597.heap.size), obk (A_732), obk (A_309)]) A_730 c_731 3 ((lf4).set (gI (gL fr (gI op 0)) q : Int).toNat ((gI lf4 (gI (gL fr (gI op 0)) q)) - 1) : List Int) := ow1043.grA g1053 (fun k hk => hk.2.1) (fun k hk hs => ⟨hs.1, own_repl ha1050.at_ hs.2.1 hk, hs.2.2.1, hs.2.2.2.1, hs.2.2.2.2.1, hs.2.2.2.2.2⟩)
          clear ow1043
          have ow1066 : OwnR w1051 (Sx (w267.heap.size) [some (w1008.heap.size), obk (A1048), some (w597.heap.size), obk (A_309), obk (A_730)]) A_732 c_733 3 (ms4 : List Int) := ow1044.grA g1053 (fun k hk => hk.2.1) (fun k hk hs => ⟨hs.1, own_repl ha1050.at_ hs.2.1 hk, hs.2.2.1, hs.2.2.2.1, hs.2.2.2.2.1, hs.2.2.2.2.2⟩)
          clear ow1044
          have bx1067 := bx1045.gr g1053 (fun e => by have := ow1046.ge _ e; omega)
          clear bx1045
          have ow1068 : OwnR w1051 (Sx (w235.heap.size) [some (w1008.heap.size), obk (A_309), obk (A1048), some (w597.heap.size), obk (A_732), obk (A_730)]) R720 C721 3 (gL fr (gI op 0) : List Int) := ow1047.grA g1053 (fun k hk => hk.2.2.1) (fun k hk hs => ⟨hs.1, hs.2.1, own_repl ha1050.at_ hs.2.2.1 hk, hs.2.2.2.1, hs.2.2.2.2.1, hs.2.2.2.2.2.1, hs.2.2.2.2.2.2⟩)
          clear ow1047
          clear ow1046 g1053 ha1050
          refine At.rd f1054 1 [[]] [(20, .slice A1048 ((op4 ++ ([gI (gL fr (gI op 0)) q])).length) c1049)] [] (by kernel_rfl) trivial (fun act1070 f1069 => ?_)
          clear f1054
          refine At.done rfl ?_
          refine b_n ?_
          refine t_n ?_
          have f1071 := f1069.sub (r := [(20, .slice A1048 ((op4 ++ ([gI (gL fr (gI op 0)) q])).length) c1049), (140, .bool (decide ((gI ((lf4).set (gI (gL fr (gI op 0)) q : Int).toNat ((gI lf4 (gI (gL fr (gI op 0)) q)) - 1)) (gI (gL fr (gI op 0)) q) : Int) > 0))), (139, .bool (decide ((gI ((lf4).set (gI (gL fr (gI op 0)) q : Int).toNat ((gI lf4 (gI (gL fr (gI op 0)) q)) - 1)) (gI (gL fr (gI op 0)) q) : Int) > 0))), (138, .int .i64 (gI ((lf4).set (gI (gL fr (gI op 0)) q : Int).toNat ((gI lf4 (gI (gL fr (gI op 0)) q)) - 1)) (gI (gL fr (gI op 0)) q))), (137, .pointer (some (ad845.add ((gI (gL fr (gI op 0)) q : Int).toNat * 1)))), (136, .int .i64 (gI (gL fr (gI op 0)) q)), (135, .slice A_730 lf4.length c_731), (134, .bool true), (133, .bool ((gI g.ow (gI (gL fr (gI op 0)) q) : Int) != p)), (132, .int .i64 (p)), (131, .int .i64 (gI g.ow (gI (gL fr (gI op 0)) q))), (130, .pointer (some (ad840.add ((gI (gL fr (gI op 0)) q : Int).toNat * 1)))), (129, .int .i64 (gI (gL fr (gI op 0)) q)), (128, .slice Ag0 g.ow.length cg0), (127, .pointer (some ⟨w.heap.size, 0, none⟩)), (113, .int .i64 (q)), (112, .int .i64 ((((gL fr (gI op 0)).length : Nat) : Int))), (111, .slice R720 ((gL fr (gI op 0)).length) C721), (21, .int .i64 (gI op 0)), (19, .pointer (some ⟨w597.heap.size, 0, none⟩)), (15, .slice A_732 ms4.length c_733), (14, .slice A_730 lf4.length c_731), (13, .slice A_309 fr.length c_310), (8, .pointer (some ⟨w22.heap.size, 0, none⟩)), (4, .pointer (some ⟨w.heap.size, 0, none⟩)), (2, .int .i64 (p))]) ⟨rfl, rfl, rfl, rfl, rfl, rfl, rfl, rfl, rfl, rfl, rfl, rfl, rfl, rfl, rfl, rfl, rfl, rfl, rfl, rfl, rfl, rfl, rfl, rfl, rfl, rfl, trivial⟩
          clear f1069
          refine At.start ?_
          refine At.rd f1071 2 [[.as_ (.int .i64 (q + 1))], []] [(113, .int .i64 (q + 1)), (160, .int .i64 (q + 1))] [((.int .i64 (IntKind.i64.wrap (q + 1)) : Value) = .int .i64 (q + 1))] (by kernel_rfl) ⟨(w64 (by omega) (by omega)), trivial⟩ (fun act1073 f1072 => ?_)
          clear f1071
          refine At.done rfl ?_
          refine t_n ?_
          have f1074 := f1072.as 20 (.slice A1048 ((op4 ++ ([gI (gL fr (gI op 0)) q])).length) c1049) (.slice A1048 ((op4 ++ ([gI (gL fr (gI op 0)) q]) : List Int).length) c1049) rfl (slice_len (by first | rfl | omega | (simp; done) | (simp; omega)))
          clear f1072
          have f1075 := f1074.as 15 (.slice A_732 ms4.length c_733) (.slice A_732 ((ms4 : List Int).length) c_733) rfl (slice_len (by first | rfl | omega | (simp; done) | (simp; omega)))
          clear f1074
          have f1076 := f1075.as 14 (.slice A_730 lf4.length c_731) (.slice A_730 (((lf4).set (gI (gL fr (gI op 0)) q : Int).toNat ((gI lf4 (gI (gL fr (gI op 0)) q)) - 1) : List Int).length) c_731) rfl (slice_len (by first | rfl | omega | (simp; done) | (simp; omega)))
          clear f1075
          have f1077 := f1076.sub (r := [(20, .slice A1048 ((op4 ++ ([gI (gL fr (gI op 0)) q]) : List Int).length) c1049), (113, .int .i64 (q + 1)), (112, .int .i64 ((((gL fr (gI op 0)).length : Nat) : Int))), (111, .slice R720 ((gL fr (gI op 0)).length) C721), (21, .int .i64 (gI op 0)), (19, .pointer (some ⟨w597.heap.size, 0, none⟩)), (15, .slice A_732 ((ms4 : List Int).length) c_733), (14, .slice A_730 (((lf4).set (gI (gL fr (gI op 0)) q : Int).toNat ((gI lf4 (gI (gL fr (gI op 0)) q)) - 1) : List Int).length) c_731), (13, .slice A_309 fr.length c_310), (8, .pointer (some ⟨w22.heap.size, 0, none⟩)), (4, .pointer (some ⟨w.heap.size, 0, none⟩)), (2, .int .i64 (p))]) ⟨rfl, rfl, rfl, rfl, rfl, rfl, rfl, rfl, rfl, rfl, rfl, rfl, trivial⟩
          exact ⟨_, (by omega), (q + 1), withW ss2 (gI (gL fr (gI op 0)) q), ((lf4).set (gI (gL fr (gI op 0)) q : Int).toNat ((gI lf4 (gI (gL fr (gI op 0)) q)) - 1) : List Int), A_730, c_731, (ms4 : List Int), A_732, c_733, (op4 ++ ([gI (gL fr (gI op 0)) q]) : List Int), A1048, c1049, rfl, f1077, e1057, r1058, r1059, bx1060, bx1061, bx1062, bx1063, (ow1064.imp (fun g _ hs => ⟨hs.2.1, hs.2.2.1, hs.2.2.2.1, hs.2.2.2.2.1, hs.2.2.2.2.2⟩)), (ow1065.imp (fun g _ hs => ⟨hs.2.1, hs.2.2.1, hs.2.2.2.1, hs.2.2.2.2.1, hs.2.2.2.2.2⟩)), (ow1066.imp (fun g _ hs => ⟨hs.2.1, hs.2.2.1, hs.2.2.2.1, hs.2.2.2.2.1, hs.2.2.2.2.2⟩)), bx1067, ow1056, (ow1068.imp (fun g _ hs => ⟨hs.2.1, hs.2.2.1, hs.2.2.2.1, hs.2.2.2.2.1, hs.2.2.2.2.2.1, hs.2.2.2.2.2.2⟩)), (by omega), (by omega), (okW_with hok2), ⟨tl ++ [gI (gL fr (gI op 0)) q], by rw [hop4]; rfl, by rw [from_with hok2]; exact aw_add hG hnd (from_len _) hwi hil hnr (by rw [← has_W (by omega) (by omega)]; assumption) (by omega) (.inr ⟨by omega, rfl⟩)⟩, (by have hlw := len_with (n := gI (gL fr (gI op 0)) q) (m := 1) hok2 (if_pos ⟨by omega, by omega, by assumption⟩).symm; rw [List.length_append]; simp only [List.length_singleton]; omega), (okW_with hok2).1, (by omega), (by omega), (by omega), (by omega)⟩
       ·have q1078 := bne_eq_false_iff_eq.1 h843
        refine At.rd f812 16 [[.as_ (.bool false)], [], [.ld (.slice Ag0 g.ow.length cg0)], [], [.ad ad840], [.ld (.int .i64 (gI g.ow (gI (gL fr (gI op 0)) q)))], [], [], [.as_ (.bool false)], [], [], [], [], [], [], []] [(141, .bool false), (140, .bool false), (139, undef), (138, undef), (137, undef), (136, undef), (135, undef), (134, .bool false), (133, .bool ((gI g.ow (gI (gL fr (gI op 0)) q) : Int) != p)), (132, .int .i64 (p)), (131, .int .i64 (gI g.ow (gI (gL fr (gI op 0)) q))), (130, .pointer (some (ad840.add ((gI (gL fr (gI op 0)) q : Int).toNat * 1)))), (129, .int .i64 (gI (gL fr (gI op 0)) q)), (128, .slice Ag0 g.ow.length cg0), (127, .pointer (some ⟨w.heap.size, 0, none⟩)), (126, .bool false)] [((.bool (hasW ss2 (gI (gL fr (gI op 0)) q)) : Value) = .bool false), (w810.cell? ⟨w.heap.size, 0, none⟩ = some (.slice Ag0 g.ow.length cg0)), (Ag0 = some ad840), (0 ≤ (gI (gL fr (gI op 0)) q : Int)), ((gI (gL fr (gI op 0)) q : Int) < (g.ow.length : Nat)), (w810.cell? (ad840.add ((gI (gL fr (gI op 0)) q : Int).toNat * 1)) = some (.int .i64 (gI g.ow (gI (gL fr (gI op 0)) q)))), ((.bool ((gI g.ow (gI (gL fr (gI op 0)) q) : Int) != p) : Value) = .bool false)] (by kernel_rfl) ⟨(congrArg Value.bool h827), (bx817.cell (i := 0) rfl), hA841, (by omega), (by omega), hc842, (congrArg Value.bool h843), trivial⟩ (fun act1080 f1079 => ?_)
        clear f812
        refine At.done rfl ?_
        refine t_n ?_
        have f1081 := f1079.sub (r := [(141, .bool false), (140, .bool false), (134, .bool false), (133, .bool ((gI g.ow (gI (gL fr (gI op 0)) q) : Int) != p)), (132, .int .i64 (p)), (131, .int .i64 (gI g.ow (gI (gL fr (gI op 0)) q))), (130, .pointer (some (ad840.add ((gI (gL fr (gI op 0)) q : Int).toNat * 1)))), (129, .int .i64 (gI (gL fr (gI op 0)) q)), (128, .slice Ag0 g.ow.length cg0), (127, .pointer (some ⟨w.heap.size, 0, none⟩)), (23, .int .i64 (gI (gL fr (gI op 0)) q)), (20, .slice A_734 op4.length c_735), (113, .int .i64 (q)), (112, .int .i64 ((((gL fr (gI op 0)).length : Nat) : Int))), (111, .slice R720 ((gL fr (gI op 0)).length) C721), (21, .int .i64 (gI op 0)), (19, .pointer (some ⟨w597.heap.size, 0, none⟩)), (15, .slice A_732 ms4.length c_733), (14, .slice A_730 lf4.length c_731), (13, .slice A_309 fr.length c_310), (8, .pointer (some ⟨w22.heap.size, 0, none⟩)), (4, .pointer (some ⟨w.heap.size, 0, none⟩)), (2, .int .i64 (p))]) ⟨rfl, rfl, rfl, rfl, rfl, rfl, rfl, rfl, rfl, rfl, rfl, rfl, rfl, rfl, rfl, rfl, rfl, rfl, rfl, rfl, rfl, rfl, rfl, trivial⟩
        clear f1079
        refine cond_F f1081 rfl ?_
        refine wp_skip ?_
        refine t_n ?_
        have f1082 := f1081.sub (r := [(140, .bool false), (134, .bool false), (133, .bool ((gI g.ow (gI (gL fr (gI op 0)) q) : Int) != p)), (132, .int .i64 (p)), (131, .int .i64 (gI g.ow (gI (gL fr (gI op 0)) q))), (130, .pointer (some (ad840.add ((gI (gL fr (gI op 0)) q : Int).toNat * 1)))), (129, .int .i64 (gI (gL fr (gI op 0)) q)), (128, .slice Ag0 g.ow.length cg0), (127, .pointer (some ⟨w.heap.size, 0, none⟩)), (23, .int .i64 (gI (gL fr (gI op 0)) q)), (20, .slice A_734 op4.length c_735), (113, .int .i64 (q)), (112, .int .i64 ((((gL fr (gI op 0)).length : Nat) : Int))), (111, .slice R720 ((gL fr (gI op 0)).length) C721), (21, .int .i64 (gI op 0)), (19, .pointer (some ⟨w597.heap.size, 0, none⟩)), (15, .slice A_732 ms4.length c_733), (14, .slice A_730 lf4.length c_731), (13, .slice A_309 fr.length c_310), (8, .pointer (some ⟨w22.heap.size, 0, none⟩)), (4, .pointer (some ⟨w.heap.size, 0, none⟩)), (2, .int .i64 (p))]) ⟨rfl, rfl, rfl, rfl, rfl, rfl, rfl, rfl, rfl, rfl, rfl, rfl, rfl, rfl, rfl, rfl, rfl, rfl, rfl, rfl, rfl, rfl, trivial⟩
        clear f1081
        refine wp_seq ?_
        refine wp_seq ?_
        refine At.start ?_
        obtain ⟨ad1083, hA1084, _, _, hc1085⟩ := RdI.get r815.ow (gI (gL fr (gI op 0)) q) (by omega) (by omega)
        refine At.rd f1082 7 [[], [.ld (.slice Ag0 g.ow.length cg0)], [], [.ad ad1083], [.ld (.int .i64 (gI g.ow (gI (gL fr (gI op 0)) q)))], [], []] [(148, .bool ((gI g.ow (gI (gL fr (gI op 0)) q) : Int) == p)), (147, .int .i64 (p)), (146, .int .i64 (gI g.ow (gI (gL fr (gI op 0)) q))), (145, .pointer (some (ad1083.add ((gI (gL fr (gI op 0)) q : Int).toNat * 1)))), (144, .int .i64 (gI (gL fr (gI op 0)) q)), (143, .slice Ag0 g.ow.length cg0), (142, .pointer (some ⟨w.heap.size, 0, none⟩))] [(w810.cell? ⟨w.heap.size, 0, none⟩ = some (.slice Ag0 g.ow.length cg0)), (Ag0 = some ad1083), (0 ≤ (gI (gL fr (gI op 0)) q : Int)), ((gI (gL fr (gI op 0)) q : Int) < (g.ow.length : Nat)), (w810.cell? (ad1083.add ((gI (gL fr (gI op 0)) q : Int).toNat * 1)) = some (.int .i64 (gI g.ow (gI (gL fr (gI op 0)) q))))] (by kernel_rfl) ⟨(bx817.cell (i := 0) rfl), hA1084, (by omega), (by omega), hc1085, trivial⟩ (fun act1087 f1086 => ?_)
        clear f1082
        refine At.done rfl ?_
        refine t_n ?_
        have f1088 := f1086.sub (r := [(148, .bool ((gI g.ow (gI (gL fr (gI op 0)) q) : Int) == p)), (140, .bool false), (134, .bool false), (133, .bool ((gI g.ow (gI (gL fr (gI op 0)) q) : Int) != p)), (132, .int .i64 (p)), (131, .int .i64 (gI g.ow (gI (gL fr (gI op 0)) q))), (130, .pointer (some (ad840.add ((gI (gL fr (gI op 0)) q : Int).toNat * 1)))), (129, .int .i64 (gI (gL fr (gI op 0)) q)), (128, .slice Ag0 g.ow.length cg0), (127, .pointer (some ⟨w.heap.size, 0, none⟩)), (23, .int .i64 (gI (gL fr (gI op 0)) q)), (20, .slice A_734 op4.length c_735), (113, .int .i64 (q)), (112, .int .i64 ((((gL fr (gI op 0)).length : Nat) : Int))), (111, .slice R720 ((gL fr (gI op 0)).length) C721), (21, .int .i64 (gI op 0)), (19, .pointer (some ⟨w597.heap.size, 0, none⟩)), (15, .slice A_732 ms4.length c_733), (14, .slice A_730 lf4.length c_731), (13, .slice A_309 fr.length c_310), (8, .pointer (some ⟨w22.heap.size, 0, none⟩)), (4, .pointer (some ⟨w.heap.size, 0, none⟩)), (2, .int .i64 (p))]) ⟨rfl, rfl, rfl, rfl, rfl, rfl, rfl, rfl, rfl, rfl, rfl, rfl, rfl, rfl, rfl, rfl, rfl, rfl, rfl, rfl, rfl, rfl, rfl, trivial⟩
        clear f1086
        refine cond_S f1088 (t := (gI g.ow (gI (gL fr (gI op 0)) q) : Int) == p) rfl (fun h1089 => ?_) (fun h1089 => ?_)
        ·have q1090 := eq_of_beq h1089
         refine At.start ?_
         obtain ⟨ad1091, hA1092, hb1095, hc1094, hc1093⟩ := ow823.get (gI (gL fr (gI op 0)) q) (by omega) (by omega) (sz := 1) rfl
         refine At.rd f1088 4 [[], [], [], [.ad ad1091]] [(152, .pointer (some (ad1091.add ((gI (gL fr (gI op 0)) q : Int).toNat * 1)))), (151, .int .i64 (gI op 0)), (150, .int .i64 (gI (gL fr (gI op 0)) q)), (149, .slice A_732 ms4.length c_733)] [(A_732 = some ad1091), (0 ≤ (gI (gL fr (gI op 0)) q : Int)), ((gI (gL fr (gI op 0)) q : Int) < (ms4.length : Nat))] (by kernel_rfl) ⟨hA1092, (by omega), (by omega), trivial⟩ (fun act1097 f1096 => ?_)
         clear f1088
         refine At.act f1096 (storeR (α := Int) (t := 3) (i := gI (gL fr (gI op 0)) q) (ad := ad1091) (v := .int .i64 (gI op 0)) (gI op 0) (by kernel_rfl) rfl rfl (by kernel_rfl) hA1092 ow823 (by omega) (by omega)) ?_
         rintro d_ v_ w1098 ⟨rfl, g1099, ow1100⟩
         refine ⟨_, rfl, fun act1103 f1102 => ?_⟩
         clear f1096
         have hl1101 : ((ms4).set (gI (gL fr (gI op 0)) q : Int).toNat (gI op 0)).length = (ms4).length := List.length_set
         have szw1098 := g1099.size
         have e1104 := e814.gr g1099 (fun k hk => by have := ow823.ge k hk; omega)
         clear e814
         have r1105 := r815.gr g1099 (fun k hk => by have := ow823.ge k hk; omega)
         clear r815
         have r1106 := r816.gr g1099 (fun k hk => by have := ow823.ge k hk; omega)
         clear r816
         have bx1107 := bx817.gr g1099 (fun e => by have := ow823.ge _ e; omega)
         clear bx817
         have bx1108 := bx818.gr g1099 (fun e => by have := ow823.ge _ e; omega)
         clear bx818
         have bx1109 := bx819.gr g1099 (fun e => by have := ow823.ge _ e; omega)
         clear bx819
         have bx1110 := bx820.gr g1099 (fun e => by have := ow823.ge _ e; omega)
         clear bx820
         have ow1111 := ow821.gr g1099 (fun k hk => hk.2.2.1)
         clear ow821
         have ow1112 := ow822.gr g1099 (fun k hk => hk.2.2.1)
         clear ow822
         have bx1113 := bx824.gr g1099 (ow823.neb (fun g hs => hs.2.1))
         clear bx824
         have ow1114 := ow825.gr g1099 (fun k hk => hk.2.2.1)
         clear ow825
         have ow1115 := ow826.gr g1099 (fun k hk => hk.2.2.2.1)
         clear ow826
         clear ow823 g1099
         refine At.done rfl ?_
         refine t_n ?_
         have f1116 := f1102.sub (r := [(140, .bool false), (134, .bool false), (133, .bool ((gI g.ow (gI (gL fr (gI op 0)) q) : Int) != p)), (132, .int .i64 (p)), (131, .int .i64 (gI g.ow (gI (gL fr (gI op 0)) q))), (130, .pointer (some (ad840.add ((gI (gL fr (gI op 0)) q : Int).toNat * 1)))), (129, .int .i64 (gI (gL fr (gI op 0)) q)), (128, .slice Ag0 g.ow.length cg0), (127, .pointer (some ⟨w.heap.size, 0, none⟩)), (23, .int .i64 (gI (gL fr (gI op 0)) q)), (20, .slice A_734 op4.length c_735), (113, .int .i64 (q)), (112, .int .i64 ((((gL fr (gI op 0)).length : Nat) : Int))), (111, .slice R720 ((gL fr (gI op 0)).length) C721), (21, .int .i64 (gI op 0)), (19, .pointer (some ⟨w597.heap.size, 0, none⟩)), (15, .slice A_732 ms4.length c_733), (14, .slice A_730 lf4.length c_731), (13, .slice A_309 fr.length c_310), (8, .pointer (some ⟨w22.heap.size, 0, none⟩)), (4, .pointer (some ⟨w.heap.size, 0, none⟩)), (2, .int .i64 (p))]) ⟨rfl, rfl, rfl, rfl, rfl, rfl, rfl, rfl, rfl, rfl, rfl, rfl, rfl, rfl, rfl, rfl, rfl, rfl, rfl, rfl, rfl, rfl, trivial⟩
         clear f1102
         refine wp_seq ?_
         refine At.start ?_
         refine At.rd f1116 2 [[.cs ((ss2 : List Int).map wV)], []] [(154, .int .i64 (gI (gL fr (gI op 0)) q)), (153, .agg ((ss2 : List Int).map wV).toArray)] [(((ss2 : List Int).map wV).length = 4), (∀ (j : Nat) (v : Value), ((ss2 : List Int).map wV)[j]? = some v → w1098.cell? ((⟨w597.heap.size, 0, none⟩ : Addr).add j) = some v)] (by kernel_rfl) ⟨(by simp only [List.length_map, List.length_set, List.length_replicate, List.length_cons, List.length_nil]; first | done | assumption | exact from_len _ | exact of_len _ | exact ofZ_len _ | exact (ofW_ok _).1 | exact (fullW_W _).1 | exact (okW_with (by assumption)).1 | exact (okW_less (by assumption)).1 | exact put_len (from_len _) | exact orD_len _ _ | exact andD_len _ _ | exact minusD_len _ _ | exact fullD_len _ | (refine okLen ?_; (repeat (first | assumption | exact ofW_ok _ | exact fullW_W _ | apply okW_with | apply okW_less | refine okW_orS ?_ ?_ | refine okW_andS ?_ ?_ | refine okW_minusS ?_ ?_)); done) | omega | rfl), bx1113.whole, trivial⟩ (fun act1118 f1117 => ?_)
         clear f1116
         refine At.call f1117 27 #[.agg ((ss2 : List Int).map wV).toArray, .int .i64 (gI (gL fr (gI op 0)) q)] (some 155) (by kernel_rfl) (with_any (s := ss2) (n := gI (gL fr (gI op 0)) q) (by repeat (first | assumption | exact ofW_ok _ | exact fullW_W _ | exact wordsD_W _ | exact okW_0 | exact okW_00 | apply okW_orS | apply okW_andS | apply okW_minusS | apply okW_with | apply okW_less | apply okW_or | apply okW_and | apply okW_minus | (apply okW_lit <;> exact ⟨by omega, by omega⟩)))) ?_
         rintro e_ w1119 ⟨rfl, he⟩
         refine ⟨_, rfl, _, rfl, fun act1120 f1121 => ?_⟩
         clear f1117
         have g1122 := gr_ext he
         have szw1119 := g1122.size
         have e1123 := e1104.gr g1122 no_row
         clear e1104
         have r1124 := r1105.gr g1122 (fun _ h => by cases h)
         clear r1105
         have r1125 := r1106.gr g1122 (fun _ h => by cases h)
         clear r1106
         have bx1126 := bx1107.gr g1122 (by simp)
         clear bx1107
         have bx1127 := bx1108.gr g1122 (by simp)
         clear bx1108
         have bx1128 := bx1109.gr g1122 (by simp)
         clear bx1109
         have bx1129 := bx1110.gr g1122 (by simp)
         clear bx1110
         have ow1130 := ow1111.gr g1122 (fun _ _ h => by cases h)
         clear ow1111
         have ow1131 := ow1112.gr g1122 (fun _ _ h => by cases h)
         clear ow1112
         have ow1132 := ow1100.gr g1122 (fun _ _ h => by cases h)
         clear ow1100
         have bx1133 := bx1113.gr g1122 (by simp)
         clear bx1113
         have ow1134 := ow1114.gr g1122 (fun _ _ h => by cases h)
         clear ow1114
         have ow1135 := ow1115.gr g1122 (fun _ _ h => by cases h)
         clear ow1115
         clear g1122 he
         refine At.act f1121 (storeBlk (t := 28) (b := w597.heap.size) (n := 4) (cs' := ((withW ss2 (gI (gL fr (gI op 0)) q) : List Int).map wV)) (by kernel_rfl) (by kernel_rfl) ((List.length_map _).trans (okLen (okW_with (by assumption)))) oneW_ ((show ((withW ss2 (gI (gL fr (gI op 0)) q) : List Int).map wV).length = 4 from ((List.length_map _).trans (okLen (okW_with (by assumption))))).trans (show ((ss2 : List Int).map wV).length = 4 from (by simp only [List.length_map, List.length_set, List.length_replicate, List.length_cons, List.length_nil]; first | done | assumption | exact from_len _ | exact of_len _ | exact ofZ_len _ | exact (ofW_ok _).1 | exact (fullW_W _).1 | exact (okW_with (by assumption)).1 | exact (okW_less (by assumption)).1 | exact put_len (from_len _) | exact orD_len _ _ | exact andD_len _ _ | exact minusD_len _ _ | exact fullD_len _ | (refine okLen ?_; (repeat (first | assumption | exact ofW_ok _ | exact fullW_W _ | apply okW_with | apply okW_less | refine okW_orS ?_ ?_ | refine okW_andS ?_ ?_ | refine okW_minusS ?_ ?_)); done) | omega | rfl)).symm) bx1133) ?_
         rintro d_ v_ w1136 ⟨rfl, g1137, bx1138⟩
         refine ⟨_, rfl, fun act1140 f1139 => ?_⟩
         clear f1121
         have szw1136 := g1137.size
         have e1141 := e1123.gr g1137 (fun k h => by injection h; omega)
         clear e1123
         have r1142 := r1124.gr g1137 (fun k h => by injection h; omega)
         clear r1124
         have r1143 := r1125.gr g1137 (fun k h => by injection h; omega)
         clear r1125
         have bx1144 := bx1126.gr g1137 (fun h => by injection h; omega)
         clear bx1126
         have bx1145 := bx1127.gr g1137 (fun h => by injection h; omega)
         clear bx1127
         have bx1146 := bx1128.gr g1137 (fun h => by injection h; omega)
         clear bx1128
         have bx1147 := bx1129.gr g1137 (fun h => by injection h; omega)
         clear bx1129
         have ow1148 := ow1130.gr g1137 (fun k hk => hk.2.1)
         clear ow1130
         have ow1149 := ow1131.gr g1137 (fun k hk => hk.2.1)
         clear ow1131
         have ow1150 := ow1132.gr g1137 (fun k hk => hk.2.1)
         clear ow1132
         have ow1151 := ow1134.gr g1137 (fun k hk e => by have := Sx_base hk; injection e; omega)
         clear ow1134
         have ow1152 := ow1135.gr g1137 (fun k hk => hk.2.2.1)
         clear ow1135
         clear bx1133 g1137
         refine At.done rfl ?_
         refine t_n ?_
         have f1153 := f1139.sub (r := [(140, .bool false), (134, .bool false), (133, .bool ((gI g.ow (gI (gL fr (gI op 0)) q) : Int) != p)), (132, .int .i64 (p)), (131, .int .i64 (gI g.ow (gI (gL fr (gI op 0)) q))), (130, .pointer (some (ad840.add ((gI (gL fr (gI op 0)) q : Int).toNat * 1)))), (129, .int .i64 (gI (gL fr (gI op 0)) q)), (128, .slice Ag0 g.ow.length cg0), (127, .pointer (some ⟨w.heap.size, 0, none⟩)), (23, .int .i64 (gI (gL fr (gI op 0)) q)), (20, .slice A_734 op4.length c_735), (113, .int .i64 (q)), (112, .int .i64 ((((gL fr (gI op 0)).length : Nat) : Int))), (111, .slice R720 ((gL fr (gI op 0)).length) C721), (21, .int .i64 (gI op 0)), (19, .pointer (some ⟨w597.heap.size, 0, none⟩)), (15, .slice A_732 ms4.length c_733), (14, .slice A_730 lf4.length c_731), (13, .slice A_309 fr.length c_310), (8, .pointer (some ⟨w22.heap.size, 0, none⟩)), (4, .pointer (some ⟨w.heap.size, 0, none⟩)), (2, .int .i64 (p))]) ⟨rfl, rfl, rfl, rfl, rfl, rfl, rfl, rfl, rfl, rfl, rfl, rfl, rfl, rfl, rfl, rfl, rfl, rfl, rfl, rfl, rfl, rfl, trivial⟩
         clear f1139
         refine At.start ?_
         refine At.rd f1153 2 [[], []] [(157, .int .i64 (gI (gL fr (gI op 0)) q)), (156, .slice A_734 op4.length c_735)] [] (by kernel_rfl) trivial (fun act1155 f1154 => ?_)
         clear f1153
         refine At.seq f1154 1 [[]] [(158, .slice (some ⟨w1136.heap.size, 0, none⟩) 1 1)] (w1136.alloc (.cells #[.int .i64 (gI (gL fr (gI op 0)) q)] 3 (0, 0))) [] (by kernel_rfl) trivial (fun act1159 w1156 hw1157 f1158 => ?_)
         clear f1154
         have g1160 := gr_alloc hw1157
         have szw1156 := g1160.size
         have e1163 := e1141.gr g1160 no_row
         clear e1141
         have r1164 := r1142.gr g1160 (fun _ h => by cases h)
         clear r1142
         have r1165 := r1143.gr g1160 (fun _ h => by cases h)
         clear r1143
         have bx1166 := bx1144.gr g1160 (by simp)
         clear bx1144
         have bx1167 := bx1145.gr g1160 (by simp)
         clear bx1145
         have bx1168 := bx1146.gr g1160 (by simp)
         clear bx1146
         have bx1169 := bx1147.gr g1160 (by simp)
         clear bx1147
         have ow1170 : OwnLL w1156 (w235.heap.size) [some (w1136.heap.size), obk (A_734), some (w597.heap.size), obk (A_732), obk (A_730)] A_309 c_310 22 3 (fr : List (List Int)) := ow1148.grA g1160 (fun _ _ h => by cases h) (fun k hk hs => ⟨(fun e => by injection e; omega), hs.1, hs.2.1, hs.2.2.1, hs.2.2.2.1, hs.2.2.2.2⟩)
         clear ow1148
         have ow1171 : OwnR w1156 (Sx (w247.heap.size) [some (w1136.heap.size), obk (A_734), some (w597.heap.size), obk (A_732), obk (A_309)]) A_730 c_731 3 ((lf4).set (gI (gL fr (gI op 0)) q : Int).toNat ((gI lf4 (gI (gL fr (gI op 0)) q)) - 1) : List Int) := ow1149.grA g1160 (fun _ _ h => by cases h) (fun k hk hs => ⟨(fun e => by injection e; omega), hs.1, hs.2.1, hs.2.2.1, hs.2.2.2.1, hs.2.2.2.2⟩)
         clear ow1149
         have ow1172 : OwnR w1156 (Sx (w267.heap.size) [some (w1136.heap.size), obk (A_734), some (w597.heap.size), obk (A_309), obk (A_730)]) A_732 c_733 3 ((ms4).set (gI (gL fr (gI op 0)) q : Int).toNat (gI op 0) : List Int) := ow1150.grA g1160 (fun _ _ h => by cases h) (fun k hk hs => ⟨(fun e => by injection e; omega), hs.1, hs.2.1, hs.2.2.1, hs.2.2.2.1, hs.2.2.2.2⟩)
         clear ow1150
         have bx1173 := bx1138.gr g1160 (by simp)
         clear bx1138
         have ow1174 : OwnR w1156 (Sx (w628.heap.size) [some (w1136.heap.size), obk (A_309), obk (A_730), obk (A_732)]) A_734 c_735 3 (op4 : List Int) := ow1151.grA g1160 (fun _ _ h => by cases h) (fun k hk hs => ⟨(fun e => by injection e; omega), hs.1, hs.2.1, hs.2.2.1, hs.2.2.2⟩)
         clear ow1151
         have ow1175 : OwnR w1156 (Sx (w235.heap.size) [some (w1136.heap.size), obk (A_309), obk (A_734), some (w597.heap.size), obk (A_732), obk (A_730)]) R720 C721 3 (gL fr (gI op 0) : List Int) := ow1152.grA g1160 (fun _ _ h => by cases h) (fun k hk hs => ⟨(fun e => by injection e; omega), hs.1, hs.2.1, hs.2.2.1, hs.2.2.2.1, hs.2.2.2.2.1, hs.2.2.2.2.2⟩)
         clear ow1152
         have bx1162 : Bx w1156 (w1136.heap.size) [.int .i64 (gI (gL fr (gI op 0)) q)] 3 := Bx.new hw1157
         have := bx1162.lt
         clear g1160 hw1157
         have hl1180 : (op4 ++ ([gI (gL fr (gI op 0)) q])).length = (op4).length + ([gI (gL fr (gI op 0)) q] : List Int).length := List.length_append
         simp only [List.length_cons, List.length_nil] at hl1180
         refine At.act f1158 (appendR (α := Int) (t := 22) (d := 159) (n := op4.length) (m := 1) (cc := 1) (xs := op4) (ys := [gI (gL fr (gI op 0)) q]) (bytes := 8) (by first | rfl | omega | (simp; done) | (simp; omega)) (by first | rfl | omega | (simp; done) | (simp; omega)) (by kernel_rfl) rfl (by kernel_rfl) ow1174 (Bx.srcR (l := ([gI (gL fr (gI op 0)) q] : List Int)) bx1162 rfl) (by simp only [List.length_cons, List.length_nil]; omega) (by simp only [List.length_cons, List.length_nil]; omega)) ?_
         rintro d_ v_ w1179 ⟨rfl, A1176, c1177, ha1178⟩
         obtain rfl := ha1178.val
         have g1181 := ha1178.gr
         refine ⟨_, rfl, fun act1183 f1182 => ?_⟩
         clear f1158
         clear bx1162
         have ow1184 := ha1178.own (Sx (w628.heap.size) [obk (A_309), obk (A_730), obk (A_732)]) (fun g _ hs => ⟨hs.2.1, hs.2.2.1, hs.2.2.2.1, hs.2.2.2.2⟩) ⟨ow1170.ne_new, ow1171.ne_new, ow1172.ne_new, (show w628.heap.size ≤ w1156.heap.size by omega)⟩
         have szw1179 := g1181.size
         have e1185 := e1163.gr g1181 (fun k hk => by have := ow1174.ge k hk; omega)
         clear e1163
         have r1186 := r1164.gr g1181 (fun k hk => by have := ow1174.ge k hk; omega)
         clear r1164
         have r1187 := r1165.gr g1181 (fun k hk => by have := ow1174.ge k hk; omega)
         clear r1165
         have bx1188 := bx1166.gr g1181 (fun e => by have := ow1174.ge _ e; omega)
         clear bx1166
         have bx1189 := bx1167.gr g1181 (fun e => by have := ow1174.ge _ e; omega)
         clear bx1167
         have bx1190 := bx1168.gr g1181 (fun e => by have := ow1174.ge _ e; omega)
         clear bx1168
         have bx1191 := bx1169.gr g1181 (fun e => by have := ow1174.ge _ e; omega)
         clear bx1169
         have ow1192 : OwnLL w1179 (w235.heap.size) [some (w1136.heap.size), obk (A1176), some (w597.heap.size), obk (A_732), obk (A_730)] A_309 c_310 22 3 (fr : List (List Int)) := ow1170.grA g1181 (fun k hk => hk.2.1) (fun k hk hs => ⟨hs.1, own_repl ha1178.at_ hs.2.1 hk, hs.2.2.1, hs.2.2.2.1, hs.2.2.2.2.1, hs.2.2.2.2.2⟩)
         clear ow1170
         have ow1193 : OwnR w1179 (Sx (w247.heap.size) [some (w1136.heap.size), obk (A1176), some (w597.heap.size), obk (A_732), obk (A_309)]) A_730 c_731 3 ((lf4).set (gI (gL fr (gI op 0)) q : Int).toNat ((gI lf4 (gI (gL fr (gI op 0)) q)) - 1) : List Int) := ow1171.grA g1181 (fun k hk => hk.2.1) (fun k hk hs => ⟨hs.1, own_repl ha1178.at_ hs.2.1 hk, hs.2.2.1, hs.2.2.2.1, hs.2.2.2.2.1, hs.2.2.2.2.2⟩)
         clear ow1171
         have ow1194 : OwnR w1179 (Sx (w267.heap.size) [some (w1136.heap.size), obk (A1176), some (w597.heap.size), obk (A_309), obk (A_730)]) A_732 c_733 3 ((ms4).set (gI (gL fr (gI op 0)) q : Int).toNat (gI op 0) : List Int) := ow1172.grA g1181 (fun k hk => hk.2.1) (fun k hk hs => ⟨hs.1, own_repl ha1178.at_ hs.2.1 hk, hs.2.2.1, hs.2.2.2.1, hs.2.2.2.2.1, hs.2.2.2.2.2⟩)
         clear ow1172
         have bx1195 := bx1173.gr g1181 (fun e => by have := ow1174.ge _ e; omega)
         clear bx1173
         have ow1196 : OwnR w1179 (Sx (w235.heap.size) [some (w1136.heap.size), obk (A_309), obk (A1176), some (w597.heap.size), obk (A_732), obk (A_730)]) R720 C721 3 (gL fr (gI op 0) : List Int) := ow1175.grA g1181 (fun k hk => hk.2.2.1) (fun k hk hs => ⟨hs.1, hs.2.1, own_repl ha1178.at_ hs.2.2.1 hk, hs.2.2.2.1, hs.2.2.2.2.1, hs.2.2.2.2.2.1, hs.2.2.2.2.2.2⟩)
         clear ow1175
         clear ow1174 g1181 ha1178
         refine At.rd f1182 1 [[]] [(20, .slice A1176 ((op4 ++ ([gI (gL fr (gI op 0)) q])).length) c1177)] [] (by kernel_rfl) trivial (fun act1198 f1197 => ?_)
         clear f1182
         refine At.done rfl ?_
         refine b_n ?_
         refine t_n ?_
         have f1199 := f1197.sub (r := [(20, .slice A1176 ((op4 ++ ([gI (gL fr (gI op 0)) q])).length) c1177), (140, .bool false), (134, .bool false), (133, .bool ((gI g.ow (gI (gL fr (gI op 0)) q) : Int) != p)), (132, .int .i64 (p)), (131, .int .i64 (gI g.ow (gI (gL fr (gI op 0)) q))), (130, .pointer (some (ad840.add ((gI (gL fr (gI op 0)) q : Int).toNat * 1)))), (129, .int .i64 (gI (gL fr (gI op 0)) q)), (128, .slice Ag0 g.ow.length cg0), (127, .pointer (some ⟨w.heap.size, 0, none⟩)), (113, .int .i64 (q)), (112, .int .i64 ((((gL fr (gI op 0)).length : Nat) : Int))), (111, .slice R720 ((gL fr (gI op 0)).length) C721), (21, .int .i64 (gI op 0)), (19, .pointer (some ⟨w597.heap.size, 0, none⟩)), (15, .slice A_732 ms4.length c_733), (14, .slice A_730 lf4.length c_731), (13, .slice A_309 fr.length c_310), (8, .pointer (some ⟨w22.heap.size, 0, none⟩)), (4, .pointer (some ⟨w.heap.size, 0, none⟩)), (2, .int .i64 (p))]) ⟨rfl, rfl, rfl, rfl, rfl, rfl, rfl, rfl, rfl, rfl, rfl, rfl, rfl, rfl, rfl, rfl, rfl, rfl, rfl, rfl, rfl, trivial⟩
         clear f1197
         refine At.start ?_
         refine At.rd f1199 2 [[.as_ (.int .i64 (q + 1))], []] [(113, .int .i64 (q + 1)), (160, .int .i64 (q + 1))] [((.int .i64 (IntKind.i64.wrap (q + 1)) : Value) = .int .i64 (q + 1))] (by kernel_rfl) ⟨(w64 (by omega) (by omega)), trivial⟩ (fun act1201 f1200 => ?_)
         clear f1199
         refine At.done rfl ?_
         refine t_n ?_
         have f1202 := f1200.as 20 (.slice A1176 ((op4 ++ ([gI (gL fr (gI op 0)) q])).length) c1177) (.slice A1176 ((op4 ++ ([gI (gL fr (gI op 0)) q]) : List Int).length) c1177) rfl (slice_len (by first | rfl | omega | (simp; done) | (simp; omega)))
         clear f1200
         have f1203 := f1202.as 15 (.slice A_732 ms4.length c_733) (.slice A_732 (((ms4).set (gI (gL fr (gI op 0)) q : Int).toNat (gI op 0) : List Int).length) c_733) rfl (slice_len (by first | rfl | omega | (simp; done) | (simp; omega)))
         clear f1202
         have f1204 := f1203.as 14 (.slice A_730 lf4.length c_731) (.slice A_730 (((lf4).set (gI (gL fr (gI op 0)) q : Int).toNat ((gI lf4 (gI (gL fr (gI op 0)) q)) - 1) : List Int).length) c_731) rfl (slice_len (by first | rfl | omega | (simp; done) | (simp; omega)))
         clear f1203
         have f1205 := f1204.sub (r := [(20, .slice A1176 ((op4 ++ ([gI (gL fr (gI op 0)) q]) : List Int).length) c1177), (113, .int .i64 (q + 1)), (112, .int .i64 ((((gL fr (gI op 0)).length : Nat) : Int))), (111, .slice R720 ((gL fr (gI op 0)).length) C721), (21, .int .i64 (gI op 0)), (19, .pointer (some ⟨w597.heap.size, 0, none⟩)), (15, .slice A_732 (((ms4).set (gI (gL fr (gI op 0)) q : Int).toNat (gI op 0) : List Int).length) c_733), (14, .slice A_730 (((lf4).set (gI (gL fr (gI op 0)) q : Int).toNat ((gI lf4 (gI (gL fr (gI op 0)) q)) - 1) : List Int).length) c_731), (13, .slice A_309 fr.length c_310), (8, .pointer (some ⟨w22.heap.size, 0, none⟩)), (4, .pointer (some ⟨w.heap.size, 0, none⟩)), (2, .int .i64 (p))]) ⟨rfl, rfl, rfl, rfl, rfl, rfl, rfl, rfl, rfl, rfl, rfl, rfl, trivial⟩
         exact ⟨_, (by omega), (q + 1), withW ss2 (gI (gL fr (gI op 0)) q), ((lf4).set (gI (gL fr (gI op 0)) q : Int).toNat ((gI lf4 (gI (gL fr (gI op 0)) q)) - 1) : List Int), A_730, c_731, ((ms4).set (gI (gL fr (gI op 0)) q : Int).toNat (gI op 0) : List Int), A_732, c_733, (op4 ++ ([gI (gL fr (gI op 0)) q]) : List Int), A1176, c1177, rfl, f1205, e1185, r1186, r1187, bx1188, bx1189, bx1190, bx1191, (ow1192.imp (fun g _ hs => ⟨hs.2.1, hs.2.2.1, hs.2.2.2.1, hs.2.2.2.2.1, hs.2.2.2.2.2⟩)), (ow1193.imp (fun g _ hs => ⟨hs.2.1, hs.2.2.1, hs.2.2.2.1, hs.2.2.2.2.1, hs.2.2.2.2.2⟩)), (ow1194.imp (fun g _ hs => ⟨hs.2.1, hs.2.2.1, hs.2.2.2.1, hs.2.2.2.2.1, hs.2.2.2.2.2⟩)), bx1195, ow1184, (ow1196.imp (fun g _ hs => ⟨hs.2.1, hs.2.2.1, hs.2.2.2.1, hs.2.2.2.2.1, hs.2.2.2.2.2.1, hs.2.2.2.2.2.2⟩)), (by omega), (by omega), (okW_with hok2), ⟨tl ++ [gI (gL fr (gI op 0)) q], by rw [hop4]; rfl, by rw [from_with hok2]; exact aw_add hG hnd (from_len _) hwi hil hnr (by rw [← has_W (by omega) (by omega)]; assumption) (by omega) (.inl ⟨by omega, rfl⟩)⟩, (by have hlw := len_with (n := gI (gL fr (gI op 0)) q) (m := 1) hok2 (if_pos ⟨by omega, by omega, by assumption⟩).symm; rw [List.length_append]; simp only [List.length_singleton]; omega), (okW_with hok2).1, (by omega), (by omega), (by omega), (by omega)⟩
        ·have q1206 := ne_of_beq_false h1089
         refine wp_skip ?_
         refine t_n ?_
         have f1207 := f1088.sub (r := [(140, .bool false), (134, .bool false), (133, .bool ((gI g.ow (gI (gL fr (gI op 0)) q) : Int) != p)), (132, .int .i64 (p)), (131, .int .i64 (gI g.ow (gI (gL fr (gI op 0)) q))), (130, .pointer (some (ad840.add ((gI (gL fr (gI op 0)) q : Int).toNat * 1)))), (129, .int .i64 (gI (gL fr (gI op 0)) q)), (128, .slice Ag0 g.ow.length cg0), (127, .pointer (some ⟨w.heap.size, 0, none⟩)), (23, .int .i64 (gI (gL fr (gI op 0)) q)), (20, .slice A_734 op4.length c_735), (113, .int .i64 (q)), (112, .int .i64 ((((gL fr (gI op 0)).length : Nat) : Int))), (111, .slice R720 ((gL fr (gI op 0)).length) C721), (21, .int .i64 (gI op 0)), (19, .pointer (some ⟨w597.heap.size, 0, none⟩)), (15, .slice A_732 ms4.length c_733), (14, .slice A_730 lf4.length c_731), (13, .slice A_309 fr.length c_310), (8, .pointer (some ⟨w22.heap.size, 0, none⟩)), (4, .pointer (some ⟨w.heap.size, 0, none⟩)), (2, .int .i64 (p))]) ⟨rfl, rfl, rfl, rfl, rfl, rfl, rfl, rfl, rfl, rfl, rfl, rfl, rfl, rfl, rfl, rfl, rfl, rfl, rfl, rfl, rfl, rfl, trivial⟩
         clear f1088
         refine wp_seq ?_
         refine At.start ?_
         refine At.rd f1207 2 [[.cs ((ss2 : List Int).map wV)], []] [(154, .int .i64 (gI (gL fr (gI op 0)) q)), (153, .agg ((ss2 : List Int).map wV).toArray)] [(((ss2 : List Int).map wV).length = 4), (∀ (j : Nat) (v : Value), ((ss2 : List Int).map wV)[j]? = some v → w810.cell? ((⟨w597.heap.size, 0, none⟩ : Addr).add j) = some v)] (by kernel_rfl) ⟨(by simp only [List.length_map, List.length_set, List.length_replicate, List.length_cons, List.length_nil]; first | done | assumption | exact from_len _ | exact of_len _ | exact ofZ_len _ | exact (ofW_ok _).1 | exact (fullW_W _).1 | exact (okW_with (by assumption)).1 | exact (okW_less (by assumption)).1 | exact put_len (from_len _) | exact orD_len _ _ | exact andD_len _ _ | exact minusD_len _ _ | exact fullD_len _ | (refine okLen ?_; (repeat (first | assumption | exact ofW_ok _ | exact fullW_W _ | apply okW_with | apply okW_less | refine okW_orS ?_ ?_ | refine okW_andS ?_ ?_ | refine okW_minusS ?_ ?_)); done) | omega | rfl), bx824.whole, trivial⟩ (fun act1209 f1208 => ?_)
         clear f1207
         refine At.call f1208 27 #[.agg ((ss2 : List Int).map wV).toArray, .int .i64 (gI (gL fr (gI op 0)) q)] (some 155) (by kernel_rfl) (with_any (s := ss2) (n := gI (gL fr (gI op 0)) q) (by repeat (first | assumption | exact ofW_ok _ | exact fullW_W _ | exact wordsD_W _ | exact okW_0 | exact okW_00 | apply okW_orS | apply okW_andS | apply okW_minusS | apply okW_with | apply okW_less | apply okW_or | apply okW_and | apply okW_minus | (apply okW_lit <;> exact ⟨by omega, by omega⟩)))) ?_
         rintro e_ w1210 ⟨rfl, he⟩
         refine ⟨_, rfl, _, rfl, fun act1211 f1212 => ?_⟩
         clear f1208
         have g1213 := gr_ext he
         have szw1210 := g1213.size
         have e1214 := e814.gr g1213 no_row
         clear e814
         have r1215 := r815.gr g1213 (fun _ h => by cases h)
         clear r815
         have r1216 := r816.gr g1213 (fun _ h => by cases h)
         clear r816
         have bx1217 := bx817.gr g1213 (by simp)
         clear bx817
         have bx1218 := bx818.gr g1213 (by simp)
         clear bx818
         have bx1219 := bx819.gr g1213 (by simp)
         clear bx819
         have bx1220 := bx820.gr g1213 (by simp)
         clear bx820
         have ow1221 := ow821.gr g1213 (fun _ _ h => by cases h)
         clear ow821
         have ow1222 := ow822.gr g1213 (fun _ _ h => by cases h)
         clear ow822
         have ow1223 := ow823.gr g1213 (fun _ _ h => by cases h)
         clear ow823
         have bx1224 := bx824.gr g1213 (by simp)
         clear bx824
         have ow1225 := ow825.gr g1213 (fun _ _ h => by cases h)
         clear ow825
         have ow1226 := ow826.gr g1213 (fun _ _ h => by cases h)
         clear ow826
         clear g1213 he
         refine At.act f1212 (storeBlk (t := 28) (b := w597.heap.size) (n := 4) (cs' := ((withW ss2 (gI (gL fr (gI op 0)) q) : List Int).map wV)) (by kernel_rfl) (by kernel_rfl) ((List.length_map _).trans (okLen (okW_with (by assumption)))) oneW_ ((show ((withW ss2 (gI (gL fr (gI op 0)) q) : List Int).map wV).length = 4 from ((List.length_map _).trans (okLen (okW_with (by assumption))))).trans (show ((ss2 : List Int).map wV).length = 4 from (by simp only [List.length_map, List.length_set, List.length_replicate, List.length_cons, List.length_nil]; first | done | assumption | exact from_len _ | exact of_len _ | exact ofZ_len _ | exact (ofW_ok _).1 | exact (fullW_W _).1 | exact (okW_with (by assumption)).1 | exact (okW_less (by assumption)).1 | exact put_len (from_len _) | exact orD_len _ _ | exact andD_len _ _ | exact minusD_len _ _ | exact fullD_len _ | (refine okLen ?_; (repeat (first | assumption | exact ofW_ok _ | exact fullW_W _ | apply okW_with | apply okW_less | refine okW_orS ?_ ?_ | refine okW_andS ?_ ?_ | refine okW_minusS ?_ ?_)); done) | omega | rfl)).symm) bx1224) ?_
         rintro d_ v_ w1227 ⟨rfl, g1228, bx1229⟩
         refine ⟨_, rfl, fun act1231 f1230 => ?_⟩
         clear f1212
         have szw1227 := g1228.size
         have e1232 := e1214.gr g1228 (fun k h => by injection h; omega)
         clear e1214
         have r1233 := r1215.gr g1228 (fun k h => by injection h; omega)
         clear r1215
         have r1234 := r1216.gr g1228 (fun k h => by injection h; omega)
         clear r1216
         have bx1235 := bx1217.gr g1228 (fun h => by injection h; omega)
         clear bx1217
         have bx1236 := bx1218.gr g1228 (fun h => by injection h; omega)
         clear bx1218
         have bx1237 := bx1219.gr g1228 (fun h => by injection h; omega)
         clear bx1219
         have bx1238 := bx1220.gr g1228 (fun h => by injection h; omega)
         clear bx1220
         have ow1239 := ow1221.gr g1228 (fun k hk => hk.2.1)
         clear ow1221
         have ow1240 := ow1222.gr g1228 (fun k hk => hk.2.1)
         clear ow1222
         have ow1241 := ow1223.gr g1228 (fun k hk => hk.2.1)
         clear ow1223
         have ow1242 := ow1225.gr g1228 (fun k hk e => by have := Sx_base hk; injection e; omega)
         clear ow1225
         have ow1243 := ow1226.gr g1228 (fun k hk => hk.2.2.1)
         clear ow1226
         clear bx1224 g1228
         refine At.done rfl ?_
         refine t_n ?_
         have f1244 := f1230.sub (r := [(140, .bool false), (134, .bool false), (133, .bool ((gI g.ow (gI (gL fr (gI op 0)) q) : Int) != p)), (132, .int .i64 (p)), (131, .int .i64 (gI g.ow (gI (gL fr (gI op 0)) q))), (130, .pointer (some (ad840.add ((gI (gL fr (gI op 0)) q : Int).toNat * 1)))), (129, .int .i64 (gI (gL fr (gI op 0)) q)), (128, .slice Ag0 g.ow.length cg0), (127, .pointer (some ⟨w.heap.size, 0, none⟩)), (23, .int .i64 (gI (gL fr (gI op 0)) q)), (20, .slice A_734 op4.length c_735), (113, .int .i64 (q)), (112, .int .i64 ((((gL fr (gI op 0)).length : Nat) : Int))), (111, .slice R720 ((gL fr (gI op 0)).length) C721), (21, .int .i64 (gI op 0)), (19, .pointer (some ⟨w597.heap.size, 0, none⟩)), (15, .slice A_732 ms4.length c_733), (14, .slice A_730 lf4.length c_731), (13, .slice A_309 fr.length c_310), (8, .pointer (some ⟨w22.heap.size, 0, none⟩)), (4, .pointer (some ⟨w.heap.size, 0, none⟩)), (2, .int .i64 (p))]) ⟨rfl, rfl, rfl, rfl, rfl, rfl, rfl, rfl, rfl, rfl, rfl, rfl, rfl, rfl, rfl, rfl, rfl, rfl, rfl, rfl, rfl, rfl, trivial⟩
         clear f1230
         refine At.start ?_
         refine At.rd f1244 2 [[], []] [(157, .int .i64 (gI (gL fr (gI op 0)) q)), (156, .slice A_734 op4.length c_735)] [] (by kernel_rfl) trivial (fun act1246 f1245 => ?_)
         clear f1244
         refine At.seq f1245 1 [[]] [(158, .slice (some ⟨w1227.heap.size, 0, none⟩) 1 1)] (w1227.alloc (.cells #[.int .i64 (gI (gL fr (gI op 0)) q)] 3 (0, 0))) [] (by kernel_rfl) trivial (fun act1250 w1247 hw1248 f1249 => ?_)
         clear f1245
         have g1251 := gr_alloc hw1248
         have szw1247 := g1251.size
         have e1254 := e1232.gr g1251 no_row
         clear e1232
         have r1255 := r1233.gr g1251 (fun _ h => by cases h)
         clear r1233
         have r1256 := r1234.gr g1251 (fun _ h => by cases h)
         clear r1234
         have bx1257 := bx1235.gr g1251 (by simp)
         clear bx1235
         have bx1258 := bx1236.gr g1251 (by simp)
         clear bx1236
         have bx1259 := bx1237.gr g1251 (by simp)
         clear bx1237
         have bx1260 := bx1238.gr g1251 (by simp)
         clear bx1238
         have ow1261 : OwnLL w1247 (w235.heap.size) [some (w1227.heap.size), obk (A_734), some (w597.heap.size), obk (A_732), obk (A_730)] A_309 c_310 22 3 (fr : List (List Int)) := ow1239.grA g1251 (fun _ _ h => by cases h) (fun k hk hs => ⟨(fun e => by injection e; omega), hs.1, hs.2.1, hs.2.2.1, hs.2.2.2.1, hs.2.2.2.2⟩)
         clear ow1239
         have ow1262 : OwnR w1247 (Sx (w247.heap.size) [some (w1227.heap.size), obk (A_734), some (w597.heap.size), obk (A_732), obk (A_309)]) A_730 c_731 3 ((lf4).set (gI (gL fr (gI op 0)) q : Int).toNat ((gI lf4 (gI (gL fr (gI op 0)) q)) - 1) : List Int) := ow1240.grA g1251 (fun _ _ h => by cases h) (fun k hk hs => ⟨(fun e => by injection e; omega), hs.1, hs.2.1, hs.2.2.1, hs.2.2.2.1, hs.2.2.2.2⟩)
         clear ow1240
         have ow1263 : OwnR w1247 (Sx (w267.heap.size) [some (w1227.heap.size), obk (A_734), some (w597.heap.size), obk (A_309), obk (A_730)]) A_732 c_733 3 (ms4 : List Int) := ow1241.grA g1251 (fun _ _ h => by cases h) (fun k hk hs => ⟨(fun e => by injection e; omega), hs.1, hs.2.1, hs.2.2.1, hs.2.2.2.1, hs.2.2.2.2⟩)
         clear ow1241
         have bx1264 := bx1229.gr g1251 (by simp)
         clear bx1229
         have ow1265 : OwnR w1247 (Sx (w628.heap.size) [some (w1227.heap.size), obk (A_309), obk (A_730), obk (A_732)]) A_734 c_735 3 (op4 : List Int) := ow1242.grA g1251 (fun _ _ h => by cases h) (fun k hk hs => ⟨(fun e => by injection e; omega), hs.1, hs.2.1, hs.2.2.1, hs.2.2.2⟩)
         clear ow1242
         have ow1266 : OwnR w1247 (Sx (w235.heap.size) [some (w1227.heap.size), obk (A_309), obk (A_734), some (w597.heap.size), obk (A_732), obk (A_730)]) R720 C721 3 (gL fr (gI op 0) : List Int) := ow1243.grA g1251 (fun _ _ h => by cases h) (fun k hk hs => ⟨(fun e => by injection e; omega), hs.1, hs.2.1, hs.2.2.1, hs.2.2.2.1, hs.2.2.2.2.1, hs.2.2.2.2.2⟩)
         clear ow1243
         have bx1253 : Bx w1247 (w1227.heap.size) [.int .i64 (gI (gL fr (gI op 0)) q)] 3 := Bx.new hw1248
         have := bx1253.lt
         clear g1251 hw1248
         have hl1271 : (op4 ++ ([gI (gL fr (gI op 0)) q])).length = (op4).length + ([gI (gL fr (gI op 0)) q] : List Int).length := List.length_append
         simp only [List.length_cons, List.length_nil] at hl1271
         refine At.act f1249 (appendR (α := Int) (t := 22) (d := 159) (n := op4.length) (m := 1) (cc := 1) (xs := op4) (ys := [gI (gL fr (gI op 0)) q]) (bytes := 8) (by first | rfl | omega | (simp; done) | (simp; omega)) (by first | rfl | omega | (simp; done) | (simp; omega)) (by kernel_rfl) rfl (by kernel_rfl) ow1265 (Bx.srcR (l := ([gI (gL fr (gI op 0)) q] : List Int)) bx1253 rfl) (by simp only [List.length_cons, List.length_nil]; omega) (by simp only [List.length_cons, List.length_nil]; omega)) ?_
         rintro d_ v_ w1270 ⟨rfl, A1267, c1268, ha1269⟩
         obtain rfl := ha1269.val
         have g1272 := ha1269.gr
         refine ⟨_, rfl, fun act1274 f1273 => ?_⟩
         clear f1249
         clear bx1253
         have ow1275 := ha1269.own (Sx (w628.heap.size) [obk (A_309), obk (A_730), obk (A_732)]) (fun g _ hs => ⟨hs.2.1, hs.2.2.1, hs.2.2.2.1, hs.2.2.2.2⟩) ⟨ow1261.ne_new, ow1262.ne_new, ow1263.ne_new, (show w628.heap.size ≤ w1247.heap.size by omega)⟩
         have szw1270 := g1272.size
         have e1276 := e1254.gr g1272 (fun k hk => by have := ow1265.ge k hk; omega)
         clear e1254
         have r1277 := r1255.gr g1272 (fun k hk => by have := ow1265.ge k hk; omega)
         clear r1255
         have r1278 := r1256.gr g1272 (fun k hk => by have := ow1265.ge k hk; omega)
         clear r1256
         have bx1279 := bx1257.gr g1272 (fun e => by have := ow1265.ge _ e; omega)
         clear bx1257
         have bx1280 := bx1258.gr g1272 (fun e => by have := ow1265.ge _ e; omega)
         clear bx1258
         have bx1281 := bx1259.gr g1272 (fun e => by have := ow1265.ge _ e; omega)
         clear bx1259
         have bx1282 := bx1260.gr g1272 (fun e => by have := ow1265.ge _ e; omega)
         clear bx1260
         have ow1283 : OwnLL w1270 (w235.heap.size) [some (w1227.heap.size), obk (A1267), some (w597.heap.size), obk (A_732), obk (A_730)] A_309 c_310 22 3 (fr : List (List Int)) := ow1261.grA g1272 (fun k hk => hk.2.1) (fun k hk hs => ⟨hs.1, own_repl ha1269.at_ hs.2.1 hk, hs.2.2.1, hs.2.2.2.1, hs.2.2.2.2.1, hs.2.2.2.2.2⟩)
         clear ow1261
         have ow1284 : OwnR w1270 (Sx (w247.heap.size) [some (w1227.heap.size), obk (A1267), some (w597.heap.size), obk (A_732), obk (A_309)]) A_730 c_731 3 ((lf4).set (gI (gL fr (gI op 0)) q : Int).toNat ((gI lf4 (gI (gL fr (gI op 0)) q)) - 1) : List Int) := ow1262.grA g1272 (fun k hk => hk.2.1) (fun k hk hs => ⟨hs.1, own_repl ha1269.at_ hs.2.1 hk, hs.2.2.1, hs.2.2.2.1, hs.2.2.2.2.1, hs.2.2.2.2.2⟩)
         clear ow1262
         have ow1285 : OwnR w1270 (Sx (w267.heap.size) [some (w1227.heap.size), obk (A1267), some (w597.heap.size), obk (A_309), obk (A_730)]) A_732 c_733 3 (ms4 : List Int) := ow1263.grA g1272 (fun k hk => hk.2.1) (fun k hk hs => ⟨hs.1, own_repl ha1269.at_ hs.2.1 hk, hs.2.2.1, hs.2.2.2.1, hs.2.2.2.2.1, hs.2.2.2.2.2⟩)
         clear ow1263
         have bx1286 := bx1264.gr g1272 (fun e => by have := ow1265.ge _ e; omega)
         clear bx1264
         have ow1287 : OwnR w1270 (Sx (w235.heap.size) [some (w1227.heap.size), obk (A_309), obk (A1267), some (w597.heap.size), obk (A_732), obk (A_730)]) R720 C721 3 (gL fr (gI op 0) : List Int) := ow1266.grA g1272 (fun k hk => hk.2.2.1) (fun k hk hs => ⟨hs.1, hs.2.1, own_repl ha1269.at_ hs.2.2.1 hk, hs.2.2.2.1, hs.2.2.2.2.1, hs.2.2.2.2.2.1, hs.2.2.2.2.2.2⟩)
         clear ow1266
         clear ow1265 g1272 ha1269
         refine At.rd f1273 1 [[]] [(20, .slice A1267 ((op4 ++ ([gI (gL fr (gI op 0)) q])).length) c1268)] [] (by kernel_rfl) trivial (fun act1289 f1288 => ?_)
         clear f1273
         refine At.done rfl ?_
         refine b_n ?_
         refine t_n ?_
         have f1290 := f1288.sub (r := [(20, .slice A1267 ((op4 ++ ([gI (gL fr (gI op 0)) q])).length) c1268), (140, .bool false), (134, .bool false), (133, .bool ((gI g.ow (gI (gL fr (gI op 0)) q) : Int) != p)), (132, .int .i64 (p)), (131, .int .i64 (gI g.ow (gI (gL fr (gI op 0)) q))), (130, .pointer (some (ad840.add ((gI (gL fr (gI op 0)) q : Int).toNat * 1)))), (129, .int .i64 (gI (gL fr (gI op 0)) q)), (128, .slice Ag0 g.ow.length cg0), (127, .pointer (some ⟨w.heap.size, 0, none⟩)), (113, .int .i64 (q)), (112, .int .i64 ((((gL fr (gI op 0)).length : Nat) : Int))), (111, .slice R720 ((gL fr (gI op 0)).length) C721), (21, .int .i64 (gI op 0)), (19, .pointer (some ⟨w597.heap.size, 0, none⟩)), (15, .slice A_732 ms4.length c_733), (14, .slice A_730 lf4.length c_731), (13, .slice A_309 fr.length c_310), (8, .pointer (some ⟨w22.heap.size, 0, none⟩)), (4, .pointer (some ⟨w.heap.size, 0, none⟩)), (2, .int .i64 (p))]) ⟨rfl, rfl, rfl, rfl, rfl, rfl, rfl, rfl, rfl, rfl, rfl, rfl, rfl, rfl, rfl, rfl, rfl, rfl, rfl, rfl, rfl, trivial⟩
         clear f1288
         refine At.start ?_
         refine At.rd f1290 2 [[.as_ (.int .i64 (q + 1))], []] [(113, .int .i64 (q + 1)), (160, .int .i64 (q + 1))] [((.int .i64 (IntKind.i64.wrap (q + 1)) : Value) = .int .i64 (q + 1))] (by kernel_rfl) ⟨(w64 (by omega) (by omega)), trivial⟩ (fun act1292 f1291 => ?_)
         clear f1290
         refine At.done rfl ?_
         refine t_n ?_
         have f1293 := f1291.as 20 (.slice A1267 ((op4 ++ ([gI (gL fr (gI op 0)) q])).length) c1268) (.slice A1267 ((op4 ++ ([gI (gL fr (gI op 0)) q]) : List Int).length) c1268) rfl (slice_len (by first | rfl | omega | (simp; done) | (simp; omega)))
         clear f1291
         have f1294 := f1293.as 15 (.slice A_732 ms4.length c_733) (.slice A_732 ((ms4 : List Int).length) c_733) rfl (slice_len (by first | rfl | omega | (simp; done) | (simp; omega)))
         clear f1293
         have f1295 := f1294.as 14 (.slice A_730 lf4.length c_731) (.slice A_730 (((lf4).set (gI (gL fr (gI op 0)) q : Int).toNat ((gI lf4 (gI (gL fr (gI op 0)) q)) - 1) : List Int).length) c_731) rfl (slice_len (by first | rfl | omega | (simp; done) | (simp; omega)))
         clear f1294
         have f1296 := f1295.sub (r := [(20, .slice A1267 ((op4 ++ ([gI (gL fr (gI op 0)) q]) : List Int).length) c1268), (113, .int .i64 (q + 1)), (112, .int .i64 ((((gL fr (gI op 0)).length : Nat) : Int))), (111, .slice R720 ((gL fr (gI op 0)).length) C721), (21, .int .i64 (gI op 0)), (19, .pointer (some ⟨w597.heap.size, 0, none⟩)), (15, .slice A_732 ((ms4 : List Int).length) c_733), (14, .slice A_730 (((lf4).set (gI (gL fr (gI op 0)) q : Int).toNat ((gI lf4 (gI (gL fr (gI op 0)) q)) - 1) : List Int).length) c_731), (13, .slice A_309 fr.length c_310), (8, .pointer (some ⟨w22.heap.size, 0, none⟩)), (4, .pointer (some ⟨w.heap.size, 0, none⟩)), (2, .int .i64 (p))]) ⟨rfl, rfl, rfl, rfl, rfl, rfl, rfl, rfl, rfl, rfl, rfl, rfl, trivial⟩
         exact ⟨_, (by omega), (q + 1), withW ss2 (gI (gL fr (gI op 0)) q), ((lf4).set (gI (gL fr (gI op 0)) q : Int).toNat ((gI lf4 (gI (gL fr (gI op 0)) q)) - 1) : List Int), A_730, c_731, (ms4 : List Int), A_732, c_733, (op4 ++ ([gI (gL fr (gI op 0)) q]) : List Int), A1267, c1268, rfl, f1296, e1276, r1277, r1278, bx1279, bx1280, bx1281, bx1282, (ow1283.imp (fun g _ hs => ⟨hs.2.1, hs.2.2.1, hs.2.2.2.1, hs.2.2.2.2.1, hs.2.2.2.2.2⟩)), (ow1284.imp (fun g _ hs => ⟨hs.2.1, hs.2.2.1, hs.2.2.2.1, hs.2.2.2.2.1, hs.2.2.2.2.2⟩)), (ow1285.imp (fun g _ hs => ⟨hs.2.1, hs.2.2.1, hs.2.2.2.1, hs.2.2.2.2.1, hs.2.2.2.2.2⟩)), bx1286, ow1275, (ow1287.imp (fun g _ hs => ⟨hs.2.1, hs.2.2.1, hs.2.2.2.1, hs.2.2.2.2.1, hs.2.2.2.2.2.1, hs.2.2.2.2.2.2⟩)), (by omega), (by omega), (okW_with hok2), ⟨tl ++ [gI (gL fr (gI op 0)) q], by rw [hop4]; rfl, by rw [from_with hok2]; exact aw_add hG hnd (from_len _) hwi hil hnr (by rw [← has_W (by omega) (by omega)]; assumption) (by omega) (.inr ⟨by omega, rfl⟩)⟩, (by have hlw := len_with (n := gI (gL fr (gI op 0)) q) (m := 1) hok2 (if_pos ⟨by omega, by omega, by assumption⟩).symm; rw [List.length_append]; simp only [List.length_singleton]; omega), (okW_with hok2).1, (by omega), (by omega), (by omega), (by omega)⟩
     ·have q1297 := of_decide_eq_false h766
      refine wp_exit ?_
      refine t_e ?_
      refine t_e ?_
      refine b_e ?_
      refine b_n ?_
      refine t_n ?_
      have f1298 := f764.sub (r := [(20, .slice A_734 op4.length c_735), (19, .pointer (some ⟨w597.heap.size, 0, none⟩)), (15, .slice A_732 ms4.length c_733), (14, .slice A_730 lf4.length c_731), (13, .slice A_309 fr.length c_310), (8, .pointer (some ⟨w22.heap.size, 0, none⟩)), (4, .pointer (some ⟨w.heap.size, 0, none⟩)), (2, .int .i64 (p))]) ⟨rfl, rfl, rfl, rfl, rfl, rfl, rfl, rfl, trivial⟩
      clear f764
      obtain ⟨tl, hop4, hwi⟩ := hwi
      have hol4 := congrArg List.length hop4
      simp only [List.length_cons] at hol4
      rw [List.drop_of_length_le (by omega)] at hwi
      refine At.start ?_
      obtain ⟨A1299, hA1300⟩ : ∃ A_ : Option Addr, (if c_735 = (1 : Int).toNat then A_734 else Option.map (fun a_ : Addr => a_.add ((1 : Int).toNat * 1)) (A_734)) = A_ := ⟨_, rfl⟩
      have ow1302 := ow755.drop ((1 : Int).toNat) (by omega) (sz := 1) rfl
      rw [hA1300] at ow1302
      clear ow755
      have hb1301 : obk A1299 = obk A_734 := by rw [← hA1300]; exact obk_drop
      have : ((op4).drop (1 : Int).toNat).length = (op4).length - (1 : Int).toNat := List.length_drop
      have ow1303 : OwnLL w741 (w235.heap.size) [obk (A1299), some (w597.heap.size), obk (A_732), obk (A_730)] A_309 c_310 22 3 (fr : List (List Int)) := by rw [hb1301]; exact r751
      clear r751
      have ow1304 : OwnR w741 (Sx (w247.heap.size) [obk (A1299), some (w597.heap.size), obk (A_732), obk (A_309)]) A_730 c_731 3 (lf4 : List Int) := by rw [hb1301]; exact ow752
      clear ow752
      have ow1305 : OwnR w741 (Sx (w267.heap.size) [obk (A1299), some (w597.heap.size), obk (A_309), obk (A_730)]) A_732 c_733 3 (ms4 : List Int) := by rw [hb1301]; exact ow753
      clear ow753
      have ow1306 : OwnR w741 (Sx (w235.heap.size) [obk (A_309), obk (A1299), some (w597.heap.size), obk (A_732), obk (A_730)]) R720 C721 3 (gL fr (gI op 0) : List Int) := by rw [hb1301]; exact ow756
      clear ow756
      refine At.rd f1298 3 [[], [.as_ (.slice A1299 (((op4).drop (1 : Int).toNat).length) (c_735 - (1 : Int).toNat))], []] [(20, .slice A1299 (((op4).drop (1 : Int).toNat).length) (c_735 - (1 : Int).toNat)), (104, .slice A1299 (((op4).drop (1 : Int).toNat).length) (c_735 - (1 : Int).toNat)), (103, .slice A_734 op4.length c_735)] [(0 ≤ (1 : Int)), ((1 : Int) ≤ ((op4.length : Nat) : Int)), ((.slice (if c_735 = (1 : Int).toNat then A_734 else Option.map (fun a_ : Addr => a_.add ((1 : Int).toNat * 1)) (A_734)) (op4.length - (1 : Int).toNat) (c_735 - (1 : Int).toNat) : Value) = .slice A1299 (((op4).drop (1 : Int).toNat).length) (c_735 - (1 : Int).toNat))] (by kernel_rfl) ⟨(by omega), (by omega), (by rw [hA1300, List.length_drop]), trivial⟩ (fun act1308 f1307 => ?_)
      clear f1298
      refine At.done rfl ?_
      refine t_n ?_
      have f1309 := f1307.as 20 (.slice A1299 (((op4).drop (1 : Int).toNat).length) (c_735 - (1 : Int).toNat)) (.slice A1299 (((op4).drop (1 : Int).toNat : List Int).length) (c_735 - (1 : Int).toNat)) rfl (slice_len (by first | rfl | omega | (simp; done) | (simp; omega)))
      clear f1307
      have f1310 := f1309.as 15 (.slice A_732 ms4.length c_733) (.slice A_732 ((ms4 : List Int).length) c_733) rfl (slice_len (by first | rfl | omega | (simp; done) | (simp; omega)))
      clear f1309
      have f1311 := f1310.as 14 (.slice A_730 lf4.length c_731) (.slice A_730 ((lf4 : List Int).length) c_731) rfl (slice_len (by first | rfl | omega | (simp; done) | (simp; omega)))
      clear f1310
      have f1312 := f1311.sub (r := [(20, .slice A1299 (((op4).drop (1 : Int).toNat : List Int).length) (c_735 - (1 : Int).toNat)), (19, .pointer (some ⟨w597.heap.size, 0, none⟩)), (15, .slice A_732 ((ms4 : List Int).length) c_733), (14, .slice A_730 ((lf4 : List Int).length) c_731), (13, .slice A_309 fr.length c_310), (8, .pointer (some ⟨w22.heap.size, 0, none⟩)), (4, .pointer (some ⟨w.heap.size, 0, none⟩)), (2, .int .i64 (p))]) ⟨rfl, rfl, rfl, rfl, rfl, rfl, rfl, rfl, trivial⟩
      exact ⟨_, (by omega), ss2, (lf4 : List Int), A_730, c_731, (ms4 : List Int), A_732, c_733, ((op4).drop (1 : Int).toNat : List Int), A1299, (c_735 - (1 : Int).toNat), rfl, f1312, e742, r745, r746, bx747, bx748, bx749, bx750, ow1303, ow1304, ow1305, bx754, ow1302, hok2.1, hok2, ⟨_, by rw [hop4]; exact aw_close hwi⟩, (by omega), (by omega), (by omega), (by omega)⟩
    ·have q1313 := of_decide_eq_false h706
     refine wp_exit ?_
     refine t_e ?_
     refine t_e ?_
     refine b_e ?_
     refine t_n ?_
     have f1314 := f705.sub (r := [(19, .pointer (some ⟨w597.heap.size, 0, none⟩)), (15, .slice A_674 ms3.length c_675), (8, .pointer (some ⟨w22.heap.size, 0, none⟩))]) ⟨rfl, rfl, rfl, trivial⟩
     clear f705
     refine wp_seq ?_
     obtain ⟨pr, hw⟩ := hw
     have hnil : op = [] := List.length_eq_zero_iff.1 (by omega)
     rw [hnil] at hw
     have hend := aw_end hG hw
     refine At.start ?_
     refine At.rd f1314 2 [[.cs ((ss : List Int).map wV)], []] [(162, .slice A_674 ms3.length c_675), (161, .agg ((ss : List Int).map wV).toArray)] [(((ss : List Int).map wV).length = 4), (∀ (j : Nat) (v : Value), ((ss : List Int).map wV)[j]? = some v → w683.cell? ((⟨w597.heap.size, 0, none⟩ : Addr).add j) = some v)] (by kernel_rfl) ⟨(by simp only [List.length_map, List.length_set, List.length_replicate, List.length_cons, List.length_nil]; first | done | assumption | exact from_len _ | exact of_len _ | exact ofZ_len _ | exact (ofW_ok _).1 | exact (fullW_W _).1 | exact (okW_with (by assumption)).1 | exact (okW_less (by assumption)).1 | exact put_len (from_len _) | exact orD_len _ _ | exact andD_len _ _ | exact minusD_len _ _ | exact fullD_len _ | (refine okLen ?_; (repeat (first | assumption | exact ofW_ok _ | exact fullW_W _ | apply okW_with | apply okW_less | refine okW_orS ?_ ?_ | refine okW_andS ?_ ?_ | refine okW_minusS ?_ ?_)); done) | omega | rfl), bx696.whole, trivial⟩ (fun act1316 f1315 => ?_)
     clear f1314
     refine At.act f1315 (storeBlk (t := 28) (b := w22.heap.size) (n := 4) (cs' := ((ss : List Int).map wV)) (by kernel_rfl) (by kernel_rfl) (by simp only [List.length_map, List.length_set, List.length_replicate, List.length_cons, List.length_nil]; first | done | assumption | exact from_len _ | exact of_len _ | exact ofZ_len _ | exact (ofW_ok _).1 | exact (fullW_W _).1 | exact (okW_with (by assumption)).1 | exact (okW_less (by assumption)).1 | exact put_len (from_len _) | exact orD_len _ _ | exact andD_len _ _ | exact minusD_len _ _ | exact fullD_len _ | (refine okLen ?_; (repeat (first | assumption | exact ofW_ok _ | exact fullW_W _ | apply okW_with | apply okW_less | refine okW_orS ?_ ?_ | refine okW_andS ?_ ?_ | refine okW_minusS ?_ ?_)); done) | omega | rfl) oneW_ ((show ((ss : List Int).map wV).length = 4 from (by simp only [List.length_map, List.length_set, List.length_replicate, List.length_cons, List.length_nil]; first | done | assumption | exact from_len _ | exact of_len _ | exact ofZ_len _ | exact (ofW_ok _).1 | exact (fullW_W _).1 | exact (okW_with (by assumption)).1 | exact (okW_less (by assumption)).1 | exact put_len (from_len _) | exact orD_len _ _ | exact andD_len _ _ | exact minusD_len _ _ | exact fullD_len _ | (refine okLen ?_; (repeat (first | assumption | exact ofW_ok _ | exact fullW_W _ | apply okW_with | apply okW_less | refine okW_orS ?_ ?_ | refine okW_andS ?_ ?_ | refine okW_minusS ?_ ?_)); done) | omega | rfl)).trans (show ((List.replicate 4 (0 : Int) : List Int).map wV).length = 4 from (by simp only [List.length_map, List.length_set, List.length_replicate, List.length_cons, List.length_nil]; first | done | assumption | exact from_len _ | exact of_len _ | exact ofZ_len _ | exact (ofW_ok _).1 | exact (fullW_W _).1 | exact (okW_with (by assumption)).1 | exact (okW_less (by assumption)).1 | exact put_len (from_len _) | exact orD_len _ _ | exact andD_len _ _ | exact minusD_len _ _ | exact fullD_len _ | (refine okLen ?_; (repeat (first | assumption | exact ofW_ok _ | exact fullW_W _ | apply okW_with | apply okW_less | refine okW_orS ?_ ?_ | refine okW_andS ?_ ?_ | refine okW_minusS ?_ ?_)); done) | omega | rfl)).symm) bx692) ?_
     rintro d_ v_ w1317 ⟨rfl, g1318, bx1319⟩
     refine ⟨_, rfl, fun act1321 f1320 => ?_⟩
     clear f1315
     have szw1317 := g1318.size
     have e1322 := e684.gr g1318 (fun k h => by injection h; omega)
     clear e684
     have r1323 := r687.gr g1318 (fun k h => by injection h; omega)
     clear r687
     have r1324 := r688.gr g1318 (fun k h => by injection h; omega)
     clear r688
     have bx1325 := bx689.gr g1318 (fun h => by injection h; omega)
     clear bx689
     have bx1326 := bx690.gr g1318 (fun h => by injection h; omega)
     clear bx690
     have bx1327 := bx691.gr g1318 (fun h => by injection h; omega)
     clear bx691
     have ow1328 := r693.gr g1318 (fun k hk e => by have := Sx_base hk; injection e; omega)
     clear r693
     have ow1329 := ow694.gr g1318 (fun k hk e => by have := Sx_base hk; injection e; omega)
     clear ow694
     have ow1330 := ow695.gr g1318 (fun k hk e => by have := Sx_base hk; injection e; omega)
     clear ow695
     have bx1331 := bx696.gr g1318 (fun h => by injection h; omega)
     clear bx696
     have ow1332 := ow697.gr g1318 (fun k hk e => by have := Sx_base hk; injection e; omega)
     clear ow697
     clear bx692 g1318
     refine At.rd f1320 1 [[]] [(9, .slice A_674 ms3.length c_675)] [] (by kernel_rfl) trivial (fun act1334 f1333 => ?_)
     clear f1320
     refine At.done rfl ?_
     refine t_n ?_
     have f1335 := f1333.sub (r := [(9, .slice A_674 ms3.length c_675), (8, .pointer (some ⟨w22.heap.size, 0, none⟩))]) ⟨rfl, rfl, trivial⟩
     clear f1333
     refine wp_ret ?_
     refine ret2B_ f1335 (sl := 8) (cs := ((ss : List Int).map wV)) (m := 4) (q := 9) (v := .slice A_674 ms3.length c_675) rfl (by kernel_rfl) (by kernel_rfl) (by kernel_rfl) (by simp only [List.length_map, List.length_set, List.length_replicate, List.length_cons, List.length_nil]; first | done | assumption | exact from_len _ | exact of_len _ | exact ofZ_len _ | exact (ofW_ok _).1 | exact (fullW_W _).1 | exact (okW_with (by assumption)).1 | exact (okW_less (by assumption)).1 | exact put_len (from_len _) | exact orD_len _ _ | exact andD_len _ _ | exact minusD_len _ _ | exact fullD_len _ | (refine okLen ?_; (repeat (first | assumption | exact ofW_ok _ | exact fullW_W _ | apply okW_with | apply okW_less | refine okW_orS ?_ ?_ | refine okW_andS ?_ ?_ | refine okW_minusS ?_ ?_)); done) | omega | rfl) bx1319 ?_
     exact ⟨A_674, c_675, _, _, rfl, e1322, (ow1330.imp (fun g _ hs => by have := Sx_base hs; show w.heap.size ≤ g; omega)), hok, .inr ⟨hR, hp01, hend.1, hend.2⟩⟩

end Go.Proofs.YtkpljmalbmcdfaaDoor
