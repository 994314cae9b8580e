/-
  A walk of a Go function, printed by a program of this repo. Conditions: what the theorems name.
-/
import Derived.Test.YtkpljmalbmcdfaaDoorWShown12
import Derived.Test.YtkpljmalbmcdfaaDoorPureOwn12
import Derived.Test.YtkpljmalbmcdfaaDoorWCopyM
set_option linter.unusedVariables false
set_option linter.unusedSimpArgs false
namespace Go.Proofs.YtkpljmalbmcdfaaDoor
open Go Go.RowKit

attribute [local irreducible] ofZ fromW wordsD ofD ofW lsD lenW lenN fullW withW lessW hasW hasD inW inD leastD putD onI tzI orS andS minusS orD andD minusD fullD emptyD
set_option maxHeartbeats 4000000 in
theorem ways12_any {Ag0 Ag1 Ag2 : Option Addr} {cg0 cg1 cg2 : Nat} {g : GameL} {s : List Int} {t : List Int} {p : Int} {w : World} (rg : RdG w 0 w.heap.size Ag0 Ag1 Ag2 cg0 cg1 cg2 g) (hs : OkW s) (ht : OkW t) (rT : RdT w 0 w.heap.size) :
    Calls Tryd.prog 7 #[.agg #[.slice Ag0 g.ow.length cg0, .slice Ag1 g.pr.length cg1, .slice Ag2 g.mv.length cg2], .agg ((s : List Int).map wV).toArray, .int .i64 (p), .agg ((t : List Int).map wV).toArray] w fun e w' => e = .returned (.bool true) ∧ Ext w w' := by
 have hlg0 := rg.ow.len
 have hlg1 := rg.pr.len
 have hlg2 := rg.mv.len
 have hkg0 := rg.k0
 have hkg1 := rg.k1
 have hkg2 := rg.k2
 have hls := hs.1
 have hlt := ht.1
 refine enter_ (args := [.agg #[.slice Ag0 g.ow.length cg0, .slice Ag1 g.pr.length cg1, .slice Ag2 g.mv.length cg2], .agg ((s : List Int).map wV).toArray, .int .i64 (p), .agg ((t : List Int).map wV).toArray]) Tryd.func7 rfl Tryd.ntmps7 (Nat.le_of_ble_eq_true rfl) (fun act0 f0 => ?_)
 have e0 := Ext.refl w
 refine wp_seq ?_
 refine At.start ?_
 refine At.seq f0 1 [[]] [(4, .pointer (some ⟨w.heap.size, 0, none⟩))] (w.alloc (.cells #[.slice Ag0 g.ow.length cg0, .slice Ag1 g.pr.length cg1, .slice Ag2 g.mv.length cg2] 25 (0, 0))) [] (by kernel_rfl) trivial (fun act4 w1 hw2 f3 => ?_)
 clear f0
 have g5 := gr_alloc hw2
 have szw1 := g5.size
 have e7 := e0.gr g5 no_row
 clear e0
 have r8 := rg.gr g5 (fun _ h => by cases h)
 clear rg
 have r9 := rT.gr g5 (fun _ h => by cases h)
 clear rT
 have bx10 : Bx w1 (w.heap.size) [.slice Ag0 g.ow.length cg0, .slice Ag1 g.pr.length cg1, .slice Ag2 g.mv.length cg2] 25 := Bx.new hw2
 have := bx10.lt
 clear g5 hw2
 refine At.seq f3 1 [[]] [(5, .pointer (some ⟨w1.heap.size, 0, none⟩))] (w1.alloc (.cells ((s : List Int).map wV).toArray 28 (0, 0))) [] (by kernel_rfl) trivial (fun act14 w11 hw12 f13 => ?_)
 clear f3
 have g15 := gr_alloc hw12
 have szw11 := g15.size
 have e17 := e7.gr g15 no_row
 clear e7
 have r18 := r8.gr g15 (fun _ h => by cases h)
 clear r8
 have r19 := r9.gr g15 (fun _ h => by cases h)
 clear r9
 have bx20 := bx10.gr g15 (by simp)
 clear bx10
 have bx21 : Bx w11 (w1.heap.size) ((s : List Int).map wV) 28 := Bx.new hw12
 have := bx21.lt
 clear g15 hw12
 refine At.seq f13 1 [[]] [(7, .pointer (some ⟨w11.heap.size, 0, none⟩))] (w11.alloc (.cells ((t : List Int).map wV).toArray 28 (0, 0))) [] (by kernel_rfl) trivial (fun act25 w22 hw23 f24 => ?_)
 clear f13
 have g26 := gr_alloc hw23
 have szw22 := g26.size
 have e28 := e17.gr g26 no_row
 clear e17
 have r29 := r18.gr g26 (fun _ h => by cases h)
 clear r18
 have r30 := r19.gr g26 (fun _ h => by cases h)
 clear r19
 have bx31 := bx20.gr g26 (by simp)
 clear bx20
 have bx32 := bx21.gr g26 (by simp)
 clear bx21
 have bx33 : Bx w22 (w11.heap.size) ((t : List Int).map wV) 28 := Bx.new hw23
 have := bx33.lt
 clear g26 hw23
 refine At.rd f24 1 [[]] [(8, .bool false)] [] (by kernel_rfl) trivial (fun act35 f34 => ?_)
 clear f24
 refine At.done rfl ?_
 refine t_n ?_
 have f36 := f34.sub (r := [(8, .bool false), (7, .pointer (some ⟨w11.heap.size, 0, none⟩)), (5, .pointer (some ⟨w1.heap.size, 0, none⟩)), (4, .pointer (some ⟨w.heap.size, 0, none⟩)), (2, .int .i64 (p))]) ⟨rfl, rfl, rfl, rfl, rfl, trivial⟩
 clear f34
 refine wp_seq ?_
 refine At.start ?_
 refine At.call f36 9 #[] (some 25) (by kernel_rfl) (shown12_any (r30.wide (Nat.zero_le _) (by omega))) ?_
 rintro e_ w37 ⟨rfl, he⟩
 refine ⟨_, rfl, _, rfl, fun act38 f39 => ?_⟩
 clear f36
 have g40 := gr_ext he
 have szw37 := g40.size
 have e41 := e28.gr g40 no_row
 clear e28
 have r42 := r29.gr g40 (fun _ h => by cases h)
 clear r29
 have r43 := r30.gr g40 (fun _ h => by cases h)
 clear r30
 have bx44 := bx31.gr g40 (by simp)
 clear bx31
 have bx45 := bx32.gr g40 (by simp)
 clear bx32
 have bx46 := bx33.gr g40 (by simp)
 clear bx33
 clear g40 he
 refine At.rd f39 1 [[]] [(9, .bool true)] [] (by kernel_rfl) trivial (fun act48 f47 => ?_)
 clear f39
 refine At.done rfl ?_
 refine t_n ?_
 have f49 := f47.sub (r := [(9, .bool true), (8, .bool false), (7, .pointer (some ⟨w11.heap.size, 0, none⟩)), (5, .pointer (some ⟨w1.heap.size, 0, none⟩)), (4, .pointer (some ⟨w.heap.size, 0, none⟩)), (2, .int .i64 (p))]) ⟨rfl, rfl, rfl, rfl, rfl, rfl, trivial⟩
 clear f47
 refine wp_seq ?_
 refine At.start ?_
 refine At.rd f49 1 [[.ld (.slice Ag0 g.ow.length cg0), .ld (.slice Ag1 g.pr.length cg1), .ld (.slice Ag2 g.mv.length cg2)]] [(27, .agg #[.slice Ag0 g.ow.length cg0, .slice Ag1 g.pr.length cg1, .slice Ag2 g.mv.length cg2])] [(w37.cell? ⟨w.heap.size, 0, none⟩ = some (.slice Ag0 g.ow.length cg0)), (w37.cell? ⟨w.heap.size, 1, none⟩ = some (.slice Ag1 g.pr.length cg1)), (w37.cell? ⟨w.heap.size, 2, none⟩ = some (.slice Ag2 g.mv.length cg2))] (by kernel_rfl) ⟨(bx44.cell (i := 0) rfl), (bx44.cell (i := 1) rfl), (bx44.cell (i := 2) rfl), trivial⟩ (fun act51 f50 => ?_)
 clear f49
 refine At.call f50 18 #[.agg #[.slice Ag0 g.ow.length cg0, .slice Ag1 g.pr.length cg1, .slice Ag2 g.mv.length cg2]] (some 28) (by kernel_rfl) (right_any (r42.wide (Nat.zero_le _) (by omega))) ?_
 rintro e_ w52 ⟨rfl, he⟩
 refine ⟨_, rfl, _, rfl, fun act53 f54 => ?_⟩
 clear f50
 have g55 := gr_ext he
 have szw52 := g55.size
 have e56 := e41.gr g55 no_row
 clear e41
 have r57 := r42.gr g55 (fun _ h => by cases h)
 clear r42
 have r58 := r43.gr g55 (fun _ h => by cases h)
 clear r43
 have bx59 := bx44.gr g55 (by simp)
 clear bx44
 have bx60 := bx45.gr g55 (by simp)
 clear bx45
 have bx61 := bx46.gr g55 (by simp)
 clear bx46
 clear g55 he
 refine At.rd f54 5 [[], [], [], [], []] [(11, .int .i64 ((rightP g).2)), (10, .int .i64 ((rightP g).1)), (30, .int .i64 ((rightP g).2)), (29, .int .i64 ((rightP g).1)), (26, .tuple #[.int .i64 ((rightP g).1), .int .i64 ((rightP g).2)])] [] (by kernel_rfl) trivial (fun act63 f62 => ?_)
 clear f54
 refine At.done rfl ?_
 refine t_n ?_
 have f64 := f62.sub (r := [(11, .int .i64 ((rightP g).2)), (9, .bool true), (8, .bool false), (7, .pointer (some ⟨w11.heap.size, 0, none⟩)), (5, .pointer (some ⟨w1.heap.size, 0, none⟩)), (4, .pointer (some ⟨w.heap.size, 0, none⟩)), (2, .int .i64 (p))]) ⟨rfl, rfl, rfl, rfl, rfl, rfl, rfl, trivial⟩
 clear f62
 refine wp_seq (cut (fun a_ w_ => (Frm 154 a_ [(7, .pointer (some ⟨w11.heap.size, 0, none⟩)), (5, .pointer (some ⟨w1.heap.size, 0, none⟩)), (4, .pointer (some ⟨w.heap.size, 0, none⟩)), (2, .int .i64 (p))]) ∧ (Ext w w_) ∧ (RdG w_ 0 w.heap.size Ag0 Ag1 Ag2 cg0 cg1 cg2 g) ∧ (RdT w_ 0 w.heap.size) ∧ (Bx w_ (w.heap.size) [.slice Ag0 g.ow.length cg0, .slice Ag1 g.pr.length cg1, .slice Ag2 g.mv.length cg2] 25) ∧ (Bx w_ (w1.heap.size) ((s : List Int).map wV) 28) ∧ (Bx w_ (w11.heap.size) ((t : List Int).map wV) 28) ∧ ((rightP g).2 = 0) ∧ (p = 0 ∨ p = 1) ∧ (w52.heap.size ≤ w_.heap.size)) ?_ ?_)
 ·refine wp_seq ?_
  refine At.start ?_
  rcases Bool.eq_false_or_eq_true (((rightP g).2 : Int) != 0) with h65 | h65
  ·-- ((rightP g).2 : Int) != 0 is True
   have q66 := bne_iff_ne.1 h65
   refine At.rd f64 14 [[], [], [], [], [], [], [.as_ (.bool true)], [], [], [], [], [], [], []] [(44, .bool true), (43, undef), (42, undef), (41, undef), (40, undef), (39, undef), (38, undef), (37, .bool true), (36, .bool (((rightP g).2 : Int) != 0)), (35, .bool (((rightP g).2 : Int) != 0)), (34, .int .i64 ((rightP g).2)), (33, .bool false), (32, .bool false), (31, .bool true)] [((.bool (((rightP g).2 : Int) != 0) : Value) = .bool true)] (by kernel_rfl) ⟨(congrArg Value.bool h65), trivial⟩ (fun act68 f67 => ?_)
   clear f64
   refine At.done rfl ?_
   refine t_n ?_
   have f69 := f67.sub (r := [(44, .bool true), (9, .bool true), (8, .bool false), (7, .pointer (some ⟨w11.heap.size, 0, none⟩)), (5, .pointer (some ⟨w1.heap.size, 0, none⟩)), (4, .pointer (some ⟨w.heap.size, 0, none⟩)), (2, .int .i64 (p))]) ⟨rfl, rfl, rfl, rfl, rfl, rfl, rfl, trivial⟩
   clear f67
   refine cond_T f69 rfl ?_
   refine wp_seq ?_
   refine At.start ?_
   refine At.rd f69 2 [[], []] [(8, .bool true), (45, .bool true)] [] (by kernel_rfl) trivial (fun act71 f70 => ?_)
   clear f69
   refine At.done rfl ?_
   refine t_n ?_
   have f72 := f70.sub (r := [(8, .bool true)]) ⟨rfl, trivial⟩
   clear f70
   refine wp_ret ?_
   refine t_r ?_
   refine ret_ f72 [] [.bool true] [] (by kernel_rfl) trivial ?_
   -- returns .bool true
   exact ⟨rfl, e56⟩
  ·-- ((rightP g).2 : Int) != 0 is False
   have q73 := bne_eq_false_iff_eq.1 h65
   rcases Bool.eq_false_or_eq_true ((p : Int) != 0) with h74 | h74
   ·-- (p : Int) != 0 is True
    have q75 := bne_iff_ne.1 h74
    refine At.rd f64 14 [[], [], [], [], [], [], [.as_ (.bool false)], [], [], [.as_ (.bool true)], [], [], [], []] [(44, .bool ((p : Int) != 1)), (43, .bool ((p : Int) != 1)), (42, .bool ((p : Int) != 1)), (41, .int .i64 (p)), (40, .bool true), (39, .bool ((p : Int) != 0)), (38, .int .i64 (p)), (37, .bool false), (36, .bool (((rightP g).2 : Int) != 0)), (35, .bool (((rightP g).2 : Int) != 0)), (34, .int .i64 ((rightP g).2)), (33, .bool false), (32, .bool false), (31, .bool true)] [((.bool (((rightP g).2 : Int) != 0) : Value) = .bool false), ((.bool ((p : Int) != 0) : Value) = .bool true)] (by kernel_rfl) ⟨(congrArg Value.bool h65), (congrArg Value.bool h74), trivial⟩ (fun act77 f76 => ?_)
    clear f64
    refine At.done rfl ?_
    refine t_n ?_
    have f78 := f76.sub (r := [(44, .bool ((p : Int) != 1)), (9, .bool true), (8, .bool false), (7, .pointer (some ⟨w11.heap.size, 0, none⟩)), (5, .pointer (some ⟨w1.heap.size, 0, none⟩)), (4, .pointer (some ⟨w.heap.size, 0, none⟩)), (2, .int .i64 (p))]) ⟨rfl, rfl, rfl, rfl, rfl, rfl, rfl, trivial⟩
    clear f76
    refine cond_S f78 (t := (p : Int) != 1) rfl (fun h79 => ?_) (fun h79 => ?_)
    ·-- (p : Int) != 1 is True
     have q80 := bne_iff_ne.1 h79
     refine wp_seq ?_
     refine At.start ?_
     refine At.rd f78 2 [[], []] [(8, .bool true), (45, .bool true)] [] (by kernel_rfl) trivial (fun act82 f81 => ?_)
     clear f78
     refine At.done rfl ?_
     refine t_n ?_
     have f83 := f81.sub (r := [(8, .bool true)]) ⟨rfl, trivial⟩
     clear f81
     refine wp_ret ?_
     refine t_r ?_
     refine ret_ f83 [] [.bool true] [] (by kernel_rfl) trivial ?_
     -- returns .bool true
     exact ⟨rfl, e56⟩
    ·-- (p : Int) != 1 is False
     have q84 := bne_eq_false_iff_eq.1 h79
     refine wp_skip ?_
     refine t_n ?_
     have f85 := f78.sub (r := [(7, .pointer (some ⟨w11.heap.size, 0, none⟩)), (5, .pointer (some ⟨w1.heap.size, 0, none⟩)), (4, .pointer (some ⟨w.heap.size, 0, none⟩)), (2, .int .i64 (p))]) ⟨rfl, rfl, rfl, rfl, trivial⟩
     exact ⟨f85, e56, r57, r58, bx59, bx60, bx61, (by omega), (by omega), (by omega)⟩
   ·-- (p : Int) != 0 is False
    have q86 := bne_eq_false_iff_eq.1 h74
    refine At.rd f64 14 [[], [], [], [], [], [], [.as_ (.bool false)], [], [], [.as_ (.bool false)], [], [], [], []] [(44, .bool false), (43, .bool false), (42, undef), (41, undef), (40, .bool false), (39, .bool ((p : Int) != 0)), (38, .int .i64 (p)), (37, .bool false), (36, .bool (((rightP g).2 : Int) != 0)), (35, .bool (((rightP g).2 : Int) != 0)), (34, .int .i64 ((rightP g).2)), (33, .bool false), (32, .bool false), (31, .bool true)] [((.bool (((rightP g).2 : Int) != 0) : Value) = .bool false), ((.bool ((p : Int) != 0) : Value) = .bool false)] (by kernel_rfl) ⟨(congrArg Value.bool h65), (congrArg Value.bool h74), trivial⟩ (fun act88 f87 => ?_)
    clear f64
    refine At.done rfl ?_
    refine t_n ?_
    have f89 := f87.sub (r := [(44, .bool false), (9, .bool true), (8, .bool false), (7, .pointer (some ⟨w11.heap.size, 0, none⟩)), (5, .pointer (some ⟨w1.heap.size, 0, none⟩)), (4, .pointer (some ⟨w.heap.size, 0, none⟩)), (2, .int .i64 (p))]) ⟨rfl, rfl, rfl, rfl, rfl, rfl, rfl, trivial⟩
    clear f87
    refine cond_F f89 rfl ?_
    refine wp_skip ?_
    refine t_n ?_
    have f90 := f89.sub (r := [(7, .pointer (some ⟨w11.heap.size, 0, none⟩)), (5, .pointer (some ⟨w1.heap.size, 0, none⟩)), (4, .pointer (some ⟨w.heap.size, 0, none⟩)), (2, .int .i64 (p))]) ⟨rfl, rfl, rfl, rfl, trivial⟩
    exact ⟨f90, e56, r57, r58, bx59, bx60, bx61, (by omega), (by omega), (by omega)⟩
 ·clear r57
  clear r58
  clear bx59
  clear bx60
  clear bx61
  clear f64 e56
  intro act91 w92 ⟨f93, e94, r95, r96, bx97, bx98, bx99, i100, i101, i102⟩
  have szw92 := e94.size
  have := bx97.lt
  have := bx98.lt
  have := bx99.lt
  refine wp_seq ?_
  have hR : isR g = true := right_of2 (by omega)
  have hp01 : p = 0 ∨ p = 1 := by omega
  have hG := isR_ok hR
  have hn1 := hG.n1
  have hn0 := hG.n0
  have hpl := hG.pl
  have hml := hG.ml
  have hnd := mv_nd hG
  refine At.start ?_
  refine At.rd f93 4 [[], [.ld (.slice Ag0 g.ow.length cg0)], [], []] [(12, .int .i64 (((g.ow.length : Nat) : Int))), (48, .int .i64 (((g.ow.length : Nat) : Int))), (47, .slice Ag0 g.ow.length cg0), (46, .pointer (some ⟨w.heap.size, 0, none⟩))] [(w92.cell? ⟨w.heap.size, 0, none⟩ = some (.slice Ag0 g.ow.length cg0))] (by kernel_rfl) ⟨(bx97.cell (i := 0) rfl), trivial⟩ (fun act104 f103 => ?_)
  clear f93
  refine At.done rfl ?_
  refine t_n ?_
  have f105 := f103.sub (r := [(12, .int .i64 (((g.ow.length : Nat) : Int))), (7, .pointer (some ⟨w11.heap.size, 0, none⟩)), (5, .pointer (some ⟨w1.heap.size, 0, none⟩)), (4, .pointer (some ⟨w.heap.size, 0, none⟩)), (2, .int .i64 (p))]) ⟨rfl, rfl, rfl, rfl, rfl, trivial⟩
  clear f103
  refine wp_seq (cut (fun a_ w_ => (Frm 154 a_ [(12, .int .i64 (((g.ow.length : Nat) : Int))), (7, .pointer (some ⟨w11.heap.size, 0, none⟩)), (5, .pointer (some ⟨w1.heap.size, 0, none⟩)), (4, .pointer (some ⟨w.heap.size, 0, none⟩)), (2, .int .i64 (p))]) ∧ (Ext w w_) ∧ (RdG w_ 0 w.heap.size Ag0 Ag1 Ag2 cg0 cg1 cg2 g) ∧ (RdT w_ 0 w.heap.size) ∧ (Bx w_ (w.heap.size) [.slice Ag0 g.ow.length cg0, .slice Ag1 g.pr.length cg1, .slice Ag2 g.mv.length cg2] 25) ∧ (Bx w_ (w1.heap.size) (((inS g s : List Int) : List Int).map wV) 28) ∧ (Bx w_ (w11.heap.size) ((t : List Int).map wV) 28) ∧ (w92.heap.size ≤ w_.heap.size)) ?_ ?_)
  ·obtain ⟨Cs106, hCs107⟩ : ∃ c : List (Addr × Value), c = [] := ⟨_, rfl⟩
   have hS108 : HoldsC Cs106 w92 := by rw [hCs107]; exact trivial
   refine AtH.start Cs106 5 #[false, false, false, false, false] (by kernel_rfl) rfl rfl (fun w110 hw111 => ?_)
   have g109 := gr_drew hw111
   have hS112 := hS108.gr g109
   have szw110 := g109.size
   have e113 := e94.gr g109 no_row
   clear e94
   have r114 := r95.gr g109 (fun _ h => by cases h)
   clear r95
   have r115 := r96.gr g109 (fun _ h => by cases h)
   clear r96
   have bx116 := bx97.gr g109 (by simp)
   clear bx97
   have bx117 := bx98.gr g109 (by simp)
   clear bx98
   have bx118 := bx99.gr g109 (by simp)
   clear bx99
   clear g109 hw111 hS108
   refine AtH.rd (by kernel_rfl) (fun d v c a w h => by cases d <;> exact h) hS112 [1] [[]] [(50, .int .i64 (((g.ow.length : Nat) : Int)))] #[false, true, false, false, false] [] 4 f105 (by kernel_rfl) trivial (fun act120 f119 => ?_)
   clear f105
   refine AtH.all [0, 2] 3 (by kernel_rfl) (by simp) ⟨?_, ?_, trivial⟩
   ·refine OneH.seq f119 [[.cs ((s : List Int).map wV)]] [(49, .agg ((s : List Int).map wV).toArray)] w110 [(((s : List Int).map wV).length = 4), (∀ (j : Nat) (v : Value), ((s : List Int).map wV)[j]? = some v → w110.cell? ((⟨w1.heap.size, 0, none⟩ : Addr).add j) = some v)] #[true, true, false, false, false] (by kernel_rfl) (by kernel_rfl) (by kernel_rfl) ⟨(by simp only [List.length_map, List.length_set, List.length_replicate, List.length_cons, List.length_nil]; first | done | assumption | exact from_len _ | exact of_len _ | exact ofZ_len _ | exact (ofW_ok _).1 | exact (fullW_W _).1 | exact (okW_with (by assumption)).1 | exact (okW_less (by assumption)).1 | exact put_len (from_len _) | exact orD_len _ _ | exact andD_len _ _ | exact minusD_len _ _ | exact fullD_len _ | (refine okLen ?_; (repeat (first | assumption | exact ofW_ok _ | exact fullW_W _ | apply okW_with | apply okW_less | refine okW_orS ?_ ?_ | refine okW_andS ?_ ?_ | refine okW_minusS ?_ ?_)); done) | omega | rfl), bx117.whole, trivial⟩ (fun act122 w123 hw124 f121 => ?_)
    obtain rfl : w110 = w123 := hw124.symm
    clear f119
    refine ⟨hS112, ?_⟩
    refine AtH.all [2] 2 (by kernel_rfl) (by simp) ⟨?_, trivial⟩
    refine OneH.call f121 20 #[.int .i64 (((g.ow.length : Nat) : Int))] (some 51) #[true, true, true, false, false] (by kernel_rfl) (by kernel_rfl) (full_any (n := ((g.ow.length : Nat) : Int)) (by omega)) ?_
    rintro e_ w126 ⟨rfl, he⟩
    refine ⟨_, rfl, _, rfl, fun act127 f128 => ?_⟩
    clear f121
    have g129 := gr_ext he
    have hS125 := hS112.gr g129
    have szw126 := g129.size
    have e130 := e113.gr g129 no_row
    clear e113
    have r131 := r114.gr g129 (fun _ h => by cases h)
    clear r114
    have r132 := r115.gr g129 (fun _ h => by cases h)
    clear r115
    have bx133 := bx116.gr g129 (by simp)
    clear bx116
    have bx134 := bx117.gr g129 (by simp)
    clear bx117
    have bx135 := bx118.gr g129 (by simp)
    clear bx118
    clear g129 he
    refine ⟨hS125, ?_⟩
    refine AtH.all [3] 1 (by kernel_rfl) (by simp) ⟨?_, trivial⟩
    refine OneH.call f128 19 #[.agg ((s : List Int).map wV).toArray, .agg ((fullW ((g.ow.length : Nat) : Int) : List Int).map wV).toArray] (some 52) #[true, true, true, true, false] (by kernel_rfl) (by kernel_rfl) ((andS_any (s := s) (t := fullW ((g.ow.length : Nat) : Int)) (by repeat (first | assumption | exact ofW_ok _ | exact fullW_W _ | exact wordsD_W _ | exact okW_0 | exact okW_00 | apply okW_orS | apply okW_andS | apply okW_minusS | apply okW_with | apply okW_less | apply okW_or | apply okW_and | apply okW_minus | (apply okW_lit <;> exact ⟨by omega, by omega⟩))) (fullW_W _)).mono (R' := fun e w' => e = .returned (.agg (((inS g s : List Int) : List Int).map wV).toArray) ∧ Ext _ w') (fun e_ w_ h_ => by rw [show (andS s (fullW ((g.ow.length : Nat) : Int)) : List Int) = (inS g s : List Int) from rfl] at h_; exact h_)) ?_
    rintro e_ w137 ⟨rfl, he⟩
    refine ⟨_, rfl, _, rfl, fun act138 f139 => ?_⟩
    clear f128
    have g140 := gr_ext he
    have hS136 := hS125.gr g140
    have szw137 := g140.size
    have e141 := e130.gr g140 no_row
    clear e130
    have r142 := r131.gr g140 (fun _ h => by cases h)
    clear r131
    have r143 := r132.gr g140 (fun _ h => by cases h)
    clear r132
    have bx144 := bx133.gr g140 (by simp)
    clear bx133
    have bx145 := bx134.gr g140 (by simp)
    clear bx134
    have bx146 := bx135.gr g140 (by simp)
    clear bx135
    clear g140 he
    refine ⟨hS136, ?_⟩
    refine AtH.all [4] 0 (by kernel_rfl) (by simp) ⟨?_, trivial⟩
    refine OneH.act f139 #[true, true, true, true, true] (by kernel_rfl) (storeBlk (t := 28) (b := w1.heap.size) (n := 4) (cs' := (((inS g s : List Int) : List Int).map wV)) (by kernel_rfl) (by kernel_rfl) ((List.length_map _).trans (okLen (inS_ok (by assumption)))) oneW_ ((show (((inS g s : List Int) : List Int).map wV).length = 4 from ((List.length_map _).trans (okLen (inS_ok (by assumption))))).trans (show ((s : List Int).map wV).length = 4 from (by simp only [List.length_map, List.length_set, List.length_replicate, List.length_cons, List.length_nil]; first | done | assumption | exact from_len _ | exact of_len _ | exact ofZ_len _ | exact (ofW_ok _).1 | exact (fullW_W _).1 | exact (okW_with (by assumption)).1 | exact (okW_less (by assumption)).1 | exact put_len (from_len _) | exact orD_len _ _ | exact andD_len _ _ | exact minusD_len _ _ | exact fullD_len _ | (refine okLen ?_; (repeat (first | assumption | exact ofW_ok _ | exact fullW_W _ | apply okW_with | apply okW_less | refine okW_orS ?_ ?_ | refine okW_andS ?_ ?_ | refine okW_minusS ?_ ?_)); done) | omega | rfl)).symm) bx145) ?_
    rintro d_ v_ w148 ⟨rfl, g149, bx150⟩
    have hS153 := hS136.gr' g149 (by rw [hCs107]; exact trivial)
    refine ⟨_, rfl, fun act152 f151 => ⟨hS153, ?_⟩⟩
    clear f139
    have szw148 := g149.size
    have e154 := e141.gr g149 (fun k h => by injection h; omega)
    clear e141
    have r155 := r142.gr g149 (fun k h => by injection h; omega)
    clear r142
    have r156 := r143.gr g149 (fun k h => by injection h; omega)
    clear r143
    have bx157 := bx144.gr g149 (fun h => by injection h; omega)
    clear bx144
    have bx158 := bx146.gr g149 (fun h => by injection h; omega)
    clear bx146
    clear bx145 g149
    refine AtH.done (by kernel_rfl) ?_
    clear hS153
    refine t_n ?_
    have f159 := f151.sub (r := [(12, .int .i64 (((g.ow.length : Nat) : Int))), (7, .pointer (some ⟨w11.heap.size, 0, none⟩)), (5, .pointer (some ⟨w1.heap.size, 0, none⟩)), (4, .pointer (some ⟨w.heap.size, 0, none⟩)), (2, .int .i64 (p))]) ⟨rfl, rfl, rfl, rfl, rfl, trivial⟩
    exact ⟨f159, e154, r155, r156, bx157, bx150, bx158, (by omega)⟩
   ·refine OneH.call f119 20 #[.int .i64 (((g.ow.length : Nat) : Int))] (some 51) #[false, true, true, false, false] (by kernel_rfl) (by kernel_rfl) (full_any (n := ((g.ow.length : Nat) : Int)) (by omega)) ?_
    rintro e_ w161 ⟨rfl, he⟩
    refine ⟨_, rfl, _, rfl, fun act162 f163 => ?_⟩
    clear f119
    have g164 := gr_ext he
    have hS160 := hS112.gr g164
    have szw161 := g164.size
    have e165 := e113.gr g164 no_row
    clear e113
    have r166 := r114.gr g164 (fun _ h => by cases h)
    clear r114
    have r167 := r115.gr g164 (fun _ h => by cases h)
    clear r115
    have bx168 := bx116.gr g164 (by simp)
    clear bx116
    have bx169 := bx117.gr g164 (by simp)
    clear bx117
    have bx170 := bx118.gr g164 (by simp)
    clear bx118
    clear g164 he
    refine ⟨hS160, ?_⟩
    refine AtH.all [0] 2 (by kernel_rfl) (by simp) ⟨?_, trivial⟩
    refine OneH.seq f163 [[.cs ((s : List Int).map wV)]] [(49, .agg ((s : List Int).map wV).toArray)] w161 [(((s : List Int).map wV).length = 4), (∀ (j : Nat) (v : Value), ((s : List Int).map wV)[j]? = some v → w161.cell? ((⟨w1.heap.size, 0, none⟩ : Addr).add j) = some v)] #[true, true, true, false, false] (by kernel_rfl) (by kernel_rfl) (by kernel_rfl) ⟨(by simp only [List.length_map, List.length_set, List.length_replicate, List.length_cons, List.length_nil]; first | done | assumption | exact from_len _ | exact of_len _ | exact ofZ_len _ | exact (ofW_ok _).1 | exact (fullW_W _).1 | exact (okW_with (by assumption)).1 | exact (okW_less (by assumption)).1 | exact put_len (from_len _) | exact orD_len _ _ | exact andD_len _ _ | exact minusD_len _ _ | exact fullD_len _ | (refine okLen ?_; (repeat (first | assumption | exact ofW_ok _ | exact fullW_W _ | apply okW_with | apply okW_less | refine okW_orS ?_ ?_ | refine okW_andS ?_ ?_ | refine okW_minusS ?_ ?_)); done) | omega | rfl), bx169.whole, trivial⟩ (fun act172 w173 hw174 f171 => ?_)
    obtain rfl : w161 = w173 := hw174.symm
    clear f163
    refine ⟨hS160, ?_⟩
    refine AtH.all [3] 1 (by kernel_rfl) (by simp) ⟨?_, trivial⟩
    refine OneH.call f171 19 #[.agg ((s : List Int).map wV).toArray, .agg ((fullW ((g.ow.length : Nat) : Int) : List Int).map wV).toArray] (some 52) #[true, true, true, true, false] (by kernel_rfl) (by kernel_rfl) ((andS_any (s := s) (t := fullW ((g.ow.length : Nat) : Int)) (by repeat (first | assumption | exact ofW_ok _ | exact fullW_W _ | exact wordsD_W _ | exact okW_0 | exact okW_00 | apply okW_orS | apply okW_andS | apply okW_minusS | apply okW_with | apply okW_less | apply okW_or | apply okW_and | apply okW_minus | (apply okW_lit <;> exact ⟨by omega, by omega⟩))) (fullW_W _)).mono (R' := fun e w' => e = .returned (.agg (((inS g s : List Int) : List Int).map wV).toArray) ∧ Ext _ w') (fun e_ w_ h_ => by rw [show (andS s (fullW ((g.ow.length : Nat) : Int)) : List Int) = (inS g s : List Int) from rfl] at h_; exact h_)) ?_
    rintro e_ w176 ⟨rfl, he⟩
    refine ⟨_, rfl, _, rfl, fun act177 f178 => ?_⟩
    clear f171
    have g179 := gr_ext he
    have hS175 := hS160.gr g179
    have szw176 := g179.size
    have e180 := e165.gr g179 no_row
    clear e165
    have r181 := r166.gr g179 (fun _ h => by cases h)
    clear r166
    have r182 := r167.gr g179 (fun _ h => by cases h)
    clear r167
    have bx183 := bx168.gr g179 (by simp)
    clear bx168
    have bx184 := bx169.gr g179 (by simp)
    clear bx169
    have bx185 := bx170.gr g179 (by simp)
    clear bx170
    clear g179 he
    refine ⟨hS175, ?_⟩
    refine AtH.all [4] 0 (by kernel_rfl) (by simp) ⟨?_, trivial⟩
    refine OneH.act f178 #[true, true, true, true, true] (by kernel_rfl) (storeBlk (t := 28) (b := w1.heap.size) (n := 4) (cs' := (((inS g s : List Int) : List Int).map wV)) (by kernel_rfl) (by kernel_rfl) ((List.length_map _).trans (okLen (inS_ok (by assumption)))) oneW_ ((show (((inS g s : List Int) : List Int).map wV).length = 4 from ((List.length_map _).trans (okLen (inS_ok (by assumption))))).trans (show ((s : List Int).map wV).length = 4 from (by simp only [List.length_map, List.length_set, List.length_replicate, List.length_cons, List.length_nil]; first | done | assumption | exact from_len _ | exact of_len _ | exact ofZ_len _ | exact (ofW_ok _).1 | exact (fullW_W _).1 | exact (okW_with (by assumption)).1 | exact (okW_less (by assumption)).1 | exact put_len (from_len _) | exact orD_len _ _ | exact andD_len _ _ | exact minusD_len _ _ | exact fullD_len _ | (refine okLen ?_; (repeat (first | assumption | exact ofW_ok _ | exact fullW_W _ | apply okW_with | apply okW_less | refine okW_orS ?_ ?_ | refine okW_andS ?_ ?_ | refine okW_minusS ?_ ?_)); done) | omega | rfl)).symm) bx184) ?_
    rintro d_ v_ w187 ⟨rfl, g188, bx189⟩
    have hS192 := hS175.gr' g188 (by rw [hCs107]; exact trivial)
    refine ⟨_, rfl, fun act191 f190 => ⟨hS192, ?_⟩⟩
    clear f178
    have szw187 := g188.size
    have e193 := e180.gr g188 (fun k h => by injection h; omega)
    clear e180
    have r194 := r181.gr g188 (fun k h => by injection h; omega)
    clear r181
    have r195 := r182.gr g188 (fun k h => by injection h; omega)
    clear r182
    have bx196 := bx183.gr g188 (fun h => by injection h; omega)
    clear bx183
    have bx197 := bx185.gr g188 (fun h => by injection h; omega)
    clear bx185
    clear bx184 g188
    refine AtH.done (by kernel_rfl) ?_
    clear hS192
    refine t_n ?_
    have f198 := f190.sub (r := [(12, .int .i64 (((g.ow.length : Nat) : Int))), (7, .pointer (some ⟨w11.heap.size, 0, none⟩)), (5, .pointer (some ⟨w1.heap.size, 0, none⟩)), (4, .pointer (some ⟨w.heap.size, 0, none⟩)), (2, .int .i64 (p))]) ⟨rfl, rfl, rfl, rfl, rfl, trivial⟩
    exact ⟨f198, e193, r194, r195, bx196, bx189, bx197, (by omega)⟩
  ·clear r95
   clear r96
   clear bx97
   clear bx98
   clear bx99
   clear f105 e94
   intro act199 w200 ⟨f201, e202, r203, r204, bx205, bx206, bx207, szz208⟩
   have szw200 := e202.size
   have := bx205.lt
   have := bx206.lt
   have := bx207.lt
   refine wp_seq ?_
   refine At.start ?_
   refine At.rd f201 1 [[.ld (.slice Ag0 g.ow.length cg0), .ld (.slice Ag1 g.pr.length cg1), .ld (.slice Ag2 g.mv.length cg2)]] [(53, .agg #[.slice Ag0 g.ow.length cg0, .slice Ag1 g.pr.length cg1, .slice Ag2 g.mv.length cg2])] [(w200.cell? ⟨w.heap.size, 0, none⟩ = some (.slice Ag0 g.ow.length cg0)), (w200.cell? ⟨w.heap.size, 1, none⟩ = some (.slice Ag1 g.pr.length cg1)), (w200.cell? ⟨w.heap.size, 2, none⟩ = some (.slice Ag2 g.mv.length cg2))] (by kernel_rfl) ⟨(bx205.cell (i := 0) rfl), (bx205.cell (i := 1) rfl), (bx205.cell (i := 2) rfl), trivial⟩ (fun act210 f209 => ?_)
   clear f201
   refine At.call f209 26 #[.agg #[.slice Ag0 g.ow.length cg0, .slice Ag1 g.pr.length cg1, .slice Ag2 g.mv.length cg2]] (some 54) (by kernel_rfl) (copyM_any (g := g) (r203.wide (Nat.zero_le _) (by omega))) ?_
   rintro e_ w224 ⟨A211, c212, A213, c214, A215, c216, rfl, he, ow217, ow218, ow219⟩
   have hip223 := inner_len (RdG.mv (r203.wide (Nat.zero_le _) (by omega)))
   refine ⟨_, rfl, _, rfl, fun act225 f226 => ?_⟩
   clear f209
   have g227 := gr_ext he
   have szw224 := g227.size
   have e228 := e202.gr g227 no_row
   clear e202
   have r229 := r203.gr g227 (fun _ h => by cases h)
   clear r203
   have r230 := r204.gr g227 (fun _ h => by cases h)
   clear r204
   have bx231 := bx205.gr g227 (by simp)
   clear bx205
   have bx232 := bx206.gr g227 (by simp)
   clear bx206
   have bx233 := bx207.gr g227 (by simp)
   clear bx207
   clear g227 he
   refine At.seq f226 1 [[]] [(13, .pointer (some ⟨w224.heap.size, 0, none⟩))] (w224.alloc (.cells #[.slice none 0 0, .slice none 0 0, .slice none 0 0] 25 (0, 0))) [] (by kernel_rfl) trivial (fun act237 w234 hw235 f236 => ?_)
   clear f226
   have g238 := gr_alloc hw235
   have szw234 := g238.size
   have e240 := e228.gr g238 no_row
   clear e228
   have r241 := r229.gr g238 (fun _ h => by cases h)
   clear r229
   have r242 := r230.gr g238 (fun _ h => by cases h)
   clear r230
   have bx243 := bx231.gr g238 (by simp)
   clear bx231
   have bx244 := bx232.gr g238 (by simp)
   clear bx232
   have bx245 := bx233.gr g238 (by simp)
   clear bx233
   have ow246 : OwnR w234 (Sx (w200.heap.size) [some (w224.heap.size), obk (A213), obk (A215)]) A211 c212 3 (g.ow : List Int) := ow217.grA g238 (fun _ _ h => by cases h) (fun k hk hs => ⟨(fun e => by injection e; omega), hs.1, hs.2.1, hs.2.2⟩)
   clear ow217
   have ow247 : OwnR w234 (Sx (w200.heap.size) [some (w224.heap.size), obk (A211), obk (A215)]) A213 c214 3 (g.pr : List Int) := ow218.grA g238 (fun _ _ h => by cases h) (fun k hk hs => ⟨(fun e => by injection e; omega), hs.1, hs.2.1, hs.2.2⟩)
   clear ow218
   have ow248 : OwnLL w234 (w200.heap.size) [some (w224.heap.size), obk (A211), obk (A213)] A215 c216 22 3 (g.mv : List (List Int)) := ow219.grA g238 (fun _ _ h => by cases h) (fun k hk hs => ⟨(fun e => by injection e; omega), hs.1, hs.2.1, hs.2.2⟩)
   clear ow219
   have bx249 : Bx w234 (w224.heap.size) [.slice none 0 0, .slice none 0 0, .slice none 0 0] 25 := Bx.new hw235
   have := bx249.lt
   clear g238 hw235
   refine At.store f236 (t := 25) (b := w224.heap.size) (off := 0) (v := .agg #[.slice A211 g.ow.length c212, .slice A213 g.pr.length c214, .slice A215 g.mv.length c216]) (by kernel_rfl) bx249 (by kernel_rfl) (fun act254 w250 g251 bx252 f253 => ?_)
   clear f236
   replace bx252 : Bx w250 (w224.heap.size) [.slice A211 g.ow.length c212, .slice A213 g.pr.length c214, .slice A215 g.mv.length c216] 25 := bx252
   have szw250 := g251.size
   have e255 := e240.gr g251 (fun k h => by injection h; omega)
   clear e240
   have r256 := r241.gr g251 (fun k h => by injection h; omega)
   clear r241
   have r257 := r242.gr g251 (fun k h => by injection h; omega)
   clear r242
   have bx258 := bx243.gr g251 (fun h => by injection h; omega)
   clear bx243
   have bx259 := bx244.gr g251 (fun h => by injection h; omega)
   clear bx244
   have bx260 := bx245.gr g251 (fun h => by injection h; omega)
   clear bx245
   have ow261 := ow246.gr g251 (fun k hk => hk.1)
   clear ow246
   have ow262 := ow247.gr g251 (fun k hk => hk.1)
   clear ow247
   have ow263 := ow248.gr g251 (fun k hk => hk.1)
   clear ow248
   clear bx249 g251
   refine At.done rfl ?_
   refine t_n ?_
   have f264 := f253.sub (r := [(13, .pointer (some ⟨w224.heap.size, 0, none⟩)), (12, .int .i64 (((g.ow.length : Nat) : Int))), (7, .pointer (some ⟨w11.heap.size, 0, none⟩)), (5, .pointer (some ⟨w1.heap.size, 0, none⟩)), (4, .pointer (some ⟨w.heap.size, 0, none⟩)), (2, .int .i64 (p))]) ⟨rfl, rfl, rfl, rfl, rfl, rfl, trivial⟩
   clear f253
   refine wp_seq ?_
   refine At.start ?_
   refine At.rd f264 1 [[.ld (.slice Ag0 g.ow.length cg0), .ld (.slice Ag1 g.pr.length cg1), .ld (.slice Ag2 g.mv.length cg2)]] [(55, .agg #[.slice Ag0 g.ow.length cg0, .slice Ag1 g.pr.length cg1, .slice Ag2 g.mv.length cg2])] [(w250.cell? ⟨w.heap.size, 0, none⟩ = some (.slice Ag0 g.ow.length cg0)), (w250.cell? ⟨w.heap.size, 1, none⟩ = some (.slice Ag1 g.pr.length cg1)), (w250.cell? ⟨w.heap.size, 2, none⟩ = some (.slice Ag2 g.mv.length cg2))] (by kernel_rfl) ⟨(bx258.cell (i := 0) rfl), (bx258.cell (i := 1) rfl), (bx258.cell (i := 2) rfl), trivial⟩ (fun act266 f265 => ?_)
   clear f264
   refine At.call f265 26 #[.agg #[.slice Ag0 g.ow.length cg0, .slice Ag1 g.pr.length cg1, .slice Ag2 g.mv.length cg2]] (some 56) (by kernel_rfl) (copyM_any (g := g) (r256.wide (Nat.zero_le _) (by omega))) ?_
   rintro e_ w280 ⟨A267, c268, A269, c270, A271, c272, rfl, he, ow273, ow274, ow275⟩
   have hip279 := inner_len (RdG.mv (r256.wide (Nat.zero_le _) (by omega)))
   refine ⟨_, rfl, _, rfl, fun act281 f282 => ?_⟩
   clear f265
   have g283 := gr_ext he
   have lt284 := ow261.lt
   have lt285 := ow262.lt
   have lt286 := ow263.lt
   have szw280 := g283.size
   have e287 := e255.gr g283 no_row
   clear e255
   have r288 := r256.gr g283 (fun _ h => by cases h)
   clear r256
   have r289 := r257.gr g283 (fun _ h => by cases h)
   clear r257
   have bx290 := bx258.gr g283 (by simp)
   clear bx258
   have bx291 := bx259.gr g283 (by simp)
   clear bx259
   have bx292 := bx260.gr g283 (by simp)
   clear bx260
   have ow293 : OwnR w280 (Sx (w200.heap.size) [obk (A267), obk (A269), obk (A271), some (w224.heap.size), obk (A213), obk (A215)]) A211 c212 3 (g.ow : List Int) := ow261.grA g283 (fun _ _ h => by cases h) (fun k hk hs => ⟨(fun e => by have := ow273.ge _ e; omega), (fun e => by have := ow274.ge _ e; omega), (fun e => by have := ow275.ge _ e; omega), hs.1, hs.2.1, hs.2.2.1, hs.2.2.2⟩)
   clear ow261
   have ow294 : OwnR w280 (Sx (w200.heap.size) [obk (A267), obk (A269), obk (A271), some (w224.heap.size), obk (A211), obk (A215)]) A213 c214 3 (g.pr : List Int) := ow262.grA g283 (fun _ _ h => by cases h) (fun k hk hs => ⟨(fun e => by have := ow273.ge _ e; omega), (fun e => by have := ow274.ge _ e; omega), (fun e => by have := ow275.ge _ e; omega), hs.1, hs.2.1, hs.2.2.1, hs.2.2.2⟩)
   clear ow262
   have ow295 : OwnLL w280 (w200.heap.size) [obk (A267), obk (A269), obk (A271), some (w224.heap.size), obk (A211), obk (A213)] A215 c216 22 3 (g.mv : List (List Int)) := ow263.grA g283 (fun _ _ h => by cases h) (fun k hk hs => ⟨(fun e => by have := ow273.ge _ e; omega), (fun e => by have := ow274.ge _ e; omega), (fun e => by have := ow275.ge _ e; omega), hs.1, hs.2.1, hs.2.2.1, hs.2.2.2⟩)
   clear ow263
   have bx296 := bx252.gr g283 (by simp)
   clear bx252
   have ow297 : OwnR w280 (Sx (w250.heap.size) [obk (A211), obk (A213), obk (A215), obk (A269), obk (A271)]) A267 c268 3 (g.ow : List Int) := ow273.imp (fun g _ hs => ⟨(fun e => by have := lt284 _ e; have := Sx_base hs; omega), (fun e => by have := lt285 _ e; have := Sx_base hs; omega), (fun e => by have := lt286 _ e; have := Sx_base hs; omega), hs⟩)
   clear ow273
   have ow298 : OwnR w280 (Sx (w250.heap.size) [obk (A211), obk (A213), obk (A215), obk (A267), obk (A271)]) A269 c270 3 (g.pr : List Int) := ow274.imp (fun g _ hs => ⟨(fun e => by have := lt284 _ e; have := Sx_base hs; omega), (fun e => by have := lt285 _ e; have := Sx_base hs; omega), (fun e => by have := lt286 _ e; have := Sx_base hs; omega), hs⟩)
   clear ow274
   have ow299 : OwnLL w280 (w250.heap.size) [obk (A211), obk (A213), obk (A215), obk (A267), obk (A269)] A271 c272 22 3 (g.mv : List (List Int)) := ow275.imp (fun g _ hs => ⟨(fun e => by have := lt284 _ e; have := Sx_base hs; omega), (fun e => by have := lt285 _ e; have := Sx_base hs; omega), (fun e => by have := lt286 _ e; have := Sx_base hs; omega), hs⟩)
   clear ow275
   clear lt284 lt285 lt286
   clear g283 he
   refine At.seq f282 1 [[]] [(14, .pointer (some ⟨w280.heap.size, 0, none⟩))] (w280.alloc (.cells #[.slice none 0 0, .slice none 0 0, .slice none 0 0] 25 (0, 0))) [] (by kernel_rfl) trivial (fun act303 w300 hw301 f302 => ?_)
   clear f282
   have g304 := gr_alloc hw301
   have szw300 := g304.size
   have e306 := e287.gr g304 no_row
   clear e287
   have r307 := r288.gr g304 (fun _ h => by cases h)
   clear r288
   have r308 := r289.gr g304 (fun _ h => by cases h)
   clear r289
   have bx309 := bx290.gr g304 (by simp)
   clear bx290
   have bx310 := bx291.gr g304 (by simp)
   clear bx291
   have bx311 := bx292.gr g304 (by simp)
   clear bx292
   have ow312 : OwnR w300 (Sx (w200.heap.size) [some (w280.heap.size), obk (A267), obk (A269), obk (A271), some (w224.heap.size), obk (A213), obk (A215)]) A211 c212 3 (g.ow : List Int) := ow293.grA g304 (fun _ _ h => by cases h) (fun k hk hs => ⟨(fun e => by injection e; omega), hs.1, hs.2.1, hs.2.2.1, hs.2.2.2.1, hs.2.2.2.2.1, hs.2.2.2.2.2.1, hs.2.2.2.2.2.2⟩)
   clear ow293
   have ow313 : OwnR w300 (Sx (w200.heap.size) [some (w280.heap.size), obk (A267), obk (A269), obk (A271), some (w224.heap.size), obk (A211), obk (A215)]) A213 c214 3 (g.pr : List Int) := ow294.grA g304 (fun _ _ h => by cases h) (fun k hk hs => ⟨(fun e => by injection e; omega), hs.1, hs.2.1, hs.2.2.1, hs.2.2.2.1, hs.2.2.2.2.1, hs.2.2.2.2.2.1, hs.2.2.2.2.2.2⟩)
   clear ow294
   have ow314 : OwnLL w300 (w200.heap.size) [some (w280.heap.size), obk (A267), obk (A269), obk (A271), some (w224.heap.size), obk (A211), obk (A213)] A215 c216 22 3 (g.mv : List (List Int)) := ow295.grA g304 (fun _ _ h => by cases h) (fun k hk hs => ⟨(fun e => by injection e; omega), hs.1, hs.2.1, hs.2.2.1, hs.2.2.2.1, hs.2.2.2.2.1, hs.2.2.2.2.2.1, hs.2.2.2.2.2.2⟩)
   clear ow295
   have bx315 := bx296.gr g304 (by simp)
   clear bx296
   have ow316 : OwnR w300 (Sx (w250.heap.size) [some (w280.heap.size), obk (A211), obk (A213), obk (A215), obk (A269), obk (A271)]) A267 c268 3 (g.ow : List Int) := ow297.grA g304 (fun _ _ h => by cases h) (fun k hk hs => ⟨(fun e => by injection e; omega), hs.1, hs.2.1, hs.2.2.1, hs.2.2.2.1, hs.2.2.2.2.1, hs.2.2.2.2.2⟩)
   clear ow297
   have ow317 : OwnR w300 (Sx (w250.heap.size) [some (w280.heap.size), obk (A211), obk (A213), obk (A215), obk (A267), obk (A271)]) A269 c270 3 (g.pr : List Int) := ow298.grA g304 (fun _ _ h => by cases h) (fun k hk hs => ⟨(fun e => by injection e; omega), hs.1, hs.2.1, hs.2.2.1, hs.2.2.2.1, hs.2.2.2.2.1, hs.2.2.2.2.2⟩)
   clear ow298
   have ow318 : OwnLL w300 (w250.heap.size) [some (w280.heap.size), obk (A211), obk (A213), obk (A215), obk (A267), obk (A269)] A271 c272 22 3 (g.mv : List (List Int)) := ow299.grA g304 (fun _ _ h => by cases h) (fun k hk hs => ⟨(fun e => by injection e; omega), hs.1, hs.2.1, hs.2.2.1, hs.2.2.2.1, hs.2.2.2.2.1, hs.2.2.2.2.2⟩)
   clear ow299
   have bx319 : Bx w300 (w280.heap.size) [.slice none 0 0, .slice none 0 0, .slice none 0 0] 25 := Bx.new hw301
   have := bx319.lt
   clear g304 hw301
   refine At.store f302 (t := 25) (b := w280.heap.size) (off := 0) (v := .agg #[.slice A267 g.ow.length c268, .slice A269 g.pr.length c270, .slice A271 g.mv.length c272]) (by kernel_rfl) bx319 (by kernel_rfl) (fun act324 w320 g321 bx322 f323 => ?_)
   clear f302
   replace bx322 : Bx w320 (w280.heap.size) [.slice A267 g.ow.length c268, .slice A269 g.pr.length c270, .slice A271 g.mv.length c272] 25 := bx322
   have szw320 := g321.size
   have e325 := e306.gr g321 (fun k h => by injection h; omega)
   clear e306
   have r326 := r307.gr g321 (fun k h => by injection h; omega)
   clear r307
   have r327 := r308.gr g321 (fun k h => by injection h; omega)
   clear r308
   have bx328 := bx309.gr g321 (fun h => by injection h; omega)
   clear bx309
   have bx329 := bx310.gr g321 (fun h => by injection h; omega)
   clear bx310
   have bx330 := bx311.gr g321 (fun h => by injection h; omega)
   clear bx311
   have ow331 := ow312.gr g321 (fun k hk => hk.1)
   clear ow312
   have ow332 := ow313.gr g321 (fun k hk => hk.1)
   clear ow313
   have ow333 := ow314.gr g321 (fun k hk => hk.1)
   clear ow314
   have bx334 := bx315.gr g321 (fun h => by injection h; omega)
   clear bx315
   have ow335 := ow316.gr g321 (fun k hk => hk.1)
   clear ow316
   have ow336 := ow317.gr g321 (fun k hk => hk.1)
   clear ow317
   have ow337 := ow318.gr g321 (fun k hk => hk.1)
   clear ow318
   clear bx319 g321
   refine At.done rfl ?_
   refine t_n ?_
   have f338 := f323.sub (r := [(14, .pointer (some ⟨w280.heap.size, 0, none⟩)), (13, .pointer (some ⟨w224.heap.size, 0, none⟩)), (12, .int .i64 (((g.ow.length : Nat) : Int))), (7, .pointer (some ⟨w11.heap.size, 0, none⟩)), (5, .pointer (some ⟨w1.heap.size, 0, none⟩)), (4, .pointer (some ⟨w.heap.size, 0, none⟩)), (2, .int .i64 (p))]) ⟨rfl, rfl, rfl, rfl, rfl, rfl, rfl, trivial⟩
   clear f323
   refine wp_seq ?_
   refine wp_seq ?_
   refine At.start ?_
   refine At.rd f338 1 [[]] [(15, .int .i64 (0))] [] (by kernel_rfl) trivial (fun act340 f339 => ?_)
   clear f338
   refine At.done rfl ?_
   refine t_n ?_
   refine wp_block ?_
   have f345 := f339.sub (r := [(15, .int .i64 (0)), (14, .pointer (some ⟨w280.heap.size, 0, none⟩)), (13, .pointer (some ⟨w224.heap.size, 0, none⟩)), (12, .int .i64 (((g.ow.length : Nat) : Int))), (7, .pointer (some ⟨w11.heap.size, 0, none⟩)), (5, .pointer (some ⟨w1.heap.size, 0, none⟩)), (4, .pointer (some ⟨w.heap.size, 0, none⟩)), (2, .int .i64 (p))]) ⟨rfl, rfl, rfl, rfl, rfl, rfl, rfl, rfl, trivial⟩
   refine loop_g (fun (m_ : Nat) a_ w_ => ∃ (k : Int) (xa : List Int) (A_341 : Option Addr) (c_342 : Nat) (xb : List Int) (A_343 : Option Addr) (c_344 : Nat), m_ = ((g.ow.length : Int) - k).toNat ∧ (Frm 154 a_ [(15, .int .i64 (k)), (14, .pointer (some ⟨w280.heap.size, 0, none⟩)), (13, .pointer (some ⟨w224.heap.size, 0, none⟩)), (12, .int .i64 (((g.ow.length : Nat) : Int))), (7, .pointer (some ⟨w11.heap.size, 0, none⟩)), (5, .pointer (some ⟨w1.heap.size, 0, none⟩)), (4, .pointer (some ⟨w.heap.size, 0, none⟩)), (2, .int .i64 (p))]) ∧ (Ext w w_) ∧ (RdG w_ 0 w.heap.size Ag0 Ag1 Ag2 cg0 cg1 cg2 g) ∧ (RdT w_ 0 w.heap.size) ∧ (Bx w_ (w.heap.size) [.slice Ag0 g.ow.length cg0, .slice Ag1 g.pr.length cg1, .slice Ag2 g.mv.length cg2] 25) ∧ (Bx w_ (w1.heap.size) (((inS g s : List Int) : List Int).map wV) 28) ∧ (Bx w_ (w11.heap.size) ((t : List Int).map wV) 28) ∧ (OwnR w_ (Sx (w200.heap.size) [some (w280.heap.size), obk (A_343), obk (A269), obk (A271), some (w224.heap.size), obk (A213), obk (A215)]) A_341 c_342 3 (xa : List Int)) ∧ (OwnR w_ (Sx (w200.heap.size) [some (w280.heap.size), obk (A_343), obk (A269), obk (A271), some (w224.heap.size), obk (A_341), obk (A215)]) A213 c214 3 (g.pr : List Int)) ∧ (OwnLL w_ (w200.heap.size) [some (w280.heap.size), obk (A_343), obk (A269), obk (A271), some (w224.heap.size), obk (A_341), obk (A213)] A215 c216 22 3 (g.mv : List (List Int))) ∧ (Bx w_ (w224.heap.size) [.slice A_341 xa.length c_342, .slice A213 g.pr.length c214, .slice A215 g.mv.length c216] 25) ∧ (OwnR w_ (Sx (w250.heap.size) [some (w280.heap.size), obk (A_341), obk (A213), obk (A215), obk (A269), obk (A271)]) A_343 c_344 3 (xb : List Int)) ∧ (OwnR w_ (Sx (w250.heap.size) [some (w280.heap.size), obk (A_341), obk (A213), obk (A215), obk (A_343), obk (A271)]) A269 c270 3 (g.pr : List Int)) ∧ (OwnLL w_ (w250.heap.size) [some (w280.heap.size), obk (A_341), obk (A213), obk (A215), obk (A_343), obk (A269)] A271 c272 22 3 (g.mv : List (List Int))) ∧ (Bx w_ (w280.heap.size) [.slice A_343 xb.length c_344, .slice A269 g.pr.length c270, .slice A271 g.mv.length c272] 25) ∧ (0 ≤ k) ∧ (k ≤ (g.ow.length : Int)) ∧ (xa.length = g.ow.length) ∧ (xb.length = g.ow.length) ∧ (∀ j : Int, 0 ≤ j → j < k → gI xa j = p) ∧ (∀ j : Int, 0 ≤ j → j < k → gI xb j = 1 - p) ∧ (w200.heap.size ≤ w_.heap.size) ∧ (w250.heap.size ≤ w_.heap.size)) _ ⟨0, (g.ow : List Int), A211, c212, (g.ow : List Int), A267, c268, rfl, f345, e325, r326, r327, bx328, bx329, bx330, ow331, ow332, ow333, bx334, ow335, ow336, ow337, bx322, (by omega), (by omega), rfl, rfl, (fun j a b => by omega), (fun j a b => by omega), (by omega), (by omega)⟩ ?_
   clear f345 f339
   clear r326
   clear r327
   clear bx328
   clear bx329
   clear bx330
   clear ow331
   clear ow332
   clear ow333
   clear bx334
   clear ow335
   clear ow336
   clear ow337
   clear bx322
   clear e325
   intro m_ act346 w347 ⟨k, xa, A_341, c_342, xb, A_343, c_344, hm349, f350, e348, r351, r352, bx353, bx354, bx355, ow356, ow357, r358, bx359, ow360, ow361, r362, bx363, i364, i365, i366, i367, hxa, hxb, i368, i369⟩
   have szw347 := e348.size
   have := bx353.lt
   have := bx354.lt
   have := bx355.lt
   have := bx359.lt
   have := bx363.lt
   refine wp_seq ?_
   refine wp_seq ?_
   refine At.start ?_
   refine At.rd f350 3 [[], [], []] [(59, .bool (decide ((k : Int) < ((g.ow.length : Nat) : Int)))), (58, .int .i64 (((g.ow.length : Nat) : Int))), (57, .int .i64 (k))] [] (by kernel_rfl) trivial (fun act371 f370 => ?_)
   clear f350
   refine At.done rfl ?_
   refine t_n ?_
   have f372 := f370.sub (r := [(59, .bool (decide ((k : Int) < ((g.ow.length : Nat) : Int)))), (15, .int .i64 (k)), (14, .pointer (some ⟨w280.heap.size, 0, none⟩)), (13, .pointer (some ⟨w224.heap.size, 0, none⟩)), (12, .int .i64 (((g.ow.length : Nat) : Int))), (7, .pointer (some ⟨w11.heap.size, 0, none⟩)), (5, .pointer (some ⟨w1.heap.size, 0, none⟩)), (4, .pointer (some ⟨w.heap.size, 0, none⟩)), (2, .int .i64 (p))]) ⟨rfl, rfl, rfl, rfl, rfl, rfl, rfl, rfl, rfl, trivial⟩
   clear f370
   refine cond_S f372 (t := decide ((k : Int) < ((g.ow.length : Nat) : Int))) rfl (fun h373 => ?_) (fun h373 => ?_)
   ·-- decide ((k : Int) < ((g.ow.length : Nat) : Int)) is True
    have q374 := of_decide_eq_true h373
    refine wp_skip ?_
    refine t_n ?_
    have f375 := f372.sub (r := [(15, .int .i64 (k)), (14, .pointer (some ⟨w280.heap.size, 0, none⟩)), (13, .pointer (some ⟨w224.heap.size, 0, none⟩)), (12, .int .i64 (((g.ow.length : Nat) : Int))), (7, .pointer (some ⟨w11.heap.size, 0, none⟩)), (5, .pointer (some ⟨w1.heap.size, 0, none⟩)), (4, .pointer (some ⟨w.heap.size, 0, none⟩)), (2, .int .i64 (p))]) ⟨rfl, rfl, rfl, rfl, rfl, rfl, rfl, rfl, trivial⟩
    clear f372
    refine wp_seq ?_
    refine wp_block ?_
    refine wp_seq ?_
    refine At.start ?_
    obtain ⟨ad376, hA377, hb380, hc379, hc378⟩ := ow356.get (k) (by omega) (by omega) (sz := 1) rfl
    refine At.rd f375 5 [[], [.ld (.slice A_341 xa.length c_342)], [], [], [.ad ad376]] [(66, .pointer (some (ad376.add ((k : Int).toNat * 1)))), (65, .int .i64 (p)), (64, .int .i64 (k)), (63, .slice A_341 xa.length c_342), (62, .pointer (some ⟨w224.heap.size, 0, none⟩))] [(w347.cell? ⟨w224.heap.size, 0, none⟩ = some (.slice A_341 xa.length c_342)), (A_341 = some ad376), (0 ≤ (k : Int)), ((k : Int) < (xa.length : Nat))] (by kernel_rfl) ⟨(bx359.cell (i := 0) rfl), hA377, (by omega), (by omega), trivial⟩ (fun act382 f381 => ?_)
    clear f375
    refine At.act f381 (storeR (α := Int) (t := 3) (i := k) (ad := ad376) (v := .int .i64 (p)) (p) (by kernel_rfl) rfl rfl (by kernel_rfl) hA377 ow356 (by omega) (by omega)) ?_
    rintro d_ v_ w383 ⟨rfl, g384, ow385⟩
    refine ⟨_, rfl, fun act388 f387 => ?_⟩
    clear f381
    have hl386 : ((xa).set (k : Int).toNat p).length = (xa).length := List.length_set
    have szw383 := g384.size
    have e389 := e348.gr g384 (fun k hk => by have := ow356.ge k hk; omega)
    clear e348
    have r390 := r351.gr g384 (fun k hk => by have := ow356.ge k hk; omega)
    clear r351
    have r391 := r352.gr g384 (fun k hk => by have := ow356.ge k hk; omega)
    clear r352
    have bx392 := bx353.gr g384 (fun e => by have := ow356.ge _ e; omega)
    clear bx353
    have bx393 := bx354.gr g384 (fun e => by have := ow356.ge _ e; omega)
    clear bx354
    have bx394 := bx355.gr g384 (fun e => by have := ow356.ge _ e; omega)
    clear bx355
    have ow395 := ow357.gr g384 (fun k hk => hk.2.2.2.2.2.1)
    clear ow357
    have ow396 := r358.gr g384 (fun k hk => hk.2.2.2.2.2.1)
    clear r358
    have bx397 := bx359.gr g384 (ow356.neb (fun g hs => hs.2.2.2.2.1))
    clear bx359
    have ow398 := ow360.gr g384 (fun k hk => hk.2.1)
    clear ow360
    have ow399 := ow361.gr g384 (fun k hk => hk.2.1)
    clear ow361
    have ow400 := r362.gr g384 (fun k hk => hk.2.1)
    clear r362
    have bx401 := bx363.gr g384 (ow356.neb (fun g hs => hs.1))
    clear bx363
    clear ow356 g384
    refine At.done rfl ?_
    refine t_n ?_
    have f402 := f387.sub (r := [(15, .int .i64 (k)), (14, .pointer (some ⟨w280.heap.size, 0, none⟩)), (13, .pointer (some ⟨w224.heap.size, 0, none⟩)), (12, .int .i64 (((g.ow.length : Nat) : Int))), (7, .pointer (some ⟨w11.heap.size, 0, none⟩)), (5, .pointer (some ⟨w1.heap.size, 0, none⟩)), (4, .pointer (some ⟨w.heap.size, 0, none⟩)), (2, .int .i64 (p))]) ⟨rfl, rfl, rfl, rfl, rfl, rfl, rfl, rfl, trivial⟩
    clear f387
    refine At.start ?_
    obtain ⟨ad403, hA404, hb407, hc406, hc405⟩ := ow398.get (k) (by omega) (by omega) (sz := 1) rfl
    refine At.rd f402 6 [[], [.ld (.slice A_343 xb.length c_344)], [], [], [.as_ (.int .i64 (1 - p))], [.ad ad403]] [(72, .pointer (some (ad403.add ((k : Int).toNat * 1)))), (71, .int .i64 (1 - p)), (70, .int .i64 (p)), (69, .int .i64 (k)), (68, .slice A_343 xb.length c_344), (67, .pointer (some ⟨w280.heap.size, 0, none⟩))] [(w383.cell? ⟨w280.heap.size, 0, none⟩ = some (.slice A_343 xb.length c_344)), ((.int .i64 (IntKind.i64.wrap (1 - p)) : Value) = .int .i64 (1 - p)), (A_343 = some ad403), (0 ≤ (k : Int)), ((k : Int) < (xb.length : Nat))] (by kernel_rfl) ⟨(bx401.cell (i := 0) rfl), (w64 (by omega) (by omega)), hA404, (by omega), (by omega), trivial⟩ (fun act409 f408 => ?_)
    clear f402
    refine At.act f408 (storeR (α := Int) (t := 3) (i := k) (ad := ad403) (v := .int .i64 (1 - p)) (1 - p) (by kernel_rfl) rfl rfl (by kernel_rfl) hA404 ow398 (by omega) (by omega)) ?_
    rintro d_ v_ w410 ⟨rfl, g411, ow412⟩
    refine ⟨_, rfl, fun act415 f414 => ?_⟩
    clear f408
    have hl413 : ((xb).set (k : Int).toNat (1 - p)).length = (xb).length := List.length_set
    have szw410 := g411.size
    have e416 := e389.gr g411 (fun k hk => by have := ow398.ge k hk; omega)
    clear e389
    have r417 := r390.gr g411 (fun k hk => by have := ow398.ge k hk; omega)
    clear r390
    have r418 := r391.gr g411 (fun k hk => by have := ow398.ge k hk; omega)
    clear r391
    have bx419 := bx392.gr g411 (fun e => by have := ow398.ge _ e; omega)
    clear bx392
    have bx420 := bx393.gr g411 (fun e => by have := ow398.ge _ e; omega)
    clear bx393
    have bx421 := bx394.gr g411 (fun e => by have := ow398.ge _ e; omega)
    clear bx394
    have ow422 := ow385.gr g411 (fun k hk => hk.2.1)
    clear ow385
    have ow423 := ow395.gr g411 (fun k hk => hk.2.1)
    clear ow395
    have ow424 := ow396.gr g411 (fun k hk => hk.2.1)
    clear ow396
    have bx425 := bx397.gr g411 (fun e => by have := ow398.ge _ e; omega)
    clear bx397
    have ow426 := ow399.gr g411 (fun k hk => hk.2.2.2.2.1)
    clear ow399
    have ow427 := ow400.gr g411 (fun k hk => hk.2.2.2.2.1)
    clear ow400
    have bx428 := bx401.gr g411 (ow398.neb (fun g hs => hs.1))
    clear bx401
    clear ow398 g411
    refine At.done rfl ?_
    refine b_n ?_
    refine t_n ?_
    have f429 := f414.sub (r := [(15, .int .i64 (k)), (14, .pointer (some ⟨w280.heap.size, 0, none⟩)), (13, .pointer (some ⟨w224.heap.size, 0, none⟩)), (12, .int .i64 (((g.ow.length : Nat) : Int))), (7, .pointer (some ⟨w11.heap.size, 0, none⟩)), (5, .pointer (some ⟨w1.heap.size, 0, none⟩)), (4, .pointer (some ⟨w.heap.size, 0, none⟩)), (2, .int .i64 (p))]) ⟨rfl, rfl, rfl, rfl, rfl, rfl, rfl, rfl, trivial⟩
    clear f414
    refine At.start ?_
    refine At.rd f429 3 [[], [.as_ (.int .i64 (k + 1))], []] [(15, .int .i64 (k + 1)), (61, .int .i64 (k + 1)), (60, .int .i64 (k))] [((.int .i64 (IntKind.i64.wrap (k + 1)) : Value) = .int .i64 (k + 1))] (by kernel_rfl) ⟨(w64 (by omega) (by omega)), trivial⟩ (fun act431 f430 => ?_)
    clear f429
    refine At.done rfl ?_
    refine t_n ?_
    have f432 := f430.sub (r := [(15, .int .i64 (k + 1)), (14, .pointer (some ⟨w280.heap.size, 0, none⟩)), (13, .pointer (some ⟨w224.heap.size, 0, none⟩)), (12, .int .i64 (((g.ow.length : Nat) : Int))), (7, .pointer (some ⟨w11.heap.size, 0, none⟩)), (5, .pointer (some ⟨w1.heap.size, 0, none⟩)), (4, .pointer (some ⟨w.heap.size, 0, none⟩)), (2, .int .i64 (p))]) ⟨rfl, rfl, rfl, rfl, rfl, rfl, rfl, rfl, trivial⟩
    exact ⟨_, (by omega), (k + 1), ((xa).set (k : Int).toNat p : List Int), A_341, c_342, ((xb).set (k : Int).toNat (1 - p) : List Int), A_343, c_344, rfl, f432, e416, r417, r418, bx419, bx420, bx421, ow422, ow423, ow424, (bx425.as (by first | rfl | (simp only [List.length_set]; done) | (simp; done))), ow412, ow426, ow427, (bx428.as (by first | rfl | (simp only [List.length_set]; done) | (simp; done))), (by omega), (by omega), (by rw [List.length_set]; assumption), (by rw [List.length_set]; assumption), (set_next hxa (by omega) (by omega)), (set_next hxb (by omega) (by omega)), (by omega), (by omega)⟩
   ·-- decide ((k : Int) < ((g.ow.length : Nat) : Int)) is False
    have q433 := of_decide_eq_false h373
    refine wp_exit ?_
    refine t_e ?_
    refine t_e ?_
    refine b_e ?_
    refine t_n ?_
    have f434 := f372.sub (r := [(14, .pointer (some ⟨w280.heap.size, 0, none⟩)), (13, .pointer (some ⟨w224.heap.size, 0, none⟩)), (12, .int .i64 (((g.ow.length : Nat) : Int))), (7, .pointer (some ⟨w11.heap.size, 0, none⟩)), (5, .pointer (some ⟨w1.heap.size, 0, none⟩)), (4, .pointer (some ⟨w.heap.size, 0, none⟩)), (2, .int .i64 (p))]) ⟨rfl, rfl, rfl, rfl, rfl, rfl, rfl, trivial⟩
    clear f372
    refine wp_seq ?_
    have hxaE : ∀ j : Int, 0 ≤ j → j < (g.ow.length : Int) → gI xa j = p := fun j a b => hxa j a (by omega)
    have hxbE : ∀ j : Int, 0 ≤ j → j < (g.ow.length : Int) → gI xb j = 1 - p := fun j a b => hxb j a (by omega)
    refine At.start ?_
    refine At.rd f434 2 [[.cs ((t : List Int).map wV)], [.cs (((inS g s : List Int) : List Int).map wV)]] [(74, .agg (((inS g s : List Int) : List Int).map wV).toArray), (73, .agg ((t : List Int).map wV).toArray)] [(((t : List Int).map wV).length = 4), (∀ (j : Nat) (v : Value), ((t : List Int).map wV)[j]? = some v → w347.cell? ((⟨w11.heap.size, 0, none⟩ : Addr).add j) = some v), ((((inS g s : List Int) : List Int).map wV).length = 4), (∀ (j : Nat) (v : Value), (((inS g s : List Int) : List Int).map wV)[j]? = some v → w347.cell? ((⟨w1.heap.size, 0, none⟩ : Addr).add j) = some v)] (by kernel_rfl) ⟨(by simp only [List.length_map, List.length_set, List.length_replicate, List.length_cons, List.length_nil]; first | done | assumption | exact from_len _ | exact of_len _ | exact ofZ_len _ | exact (ofW_ok _).1 | exact (fullW_W _).1 | exact (okW_with (by assumption)).1 | exact (okW_less (by assumption)).1 | exact put_len (from_len _) | exact orD_len _ _ | exact andD_len _ _ | exact minusD_len _ _ | exact fullD_len _ | (refine okLen ?_; (repeat (first | assumption | exact ofW_ok _ | exact fullW_W _ | apply okW_with | apply okW_less | refine okW_orS ?_ ?_ | refine okW_andS ?_ ?_ | refine okW_minusS ?_ ?_)); done) | omega | rfl), bx355.whole, ((List.length_map _).trans (okLen (inS_ok (by assumption)))), bx354.whole, trivial⟩ (fun act436 f435 => ?_)
    clear f434
    refine At.call f435 19 #[.agg ((t : List Int).map wV).toArray, .agg (((inS g s : List Int) : List Int).map wV).toArray] (some 75) (by kernel_rfl) (andS_any (s := t) (t := (inS g s : List Int)) (by repeat (first | assumption | exact ofW_ok _ | exact fullW_W _ | exact wordsD_W _ | exact okW_0 | exact okW_00 | apply okW_orS | apply okW_andS | apply okW_minusS | apply okW_with | apply okW_less | apply okW_or | apply okW_and | apply okW_minus | (apply okW_lit <;> exact ⟨by omega, by omega⟩))) (inS_ok (by assumption))) ?_
    rintro e_ w437 ⟨rfl, he⟩
    refine ⟨_, rfl, _, rfl, fun act438 f439 => ?_⟩
    clear f435
    have g440 := gr_ext he
    have szw437 := g440.size
    have e441 := e348.gr g440 no_row
    clear e348
    have r442 := r351.gr g440 (fun _ h => by cases h)
    clear r351
    have r443 := r352.gr g440 (fun _ h => by cases h)
    clear r352
    have bx444 := bx353.gr g440 (by simp)
    clear bx353
    have bx445 := bx354.gr g440 (by simp)
    clear bx354
    have bx446 := bx355.gr g440 (by simp)
    clear bx355
    have ow447 := ow356.gr g440 (fun _ _ h => by cases h)
    clear ow356
    have ow448 := ow357.gr g440 (fun _ _ h => by cases h)
    clear ow357
    have ow449 := r358.gr g440 (fun _ _ h => by cases h)
    clear r358
    have bx450 := bx359.gr g440 (by simp)
    clear bx359
    have ow451 := ow360.gr g440 (fun _ _ h => by cases h)
    clear ow360
    have ow452 := ow361.gr g440 (fun _ _ h => by cases h)
    clear ow361
    have ow453 := r362.gr g440 (fun _ _ h => by cases h)
    clear r362
    have bx454 := bx363.gr g440 (by simp)
    clear bx363
    clear g440 he
    refine At.seq f439 1 [[]] [(16, .pointer (some ⟨w437.heap.size, 0, none⟩))] (w437.alloc (.cells ((List.replicate 4 (0 : Int) : List Int).map wV).toArray 28 (0, 0))) [] (by kernel_rfl) trivial (fun act458 w455 hw456 f457 => ?_)
    clear f439
    have g459 := gr_alloc hw456
    have szw455 := g459.size
    have e461 := e441.gr g459 no_row
    clear e441
    have r462 := r442.gr g459 (fun _ h => by cases h)
    clear r442
    have r463 := r443.gr g459 (fun _ h => by cases h)
    clear r443
    have bx464 := bx444.gr g459 (by simp)
    clear bx444
    have bx465 := bx445.gr g459 (by simp)
    clear bx445
    have bx466 := bx446.gr g459 (by simp)
    clear bx446
    have ow467 : OwnR w455 (Sx (w200.heap.size) [some (w437.heap.size), some (w280.heap.size), obk (A_343), obk (A269), obk (A271), some (w224.heap.size), obk (A213), obk (A215)]) A_341 c_342 3 (xa : List Int) := ow447.grA g459 (fun _ _ h => by cases h) (fun k hk hs => ⟨(fun e => by injection e; omega), hs.1, hs.2.1, hs.2.2.1, hs.2.2.2.1, hs.2.2.2.2.1, hs.2.2.2.2.2.1, hs.2.2.2.2.2.2.1, hs.2.2.2.2.2.2.2⟩)
    clear ow447
    have ow468 : OwnR w455 (Sx (w200.heap.size) [some (w437.heap.size), some (w280.heap.size), obk (A_343), obk (A269), obk (A271), some (w224.heap.size), obk (A_341), obk (A215)]) A213 c214 3 (g.pr : List Int) := ow448.grA g459 (fun _ _ h => by cases h) (fun k hk hs => ⟨(fun e => by injection e; omega), hs.1, hs.2.1, hs.2.2.1, hs.2.2.2.1, hs.2.2.2.2.1, hs.2.2.2.2.2.1, hs.2.2.2.2.2.2.1, hs.2.2.2.2.2.2.2⟩)
    clear ow448
    have ow469 : OwnLL w455 (w200.heap.size) [some (w437.heap.size), some (w280.heap.size), obk (A_343), obk (A269), obk (A271), some (w224.heap.size), obk (A_341), obk (A213)] A215 c216 22 3 (g.mv : List (List Int)) := ow449.grA g459 (fun _ _ h => by cases h) (fun k hk hs => ⟨(fun e => by injection e; omega), hs.1, hs.2.1, hs.2.2.1, hs.2.2.2.1, hs.2.2.2.2.1, hs.2.2.2.2.2.1, hs.2.2.2.2.2.2.1, hs.2.2.2.2.2.2.2⟩)
    clear ow449
    have bx470 := bx450.gr g459 (by simp)
    clear bx450
    have ow471 : OwnR w455 (Sx (w250.heap.size) [some (w437.heap.size), some (w280.heap.size), obk (A_341), obk (A213), obk (A215), obk (A269), obk (A271)]) A_343 c_344 3 (xb : List Int) := ow451.grA g459 (fun _ _ h => by cases h) (fun k hk hs => ⟨(fun e => by injection e; omega), hs.1, hs.2.1, hs.2.2.1, hs.2.2.2.1, hs.2.2.2.2.1, hs.2.2.2.2.2.1, hs.2.2.2.2.2.2⟩)
    clear ow451
    have ow472 : OwnR w455 (Sx (w250.heap.size) [some (w437.heap.size), some (w280.heap.size), obk (A_341), obk (A213), obk (A215), obk (A_343), obk (A271)]) A269 c270 3 (g.pr : List Int) := ow452.grA g459 (fun _ _ h => by cases h) (fun k hk hs => ⟨(fun e => by injection e; omega), hs.1, hs.2.1, hs.2.2.1, hs.2.2.2.1, hs.2.2.2.2.1, hs.2.2.2.2.2.1, hs.2.2.2.2.2.2⟩)
    clear ow452
    have ow473 : OwnLL w455 (w250.heap.size) [some (w437.heap.size), some (w280.heap.size), obk (A_341), obk (A213), obk (A215), obk (A_343), obk (A269)] A271 c272 22 3 (g.mv : List (List Int)) := ow453.grA g459 (fun _ _ h => by cases h) (fun k hk hs => ⟨(fun e => by injection e; omega), hs.1, hs.2.1, hs.2.2.1, hs.2.2.2.1, hs.2.2.2.2.1, hs.2.2.2.2.2.1, hs.2.2.2.2.2.2⟩)
    clear ow453
    have bx474 := bx454.gr g459 (by simp)
    clear bx454
    have bx475 : Bx w455 (w437.heap.size) ((List.replicate 4 (0 : Int) : List Int).map wV) 28 := Bx.new hw456
    have := bx475.lt
    clear g459 hw456
    refine At.act f457 (storeBlk (t := 28) (b := w437.heap.size) (n := 4) (cs' := ((andS t (inS g s : List Int) : List Int).map wV)) (by kernel_rfl) (by kernel_rfl) ((List.length_map _).trans (okLen (okW_andS (by assumption) (inS_ok (by assumption))))) oneW_ ((show ((andS t (inS g s : List Int) : List Int).map wV).length = 4 from ((List.length_map _).trans (okLen (okW_andS (by assumption) (inS_ok (by assumption)))))).trans (show ((List.replicate 4 (0 : Int) : List Int).map wV).length = 4 from (by simp only [List.length_map, List.length_set, List.length_replicate, List.length_cons, List.length_nil]; first | done | assumption | exact from_len _ | exact of_len _ | exact ofZ_len _ | exact (ofW_ok _).1 | exact (fullW_W _).1 | exact (okW_with (by assumption)).1 | exact (okW_less (by assumption)).1 | exact put_len (from_len _) | exact orD_len _ _ | exact andD_len _ _ | exact minusD_len _ _ | exact fullD_len _ | (refine okLen ?_; (repeat (first | assumption | exact ofW_ok _ | exact fullW_W _ | apply okW_with | apply okW_less | refine okW_orS ?_ ?_ | refine okW_andS ?_ ?_ | refine okW_minusS ?_ ?_)); done) | omega | rfl)).symm) bx475) ?_
    rintro d_ v_ w476 ⟨rfl, g477, bx478⟩
    refine ⟨_, rfl, fun act480 f479 => ?_⟩
    clear f457
    have szw476 := g477.size
    have e481 := e461.gr g477 (fun k h => by injection h; omega)
    clear e461
    have r482 := r462.gr g477 (fun k h => by injection h; omega)
    clear r462
    have r483 := r463.gr g477 (fun k h => by injection h; omega)
    clear r463
    have bx484 := bx464.gr g477 (fun h => by injection h; omega)
    clear bx464
    have bx485 := bx465.gr g477 (fun h => by injection h; omega)
    clear bx465
    have bx486 := bx466.gr g477 (fun h => by injection h; omega)
    clear bx466
    have ow487 := ow467.gr g477 (fun k hk => hk.1)
    clear ow467
    have ow488 := ow468.gr g477 (fun k hk => hk.1)
    clear ow468
    have ow489 := ow469.gr g477 (fun k hk => hk.1)
    clear ow469
    have bx490 := bx470.gr g477 (fun h => by injection h; omega)
    clear bx470
    have ow491 := ow471.gr g477 (fun k hk => hk.1)
    clear ow471
    have ow492 := ow472.gr g477 (fun k hk => hk.1)
    clear ow472
    have ow493 := ow473.gr g477 (fun k hk => hk.1)
    clear ow473
    have bx494 := bx474.gr g477 (fun h => by injection h; omega)
    clear bx474
    clear bx475 g477
    refine At.done rfl ?_
    refine t_n ?_
    have f495 := f479.sub (r := [(16, .pointer (some ⟨w437.heap.size, 0, none⟩)), (14, .pointer (some ⟨w280.heap.size, 0, none⟩)), (13, .pointer (some ⟨w224.heap.size, 0, none⟩)), (12, .int .i64 (((g.ow.length : Nat) : Int))), (7, .pointer (some ⟨w11.heap.size, 0, none⟩)), (5, .pointer (some ⟨w1.heap.size, 0, none⟩)), (4, .pointer (some ⟨w.heap.size, 0, none⟩)), (2, .int .i64 (p))]) ⟨rfl, rfl, rfl, rfl, rfl, rfl, rfl, rfl, trivial⟩
    clear f479
    refine wp_seq ?_
    refine At.start ?_
    refine At.rd f495 2 [[.cs (((inS g s : List Int) : List Int).map wV)], [.cs ((t : List Int).map wV)]] [(77, .agg ((t : List Int).map wV).toArray), (76, .agg (((inS g s : List Int) : List Int).map wV).toArray)] [((((inS g s : List Int) : List Int).map wV).length = 4), (∀ (j : Nat) (v : Value), (((inS g s : List Int) : List Int).map wV)[j]? = some v → w476.cell? ((⟨w1.heap.size, 0, none⟩ : Addr).add j) = some v), (((t : List Int).map wV).length = 4), (∀ (j : Nat) (v : Value), ((t : List Int).map wV)[j]? = some v → w476.cell? ((⟨w11.heap.size, 0, none⟩ : Addr).add j) = some v)] (by kernel_rfl) ⟨((List.length_map _).trans (okLen (inS_ok (by assumption)))), bx485.whole, (by simp only [List.length_map, List.length_set, List.length_replicate, List.length_cons, List.length_nil]; first | done | assumption | exact from_len _ | exact of_len _ | exact ofZ_len _ | exact (ofW_ok _).1 | exact (fullW_W _).1 | exact (okW_with (by assumption)).1 | exact (okW_less (by assumption)).1 | exact put_len (from_len _) | exact orD_len _ _ | exact andD_len _ _ | exact minusD_len _ _ | exact fullD_len _ | (refine okLen ?_; (repeat (first | assumption | exact ofW_ok _ | exact fullW_W _ | apply okW_with | apply okW_less | refine okW_orS ?_ ?_ | refine okW_andS ?_ ?_ | refine okW_minusS ?_ ?_)); done) | omega | rfl), bx486.whole, trivial⟩ (fun act497 f496 => ?_)
    clear f495
    refine At.call f496 22 #[.agg (((inS g s : List Int) : List Int).map wV).toArray, .agg ((t : List Int).map wV).toArray] (some 78) (by kernel_rfl) (minusS_any (s := (inS g s : List Int)) (t := t) (inS_ok (by assumption)) (by repeat (first | assumption | exact ofW_ok _ | exact fullW_W _ | exact wordsD_W _ | exact okW_0 | exact okW_00 | apply okW_orS | apply okW_andS | apply okW_minusS | apply okW_with | apply okW_less | apply okW_or | apply okW_and | apply okW_minus | (apply okW_lit <;> exact ⟨by omega, by omega⟩)))) ?_
    rintro e_ w498 ⟨rfl, he⟩
    refine ⟨_, rfl, _, rfl, fun act499 f500 => ?_⟩
    clear f496
    have g501 := gr_ext he
    have szw498 := g501.size
    have e502 := e481.gr g501 no_row
    clear e481
    have r503 := r482.gr g501 (fun _ h => by cases h)
    clear r482
    have r504 := r483.gr g501 (fun _ h => by cases h)
    clear r483
    have bx505 := bx484.gr g501 (by simp)
    clear bx484
    have bx506 := bx485.gr g501 (by simp)
    clear bx485
    have bx507 := bx486.gr g501 (by simp)
    clear bx486
    have ow508 := ow487.gr g501 (fun _ _ h => by cases h)
    clear ow487
    have ow509 := ow488.gr g501 (fun _ _ h => by cases h)
    clear ow488
    have ow510 := ow489.gr g501 (fun _ _ h => by cases h)
    clear ow489
    have bx511 := bx490.gr g501 (by simp)
    clear bx490
    have ow512 := ow491.gr g501 (fun _ _ h => by cases h)
    clear ow491
    have ow513 := ow492.gr g501 (fun _ _ h => by cases h)
    clear ow492
    have ow514 := ow493.gr g501 (fun _ _ h => by cases h)
    clear ow493
    have bx515 := bx494.gr g501 (by simp)
    clear bx494
    have bx516 := bx478.gr g501 (by simp)
    clear bx478
    clear g501 he
    refine At.seq f500 1 [[]] [(17, .pointer (some ⟨w498.heap.size, 0, none⟩))] (w498.alloc (.cells ((List.replicate 4 (0 : Int) : List Int).map wV).toArray 28 (0, 0))) [] (by kernel_rfl) trivial (fun act520 w517 hw518 f519 => ?_)
    clear f500
    have g521 := gr_alloc hw518
    have szw517 := g521.size
    have e523 := e502.gr g521 no_row
    clear e502
    have r524 := r503.gr g521 (fun _ h => by cases h)
    clear r503
    have r525 := r504.gr g521 (fun _ h => by cases h)
    clear r504
    have bx526 := bx505.gr g521 (by simp)
    clear bx505
    have bx527 := bx506.gr g521 (by simp)
    clear bx506
    have bx528 := bx507.gr g521 (by simp)
    clear bx507
    have ow529 : OwnR w517 (Sx (w200.heap.size) [some (w498.heap.size), some (w437.heap.size), some (w280.heap.size), obk (A_343), obk (A269), obk (A271), some (w224.heap.size), obk (A213), obk (A215)]) A_341 c_342 3 (xa : List Int) := ow508.grA g521 (fun _ _ h => by cases h) (fun k hk hs => ⟨(fun e => by injection e; omega), hs.1, hs.2.1, hs.2.2.1, hs.2.2.2.1, hs.2.2.2.2.1, hs.2.2.2.2.2.1, hs.2.2.2.2.2.2.1, hs.2.2.2.2.2.2.2.1, hs.2.2.2.2.2.2.2.2⟩)
    clear ow508
    have ow530 : OwnR w517 (Sx (w200.heap.size) [some (w498.heap.size), some (w437.heap.size), some (w280.heap.size), obk (A_343), obk (A269), obk (A271), some (w224.heap.size), obk (A_341), obk (A215)]) A213 c214 3 (g.pr : List Int) := ow509.grA g521 (fun _ _ h => by cases h) (fun k hk hs => ⟨(fun e => by injection e; omega), hs.1, hs.2.1, hs.2.2.1, hs.2.2.2.1, hs.2.2.2.2.1, hs.2.2.2.2.2.1, hs.2.2.2.2.2.2.1, hs.2.2.2.2.2.2.2.1, hs.2.2.2.2.2.2.2.2⟩)
    clear ow509
    have ow531 : OwnLL w517 (w200.heap.size) [some (w498.heap.size), some (w437.heap.size), some (w280.heap.size), obk (A_343), obk (A269), obk (A271), some (w224.heap.size), obk (A_341), obk (A213)] A215 c216 22 3 (g.mv : List (List Int)) := ow510.grA g521 (fun _ _ h => by cases h) (fun k hk hs => ⟨(fun e => by injection e; omega), hs.1, hs.2.1, hs.2.2.1, hs.2.2.2.1, hs.2.2.2.2.1, hs.2.2.2.2.2.1, hs.2.2.2.2.2.2.1, hs.2.2.2.2.2.2.2.1, hs.2.2.2.2.2.2.2.2⟩)
    clear ow510
    have bx532 := bx511.gr g521 (by simp)
    clear bx511
    have ow533 : OwnR w517 (Sx (w250.heap.size) [some (w498.heap.size), some (w437.heap.size), some (w280.heap.size), obk (A_341), obk (A213), obk (A215), obk (A269), obk (A271)]) A_343 c_344 3 (xb : List Int) := ow512.grA g521 (fun _ _ h => by cases h) (fun k hk hs => ⟨(fun e => by injection e; omega), hs.1, hs.2.1, hs.2.2.1, hs.2.2.2.1, hs.2.2.2.2.1, hs.2.2.2.2.2.1, hs.2.2.2.2.2.2.1, hs.2.2.2.2.2.2.2⟩)
    clear ow512
    have ow534 : OwnR w517 (Sx (w250.heap.size) [some (w498.heap.size), some (w437.heap.size), some (w280.heap.size), obk (A_341), obk (A213), obk (A215), obk (A_343), obk (A271)]) A269 c270 3 (g.pr : List Int) := ow513.grA g521 (fun _ _ h => by cases h) (fun k hk hs => ⟨(fun e => by injection e; omega), hs.1, hs.2.1, hs.2.2.1, hs.2.2.2.1, hs.2.2.2.2.1, hs.2.2.2.2.2.1, hs.2.2.2.2.2.2.1, hs.2.2.2.2.2.2.2⟩)
    clear ow513
    have ow535 : OwnLL w517 (w250.heap.size) [some (w498.heap.size), some (w437.heap.size), some (w280.heap.size), obk (A_341), obk (A213), obk (A215), obk (A_343), obk (A269)] A271 c272 22 3 (g.mv : List (List Int)) := ow514.grA g521 (fun _ _ h => by cases h) (fun k hk hs => ⟨(fun e => by injection e; omega), hs.1, hs.2.1, hs.2.2.1, hs.2.2.2.1, hs.2.2.2.2.1, hs.2.2.2.2.2.1, hs.2.2.2.2.2.2.1, hs.2.2.2.2.2.2.2⟩)
    clear ow514
    have bx536 := bx515.gr g521 (by simp)
    clear bx515
    have bx537 := bx516.gr g521 (by simp)
    clear bx516
    have bx538 : Bx w517 (w498.heap.size) ((List.replicate 4 (0 : Int) : List Int).map wV) 28 := Bx.new hw518
    have := bx538.lt
    clear g521 hw518
    refine At.act f519 (storeBlk (t := 28) (b := w498.heap.size) (n := 4) (cs' := ((minusS (inS g s : List Int) t : List Int).map wV)) (by kernel_rfl) (by kernel_rfl) ((List.length_map _).trans (okLen (okW_minusS (inS_ok (by assumption)) (by assumption)))) oneW_ ((show ((minusS (inS g s : List Int) t : List Int).map wV).length = 4 from ((List.length_map _).trans (okLen (okW_minusS (inS_ok (by assumption)) (by assumption))))).trans (show ((List.replicate 4 (0 : Int) : List Int).map wV).length = 4 from (by simp only [List.length_map, List.length_set, List.length_replicate, List.length_cons, List.length_nil]; first | done | assumption | exact from_len _ | exact of_len _ | exact ofZ_len _ | exact (ofW_ok _).1 | exact (fullW_W _).1 | exact (okW_with (by assumption)).1 | exact (okW_less (by assumption)).1 | exact put_len (from_len _) | exact orD_len _ _ | exact andD_len _ _ | exact minusD_len _ _ | exact fullD_len _ | (refine okLen ?_; (repeat (first | assumption | exact ofW_ok _ | exact fullW_W _ | apply okW_with | apply okW_less | refine okW_orS ?_ ?_ | refine okW_andS ?_ ?_ | refine okW_minusS ?_ ?_)); done) | omega | rfl)).symm) bx538) ?_
    rintro d_ v_ w539 ⟨rfl, g540, bx541⟩
    refine ⟨_, rfl, fun act543 f542 => ?_⟩
    clear f519
    have szw539 := g540.size
    have e544 := e523.gr g540 (fun k h => by injection h; omega)
    clear e523
    have r545 := r524.gr g540 (fun k h => by injection h; omega)
    clear r524
    have r546 := r525.gr g540 (fun k h => by injection h; omega)
    clear r525
    have bx547 := bx526.gr g540 (fun h => by injection h; omega)
    clear bx526
    have bx548 := bx527.gr g540 (fun h => by injection h; omega)
    clear bx527
    have bx549 := bx528.gr g540 (fun h => by injection h; omega)
    clear bx528
    have ow550 := ow529.gr g540 (fun k hk => hk.1)
    clear ow529
    have ow551 := ow530.gr g540 (fun k hk => hk.1)
    clear ow530
    have ow552 := ow531.gr g540 (fun k hk => hk.1)
    clear ow531
    have bx553 := bx532.gr g540 (fun h => by injection h; omega)
    clear bx532
    have ow554 := ow533.gr g540 (fun k hk => hk.1)
    clear ow533
    have ow555 := ow534.gr g540 (fun k hk => hk.1)
    clear ow534
    have ow556 := ow535.gr g540 (fun k hk => hk.1)
    clear ow535
    have bx557 := bx536.gr g540 (fun h => by injection h; omega)
    clear bx536
    have bx558 := bx537.gr g540 (fun h => by injection h; omega)
    clear bx537
    clear bx538 g540
    refine At.done rfl ?_
    refine t_n ?_
    have f559 := f542.sub (r := [(17, .pointer (some ⟨w498.heap.size, 0, none⟩)), (16, .pointer (some ⟨w437.heap.size, 0, none⟩)), (14, .pointer (some ⟨w280.heap.size, 0, none⟩)), (13, .pointer (some ⟨w224.heap.size, 0, none⟩)), (12, .int .i64 (((g.ow.length : Nat) : Int))), (7, .pointer (some ⟨w11.heap.size, 0, none⟩)), (5, .pointer (some ⟨w1.heap.size, 0, none⟩)), (4, .pointer (some ⟨w.heap.size, 0, none⟩)), (2, .int .i64 (p))]) ⟨rfl, rfl, rfl, rfl, rfl, rfl, rfl, rfl, rfl, trivial⟩
    clear f542
    refine wp_seq ?_
    refine wp_seq ?_
    refine At.start ?_
    refine At.rd f559 1 [[]] [(18, .int .i64 (0))] [] (by kernel_rfl) trivial (fun act561 f560 => ?_)
    clear f559
    refine At.done rfl ?_
    refine t_n ?_
    refine wp_block ?_
    have f562 := f560.sub (r := [(18, .int .i64 (0)), (17, .pointer (some ⟨w498.heap.size, 0, none⟩)), (16, .pointer (some ⟨w437.heap.size, 0, none⟩)), (14, .pointer (some ⟨w280.heap.size, 0, none⟩)), (13, .pointer (some ⟨w224.heap.size, 0, none⟩)), (12, .int .i64 (((g.ow.length : Nat) : Int))), (7, .pointer (some ⟨w11.heap.size, 0, none⟩)), (5, .pointer (some ⟨w1.heap.size, 0, none⟩)), (4, .pointer (some ⟨w.heap.size, 0, none⟩)), (2, .int .i64 (p))]) ⟨rfl, rfl, rfl, rfl, rfl, rfl, rfl, rfl, rfl, rfl, trivial⟩
    refine loop_g (fun (m_ : Nat) a_ w_ => ∃ (r : Int) (sm : List Int) (sy : List Int), m_ = ((g.ow.length : Int) + 1 - r).toNat ∧ (Frm 154 a_ [(18, .int .i64 (r)), (17, .pointer (some ⟨w498.heap.size, 0, none⟩)), (16, .pointer (some ⟨w437.heap.size, 0, none⟩)), (14, .pointer (some ⟨w280.heap.size, 0, none⟩)), (13, .pointer (some ⟨w224.heap.size, 0, none⟩)), (12, .int .i64 (((g.ow.length : Nat) : Int))), (7, .pointer (some ⟨w11.heap.size, 0, none⟩)), (5, .pointer (some ⟨w1.heap.size, 0, none⟩)), (4, .pointer (some ⟨w.heap.size, 0, none⟩)), (2, .int .i64 (p))]) ∧ (Ext w w_) ∧ (RdG w_ 0 w.heap.size Ag0 Ag1 Ag2 cg0 cg1 cg2 g) ∧ (RdT w_ 0 w.heap.size) ∧ (Bx w_ (w.heap.size) [.slice Ag0 g.ow.length cg0, .slice Ag1 g.pr.length cg1, .slice Ag2 g.mv.length cg2] 25) ∧ (Bx w_ (w1.heap.size) (((inS g s : List Int) : List Int).map wV) 28) ∧ (Bx w_ (w11.heap.size) ((t : List Int).map wV) 28) ∧ (OwnR w_ (Sx (w200.heap.size) [some (w498.heap.size), some (w437.heap.size), some (w280.heap.size), obk (A_343), obk (A269), obk (A271), some (w224.heap.size), obk (A213), obk (A215)]) A_341 c_342 3 (xa : List Int)) ∧ (OwnR w_ (Sx (w200.heap.size) [some (w498.heap.size), some (w437.heap.size), some (w280.heap.size), obk (A_343), obk (A269), obk (A271), some (w224.heap.size), obk (A_341), obk (A215)]) A213 c214 3 (g.pr : List Int)) ∧ (OwnLL w_ (w200.heap.size) [some (w498.heap.size), some (w437.heap.size), some (w280.heap.size), obk (A_343), obk (A269), obk (A271), some (w224.heap.size), obk (A_341), obk (A213)] A215 c216 22 3 (g.mv : List (List Int))) ∧ (Bx w_ (w224.heap.size) [.slice A_341 xa.length c_342, .slice A213 g.pr.length c214, .slice A215 g.mv.length c216] 25) ∧ (OwnR w_ (Sx (w250.heap.size) [some (w498.heap.size), some (w437.heap.size), some (w280.heap.size), obk (A_341), obk (A213), obk (A215), obk (A269), obk (A271)]) A_343 c_344 3 (xb : List Int)) ∧ (OwnR w_ (Sx (w250.heap.size) [some (w498.heap.size), some (w437.heap.size), some (w280.heap.size), obk (A_341), obk (A213), obk (A215), obk (A_343), obk (A271)]) A269 c270 3 (g.pr : List Int)) ∧ (OwnLL w_ (w250.heap.size) [some (w498.heap.size), some (w437.heap.size), some (w280.heap.size), obk (A_341), obk (A213), obk (A215), obk (A_343), obk (A269)] A271 c272 22 3 (g.mv : List (List Int))) ∧ (Bx w_ (w280.heap.size) [.slice A_343 xb.length c_344, .slice A269 g.pr.length c270, .slice A271 g.mv.length c272] 25) ∧ (Bx w_ (w437.heap.size) ((sm : List Int).map wV) 28) ∧ (Bx w_ (w498.heap.size) ((sy : List Int).map wV) 28) ∧ (0 ≤ r) ∧ (r ≤ (g.ow.length : Int) + 1) ∧ (SomeT g (inT g s) (fromW t) sm) ∧ (SomeP g (inT g s) sm r) ∧ (StayT g (inT g s) (fromW t) sy) ∧ (StayP g (inT g s) sy r) ∧ (sm.length = 4) ∧ (sy.length = 4) ∧ (w200.heap.size ≤ w_.heap.size) ∧ (w250.heap.size ≤ w_.heap.size)) _ ⟨0, andS t (inS g s : List Int), minusS (inS g s : List Int) t, rfl, f562, e544, r545, r546, bx547, bx548, bx549, ow550, ow551, ow552, bx553, ow554, ow555, ow556, bx557, bx558, bx541, (by omega), (by omega), (some_start hs ht), someP_0, (stay_start hs ht), (stayP_0 (stay_start hs ht)), (some_start hs ht).ok.1, (stay_start hs ht).ok.1, (by omega), (by omega)⟩ ?_
    clear f562 f560
    clear r545
    clear r546
    clear bx547
    clear bx548
    clear bx549
    clear ow550
    clear ow551
    clear ow552
    clear bx553
    clear ow554
    clear ow555
    clear ow556
    clear bx557
    clear bx558
    clear bx541
    clear e544
    intro m_ act563 w564 ⟨r, sm, sy, hm566, f567, e565, r568, r569, bx570, bx571, bx572, ow573, ow574, r575, bx576, ow577, ow578, r579, bx580, bx581, bx582, i583, i584, hT, hP, hY, hQ, i585, i586, i587, i588⟩
    have szw564 := e565.size
    have := bx570.lt
    have := bx571.lt
    have := bx572.lt
    have := bx576.lt
    have := bx580.lt
    have := bx581.lt
    have := bx582.lt
    have hoka_ := hT.ok
    have hokb_ := hY.ok
    refine wp_seq ?_
    refine wp_seq ?_
    refine At.start ?_
    refine At.rd f567 3 [[], [], []] [(81, .bool (decide ((r : Int) ≤ ((g.ow.length : Nat) : Int)))), (80, .int .i64 (((g.ow.length : Nat) : Int))), (79, .int .i64 (r))] [] (by kernel_rfl) trivial (fun act590 f589 => ?_)
    clear f567
    refine At.done rfl ?_
    refine t_n ?_
    have f591 := f589.sub (r := [(81, .bool (decide ((r : Int) ≤ ((g.ow.length : Nat) : Int)))), (18, .int .i64 (r)), (17, .pointer (some ⟨w498.heap.size, 0, none⟩)), (16, .pointer (some ⟨w437.heap.size, 0, none⟩)), (14, .pointer (some ⟨w280.heap.size, 0, none⟩)), (13, .pointer (some ⟨w224.heap.size, 0, none⟩)), (12, .int .i64 (((g.ow.length : Nat) : Int))), (7, .pointer (some ⟨w11.heap.size, 0, none⟩)), (5, .pointer (some ⟨w1.heap.size, 0, none⟩)), (4, .pointer (some ⟨w.heap.size, 0, none⟩)), (2, .int .i64 (p))]) ⟨rfl, rfl, rfl, rfl, rfl, rfl, rfl, rfl, rfl, rfl, rfl, trivial⟩
    clear f589
    refine cond_S f591 (t := decide ((r : Int) ≤ ((g.ow.length : Nat) : Int))) rfl (fun h592 => ?_) (fun h592 => ?_)
    ·-- decide ((r : Int) ≤ ((g.ow.length : Nat) : Int)) is True
     have q593 := of_decide_eq_true h592
     refine wp_skip ?_
     refine t_n ?_
     have f594 := f591.sub (r := [(18, .int .i64 (r)), (17, .pointer (some ⟨w498.heap.size, 0, none⟩)), (16, .pointer (some ⟨w437.heap.size, 0, none⟩)), (14, .pointer (some ⟨w280.heap.size, 0, none⟩)), (13, .pointer (some ⟨w224.heap.size, 0, none⟩)), (12, .int .i64 (((g.ow.length : Nat) : Int))), (7, .pointer (some ⟨w11.heap.size, 0, none⟩)), (5, .pointer (some ⟨w1.heap.size, 0, none⟩)), (4, .pointer (some ⟨w.heap.size, 0, none⟩)), (2, .int .i64 (p))]) ⟨rfl, rfl, rfl, rfl, rfl, rfl, rfl, rfl, rfl, rfl, trivial⟩
     clear f591
     refine wp_seq ?_
     refine wp_block ?_
     refine wp_seq ?_
     refine At.start ?_
     refine At.rd f594 1 [[]] [(19, .int .i64 (0))] [] (by kernel_rfl) trivial (fun act596 f595 => ?_)
     clear f594
     refine At.done rfl ?_
     refine t_n ?_
     refine wp_block ?_
     have f597 := f595.sub (r := [(19, .int .i64 (0)), (18, .int .i64 (r)), (17, .pointer (some ⟨w498.heap.size, 0, none⟩)), (16, .pointer (some ⟨w437.heap.size, 0, none⟩)), (14, .pointer (some ⟨w280.heap.size, 0, none⟩)), (13, .pointer (some ⟨w224.heap.size, 0, none⟩)), (12, .int .i64 (((g.ow.length : Nat) : Int))), (7, .pointer (some ⟨w11.heap.size, 0, none⟩)), (5, .pointer (some ⟨w1.heap.size, 0, none⟩)), (4, .pointer (some ⟨w.heap.size, 0, none⟩)), (2, .int .i64 (p))]) ⟨rfl, rfl, rfl, rfl, rfl, rfl, rfl, rfl, rfl, rfl, rfl, trivial⟩
     refine loop_g (fun (m_ : Nat) a_ w_ => ∃ (i : Int) (sm2 : List Int) (sy2 : List Int), m_ = ((g.ow.length : Int) - i).toNat ∧ (Frm 154 a_ [(19, .int .i64 (i)), (18, .int .i64 (r)), (17, .pointer (some ⟨w498.heap.size, 0, none⟩)), (16, .pointer (some ⟨w437.heap.size, 0, none⟩)), (14, .pointer (some ⟨w280.heap.size, 0, none⟩)), (13, .pointer (some ⟨w224.heap.size, 0, none⟩)), (12, .int .i64 (((g.ow.length : Nat) : Int))), (7, .pointer (some ⟨w11.heap.size, 0, none⟩)), (5, .pointer (some ⟨w1.heap.size, 0, none⟩)), (4, .pointer (some ⟨w.heap.size, 0, none⟩)), (2, .int .i64 (p))]) ∧ (Ext w w_) ∧ (RdG w_ 0 w.heap.size Ag0 Ag1 Ag2 cg0 cg1 cg2 g) ∧ (RdT w_ 0 w.heap.size) ∧ (Bx w_ (w.heap.size) [.slice Ag0 g.ow.length cg0, .slice Ag1 g.pr.length cg1, .slice Ag2 g.mv.length cg2] 25) ∧ (Bx w_ (w1.heap.size) (((inS g s : List Int) : List Int).map wV) 28) ∧ (Bx w_ (w11.heap.size) ((t : List Int).map wV) 28) ∧ (OwnR w_ (Sx (w200.heap.size) [some (w498.heap.size), some (w437.heap.size), some (w280.heap.size), obk (A_343), obk (A269), obk (A271), some (w224.heap.size), obk (A213), obk (A215)]) A_341 c_342 3 (xa : List Int)) ∧ (OwnR w_ (Sx (w200.heap.size) [some (w498.heap.size), some (w437.heap.size), some (w280.heap.size), obk (A_343), obk (A269), obk (A271), some (w224.heap.size), obk (A_341), obk (A215)]) A213 c214 3 (g.pr : List Int)) ∧ (OwnLL w_ (w200.heap.size) [some (w498.heap.size), some (w437.heap.size), some (w280.heap.size), obk (A_343), obk (A269), obk (A271), some (w224.heap.size), obk (A_341), obk (A213)] A215 c216 22 3 (g.mv : List (List Int))) ∧ (Bx w_ (w224.heap.size) [.slice A_341 xa.length c_342, .slice A213 g.pr.length c214, .slice A215 g.mv.length c216] 25) ∧ (OwnR w_ (Sx (w250.heap.size) [some (w498.heap.size), some (w437.heap.size), some (w280.heap.size), obk (A_341), obk (A213), obk (A215), obk (A269), obk (A271)]) A_343 c_344 3 (xb : List Int)) ∧ (OwnR w_ (Sx (w250.heap.size) [some (w498.heap.size), some (w437.heap.size), some (w280.heap.size), obk (A_341), obk (A213), obk (A215), obk (A_343), obk (A271)]) A269 c270 3 (g.pr : List Int)) ∧ (OwnLL w_ (w250.heap.size) [some (w498.heap.size), some (w437.heap.size), some (w280.heap.size), obk (A_341), obk (A213), obk (A215), obk (A_343), obk (A269)] A271 c272 22 3 (g.mv : List (List Int))) ∧ (Bx w_ (w280.heap.size) [.slice A_343 xb.length c_344, .slice A269 g.pr.length c270, .slice A271 g.mv.length c272] 25) ∧ (Bx w_ (w437.heap.size) ((sm2 : List Int).map wV) 28) ∧ (Bx w_ (w498.heap.size) ((sy2 : List Int).map wV) 28) ∧ (0 ≤ i) ∧ (i ≤ (g.ow.length : Int)) ∧ (SomeT g (inT g s) (fromW t) sm2) ∧ (SomeK g (inT g s) sm2 r i) ∧ (StayT g (inT g s) (fromW t) sy2) ∧ (StayK g (inT g s) sy2 r i) ∧ (sm2.length = 4) ∧ (sy2.length = 4) ∧ (w200.heap.size ≤ w_.heap.size) ∧ (w250.heap.size ≤ w_.heap.size)) _ ⟨0, sm, sy, rfl, f597, e565, r568, r569, bx570, bx571, bx572, ow573, ow574, r575, bx576, ow577, ow578, r579, bx580, bx581, bx582, (by omega), (by omega), hT, (someK_0 hP), hY, (stayK_0 hQ), hT.ok.1, hY.ok.1, (by omega), (by omega)⟩ ?_
     clear f597 f595
     clear r568
     clear r569
     clear bx570
     clear bx571
     clear bx572
     clear ow573
     clear ow574
     clear r575
     clear bx576
     clear ow577
     clear ow578
     clear r579
     clear bx580
     clear bx581
     clear bx582
     clear e565
     intro m_ act598 w599 ⟨i, sm2, sy2, hm601, f602, e600, r603, r604, bx605, bx606, bx607, ow608, ow609, r610, bx611, ow612, ow613, r614, bx615, bx616, bx617, i618, i619, hT2, hK, hY2, hL, i620, i621, i622, i623⟩
     have szw599 := e600.size
     have := bx605.lt
     have := bx606.lt
     have := bx607.lt
     have := bx611.lt
     have := bx615.lt
     have := bx616.lt
     have := bx617.lt
     have hok2_ := hT2.ok
     have hok3_ := hY2.ok
     refine wp_seq ?_
     refine wp_seq ?_
     refine At.start ?_
     refine At.rd f602 3 [[], [], []] [(86, .bool (decide ((i : Int) < ((g.ow.length : Nat) : Int)))), (85, .int .i64 (((g.ow.length : Nat) : Int))), (84, .int .i64 (i))] [] (by kernel_rfl) trivial (fun act625 f624 => ?_)
     clear f602
     refine At.done rfl ?_
     refine t_n ?_
     have f626 := f624.sub (r := [(86, .bool (decide ((i : Int) < ((g.ow.length : Nat) : Int)))), (19, .int .i64 (i)), (18, .int .i64 (r)), (17, .pointer (some ⟨w498.heap.size, 0, none⟩)), (16, .pointer (some ⟨w437.heap.size, 0, none⟩)), (14, .pointer (some ⟨w280.heap.size, 0, none⟩)), (13, .pointer (some ⟨w224.heap.size, 0, none⟩)), (12, .int .i64 (((g.ow.length : Nat) : Int))), (7, .pointer (some ⟨w11.heap.size, 0, none⟩)), (5, .pointer (some ⟨w1.heap.size, 0, none⟩)), (4, .pointer (some ⟨w.heap.size, 0, none⟩)), (2, .int .i64 (p))]) ⟨rfl, rfl, rfl, rfl, rfl, rfl, rfl, rfl, rfl, rfl, rfl, rfl, trivial⟩
     clear f624
     refine cond_S f626 (t := decide ((i : Int) < ((g.ow.length : Nat) : Int))) rfl (fun h627 => ?_) (fun h627 => ?_)
     ·-- decide ((i : Int) < ((g.ow.length : Nat) : Int)) is True
      have q628 := of_decide_eq_true h627
      refine wp_skip ?_
      refine t_n ?_
      have f629 := f626.sub (r := [(19, .int .i64 (i)), (18, .int .i64 (r)), (17, .pointer (some ⟨w498.heap.size, 0, none⟩)), (16, .pointer (some ⟨w437.heap.size, 0, none⟩)), (14, .pointer (some ⟨w280.heap.size, 0, none⟩)), (13, .pointer (some ⟨w224.heap.size, 0, none⟩)), (12, .int .i64 (((g.ow.length : Nat) : Int))), (7, .pointer (some ⟨w11.heap.size, 0, none⟩)), (5, .pointer (some ⟨w1.heap.size, 0, none⟩)), (4, .pointer (some ⟨w.heap.size, 0, none⟩)), (2, .int .i64 (p))]) ⟨rfl, rfl, rfl, rfl, rfl, rfl, rfl, rfl, rfl, rfl, rfl, trivial⟩
      clear f626
      refine wp_seq ?_
      refine wp_block ?_
      refine wp_seq (cut (fun a_ w_ => ∃ (b_630 : Nat), (Frm 154 a_ [(20, .pointer (some ⟨b_630, 0, none⟩)), (19, .int .i64 (i)), (18, .int .i64 (r)), (17, .pointer (some ⟨w498.heap.size, 0, none⟩)), (16, .pointer (some ⟨w437.heap.size, 0, none⟩)), (14, .pointer (some ⟨w280.heap.size, 0, none⟩)), (13, .pointer (some ⟨w224.heap.size, 0, none⟩)), (12, .int .i64 (((g.ow.length : Nat) : Int))), (7, .pointer (some ⟨w11.heap.size, 0, none⟩)), (5, .pointer (some ⟨w1.heap.size, 0, none⟩)), (4, .pointer (some ⟨w.heap.size, 0, none⟩)), (2, .int .i64 (p))]) ∧ (Ext w w_) ∧ (RdG w_ 0 w.heap.size Ag0 Ag1 Ag2 cg0 cg1 cg2 g) ∧ (RdT w_ 0 w.heap.size) ∧ (Bx w_ (w.heap.size) [.slice Ag0 g.ow.length cg0, .slice Ag1 g.pr.length cg1, .slice Ag2 g.mv.length cg2] 25) ∧ (Bx w_ (w1.heap.size) (((inS g s : List Int) : List Int).map wV) 28) ∧ (Bx w_ (w11.heap.size) ((t : List Int).map wV) 28) ∧ (OwnR w_ (Sx (w200.heap.size) [some (w498.heap.size), some (w437.heap.size), some (w280.heap.size), obk (A_343), obk (A269), obk (A271), some (w224.heap.size), obk (A213), obk (A215), some (b_630)]) A_341 c_342 3 (xa : List Int)) ∧ (OwnR w_ (Sx (w200.heap.size) [some (w498.heap.size), some (w437.heap.size), some (w280.heap.size), obk (A_343), obk (A269), obk (A271), some (w224.heap.size), obk (A_341), obk (A215), some (b_630)]) A213 c214 3 (g.pr : List Int)) ∧ (OwnLL w_ (w200.heap.size) [some (w498.heap.size), some (w437.heap.size), some (w280.heap.size), obk (A_343), obk (A269), obk (A271), some (w224.heap.size), obk (A_341), obk (A213), some (b_630)] A215 c216 22 3 (g.mv : List (List Int))) ∧ (Bx w_ (w224.heap.size) [.slice A_341 xa.length c_342, .slice A213 g.pr.length c214, .slice A215 g.mv.length c216] 25) ∧ (OwnR w_ (Sx (w250.heap.size) [some (w498.heap.size), some (w437.heap.size), some (w280.heap.size), obk (A_341), obk (A213), obk (A215), obk (A269), obk (A271), some (b_630)]) A_343 c_344 3 (xb : List Int)) ∧ (OwnR w_ (Sx (w250.heap.size) [some (w498.heap.size), some (w437.heap.size), some (w280.heap.size), obk (A_341), obk (A213), obk (A215), obk (A_343), obk (A271), some (b_630)]) A269 c270 3 (g.pr : List Int)) ∧ (OwnLL w_ (w250.heap.size) [some (w498.heap.size), some (w437.heap.size), some (w280.heap.size), obk (A_341), obk (A213), obk (A215), obk (A_343), obk (A269), some (b_630)] A271 c272 22 3 (g.mv : List (List Int))) ∧ (Bx w_ (w280.heap.size) [.slice A_343 xb.length c_344, .slice A269 g.pr.length c270, .slice A271 g.mv.length c272] 25) ∧ (Bx w_ (w437.heap.size) ((sm2 : List Int).map wV) 28) ∧ (Bx w_ (w498.heap.size) ((sy2 : List Int).map wV) 28) ∧ (Bx w_ (b_630) (((rowS g s i : List Int) : List Int).map wV) 28) ∧ (w599.heap.size ≤ b_630) ∧ (w599.heap.size ≤ w_.heap.size)) ?_ ?_)
      ·obtain ⟨ad631, R634, C635, hA632, _, _, hc633, hC636, r637⟩ := RdII.get r603.mv (i) (by omega) (by omega)
       have hl638 := r637.len
       obtain ⟨Cs640, hCs641⟩ : ∃ c : List (Addr × Value), c = ([(⟨w.heap.size, 2, none⟩, (.slice Ag2 g.mv.length cg2)), ((ad631.add ((i : Int).toNat * 1)), (.slice R634 ((gL g.mv (i)).length) C635))] : List (Addr × Value)) ++ blkC (w1.heap.size) (((inS g s : List Int) : List Int).map wV) := ⟨_, rfl⟩
       have hS642 : HoldsC Cs640 w599 := by rw [hCs641]; exact (holdsA (show HoldsC [(⟨w.heap.size, 2, none⟩, (.slice Ag2 g.mv.length cg2)), ((ad631.add ((i : Int).toNat * 1)), (.slice R634 ((gL g.mv (i)).length) C635))] w599 from ⟨(bx605.cell (i := 2) rfl), hc633, trivial⟩) (holds_blk bx606))
       refine AtH.start Cs640 10 #[false, false, false, false, false, false, false, false, false, false] (by kernel_rfl) rfl rfl (fun w644 hw645 => ?_)
       have g643 := gr_drew hw645
       have hS646 := hS642.gr g643
       have szw644 := g643.size
       have e647 := e600.gr g643 no_row
       clear e600
       have r648 := r603.gr g643 (fun _ h => by cases h)
       clear r603
       have r649 := r604.gr g643 (fun _ h => by cases h)
       clear r604
       have bx650 := bx605.gr g643 (by simp)
       clear bx605
       have bx651 := bx606.gr g643 (by simp)
       clear bx606
       have bx652 := bx607.gr g643 (by simp)
       clear bx607
       have ow653 := ow608.gr g643 (fun _ _ h => by cases h)
       clear ow608
       have ow654 := ow609.gr g643 (fun _ _ h => by cases h)
       clear ow609
       have ow655 := r610.gr g643 (fun _ _ h => by cases h)
       clear r610
       have bx656 := bx611.gr g643 (by simp)
       clear bx611
       have ow657 := ow612.gr g643 (fun _ _ h => by cases h)
       clear ow612
       have ow658 := ow613.gr g643 (fun _ _ h => by cases h)
       clear ow613
       have ow659 := r614.gr g643 (fun _ _ h => by cases h)
       clear r614
       have bx660 := bx615.gr g643 (by simp)
       clear bx615
       have bx661 := bx616.gr g643 (by simp)
       clear bx616
       have bx662 := bx617.gr g643 (by simp)
       clear bx617
       have r663 := r637.gr g643 (fun _ h => by cases h)
       clear r637
       clear g643 hw645 hS642
       refine AtH.rd (by kernel_rfl) (fun d v c a w h => by cases d <;> exact h) hS646 [0, 1, 2, 3, 4, 6] [[], [.ld (.slice Ag2 g.mv.length cg2)], [], [.ad ad631], [.ld (.slice R634 ((gL g.mv (i)).length) C635)], [.cs (((inS g s : List Int) : List Int).map wV)]] [(95, .agg (((inS g s : List Int) : List Int).map wV).toArray), (93, .slice R634 ((gL g.mv (i)).length) C635), (92, .pointer (some (ad631.add ((i : Int).toNat * 1)))), (91, .int .i64 (i)), (90, .slice Ag2 g.mv.length cg2), (89, .pointer (some ⟨w.heap.size, 2, none⟩))] #[true, true, true, true, true, false, true, false, false, false] [(∃ j_ : Nat, Cs640[j_]? = some (⟨w.heap.size, 2, none⟩, (.slice Ag2 g.mv.length cg2))), (Ag2 = some ad631), (0 ≤ (i : Int)), ((i : Int) < (g.mv.length : Nat)), (∃ j_ : Nat, Cs640[j_]? = some ((ad631.add ((i : Int).toNat * 1)), (.slice R634 ((gL g.mv (i)).length) C635))), ((((inS g s : List Int) : List Int).map wV).length = 4), (∀ (j : Nat) (v : Value), (((inS g s : List Int) : List Int).map wV)[j]? = some v → ∃ j_ : Nat, Cs640[j_]? = some (((⟨w1.heap.size, 0, none⟩ : Addr).add j), v))] 4 f629 (by kernel_rfl) ⟨⟨0, by rw [hCs641]; rfl⟩, hA632, (by omega), (by omega), ⟨1, by rw [hCs641]; rfl⟩, ((List.length_map _).trans (okLen (inS_ok (by assumption)))), (fun j v hv => List.getElem?_of_mem (by rw [hCs641]; exact List.mem_append.2 (.inr (blkC_in hv)))), trivial⟩ (fun act665 f664 => ?_)
       clear f629
       refine AtH.all [5, 8] 3 (by kernel_rfl) (by simp) ⟨?_, ?_, trivial⟩
       ·refine OneH.call f664 24 #[.slice R634 ((gL g.mv (i)).length) C635] (some 94) #[true, true, true, true, true, true, true, false, false, false] (by kernel_rfl) (by kernel_rfl) (of_any (la := gL g.mv (i)) (r663.wide (Nat.zero_le _) (by omega))) ?_
        rintro e_ w667 ⟨rfl, he⟩
        refine ⟨_, rfl, _, rfl, fun act668 f669 => ?_⟩
        clear f664
        have g670 := gr_ext he
        have hS666 := hS646.gr g670
        have szw667 := g670.size
        have e671 := e647.gr g670 no_row
        clear e647
        have r672 := r648.gr g670 (fun _ h => by cases h)
        clear r648
        have r673 := r649.gr g670 (fun _ h => by cases h)
        clear r649
        have bx674 := bx650.gr g670 (by simp)
        clear bx650
        have bx675 := bx651.gr g670 (by simp)
        clear bx651
        have bx676 := bx652.gr g670 (by simp)
        clear bx652
        have ow677 := ow653.gr g670 (fun _ _ h => by cases h)
        clear ow653
        have ow678 := ow654.gr g670 (fun _ _ h => by cases h)
        clear ow654
        have ow679 := ow655.gr g670 (fun _ _ h => by cases h)
        clear ow655
        have bx680 := bx656.gr g670 (by simp)
        clear bx656
        have ow681 := ow657.gr g670 (fun _ _ h => by cases h)
        clear ow657
        have ow682 := ow658.gr g670 (fun _ _ h => by cases h)
        clear ow658
        have ow683 := ow659.gr g670 (fun _ _ h => by cases h)
        clear ow659
        have bx684 := bx660.gr g670 (by simp)
        clear bx660
        have bx685 := bx661.gr g670 (by simp)
        clear bx661
        have bx686 := bx662.gr g670 (by simp)
        clear bx662
        have r687 := r663.gr g670 (fun _ h => by cases h)
        clear r663
        clear g670 he
        refine ⟨hS666, ?_⟩
        refine AtH.all [7, 8] 2 (by kernel_rfl) (by simp) ⟨?_, ?_, trivial⟩
        ·refine OneH.call f669 19 #[.agg ((ofW (gL g.mv (i)) : List Int).map wV).toArray, .agg (((inS g s : List Int) : List Int).map wV).toArray] (some 96) #[true, true, true, true, true, true, true, true, false, false] (by kernel_rfl) (by kernel_rfl) ((andS_any (s := ofW (gL g.mv (i))) (t := (inS g s : List Int)) (ofW_ok _) (inS_ok (by assumption))).mono (R' := fun e w' => e = .returned (.agg (((rowS g s i : List Int) : List Int).map wV).toArray) ∧ Ext _ w') (fun e_ w_ h_ => by rw [show (andS (ofW (gL g.mv (i))) (inS g s : List Int) : List Int) = (rowS g s i : List Int) from rfl] at h_; exact h_)) ?_
         rintro e_ w689 ⟨rfl, he⟩
         refine ⟨_, rfl, _, rfl, fun act690 f691 => ?_⟩
         clear f669
         have g692 := gr_ext he
         have hS688 := hS666.gr g692
         have szw689 := g692.size
         have e693 := e671.gr g692 no_row
         clear e671
         have r694 := r672.gr g692 (fun _ h => by cases h)
         clear r672
         have r695 := r673.gr g692 (fun _ h => by cases h)
         clear r673
         have bx696 := bx674.gr g692 (by simp)
         clear bx674
         have bx697 := bx675.gr g692 (by simp)
         clear bx675
         have bx698 := bx676.gr g692 (by simp)
         clear bx676
         have ow699 := ow677.gr g692 (fun _ _ h => by cases h)
         clear ow677
         have ow700 := ow678.gr g692 (fun _ _ h => by cases h)
         clear ow678
         have ow701 := ow679.gr g692 (fun _ _ h => by cases h)
         clear ow679
         have bx702 := bx680.gr g692 (by simp)
         clear bx680
         have ow703 := ow681.gr g692 (fun _ _ h => by cases h)
         clear ow681
         have ow704 := ow682.gr g692 (fun _ _ h => by cases h)
         clear ow682
         have ow705 := ow683.gr g692 (fun _ _ h => by cases h)
         clear ow683
         have bx706 := bx684.gr g692 (by simp)
         clear bx684
         have bx707 := bx685.gr g692 (by simp)
         clear bx685
         have bx708 := bx686.gr g692 (by simp)
         clear bx686
         have r709 := r687.gr g692 (fun _ h => by cases h)
         clear r687
         clear g692 he
         refine ⟨hS688, ?_⟩
         refine AtH.all [8] 1 (by kernel_rfl) (by simp) ⟨?_, trivial⟩
         refine OneH.seq f691 [[]] [(20, .pointer (some ⟨w689.heap.size, 0, none⟩))] (w689.alloc (.cells ((List.replicate 4 (0 : Int) : List Int).map wV).toArray 28 (0, 0))) [] #[true, true, true, true, true, true, true, true, true, false] (by kernel_rfl) (by kernel_rfl) (by kernel_rfl) trivial (fun act714 w711 hw712 f713 => ?_)
         clear f691
         have g715 := gr_alloc hw712
         have hS710 := hS688.gr g715
         have szw711 := g715.size
         have e717 := e693.gr g715 no_row
         clear e693
         have r718 := r694.gr g715 (fun _ h => by cases h)
         clear r694
         have r719 := r695.gr g715 (fun _ h => by cases h)
         clear r695
         have bx720 := bx696.gr g715 (by simp)
         clear bx696
         have bx721 := bx697.gr g715 (by simp)
         clear bx697
         have bx722 := bx698.gr g715 (by simp)
         clear bx698
         have ow723 : OwnR w711 (Sx (w200.heap.size) [some (w689.heap.size), some (w498.heap.size), some (w437.heap.size), some (w280.heap.size), obk (A_343), obk (A269), obk (A271), some (w224.heap.size), obk (A213), obk (A215)]) A_341 c_342 3 (xa : List Int) := ow699.grA g715 (fun _ _ h => by cases h) (fun k hk hs => ⟨(fun e => by injection e; omega), hs.1, hs.2.1, hs.2.2.1, hs.2.2.2.1, hs.2.2.2.2.1, hs.2.2.2.2.2.1, hs.2.2.2.2.2.2.1, hs.2.2.2.2.2.2.2.1, hs.2.2.2.2.2.2.2.2.1, hs.2.2.2.2.2.2.2.2.2⟩)
         clear ow699
         have ow724 : OwnR w711 (Sx (w200.heap.size) [some (w689.heap.size), some (w498.heap.size), some (w437.heap.size), some (w280.heap.size), obk (A_343), obk (A269), obk (A271), some (w224.heap.size), obk (A_341), obk (A215)]) A213 c214 3 (g.pr : List Int) := ow700.grA g715 (fun _ _ h => by cases h) (fun k hk hs => ⟨(fun e => by injection e; omega), hs.1, hs.2.1, hs.2.2.1, hs.2.2.2.1, hs.2.2.2.2.1, hs.2.2.2.2.2.1, hs.2.2.2.2.2.2.1, hs.2.2.2.2.2.2.2.1, hs.2.2.2.2.2.2.2.2.1, hs.2.2.2.2.2.2.2.2.2⟩)
         clear ow700
         have ow725 : OwnLL w711 (w200.heap.size) [some (w689.heap.size), some (w498.heap.size), some (w437.heap.size), some (w280.heap.size), obk (A_343), obk (A269), obk (A271), some (w224.heap.size), obk (A_341), obk (A213)] A215 c216 22 3 (g.mv : List (List Int)) := ow701.grA g715 (fun _ _ h => by cases h) (fun k hk hs => ⟨(fun e => by injection e; omega), hs.1, hs.2.1, hs.2.2.1, hs.2.2.2.1, hs.2.2.2.2.1, hs.2.2.2.2.2.1, hs.2.2.2.2.2.2.1, hs.2.2.2.2.2.2.2.1, hs.2.2.2.2.2.2.2.2.1, hs.2.2.2.2.2.2.2.2.2⟩)
         clear ow701
         have bx726 := bx702.gr g715 (by simp)
         clear bx702
         have ow727 : OwnR w711 (Sx (w250.heap.size) [some (w689.heap.size), some (w498.heap.size), some (w437.heap.size), some (w280.heap.size), obk (A_341), obk (A213), obk (A215), obk (A269), obk (A271)]) A_343 c_344 3 (xb : List Int) := ow703.grA g715 (fun _ _ h => by cases h) (fun k hk hs => ⟨(fun e => by injection e; omega), hs.1, hs.2.1, hs.2.2.1, hs.2.2.2.1, hs.2.2.2.2.1, hs.2.2.2.2.2.1, hs.2.2.2.2.2.2.1, hs.2.2.2.2.2.2.2.1, hs.2.2.2.2.2.2.2.2⟩)
         clear ow703
         have ow728 : OwnR w711 (Sx (w250.heap.size) [some (w689.heap.size), some (w498.heap.size), some (w437.heap.size), some (w280.heap.size), obk (A_341), obk (A213), obk (A215), obk (A_343), obk (A271)]) A269 c270 3 (g.pr : List Int) := ow704.grA g715 (fun _ _ h => by cases h) (fun k hk hs => ⟨(fun e => by injection e; omega), hs.1, hs.2.1, hs.2.2.1, hs.2.2.2.1, hs.2.2.2.2.1, hs.2.2.2.2.2.1, hs.2.2.2.2.2.2.1, hs.2.2.2.2.2.2.2.1, hs.2.2.2.2.2.2.2.2⟩)
         clear ow704
         have ow729 : OwnLL w711 (w250.heap.size) [some (w689.heap.size), some (w498.heap.size), some (w437.heap.size), some (w280.heap.size), obk (A_341), obk (A213), obk (A215), obk (A_343), obk (A269)] A271 c272 22 3 (g.mv : List (List Int)) := ow705.grA g715 (fun _ _ h => by cases h) (fun k hk hs => ⟨(fun e => by injection e; omega), hs.1, hs.2.1, hs.2.2.1, hs.2.2.2.1, hs.2.2.2.2.1, hs.2.2.2.2.2.1, hs.2.2.2.2.2.2.1, hs.2.2.2.2.2.2.2.1, hs.2.2.2.2.2.2.2.2⟩)
         clear ow705
         have bx730 := bx706.gr g715 (by simp)
         clear bx706
         have bx731 := bx707.gr g715 (by simp)
         clear bx707
         have bx732 := bx708.gr g715 (by simp)
         clear bx708
         have r733 := r709.gr g715 (fun _ h => by cases h)
         clear r709
         have bx734 : Bx w711 (w689.heap.size) ((List.replicate 4 (0 : Int) : List Int).map wV) 28 := Bx.new hw712
         have := bx734.lt
         clear g715 hw712
         refine ⟨hS710, ?_⟩
         refine AtH.all [9] 0 (by kernel_rfl) (by simp) ⟨?_, trivial⟩
         refine OneH.act f713 #[true, true, true, true, true, true, true, true, true, true] (by kernel_rfl) (storeBlk (t := 28) (b := w689.heap.size) (n := 4) (cs' := (((rowS g s i : List Int) : List Int).map wV)) (by kernel_rfl) (by kernel_rfl) ((List.length_map _).trans (okLen (rowS_ok (by assumption) _))) oneW_ ((show (((rowS g s i : List Int) : List Int).map wV).length = 4 from ((List.length_map _).trans (okLen (rowS_ok (by assumption) _)))).trans (show ((List.replicate 4 (0 : Int) : List Int).map wV).length = 4 from (by simp only [List.length_map, List.length_set, List.length_replicate, List.length_cons, List.length_nil]; first | done | assumption | exact from_len _ | exact of_len _ | exact ofZ_len _ | exact (ofW_ok _).1 | exact (fullW_W _).1 | exact (okW_with (by assumption)).1 | exact (okW_less (by assumption)).1 | exact put_len (from_len _) | exact orD_len _ _ | exact andD_len _ _ | exact minusD_len _ _ | exact fullD_len _ | (refine okLen ?_; (repeat (first | assumption | exact ofW_ok _ | exact fullW_W _ | apply okW_with | apply okW_less | refine okW_orS ?_ ?_ | refine okW_andS ?_ ?_ | refine okW_minusS ?_ ?_)); done) | omega | rfl)).symm) bx734) ?_
         rintro d_ v_ w736 ⟨rfl, g737, bx738⟩
         have hS741 := hS710.gr' g737 (by rw [hCs641]; exact (allP_app ⟨(by simp only [add_block]; omega), (by simp only [add_block]; omega), trivial⟩ (ne_blk (by omega))))
         refine ⟨_, rfl, fun act740 f739 => ⟨hS741, ?_⟩⟩
         clear f713
         have szw736 := g737.size
         have e742 := e717.gr g737 (fun k h => by injection h; omega)
         clear e717
         have r743 := r718.gr g737 (fun k h => by injection h; omega)
         clear r718
         have r744 := r719.gr g737 (fun k h => by injection h; omega)
         clear r719
         have bx745 := bx720.gr g737 (fun h => by injection h; omega)
         clear bx720
         have bx746 := bx721.gr g737 (fun h => by injection h; omega)
         clear bx721
         have bx747 := bx722.gr g737 (fun h => by injection h; omega)
         clear bx722
         have ow748 := ow723.gr g737 (fun k hk => hk.1)
         clear ow723
         have ow749 := ow724.gr g737 (fun k hk => hk.1)
         clear ow724
         have ow750 := ow725.gr g737 (fun k hk => hk.1)
         clear ow725
         have bx751 := bx726.gr g737 (fun h => by injection h; omega)
         clear bx726
         have ow752 := ow727.gr g737 (fun k hk => hk.1)
         clear ow727
         have ow753 := ow728.gr g737 (fun k hk => hk.1)
         clear ow728
         have ow754 := ow729.gr g737 (fun k hk => hk.1)
         clear ow729
         have bx755 := bx730.gr g737 (fun h => by injection h; omega)
         clear bx730
         have bx756 := bx731.gr g737 (fun h => by injection h; omega)
         clear bx731
         have bx757 := bx732.gr g737 (fun h => by injection h; omega)
         clear bx732
         have r758 := r733.gr g737 (fun k h => by injection h; omega)
         clear r733
         clear bx734 g737
         refine AtH.done (by kernel_rfl) ?_
         clear hS741
         refine t_n ?_
         have f759 := f739.sub (r := [(20, .pointer (some ⟨w689.heap.size, 0, none⟩)), (19, .int .i64 (i)), (18, .int .i64 (r)), (17, .pointer (some ⟨w498.heap.size, 0, none⟩)), (16, .pointer (some ⟨w437.heap.size, 0, none⟩)), (14, .pointer (some ⟨w280.heap.size, 0, none⟩)), (13, .pointer (some ⟨w224.heap.size, 0, none⟩)), (12, .int .i64 (((g.ow.length : Nat) : Int))), (7, .pointer (some ⟨w11.heap.size, 0, none⟩)), (5, .pointer (some ⟨w1.heap.size, 0, none⟩)), (4, .pointer (some ⟨w.heap.size, 0, none⟩)), (2, .int .i64 (p))]) ⟨rfl, rfl, rfl, rfl, rfl, rfl, rfl, rfl, rfl, rfl, rfl, rfl, trivial⟩
         exact ⟨w689.heap.size, f759, e742, r743, r744, bx745, bx746, bx747, (ow748.imp (fun g _ hs => ⟨hs.2.1, hs.2.2.1, hs.2.2.2.1, hs.2.2.2.2.1, hs.2.2.2.2.2.1, hs.2.2.2.2.2.2.1, hs.2.2.2.2.2.2.2.1, hs.2.2.2.2.2.2.2.2.1, hs.2.2.2.2.2.2.2.2.2.1, hs.1, (by have := Sx_base hs; show w200.heap.size ≤ g; omega)⟩)), (ow749.imp (fun g _ hs => ⟨hs.2.1, hs.2.2.1, hs.2.2.2.1, hs.2.2.2.2.1, hs.2.2.2.2.2.1, hs.2.2.2.2.2.2.1, hs.2.2.2.2.2.2.2.1, hs.2.2.2.2.2.2.2.2.1, hs.2.2.2.2.2.2.2.2.2.1, hs.1, (by have := Sx_base hs; show w200.heap.size ≤ g; omega)⟩)), (ow750.imp (fun g _ hs => ⟨hs.2.1, hs.2.2.1, hs.2.2.2.1, hs.2.2.2.2.1, hs.2.2.2.2.2.1, hs.2.2.2.2.2.2.1, hs.2.2.2.2.2.2.2.1, hs.2.2.2.2.2.2.2.2.1, hs.2.2.2.2.2.2.2.2.2.1, hs.1, (by have := Sx_base hs; show w200.heap.size ≤ g; omega)⟩)), bx751, (ow752.imp (fun g _ hs => ⟨hs.2.1, hs.2.2.1, hs.2.2.2.1, hs.2.2.2.2.1, hs.2.2.2.2.2.1, hs.2.2.2.2.2.2.1, hs.2.2.2.2.2.2.2.1, hs.2.2.2.2.2.2.2.2.1, hs.1, (by have := Sx_base hs; show w250.heap.size ≤ g; omega)⟩)), (ow753.imp (fun g _ hs => ⟨hs.2.1, hs.2.2.1, hs.2.2.2.1, hs.2.2.2.2.1, hs.2.2.2.2.2.1, hs.2.2.2.2.2.2.1, hs.2.2.2.2.2.2.2.1, hs.2.2.2.2.2.2.2.2.1, hs.1, (by have := Sx_base hs; show w250.heap.size ≤ g; omega)⟩)), (ow754.imp (fun g _ hs => ⟨hs.2.1, hs.2.2.1, hs.2.2.2.1, hs.2.2.2.2.1, hs.2.2.2.2.2.1, hs.2.2.2.2.2.2.1, hs.2.2.2.2.2.2.2.1, hs.2.2.2.2.2.2.2.2.1, hs.1, (by have := Sx_base hs; show w250.heap.size ≤ g; omega)⟩)), bx755, bx756, bx757, bx738, (by omega), (by omega)⟩
        ·refine OneH.seq f669 [[]] [(20, .pointer (some ⟨w667.heap.size, 0, none⟩))] (w667.alloc (.cells ((List.replicate 4 (0 : Int) : List Int).map wV).toArray 28 (0, 0))) [] #[true, true, true, true, true, true, true, false, true, false] (by kernel_rfl) (by kernel_rfl) (by kernel_rfl) trivial (fun act764 w761 hw762 f763 => ?_)
         clear f669
         have g765 := gr_alloc hw762
         have hS760 := hS666.gr g765
         have szw761 := g765.size
         have e767 := e671.gr g765 no_row
         clear e671
         have r768 := r672.gr g765 (fun _ h => by cases h)
         clear r672
         have r769 := r673.gr g765 (fun _ h => by cases h)
         clear r673
         have bx770 := bx674.gr g765 (by simp)
         clear bx674
         have bx771 := bx675.gr g765 (by simp)
         clear bx675
         have bx772 := bx676.gr g765 (by simp)
         clear bx676
         have ow773 : OwnR w761 (Sx (w200.heap.size) [some (w667.heap.size), some (w498.heap.size), some (w437.heap.size), some (w280.heap.size), obk (A_343), obk (A269), obk (A271), some (w224.heap.size), obk (A213), obk (A215)]) A_341 c_342 3 (xa : List Int) := ow677.grA g765 (fun _ _ h => by cases h) (fun k hk hs => ⟨(fun e => by injection e; omega), hs.1, hs.2.1, hs.2.2.1, hs.2.2.2.1, hs.2.2.2.2.1, hs.2.2.2.2.2.1, hs.2.2.2.2.2.2.1, hs.2.2.2.2.2.2.2.1, hs.2.2.2.2.2.2.2.2.1, hs.2.2.2.2.2.2.2.2.2⟩)
         clear ow677
         have ow774 : OwnR w761 (Sx (w200.heap.size) [some (w667.heap.size), some (w498.heap.size), some (w437.heap.size), some (w280.heap.size), obk (A_343), obk (A269), obk (A271), some (w224.heap.size), obk (A_341), obk (A215)]) A213 c214 3 (g.pr : List Int) := ow678.grA g765 (fun _ _ h => by cases h) (fun k hk hs => ⟨(fun e => by injection e; omega), hs.1, hs.2.1, hs.2.2.1, hs.2.2.2.1, hs.2.2.2.2.1, hs.2.2.2.2.2.1, hs.2.2.2.2.2.2.1, hs.2.2.2.2.2.2.2.1, hs.2.2.2.2.2.2.2.2.1, hs.2.2.2.2.2.2.2.2.2⟩)
         clear ow678
         have ow775 : OwnLL w761 (w200.heap.size) [some (w667.heap.size), some (w498.heap.size), some (w437.heap.size), some (w280.heap.size), obk (A_343), obk (A269), obk (A271), some (w224.heap.size), obk (A_341), obk (A213)] A215 c216 22 3 (g.mv : List (List Int)) := ow679.grA g765 (fun _ _ h => by cases h) (fun k hk hs => ⟨(fun e => by injection e; omega), hs.1, hs.2.1, hs.2.2.1, hs.2.2.2.1, hs.2.2.2.2.1, hs.2.2.2.2.2.1, hs.2.2.2.2.2.2.1, hs.2.2.2.2.2.2.2.1, hs.2.2.2.2.2.2.2.2.1, hs.2.2.2.2.2.2.2.2.2⟩)
         clear ow679
         have bx776 := bx680.gr g765 (by simp)
         clear bx680
         have ow777 : OwnR w761 (Sx (w250.heap.size) [some (w667.heap.size), some (w498.heap.size), some (w437.heap.size), some (w280.heap.size), obk (A_341), obk (A213), obk (A215), obk (A269), obk (A271)]) A_343 c_344 3 (xb : List Int) := ow681.grA g765 (fun _ _ h => by cases h) (fun k hk hs => ⟨(fun e => by injection e; omega), hs.1, hs.2.1, hs.2.2.1, hs.2.2.2.1, hs.2.2.2.2.1, hs.2.2.2.2.2.1, hs.2.2.2.2.2.2.1, hs.2.2.2.2.2.2.2.1, hs.2.2.2.2.2.2.2.2⟩)
         clear ow681
         have ow778 : OwnR w761 (Sx (w250.heap.size) [some (w667.heap.size), some (w498.heap.size), some (w437.heap.size), some (w280.heap.size), obk (A_341), obk (A213), obk (A215), obk (A_343), obk (A271)]) A269 c270 3 (g.pr : List Int) := ow682.grA g765 (fun _ _ h => by cases h) (fun k hk hs => ⟨(fun e => by injection e; omega), hs.1, hs.2.1, hs.2.2.1, hs.2.2.2.1, hs.2.2.2.2.1, hs.2.2.2.2.2.1, hs.2.2.2.2.2.2.1, hs.2.2.2.2.2.2.2.1, hs.2.2.2.2.2.2.2.2⟩)
         clear ow682
         have ow779 : OwnLL w761 (w250.heap.size) [some (w667.heap.size), some (w498.heap.size), some (w437.heap.size), some (w280.heap.size), obk (A_341), obk (A213), obk (A215), obk (A_343), obk (A269)] A271 c272 22 3 (g.mv : List (List Int)) := ow683.grA g765 (fun _ _ h => by cases h) (fun k hk hs => ⟨(fun e => by injection e; omega), hs.1, hs.2.1, hs.2.2.1, hs.2.2.2.1, hs.2.2.2.2.1, hs.2.2.2.2.2.1, hs.2.2.2.2.2.2.1, hs.2.2.2.2.2.2.2.1, hs.2.2.2.2.2.2.2.2⟩)
         clear ow683
         have bx780 := bx684.gr g765 (by simp)
         clear bx684
         have bx781 := bx685.gr g765 (by simp)
         clear bx685
         have bx782 := bx686.gr g765 (by simp)
         clear bx686
         have r783 := r687.gr g765 (fun _ h => by cases h)
         clear r687
         have bx784 : Bx w761 (w667.heap.size) ((List.replicate 4 (0 : Int) : List Int).map wV) 28 := Bx.new hw762
         have := bx784.lt
         clear g765 hw762
         refine ⟨hS760, ?_⟩
         refine AtH.all [7] 1 (by kernel_rfl) (by simp) ⟨?_, trivial⟩
         refine OneH.call f763 19 #[.agg ((ofW (gL g.mv (i)) : List Int).map wV).toArray, .agg (((inS g s : List Int) : List Int).map wV).toArray] (some 96) #[true, true, true, true, true, true, true, true, true, false] (by kernel_rfl) (by kernel_rfl) ((andS_any (s := ofW (gL g.mv (i))) (t := (inS g s : List Int)) (ofW_ok _) (inS_ok (by assumption))).mono (R' := fun e w' => e = .returned (.agg (((rowS g s i : List Int) : List Int).map wV).toArray) ∧ Ext _ w') (fun e_ w_ h_ => by rw [show (andS (ofW (gL g.mv (i))) (inS g s : List Int) : List Int) = (rowS g s i : List Int) from rfl] at h_; exact h_)) ?_
         rintro e_ w786 ⟨rfl, he⟩
         refine ⟨_, rfl, _, rfl, fun act787 f788 => ?_⟩
         clear f763
         have g789 := gr_ext he
         have hS785 := hS760.gr g789
         have szw786 := g789.size
         have e790 := e767.gr g789 no_row
         clear e767
         have r791 := r768.gr g789 (fun _ h => by cases h)
         clear r768
         have r792 := r769.gr g789 (fun _ h => by cases h)
         clear r769
         have bx793 := bx770.gr g789 (by simp)
         clear bx770
         have bx794 := bx771.gr g789 (by simp)
         clear bx771
         have bx795 := bx772.gr g789 (by simp)
         clear bx772
         have ow796 := ow773.gr g789 (fun _ _ h => by cases h)
         clear ow773
         have ow797 := ow774.gr g789 (fun _ _ h => by cases h)
         clear ow774
         have ow798 := ow775.gr g789 (fun _ _ h => by cases h)
         clear ow775
         have bx799 := bx776.gr g789 (by simp)
         clear bx776
         have ow800 := ow777.gr g789 (fun _ _ h => by cases h)
         clear ow777
         have ow801 := ow778.gr g789 (fun _ _ h => by cases h)
         clear ow778
         have ow802 := ow779.gr g789 (fun _ _ h => by cases h)
         clear ow779
         have bx803 := bx780.gr g789 (by simp)
         clear bx780
         have bx804 := bx781.gr g789 (by simp)
         clear bx781
         have bx805 := bx782.gr g789 (by simp)
         clear bx782
         have r806 := r783.gr g789 (fun _ h => by cases h)
         clear r783
         have bx807 := bx784.gr g789 (by simp)
         clear bx784
         clear g789 he
         refine ⟨hS785, ?_⟩
         refine AtH.all [9] 0 (by kernel_rfl) (by simp) ⟨?_, trivial⟩
         refine OneH.act f788 #[true, true, true, true, true, true, true, true, true, true] (by kernel_rfl) (storeBlk (t := 28) (b := w667.heap.size) (n := 4) (cs' := (((rowS g s i : List Int) : List Int).map wV)) (by kernel_rfl) (by kernel_rfl) ((List.length_map _).trans (okLen (rowS_ok (by assumption) _))) oneW_ ((show (((rowS g s i : List Int) : List Int).map wV).length = 4 from ((List.length_map _).trans (okLen (rowS_ok (by assumption) _)))).trans (show ((List.replicate 4 (0 : Int) : List Int).map wV).length = 4 from (by simp only [List.length_map, List.length_set, List.length_replicate, List.length_cons, List.length_nil]; first | done | assumption | exact from_len _ | exact of_len _ | exact ofZ_len _ | exact (ofW_ok _).1 | exact (fullW_W _).1 | exact (okW_with (by assumption)).1 | exact (okW_less (by assumption)).1 | exact put_len (from_len _) | exact orD_len _ _ | exact andD_len _ _ | exact minusD_len _ _ | exact fullD_len _ | (refine okLen ?_; (repeat (first | assumption | exact ofW_ok _ | exact fullW_W _ | apply okW_with | apply okW_less | refine okW_orS ?_ ?_ | refine okW_andS ?_ ?_ | refine okW_minusS ?_ ?_)); done) | omega | rfl)).symm) bx807) ?_
         rintro d_ v_ w809 ⟨rfl, g810, bx811⟩
         have hS814 := hS785.gr' g810 (by rw [hCs641]; exact (allP_app ⟨(by simp only [add_block]; omega), (by simp only [add_block]; omega), trivial⟩ (ne_blk (by omega))))
         refine ⟨_, rfl, fun act813 f812 => ⟨hS814, ?_⟩⟩
         clear f788
         have szw809 := g810.size
         have e815 := e790.gr g810 (fun k h => by injection h; omega)
         clear e790
         have r816 := r791.gr g810 (fun k h => by injection h; omega)
         clear r791
         have r817 := r792.gr g810 (fun k h => by injection h; omega)
         clear r792
         have bx818 := bx793.gr g810 (fun h => by injection h; omega)
         clear bx793
         have bx819 := bx794.gr g810 (fun h => by injection h; omega)
         clear bx794
         have bx820 := bx795.gr g810 (fun h => by injection h; omega)
         clear bx795
         have ow821 := ow796.gr g810 (fun k hk => hk.1)
         clear ow796
         have ow822 := ow797.gr g810 (fun k hk => hk.1)
         clear ow797
         have ow823 := ow798.gr g810 (fun k hk => hk.1)
         clear ow798
         have bx824 := bx799.gr g810 (fun h => by injection h; omega)
         clear bx799
         have ow825 := ow800.gr g810 (fun k hk => hk.1)
         clear ow800
         have ow826 := ow801.gr g810 (fun k hk => hk.1)
         clear ow801
         have ow827 := ow802.gr g810 (fun k hk => hk.1)
         clear ow802
         have bx828 := bx803.gr g810 (fun h => by injection h; omega)
         clear bx803
         have bx829 := bx804.gr g810 (fun h => by injection h; omega)
         clear bx804
         have bx830 := bx805.gr g810 (fun h => by injection h; omega)
         clear bx805
         have r831 := r806.gr g810 (fun k h => by injection h; omega)
         clear r806
         clear bx807 g810
         refine AtH.done (by kernel_rfl) ?_
         clear hS814
         refine t_n ?_
         have f832 := f812.sub (r := [(20, .pointer (some ⟨w667.heap.size, 0, none⟩)), (19, .int .i64 (i)), (18, .int .i64 (r)), (17, .pointer (some ⟨w498.heap.size, 0, none⟩)), (16, .pointer (some ⟨w437.heap.size, 0, none⟩)), (14, .pointer (some ⟨w280.heap.size, 0, none⟩)), (13, .pointer (some ⟨w224.heap.size, 0, none⟩)), (12, .int .i64 (((g.ow.length : Nat) : Int))), (7, .pointer (some ⟨w11.heap.size, 0, none⟩)), (5, .pointer (some ⟨w1.heap.size, 0, none⟩)), (4, .pointer (some ⟨w.heap.size, 0, none⟩)), (2, .int .i64 (p))]) ⟨rfl, rfl, rfl, rfl, rfl, rfl, rfl, rfl, rfl, rfl, rfl, rfl, trivial⟩
         exact ⟨w667.heap.size, f832, e815, r816, r817, bx818, bx819, bx820, (ow821.imp (fun g _ hs => ⟨hs.2.1, hs.2.2.1, hs.2.2.2.1, hs.2.2.2.2.1, hs.2.2.2.2.2.1, hs.2.2.2.2.2.2.1, hs.2.2.2.2.2.2.2.1, hs.2.2.2.2.2.2.2.2.1, hs.2.2.2.2.2.2.2.2.2.1, hs.1, (by have := Sx_base hs; show w200.heap.size ≤ g; omega)⟩)), (ow822.imp (fun g _ hs => ⟨hs.2.1, hs.2.2.1, hs.2.2.2.1, hs.2.2.2.2.1, hs.2.2.2.2.2.1, hs.2.2.2.2.2.2.1, hs.2.2.2.2.2.2.2.1, hs.2.2.2.2.2.2.2.2.1, hs.2.2.2.2.2.2.2.2.2.1, hs.1, (by have := Sx_base hs; show w200.heap.size ≤ g; omega)⟩)), (ow823.imp (fun g _ hs => ⟨hs.2.1, hs.2.2.1, hs.2.2.2.1, hs.2.2.2.2.1, hs.2.2.2.2.2.1, hs.2.2.2.2.2.2.1, hs.2.2.2.2.2.2.2.1, hs.2.2.2.2.2.2.2.2.1, hs.2.2.2.2.2.2.2.2.2.1, hs.1, (by have := Sx_base hs; show w200.heap.size ≤ g; omega)⟩)), bx824, (ow825.imp (fun g _ hs => ⟨hs.2.1, hs.2.2.1, hs.2.2.2.1, hs.2.2.2.2.1, hs.2.2.2.2.2.1, hs.2.2.2.2.2.2.1, hs.2.2.2.2.2.2.2.1, hs.2.2.2.2.2.2.2.2.1, hs.1, (by have := Sx_base hs; show w250.heap.size ≤ g; omega)⟩)), (ow826.imp (fun g _ hs => ⟨hs.2.1, hs.2.2.1, hs.2.2.2.1, hs.2.2.2.2.1, hs.2.2.2.2.2.1, hs.2.2.2.2.2.2.1, hs.2.2.2.2.2.2.2.1, hs.2.2.2.2.2.2.2.2.1, hs.1, (by have := Sx_base hs; show w250.heap.size ≤ g; omega)⟩)), (ow827.imp (fun g _ hs => ⟨hs.2.1, hs.2.2.1, hs.2.2.2.1, hs.2.2.2.2.1, hs.2.2.2.2.2.1, hs.2.2.2.2.2.2.1, hs.2.2.2.2.2.2.2.1, hs.2.2.2.2.2.2.2.2.1, hs.1, (by have := Sx_base hs; show w250.heap.size ≤ g; omega)⟩)), bx828, bx829, bx830, bx811, (by omega), (by omega)⟩
       ·refine OneH.seq f664 [[]] [(20, .pointer (some ⟨w644.heap.size, 0, none⟩))] (w644.alloc (.cells ((List.replicate 4 (0 : Int) : List Int).map wV).toArray 28 (0, 0))) [] #[true, true, true, true, true, false, true, false, true, false] (by kernel_rfl) (by kernel_rfl) (by kernel_rfl) trivial (fun act837 w834 hw835 f836 => ?_)
        clear f664
        have g838 := gr_alloc hw835
        have hS833 := hS646.gr g838
        have szw834 := g838.size
        have e840 := e647.gr g838 no_row
        clear e647
        have r841 := r648.gr g838 (fun _ h => by cases h)
        clear r648
        have r842 := r649.gr g838 (fun _ h => by cases h)
        clear r649
        have bx843 := bx650.gr g838 (by simp)
        clear bx650
        have bx844 := bx651.gr g838 (by simp)
        clear bx651
        have bx845 := bx652.gr g838 (by simp)
        clear bx652
        have ow846 : OwnR w834 (Sx (w200.heap.size) [some (w644.heap.size), some (w498.heap.size), some (w437.heap.size), some (w280.heap.size), obk (A_343), obk (A269), obk (A271), some (w224.heap.size), obk (A213), obk (A215)]) A_341 c_342 3 (xa : List Int) := ow653.grA g838 (fun _ _ h => by cases h) (fun k hk hs => ⟨(fun e => by injection e; omega), hs.1, hs.2.1, hs.2.2.1, hs.2.2.2.1, hs.2.2.2.2.1, hs.2.2.2.2.2.1, hs.2.2.2.2.2.2.1, hs.2.2.2.2.2.2.2.1, hs.2.2.2.2.2.2.2.2.1, hs.2.2.2.2.2.2.2.2.2⟩)
        clear ow653
        have ow847 : OwnR w834 (Sx (w200.heap.size) [some (w644.heap.size), some (w498.heap.size), some (w437.heap.size), some (w280.heap.size), obk (A_343), obk (A269), obk (A271), some (w224.heap.size), obk (A_341), obk (A215)]) A213 c214 3 (g.pr : List Int) := ow654.grA g838 (fun _ _ h => by cases h) (fun k hk hs => ⟨(fun e => by injection e; omega), hs.1, hs.2.1, hs.2.2.1, hs.2.2.2.1, hs.2.2.2.2.1, hs.2.2.2.2.2.1, hs.2.2.2.2.2.2.1, hs.2.2.2.2.2.2.2.1, hs.2.2.2.2.2.2.2.2.1, hs.2.2.2.2.2.2.2.2.2⟩)
        clear ow654
        have ow848 : OwnLL w834 (w200.heap.size) [some (w644.heap.size), some (w498.heap.size), some (w437.heap.size), some (w280.heap.size), obk (A_343), obk (A269), obk (A271), some (w224.heap.size), obk (A_341), obk (A213)] A215 c216 22 3 (g.mv : List (List Int)) := ow655.grA g838 (fun _ _ h => by cases h) (fun k hk hs => ⟨(fun e => by injection e; omega), hs.1, hs.2.1, hs.2.2.1, hs.2.2.2.1, hs.2.2.2.2.1, hs.2.2.2.2.2.1, hs.2.2.2.2.2.2.1, hs.2.2.2.2.2.2.2.1, hs.2.2.2.2.2.2.2.2.1, hs.2.2.2.2.2.2.2.2.2⟩)
        clear ow655
        have bx849 := bx656.gr g838 (by simp)
        clear bx656
        have ow850 : OwnR w834 (Sx (w250.heap.size) [some (w644.heap.size), some (w498.heap.size), some (w437.heap.size), some (w280.heap.size), obk (A_341), obk (A213), obk (A215), obk (A269), obk (A271)]) A_343 c_344 3 (xb : List Int) := ow657.grA g838 (fun _ _ h => by cases h) (fun k hk hs => ⟨(fun e => by injection e; omega), hs.1, hs.2.1, hs.2.2.1, hs.2.2.2.1, hs.2.2.2.2.1, hs.2.2.2.2.2.1, hs.2.2.2.2.2.2.1, hs.2.2.2.2.2.2.2.1, hs.2.2.2.2.2.2.2.2⟩)
        clear ow657
        have ow851 : OwnR w834 (Sx (w250.heap.size) [some (w644.heap.size), some (w498.heap.size), some (w437.heap.size), some (w280.heap.size), obk (A_341), obk (A213), obk (A215), obk (A_343), obk (A271)]) A269 c270 3 (g.pr : List Int) := ow658.grA g838 (fun _ _ h => by cases h) (fun k hk hs => ⟨(fun e => by injection e; omega), hs.1, hs.2.1, hs.2.2.1, hs.2.2.2.1, hs.2.2.2.2.1, hs.2.2.2.2.2.1, hs.2.2.2.2.2.2.1, hs.2.2.2.2.2.2.2.1, hs.2.2.2.2.2.2.2.2⟩)
        clear ow658
        have ow852 : OwnLL w834 (w250.heap.size) [some (w644.heap.size), some (w498.heap.size), some (w437.heap.size), some (w280.heap.size), obk (A_341), obk (A213), obk (A215), obk (A_343), obk (A269)] A271 c272 22 3 (g.mv : List (List Int)) := ow659.grA g838 (fun _ _ h => by cases h) (fun k hk hs => ⟨(fun e => by injection e; omega), hs.1, hs.2.1, hs.2.2.1, hs.2.2.2.1, hs.2.2.2.2.1, hs.2.2.2.2.2.1, hs.2.2.2.2.2.2.1, hs.2.2.2.2.2.2.2.1, hs.2.2.2.2.2.2.2.2⟩)
        clear ow659
        have bx853 := bx660.gr g838 (by simp)
        clear bx660
        have bx854 := bx661.gr g838 (by simp)
        clear bx661
        have bx855 := bx662.gr g838 (by simp)
        clear bx662
        have r856 := r663.gr g838 (fun _ h => by cases h)
        clear r663
        have bx857 : Bx w834 (w644.heap.size) ((List.replicate 4 (0 : Int) : List Int).map wV) 28 := Bx.new hw835
        have := bx857.lt
        clear g838 hw835
        refine ⟨hS833, ?_⟩
        refine AtH.all [5] 2 (by kernel_rfl) (by simp) ⟨?_, trivial⟩
        refine OneH.call f836 24 #[.slice R634 ((gL g.mv (i)).length) C635] (some 94) #[true, true, true, true, true, true, true, false, true, false] (by kernel_rfl) (by kernel_rfl) (of_any (la := gL g.mv (i)) (r856.wide (Nat.zero_le _) (by omega))) ?_
        rintro e_ w859 ⟨rfl, he⟩
        refine ⟨_, rfl, _, rfl, fun act860 f861 => ?_⟩
        clear f836
        have g862 := gr_ext he
        have hS858 := hS833.gr g862
        have szw859 := g862.size
        have e863 := e840.gr g862 no_row
        clear e840
        have r864 := r841.gr g862 (fun _ h => by cases h)
        clear r841
        have r865 := r842.gr g862 (fun _ h => by cases h)
        clear r842
        have bx866 := bx843.gr g862 (by simp)
        clear bx843
        have bx867 := bx844.gr g862 (by simp)
        clear bx844
        have bx868 := bx845.gr g862 (by simp)
        clear bx845
        have ow869 := ow846.gr g862 (fun _ _ h => by cases h)
        clear ow846
        have ow870 := ow847.gr g862 (fun _ _ h => by cases h)
        clear ow847
        have ow871 := ow848.gr g862 (fun _ _ h => by cases h)
        clear ow848
        have bx872 := bx849.gr g862 (by simp)
        clear bx849
        have ow873 := ow850.gr g862 (fun _ _ h => by cases h)
        clear ow850
        have ow874 := ow851.gr g862 (fun _ _ h => by cases h)
        clear ow851
        have ow875 := ow852.gr g862 (fun _ _ h => by cases h)
        clear ow852
        have bx876 := bx853.gr g862 (by simp)
        clear bx853
        have bx877 := bx854.gr g862 (by simp)
        clear bx854
        have bx878 := bx855.gr g862 (by simp)
        clear bx855
        have r879 := r856.gr g862 (fun _ h => by cases h)
        clear r856
        have bx880 := bx857.gr g862 (by simp)
        clear bx857
        clear g862 he
        refine ⟨hS858, ?_⟩
        refine AtH.all [7] 1 (by kernel_rfl) (by simp) ⟨?_, trivial⟩
        refine OneH.call f861 19 #[.agg ((ofW (gL g.mv (i)) : List Int).map wV).toArray, .agg (((inS g s : List Int) : List Int).map wV).toArray] (some 96) #[true, true, true, true, true, true, true, true, true, false] (by kernel_rfl) (by kernel_rfl) ((andS_any (s := ofW (gL g.mv (i))) (t := (inS g s : List Int)) (ofW_ok _) (inS_ok (by assumption))).mono (R' := fun e w' => e = .returned (.agg (((rowS g s i : List Int) : List Int).map wV).toArray) ∧ Ext _ w') (fun e_ w_ h_ => by rw [show (andS (ofW (gL g.mv (i))) (inS g s : List Int) : List Int) = (rowS g s i : List Int) from rfl] at h_; exact h_)) ?_
        rintro e_ w882 ⟨rfl, he⟩
        refine ⟨_, rfl, _, rfl, fun act883 f884 => ?_⟩
        clear f861
        have g885 := gr_ext he
        have hS881 := hS858.gr g885
        have szw882 := g885.size
        have e886 := e863.gr g885 no_row
        clear e863
        have r887 := r864.gr g885 (fun _ h => by cases h)
        clear r864
        have r888 := r865.gr g885 (fun _ h => by cases h)
        clear r865
        have bx889 := bx866.gr g885 (by simp)
        clear bx866
        have bx890 := bx867.gr g885 (by simp)
        clear bx867
        have bx891 := bx868.gr g885 (by simp)
        clear bx868
        have ow892 := ow869.gr g885 (fun _ _ h => by cases h)
        clear ow869
        have ow893 := ow870.gr g885 (fun _ _ h => by cases h)
        clear ow870
        have ow894 := ow871.gr g885 (fun _ _ h => by cases h)
        clear ow871
        have bx895 := bx872.gr g885 (by simp)
        clear bx872
        have ow896 := ow873.gr g885 (fun _ _ h => by cases h)
        clear ow873
        have ow897 := ow874.gr g885 (fun _ _ h => by cases h)
        clear ow874
        have ow898 := ow875.gr g885 (fun _ _ h => by cases h)
        clear ow875
        have bx899 := bx876.gr g885 (by simp)
        clear bx876
        have bx900 := bx877.gr g885 (by simp)
        clear bx877
        have bx901 := bx878.gr g885 (by simp)
        clear bx878
        have r902 := r879.gr g885 (fun _ h => by cases h)
        clear r879
        have bx903 := bx880.gr g885 (by simp)
        clear bx880
        clear g885 he
        refine ⟨hS881, ?_⟩
        refine AtH.all [9] 0 (by kernel_rfl) (by simp) ⟨?_, trivial⟩
        refine OneH.act f884 #[true, true, true, true, true, true, true, true, true, true] (by kernel_rfl) (storeBlk (t := 28) (b := w644.heap.size) (n := 4) (cs' := (((rowS g s i : List Int) : List Int).map wV)) (by kernel_rfl) (by kernel_rfl) ((List.length_map _).trans (okLen (rowS_ok (by assumption) _))) oneW_ ((show (((rowS g s i : List Int) : List Int).map wV).length = 4 from ((List.length_map _).trans (okLen (rowS_ok (by assumption) _)))).trans (show ((List.replicate 4 (0 : Int) : List Int).map wV).length = 4 from (by simp only [List.length_map, List.length_set, List.length_replicate, List.length_cons, List.length_nil]; first | done | assumption | exact from_len _ | exact of_len _ | exact ofZ_len _ | exact (ofW_ok _).1 | exact (fullW_W _).1 | exact (okW_with (by assumption)).1 | exact (okW_less (by assumption)).1 | exact put_len (from_len _) | exact orD_len _ _ | exact andD_len _ _ | exact minusD_len _ _ | exact fullD_len _ | (refine okLen ?_; (repeat (first | assumption | exact ofW_ok _ | exact fullW_W _ | apply okW_with | apply okW_less | refine okW_orS ?_ ?_ | refine okW_andS ?_ ?_ | refine okW_minusS ?_ ?_)); done) | omega | rfl)).symm) bx903) ?_
        rintro d_ v_ w905 ⟨rfl, g906, bx907⟩
        have hS910 := hS881.gr' g906 (by rw [hCs641]; exact (allP_app ⟨(by simp only [add_block]; omega), (by simp only [add_block]; omega), trivial⟩ (ne_blk (by omega))))
        refine ⟨_, rfl, fun act909 f908 => ⟨hS910, ?_⟩⟩
        clear f884
        have szw905 := g906.size
        have e911 := e886.gr g906 (fun k h => by injection h; omega)
        clear e886
        have r912 := r887.gr g906 (fun k h => by injection h; omega)
        clear r887
        have r913 := r888.gr g906 (fun k h => by injection h; omega)
        clear r888
        have bx914 := bx889.gr g906 (fun h => by injection h; omega)
        clear bx889
        have bx915 := bx890.gr g906 (fun h => by injection h; omega)
        clear bx890
        have bx916 := bx891.gr g906 (fun h => by injection h; omega)
        clear bx891
        have ow917 := ow892.gr g906 (fun k hk => hk.1)
        clear ow892
        have ow918 := ow893.gr g906 (fun k hk => hk.1)
        clear ow893
        have ow919 := ow894.gr g906 (fun k hk => hk.1)
        clear ow894
        have bx920 := bx895.gr g906 (fun h => by injection h; omega)
        clear bx895
        have ow921 := ow896.gr g906 (fun k hk => hk.1)
        clear ow896
        have ow922 := ow897.gr g906 (fun k hk => hk.1)
        clear ow897
        have ow923 := ow898.gr g906 (fun k hk => hk.1)
        clear ow898
        have bx924 := bx899.gr g906 (fun h => by injection h; omega)
        clear bx899
        have bx925 := bx900.gr g906 (fun h => by injection h; omega)
        clear bx900
        have bx926 := bx901.gr g906 (fun h => by injection h; omega)
        clear bx901
        have r927 := r902.gr g906 (fun k h => by injection h; omega)
        clear r902
        clear bx903 g906
        refine AtH.done (by kernel_rfl) ?_
        clear hS910
        refine t_n ?_
        have f928 := f908.sub (r := [(20, .pointer (some ⟨w644.heap.size, 0, none⟩)), (19, .int .i64 (i)), (18, .int .i64 (r)), (17, .pointer (some ⟨w498.heap.size, 0, none⟩)), (16, .pointer (some ⟨w437.heap.size, 0, none⟩)), (14, .pointer (some ⟨w280.heap.size, 0, none⟩)), (13, .pointer (some ⟨w224.heap.size, 0, none⟩)), (12, .int .i64 (((g.ow.length : Nat) : Int))), (7, .pointer (some ⟨w11.heap.size, 0, none⟩)), (5, .pointer (some ⟨w1.heap.size, 0, none⟩)), (4, .pointer (some ⟨w.heap.size, 0, none⟩)), (2, .int .i64 (p))]) ⟨rfl, rfl, rfl, rfl, rfl, rfl, rfl, rfl, rfl, rfl, rfl, rfl, trivial⟩
        exact ⟨w644.heap.size, f928, e911, r912, r913, bx914, bx915, bx916, (ow917.imp (fun g _ hs => ⟨hs.2.1, hs.2.2.1, hs.2.2.2.1, hs.2.2.2.2.1, hs.2.2.2.2.2.1, hs.2.2.2.2.2.2.1, hs.2.2.2.2.2.2.2.1, hs.2.2.2.2.2.2.2.2.1, hs.2.2.2.2.2.2.2.2.2.1, hs.1, (by have := Sx_base hs; show w200.heap.size ≤ g; omega)⟩)), (ow918.imp (fun g _ hs => ⟨hs.2.1, hs.2.2.1, hs.2.2.2.1, hs.2.2.2.2.1, hs.2.2.2.2.2.1, hs.2.2.2.2.2.2.1, hs.2.2.2.2.2.2.2.1, hs.2.2.2.2.2.2.2.2.1, hs.2.2.2.2.2.2.2.2.2.1, hs.1, (by have := Sx_base hs; show w200.heap.size ≤ g; omega)⟩)), (ow919.imp (fun g _ hs => ⟨hs.2.1, hs.2.2.1, hs.2.2.2.1, hs.2.2.2.2.1, hs.2.2.2.2.2.1, hs.2.2.2.2.2.2.1, hs.2.2.2.2.2.2.2.1, hs.2.2.2.2.2.2.2.2.1, hs.2.2.2.2.2.2.2.2.2.1, hs.1, (by have := Sx_base hs; show w200.heap.size ≤ g; omega)⟩)), bx920, (ow921.imp (fun g _ hs => ⟨hs.2.1, hs.2.2.1, hs.2.2.2.1, hs.2.2.2.2.1, hs.2.2.2.2.2.1, hs.2.2.2.2.2.2.1, hs.2.2.2.2.2.2.2.1, hs.2.2.2.2.2.2.2.2.1, hs.1, (by have := Sx_base hs; show w250.heap.size ≤ g; omega)⟩)), (ow922.imp (fun g _ hs => ⟨hs.2.1, hs.2.2.1, hs.2.2.2.1, hs.2.2.2.2.1, hs.2.2.2.2.2.1, hs.2.2.2.2.2.2.1, hs.2.2.2.2.2.2.2.1, hs.2.2.2.2.2.2.2.2.1, hs.1, (by have := Sx_base hs; show w250.heap.size ≤ g; omega)⟩)), (ow923.imp (fun g _ hs => ⟨hs.2.1, hs.2.2.1, hs.2.2.2.1, hs.2.2.2.2.1, hs.2.2.2.2.2.1, hs.2.2.2.2.2.2.1, hs.2.2.2.2.2.2.2.1, hs.2.2.2.2.2.2.2.2.1, hs.1, (by have := Sx_base hs; show w250.heap.size ≤ g; omega)⟩)), bx924, bx925, bx926, bx907, (by omega), (by omega)⟩
      ·clear r603
       clear r604
       clear bx605
       clear bx606
       clear bx607
       clear ow608
       clear ow609
       clear r610
       clear bx611
       clear ow612
       clear ow613
       clear r614
       clear bx615
       clear bx616
       clear bx617
       clear f629 e600
       intro act929 w930 ⟨b_630, f931, e932, r933, r934, bx935, bx936, bx937, ow938, ow939, ow940, bx941, ow942, ow943, ow944, bx945, bx946, bx947, bx948, hb949, szz950⟩
       have szw930 := e932.size
       have := bx935.lt
       have := bx936.lt
       have := bx937.lt
       have := bx941.lt
       have := bx945.lt
       have := bx946.lt
       have := bx947.lt
       have := bx948.lt
       refine wp_seq (cut (fun a_ w_ => ∃ (sm3 : List Int), (Frm 154 a_ [(20, .pointer (some ⟨b_630, 0, none⟩)), (19, .int .i64 (i)), (18, .int .i64 (r)), (17, .pointer (some ⟨w498.heap.size, 0, none⟩)), (16, .pointer (some ⟨w437.heap.size, 0, none⟩)), (14, .pointer (some ⟨w280.heap.size, 0, none⟩)), (13, .pointer (some ⟨w224.heap.size, 0, none⟩)), (12, .int .i64 (((g.ow.length : Nat) : Int))), (7, .pointer (some ⟨w11.heap.size, 0, none⟩)), (5, .pointer (some ⟨w1.heap.size, 0, none⟩)), (4, .pointer (some ⟨w.heap.size, 0, none⟩)), (2, .int .i64 (p))]) ∧ (Ext w w_) ∧ (RdG w_ 0 w.heap.size Ag0 Ag1 Ag2 cg0 cg1 cg2 g) ∧ (RdT w_ 0 w.heap.size) ∧ (Bx w_ (w.heap.size) [.slice Ag0 g.ow.length cg0, .slice Ag1 g.pr.length cg1, .slice Ag2 g.mv.length cg2] 25) ∧ (Bx w_ (w1.heap.size) (((inS g s : List Int) : List Int).map wV) 28) ∧ (Bx w_ (w11.heap.size) ((t : List Int).map wV) 28) ∧ (OwnR w_ (Sx (w200.heap.size) [some (w498.heap.size), some (w437.heap.size), some (w280.heap.size), obk (A_343), obk (A269), obk (A271), some (w224.heap.size), obk (A213), obk (A215), some (b_630)]) A_341 c_342 3 (xa : List Int)) ∧ (OwnR w_ (Sx (w200.heap.size) [some (w498.heap.size), some (w437.heap.size), some (w280.heap.size), obk (A_343), obk (A269), obk (A271), some (w224.heap.size), obk (A_341), obk (A215), some (b_630)]) A213 c214 3 (g.pr : List Int)) ∧ (OwnLL w_ (w200.heap.size) [some (w498.heap.size), some (w437.heap.size), some (w280.heap.size), obk (A_343), obk (A269), obk (A271), some (w224.heap.size), obk (A_341), obk (A213), some (b_630)] A215 c216 22 3 (g.mv : List (List Int))) ∧ (Bx w_ (w224.heap.size) [.slice A_341 xa.length c_342, .slice A213 g.pr.length c214, .slice A215 g.mv.length c216] 25) ∧ (OwnR w_ (Sx (w250.heap.size) [some (w498.heap.size), some (w437.heap.size), some (w280.heap.size), obk (A_341), obk (A213), obk (A215), obk (A269), obk (A271), some (b_630)]) A_343 c_344 3 (xb : List Int)) ∧ (OwnR w_ (Sx (w250.heap.size) [some (w498.heap.size), some (w437.heap.size), some (w280.heap.size), obk (A_341), obk (A213), obk (A215), obk (A_343), obk (A271), some (b_630)]) A269 c270 3 (g.pr : List Int)) ∧ (OwnLL w_ (w250.heap.size) [some (w498.heap.size), some (w437.heap.size), some (w280.heap.size), obk (A_341), obk (A213), obk (A215), obk (A_343), obk (A269), some (b_630)] A271 c272 22 3 (g.mv : List (List Int))) ∧ (Bx w_ (w280.heap.size) [.slice A_343 xb.length c_344, .slice A269 g.pr.length c270, .slice A271 g.mv.length c272] 25) ∧ (Bx w_ (w437.heap.size) ((sm3 : List Int).map wV) 28) ∧ (Bx w_ (w498.heap.size) ((sy2 : List Int).map wV) 28) ∧ (Bx w_ (b_630) (((rowS g s i : List Int) : List Int).map wV) 28) ∧ (SomeT g (inT g s) (fromW t) sm3) ∧ (SomeK g (inT g s) sm3 r (i + 1)) ∧ (sm3.length = 4) ∧ (w930.heap.size ≤ w_.heap.size)) ?_ ?_)
       ·refine wp_seq ?_
        refine At.start ?_
        refine At.rd f931 2 [[.cs (((inS g s : List Int) : List Int).map wV)], []] [(98, .int .i64 (i)), (97, .agg (((inS g s : List Int) : List Int).map wV).toArray)] [((((inS g s : List Int) : List Int).map wV).length = 4), (∀ (j : Nat) (v : Value), (((inS g s : List Int) : List Int).map wV)[j]? = some v → w930.cell? ((⟨w1.heap.size, 0, none⟩ : Addr).add j) = some v)] (by kernel_rfl) ⟨((List.length_map _).trans (okLen (inS_ok (by assumption)))), bx936.whole, trivial⟩ (fun act953 f952 => ?_)
        clear f931
        refine At.call f952 23 #[.agg (((inS g s : List Int) : List Int).map wV).toArray, .int .i64 (i)] (some 99) (by kernel_rfl) (has_any (s := (inS g s : List Int)) (n := i) (inS_ok (by assumption))) ?_
        rintro e_ w954 ⟨rfl, he⟩
        refine ⟨_, rfl, _, rfl, fun act955 f956 => ?_⟩
        clear f952
        have g957 := gr_ext he
        have szw954 := g957.size
        have e958 := e932.gr g957 no_row
        clear e932
        have r959 := r933.gr g957 (fun _ h => by cases h)
        clear r933
        have r960 := r934.gr g957 (fun _ h => by cases h)
        clear r934
        have bx961 := bx935.gr g957 (by simp)
        clear bx935
        have bx962 := bx936.gr g957 (by simp)
        clear bx936
        have bx963 := bx937.gr g957 (by simp)
        clear bx937
        have ow964 := ow938.gr g957 (fun _ _ h => by cases h)
        clear ow938
        have ow965 := ow939.gr g957 (fun _ _ h => by cases h)
        clear ow939
        have ow966 := ow940.gr g957 (fun _ _ h => by cases h)
        clear ow940
        have bx967 := bx941.gr g957 (by simp)
        clear bx941
        have ow968 := ow942.gr g957 (fun _ _ h => by cases h)
        clear ow942
        have ow969 := ow943.gr g957 (fun _ _ h => by cases h)
        clear ow943
        have ow970 := ow944.gr g957 (fun _ _ h => by cases h)
        clear ow944
        have bx971 := bx945.gr g957 (by simp)
        clear bx945
        have bx972 := bx946.gr g957 (by simp)
        clear bx946
        have bx973 := bx947.gr g957 (by simp)
        clear bx947
        have bx974 := bx948.gr g957 (by simp)
        clear bx948
        clear g957 he
        rcases Bool.eq_false_or_eq_true (hasW (inS g s : List Int) i) with h975 | h975
        ·-- hasW (inS g s : List Int) i is True
         refine At.rd f956 3 [[.as_ (.bool true)], [.cs (((rowS g s i : List Int) : List Int).map wV)], [.cs ((sm2 : List Int).map wV)]] [(102, .agg ((sm2 : List Int).map wV).toArray), (101, .agg (((rowS g s i : List Int) : List Int).map wV).toArray), (100, .bool true)] [((.bool (hasW (inS g s : List Int) i) : Value) = .bool true), ((((rowS g s i : List Int) : List Int).map wV).length = 4), (∀ (j : Nat) (v : Value), (((rowS g s i : List Int) : List Int).map wV)[j]? = some v → w954.cell? ((⟨b_630, 0, none⟩ : Addr).add j) = some v), (((sm2 : List Int).map wV).length = 4), (∀ (j : Nat) (v : Value), ((sm2 : List Int).map wV)[j]? = some v → w954.cell? ((⟨w437.heap.size, 0, none⟩ : Addr).add j) = some v)] (by kernel_rfl) ⟨(congrArg Value.bool h975), ((List.length_map _).trans (okLen (rowS_ok (by assumption) _))), bx974.whole, (by simp only [List.length_map, List.length_set, List.length_replicate, List.length_cons, List.length_nil]; first | done | assumption | exact from_len _ | exact of_len _ | exact ofZ_len _ | exact (ofW_ok _).1 | exact (fullW_W _).1 | exact (okW_with (by assumption)).1 | exact (okW_less (by assumption)).1 | exact put_len (from_len _) | exact orD_len _ _ | exact andD_len _ _ | exact minusD_len _ _ | exact fullD_len _ | (refine okLen ?_; (repeat (first | assumption | exact ofW_ok _ | exact fullW_W _ | apply okW_with | apply okW_less | refine okW_orS ?_ ?_ | refine okW_andS ?_ ?_ | refine okW_minusS ?_ ?_)); done) | omega | rfl), bx972.whole, trivial⟩ (fun act978 f977 => ?_)
         clear f956
         refine At.call f977 19 #[.agg (((rowS g s i : List Int) : List Int).map wV).toArray, .agg ((sm2 : List Int).map wV).toArray] (some 103) (by kernel_rfl) (andS_any (s := (rowS g s i : List Int)) (t := sm2) (rowS_ok (by assumption) _) (by repeat (first | assumption | exact ofW_ok _ | exact fullW_W _ | exact wordsD_W _ | exact okW_0 | exact okW_00 | apply okW_orS | apply okW_andS | apply okW_minusS | apply okW_with | apply okW_less | apply okW_or | apply okW_and | apply okW_minus | (apply okW_lit <;> exact ⟨by omega, by omega⟩)))) ?_
         rintro e_ w979 ⟨rfl, he⟩
         refine ⟨_, rfl, _, rfl, fun act980 f981 => ?_⟩
         clear f977
         have g982 := gr_ext he
         have szw979 := g982.size
         have e983 := e958.gr g982 no_row
         clear e958
         have r984 := r959.gr g982 (fun _ h => by cases h)
         clear r959
         have r985 := r960.gr g982 (fun _ h => by cases h)
         clear r960
         have bx986 := bx961.gr g982 (by simp)
         clear bx961
         have bx987 := bx962.gr g982 (by simp)
         clear bx962
         have bx988 := bx963.gr g982 (by simp)
         clear bx963
         have ow989 := ow964.gr g982 (fun _ _ h => by cases h)
         clear ow964
         have ow990 := ow965.gr g982 (fun _ _ h => by cases h)
         clear ow965
         have ow991 := ow966.gr g982 (fun _ _ h => by cases h)
         clear ow966
         have bx992 := bx967.gr g982 (by simp)
         clear bx967
         have ow993 := ow968.gr g982 (fun _ _ h => by cases h)
         clear ow968
         have ow994 := ow969.gr g982 (fun _ _ h => by cases h)
         clear ow969
         have ow995 := ow970.gr g982 (fun _ _ h => by cases h)
         clear ow970
         have bx996 := bx971.gr g982 (by simp)
         clear bx971
         have bx997 := bx972.gr g982 (by simp)
         clear bx972
         have bx998 := bx973.gr g982 (by simp)
         clear bx973
         have bx999 := bx974.gr g982 (by simp)
         clear bx974
         clear g982 he
         refine At.rd f981 3 [[], [.cs [wV (gI (andS (rowS g s i : List Int) sm2) 0), wV (gI (andS (rowS g s i : List Int) sm2) 1), wV (gI (andS (rowS g s i : List Int) sm2) 2), wV (gI (andS (rowS g s i : List Int) sm2) 3)], .cs [wV (gI ([0, 0, 0, 0]) 0), wV (gI ([0, 0, 0, 0]) 1), wV (gI ([0, 0, 0, 0]) 2), wV (gI ([0, 0, 0, 0]) 3)], .as_ (.bool (!(decide ((andS (rowS g s i : List Int) sm2 : List Int) = ([0, 0, 0, 0])))))], []] [(106, .bool (!(decide ((andS (rowS g s i : List Int) sm2 : List Int) = ([0, 0, 0, 0]))))), (105, .bool (!(decide ((andS (rowS g s i : List Int) sm2 : List Int) = ([0, 0, 0, 0]))))), (104, .agg (([0, 0, 0, 0] : List Int).map wV).toArray)] [(((andS (rowS g s i : List Int) sm2 : List Int).map wV).toArray = ([wV (gI (andS (rowS g s i : List Int) sm2) 0), wV (gI (andS (rowS g s i : List Int) sm2) 1), wV (gI (andS (rowS g s i : List Int) sm2) 2), wV (gI (andS (rowS g s i : List Int) sm2) 3)] : List Value).toArray), ((([0, 0, 0, 0] : List Int).map wV).toArray = ([wV (gI ([0, 0, 0, 0]) 0), wV (gI ([0, 0, 0, 0]) 1), wV (gI ([0, 0, 0, 0]) 2), wV (gI ([0, 0, 0, 0]) 3)] : List Value).toArray), ((.bool (!(((gI (andS (rowS g s i : List Int) sm2) 0 : Int) == gI ([0, 0, 0, 0]) 0) && (((gI (andS (rowS g s i : List Int) sm2) 1 : Int) == gI ([0, 0, 0, 0]) 1) && (((gI (andS (rowS g s i : List Int) sm2) 2 : Int) == gI ([0, 0, 0, 0]) 2) && (((gI (andS (rowS g s i : List Int) sm2) 3 : Int) == gI ([0, 0, 0, 0]) 3) && true))))) : Value) = .bool (!(decide ((andS (rowS g s i : List Int) sm2 : List Int) = ([0, 0, 0, 0])))))] (by kernel_rfl) ⟨(map4 (okLen (okW_andS (rowS_ok (by assumption) _) (by assumption)))), (map4 (okLen okW_00)), (congrArg (fun b => Value.bool (!b)) (w4_eq (okLen (okW_andS (rowS_ok (by assumption) _) (by assumption))) (okLen okW_00))), trivial⟩ (fun act1001 f1000 => ?_)
         clear f981
         refine At.done rfl ?_
         refine t_n ?_
         have f1002 := f1000.sub (r := [(106, .bool (!(decide ((andS (rowS g s i : List Int) sm2 : List Int) = ([0, 0, 0, 0]))))), (105, .bool (!(decide ((andS (rowS g s i : List Int) sm2 : List Int) = ([0, 0, 0, 0]))))), (104, .agg (([0, 0, 0, 0] : List Int).map wV).toArray), (103, .agg ((andS (rowS g s i : List Int) sm2 : List Int).map wV).toArray), (102, .agg ((sm2 : List Int).map wV).toArray), (101, .agg (((rowS g s i : List Int) : List Int).map wV).toArray), (20, .pointer (some ⟨b_630, 0, none⟩)), (19, .int .i64 (i)), (18, .int .i64 (r)), (17, .pointer (some ⟨w498.heap.size, 0, none⟩)), (16, .pointer (some ⟨w437.heap.size, 0, none⟩)), (14, .pointer (some ⟨w280.heap.size, 0, none⟩)), (13, .pointer (some ⟨w224.heap.size, 0, none⟩)), (12, .int .i64 (((g.ow.length : Nat) : Int))), (7, .pointer (some ⟨w11.heap.size, 0, none⟩)), (5, .pointer (some ⟨w1.heap.size, 0, none⟩)), (4, .pointer (some ⟨w.heap.size, 0, none⟩)), (2, .int .i64 (p))]) ⟨rfl, rfl, rfl, rfl, rfl, rfl, rfl, rfl, rfl, rfl, rfl, rfl, rfl, rfl, rfl, rfl, rfl, rfl, trivial⟩
         clear f1000
         refine cond_S f1002 (t := !(decide ((andS (rowS g s i : List Int) sm2 : List Int) = ([0, 0, 0, 0])))) rfl (fun h1003 => ?_) (fun h1003 => ?_)
         ·-- !(decide ((andS (rowS g s i : List Int) sm2 : List Int) = ([0, 0, 0, 0]))) is True
          have q1004 : (decide ((andS (rowS g s i : List Int) sm2 : List Int) = ([0, 0, 0, 0]))) = false := by first | exact Eq.mp (Bool.not_eq_true' _) h1003 | exact Eq.mp (Bool.not_eq_false' _) h1003 | simpa using h1003
          -- decide ((andS (rowS g s i : List Int) sm2 : List Int) = ([0, 0, 0, 0])) is False
          have q1005 := of_decide_eq_false q1004
          refine At.start ?_
          refine At.rd f1002 2 [[.cs ((sm2 : List Int).map wV)], []] [(108, .int .i64 (i)), (107, .agg ((sm2 : List Int).map wV).toArray)] [(((sm2 : List Int).map wV).length = 4), (∀ (j : Nat) (v : Value), ((sm2 : List Int).map wV)[j]? = some v → w979.cell? ((⟨w437.heap.size, 0, none⟩ : Addr).add j) = some v)] (by kernel_rfl) ⟨(by simp only [List.length_map, List.length_set, List.length_replicate, List.length_cons, List.length_nil]; first | done | assumption | exact from_len _ | exact of_len _ | exact ofZ_len _ | exact (ofW_ok _).1 | exact (fullW_W _).1 | exact (okW_with (by assumption)).1 | exact (okW_less (by assumption)).1 | exact put_len (from_len _) | exact orD_len _ _ | exact andD_len _ _ | exact minusD_len _ _ | exact fullD_len _ | (refine okLen ?_; (repeat (first | assumption | exact ofW_ok _ | exact fullW_W _ | apply okW_with | apply okW_less | refine okW_orS ?_ ?_ | refine okW_andS ?_ ?_ | refine okW_minusS ?_ ?_)); done) | omega | rfl), bx997.whole, trivial⟩ (fun act1007 f1006 => ?_)
          clear f1002
          refine At.call f1006 27 #[.agg ((sm2 : List Int).map wV).toArray, .int .i64 (i)] (some 109) (by kernel_rfl) (with_any (s := sm2) (n := i) (by repeat (first | assumption | exact ofW_ok _ | exact fullW_W _ | exact wordsD_W _ | exact okW_0 | exact okW_00 | apply okW_orS | apply okW_andS | apply okW_minusS | apply okW_with | apply okW_less | apply okW_or | apply okW_and | apply okW_minus | (apply okW_lit <;> exact ⟨by omega, by omega⟩)))) ?_
          rintro e_ w1008 ⟨rfl, he⟩
          refine ⟨_, rfl, _, rfl, fun act1009 f1010 => ?_⟩
          clear f1006
          have g1011 := gr_ext he
          have szw1008 := g1011.size
          have e1012 := e983.gr g1011 no_row
          clear e983
          have r1013 := r984.gr g1011 (fun _ h => by cases h)
          clear r984
          have r1014 := r985.gr g1011 (fun _ h => by cases h)
          clear r985
          have bx1015 := bx986.gr g1011 (by simp)
          clear bx986
          have bx1016 := bx987.gr g1011 (by simp)
          clear bx987
          have bx1017 := bx988.gr g1011 (by simp)
          clear bx988
          have ow1018 := ow989.gr g1011 (fun _ _ h => by cases h)
          clear ow989
          have ow1019 := ow990.gr g1011 (fun _ _ h => by cases h)
          clear ow990
          have ow1020 := ow991.gr g1011 (fun _ _ h => by cases h)
          clear ow991
          have bx1021 := bx992.gr g1011 (by simp)
          clear bx992
          have ow1022 := ow993.gr g1011 (fun _ _ h => by cases h)
          clear ow993
          have ow1023 := ow994.gr g1011 (fun _ _ h => by cases h)
          clear ow994
          have ow1024 := ow995.gr g1011 (fun _ _ h => by cases h)
          clear ow995
          have bx1025 := bx996.gr g1011 (by simp)
          clear bx996
          have bx1026 := bx997.gr g1011 (by simp)
          clear bx997
          have bx1027 := bx998.gr g1011 (by simp)
          clear bx998
          have bx1028 := bx999.gr g1011 (by simp)
          clear bx999
          clear g1011 he
          refine At.act f1010 (storeBlk (t := 28) (b := w437.heap.size) (n := 4) (cs' := ((withW sm2 i : List Int).map wV)) (by kernel_rfl) (by kernel_rfl) ((List.length_map _).trans (okLen (okW_with (by assumption)))) oneW_ ((show ((withW sm2 i : List Int).map wV).length = 4 from ((List.length_map _).trans (okLen (okW_with (by assumption))))).trans (show ((sm2 : List Int).map wV).length = 4 from (by simp only [List.length_map, List.length_set, List.length_replicate, List.length_cons, List.length_nil]; first | done | assumption | exact from_len _ | exact of_len _ | exact ofZ_len _ | exact (ofW_ok _).1 | exact (fullW_W _).1 | exact (okW_with (by assumption)).1 | exact (okW_less (by assumption)).1 | exact put_len (from_len _) | exact orD_len _ _ | exact andD_len _ _ | exact minusD_len _ _ | exact fullD_len _ | (refine okLen ?_; (repeat (first | assumption | exact ofW_ok _ | exact fullW_W _ | apply okW_with | apply okW_less | refine okW_orS ?_ ?_ | refine okW_andS ?_ ?_ | refine okW_minusS ?_ ?_)); done) | omega | rfl)).symm) bx1026) ?_
          rintro d_ v_ w1029 ⟨rfl, g1030, bx1031⟩
          refine ⟨_, rfl, fun act1033 f1032 => ?_⟩
          clear f1010
          have szw1029 := g1030.size
          have e1034 := e1012.gr g1030 (fun k h => by injection h; omega)
          clear e1012
          have r1035 := r1013.gr g1030 (fun k h => by injection h; omega)
          clear r1013
          have r1036 := r1014.gr g1030 (fun k h => by injection h; omega)
          clear r1014
          have bx1037 := bx1015.gr g1030 (fun h => by injection h; omega)
          clear bx1015
          have bx1038 := bx1016.gr g1030 (fun h => by injection h; omega)
          clear bx1016
          have bx1039 := bx1017.gr g1030 (fun h => by injection h; omega)
          clear bx1017
          have ow1040 := ow1018.gr g1030 (fun k hk => hk.2.1)
          clear ow1018
          have ow1041 := ow1019.gr g1030 (fun k hk => hk.2.1)
          clear ow1019
          have ow1042 := ow1020.gr g1030 (fun k hk => hk.2.1)
          clear ow1020
          have bx1043 := bx1021.gr g1030 (fun h => by injection h; omega)
          clear bx1021
          have ow1044 := ow1022.gr g1030 (fun k hk => hk.2.1)
          clear ow1022
          have ow1045 := ow1023.gr g1030 (fun k hk => hk.2.1)
          clear ow1023
          have ow1046 := ow1024.gr g1030 (fun k hk => hk.2.1)
          clear ow1024
          have bx1047 := bx1025.gr g1030 (fun h => by injection h; omega)
          clear bx1025
          have bx1048 := bx1027.gr g1030 (fun h => by injection h; omega)
          clear bx1027
          have bx1049 := bx1028.gr g1030 (fun h => by injection h; omega)
          clear bx1028
          clear bx1026 g1030
          refine At.done rfl ?_
          refine t_n ?_
          have f1050 := f1032.sub (r := [(20, .pointer (some ⟨b_630, 0, none⟩)), (19, .int .i64 (i)), (18, .int .i64 (r)), (17, .pointer (some ⟨w498.heap.size, 0, none⟩)), (16, .pointer (some ⟨w437.heap.size, 0, none⟩)), (14, .pointer (some ⟨w280.heap.size, 0, none⟩)), (13, .pointer (some ⟨w224.heap.size, 0, none⟩)), (12, .int .i64 (((g.ow.length : Nat) : Int))), (7, .pointer (some ⟨w11.heap.size, 0, none⟩)), (5, .pointer (some ⟨w1.heap.size, 0, none⟩)), (4, .pointer (some ⟨w.heap.size, 0, none⟩)), (2, .int .i64 (p))]) ⟨rfl, rfl, rfl, rfl, rfl, rfl, rfl, rfl, rfl, rfl, rfl, rfl, trivial⟩
          exact ⟨withW sm2 i, f1050, e1034, r1035, r1036, bx1037, bx1038, bx1039, ow1040, ow1041, ow1042, bx1043, ow1044, ow1045, ow1046, bx1047, bx1031, bx1048, bx1049, (some_addT hR hs hT2 (by omega) (by omega) (some_in (by omega) (by omega) (by assumption)) (some_hit hR hs hT2.ok (by omega) (by omega) (of_nb (by assumption)))), (some_addK hR hT2.ok hK (by omega) (by omega) (some_in (by omega) (by omega) (by assumption)) (some_hit hR hs hT2.ok (by omega) (by omega) (of_nb (by assumption)))), (okW_with hT2.ok).1, (by omega)⟩
         ·-- !(decide ((andS (rowS g s i : List Int) sm2 : List Int) = ([0, 0, 0, 0]))) is False
          have q1051 : (decide ((andS (rowS g s i : List Int) sm2 : List Int) = ([0, 0, 0, 0]))) = true := by first | exact Eq.mp (Bool.not_eq_true' _) h1003 | exact Eq.mp (Bool.not_eq_false' _) h1003 | simpa using h1003
          -- decide ((andS (rowS g s i : List Int) sm2 : List Int) = ([0, 0, 0, 0])) is True
          have q1052 := of_decide_eq_true q1051
          refine wp_skip ?_
          refine t_n ?_
          have f1053 := f1002.sub (r := [(20, .pointer (some ⟨b_630, 0, none⟩)), (19, .int .i64 (i)), (18, .int .i64 (r)), (17, .pointer (some ⟨w498.heap.size, 0, none⟩)), (16, .pointer (some ⟨w437.heap.size, 0, none⟩)), (14, .pointer (some ⟨w280.heap.size, 0, none⟩)), (13, .pointer (some ⟨w224.heap.size, 0, none⟩)), (12, .int .i64 (((g.ow.length : Nat) : Int))), (7, .pointer (some ⟨w11.heap.size, 0, none⟩)), (5, .pointer (some ⟨w1.heap.size, 0, none⟩)), (4, .pointer (some ⟨w.heap.size, 0, none⟩)), (2, .int .i64 (p))]) ⟨rfl, rfl, rfl, rfl, rfl, rfl, rfl, rfl, rfl, rfl, rfl, rfl, trivial⟩
          exact ⟨sm2, f1053, e983, r984, r985, bx986, bx987, bx988, ow989, ow990, ow991, bx992, ow993, ow994, ow995, bx996, bx997, bx998, bx999, hT2, (some_skipK hK (fun hI_ => some_no hR hs hT2.ok (by omega) (by omega) hI_ (by first | exact .inl (by assumption) | exact .inr (by assumption)))), hT2.ok.1, (by omega)⟩
        ·-- hasW (inS g s : List Int) i is False
         refine At.rd f956 7 [[.as_ (.bool false)], [], [], [], [], [], []] [(106, .bool false), (105, undef), (104, undef), (103, undef), (102, undef), (101, undef), (100, .bool false)] [((.bool (hasW (inS g s : List Int) i) : Value) = .bool false)] (by kernel_rfl) ⟨(congrArg Value.bool h975), trivial⟩ (fun act1056 f1055 => ?_)
         clear f956
         refine At.done rfl ?_
         refine t_n ?_
         have f1057 := f1055.sub (r := [(106, .bool false), (20, .pointer (some ⟨b_630, 0, none⟩)), (19, .int .i64 (i)), (18, .int .i64 (r)), (17, .pointer (some ⟨w498.heap.size, 0, none⟩)), (16, .pointer (some ⟨w437.heap.size, 0, none⟩)), (14, .pointer (some ⟨w280.heap.size, 0, none⟩)), (13, .pointer (some ⟨w224.heap.size, 0, none⟩)), (12, .int .i64 (((g.ow.length : Nat) : Int))), (7, .pointer (some ⟨w11.heap.size, 0, none⟩)), (5, .pointer (some ⟨w1.heap.size, 0, none⟩)), (4, .pointer (some ⟨w.heap.size, 0, none⟩)), (2, .int .i64 (p))]) ⟨rfl, rfl, rfl, rfl, rfl, rfl, rfl, rfl, rfl, rfl, rfl, rfl, rfl, trivial⟩
         clear f1055
         refine cond_F f1057 rfl ?_
         refine wp_skip ?_
         refine t_n ?_
         have f1058 := f1057.sub (r := [(20, .pointer (some ⟨b_630, 0, none⟩)), (19, .int .i64 (i)), (18, .int .i64 (r)), (17, .pointer (some ⟨w498.heap.size, 0, none⟩)), (16, .pointer (some ⟨w437.heap.size, 0, none⟩)), (14, .pointer (some ⟨w280.heap.size, 0, none⟩)), (13, .pointer (some ⟨w224.heap.size, 0, none⟩)), (12, .int .i64 (((g.ow.length : Nat) : Int))), (7, .pointer (some ⟨w11.heap.size, 0, none⟩)), (5, .pointer (some ⟨w1.heap.size, 0, none⟩)), (4, .pointer (some ⟨w.heap.size, 0, none⟩)), (2, .int .i64 (p))]) ⟨rfl, rfl, rfl, rfl, rfl, rfl, rfl, rfl, rfl, rfl, rfl, rfl, trivial⟩
         exact ⟨sm2, f1058, e958, r959, r960, bx961, bx962, bx963, ow964, ow965, ow966, bx967, ow968, ow969, ow970, bx971, bx972, bx973, bx974, hT2, (some_skipK hK (fun hI_ => some_no hR hs hT2.ok (by omega) (by omega) hI_ (by first | exact .inl (by assumption) | exact .inr (by assumption)))), hT2.ok.1, (by omega)⟩
       ·clear r933
        clear r934
        clear bx935
        clear bx936
        clear bx937
        clear ow938
        clear ow939
        clear ow940
        clear bx941
        clear ow942
        clear ow943
        clear ow944
        clear bx945
        clear bx946
        clear bx947
        clear bx948
        clear f931 e932
        intro act1059 w1060 ⟨sm3, f1061, e1062, r1063, r1064, bx1065, bx1066, bx1067, r1068, r1069, r1070, bx1071, r1072, r1073, r1074, bx1075, bx1076, bx1077, bx1078, hT3, hK3, i1079, i1080⟩
        have szw1060 := e1062.size
        have := bx1065.lt
        have := bx1066.lt
        have := bx1067.lt
        have := bx1071.lt
        have := bx1075.lt
        have := bx1076.lt
        have := bx1077.lt
        have := bx1078.lt
        refine wp_seq ?_
        have hok4_ := hT3.ok
        refine At.start ?_
        refine At.rd f1061 2 [[.cs ((sy2 : List Int).map wV)], []] [(111, .int .i64 (i)), (110, .agg ((sy2 : List Int).map wV).toArray)] [(((sy2 : List Int).map wV).length = 4), (∀ (j : Nat) (v : Value), ((sy2 : List Int).map wV)[j]? = some v → w1060.cell? ((⟨w498.heap.size, 0, none⟩ : Addr).add j) = some v)] (by kernel_rfl) ⟨(by simp only [List.length_map, List.length_set, List.length_replicate, List.length_cons, List.length_nil]; first | done | assumption | exact from_len _ | exact of_len _ | exact ofZ_len _ | exact (ofW_ok _).1 | exact (fullW_W _).1 | exact (okW_with (by assumption)).1 | exact (okW_less (by assumption)).1 | exact put_len (from_len _) | exact orD_len _ _ | exact andD_len _ _ | exact minusD_len _ _ | exact fullD_len _ | (refine okLen ?_; (repeat (first | assumption | exact ofW_ok _ | exact fullW_W _ | apply okW_with | apply okW_less | refine okW_orS ?_ ?_ | refine okW_andS ?_ ?_ | refine okW_minusS ?_ ?_)); done) | omega | rfl), bx1077.whole, trivial⟩ (fun act1082 f1081 => ?_)
        clear f1061
        refine At.call f1081 23 #[.agg ((sy2 : List Int).map wV).toArray, .int .i64 (i)] (some 112) (by kernel_rfl) (has_any (s := sy2) (n := i) (by repeat (first | assumption | exact ofW_ok _ | exact fullW_W _ | exact wordsD_W _ | exact okW_0 | exact okW_00 | apply okW_orS | apply okW_andS | apply okW_minusS | apply okW_with | apply okW_less | apply okW_or | apply okW_and | apply okW_minus | (apply okW_lit <;> exact ⟨by omega, by omega⟩)))) ?_
        rintro e_ w1083 ⟨rfl, he⟩
        refine ⟨_, rfl, _, rfl, fun act1084 f1085 => ?_⟩
        clear f1081
        have g1086 := gr_ext he
        have szw1083 := g1086.size
        have e1087 := e1062.gr g1086 no_row
        clear e1062
        have r1088 := r1063.gr g1086 (fun _ h => by cases h)
        clear r1063
        have r1089 := r1064.gr g1086 (fun _ h => by cases h)
        clear r1064
        have bx1090 := bx1065.gr g1086 (by simp)
        clear bx1065
        have bx1091 := bx1066.gr g1086 (by simp)
        clear bx1066
        have bx1092 := bx1067.gr g1086 (by simp)
        clear bx1067
        have ow1093 := r1068.gr g1086 (fun _ _ h => by cases h)
        clear r1068
        have ow1094 := r1069.gr g1086 (fun _ _ h => by cases h)
        clear r1069
        have ow1095 := r1070.gr g1086 (fun _ _ h => by cases h)
        clear r1070
        have bx1096 := bx1071.gr g1086 (by simp)
        clear bx1071
        have ow1097 := r1072.gr g1086 (fun _ _ h => by cases h)
        clear r1072
        have ow1098 := r1073.gr g1086 (fun _ _ h => by cases h)
        clear r1073
        have ow1099 := r1074.gr g1086 (fun _ _ h => by cases h)
        clear r1074
        have bx1100 := bx1075.gr g1086 (by simp)
        clear bx1075
        have bx1101 := bx1076.gr g1086 (by simp)
        clear bx1076
        have bx1102 := bx1077.gr g1086 (by simp)
        clear bx1077
        have bx1103 := bx1078.gr g1086 (by simp)
        clear bx1078
        clear g1086 he
        rcases Bool.eq_false_or_eq_true (hasW sy2 i) with h1104 | h1104
        ·-- hasW sy2 i is True
         rcases Bool.eq_false_or_eq_true (!(decide (((rowS g s i : List Int) : List Int) = ([0, 0, 0, 0])))) with h1106 | h1106
         ·-- !(decide (((rowS g s i : List Int) : List Int) = ([0, 0, 0, 0]))) is True
          have q1107 : (decide (((rowS g s i : List Int) : List Int) = ([0, 0, 0, 0]))) = false := by first | exact Eq.mp (Bool.not_eq_true' _) h1106 | exact Eq.mp (Bool.not_eq_false' _) h1106 | simpa using h1106
          -- decide (((rowS g s i : List Int) : List Int) = ([0, 0, 0, 0])) is False
          have q1108 := of_decide_eq_false q1107
          refine At.rd f1085 8 [[.as_ (.bool true)], [.cs (((rowS g s i : List Int) : List Int).map wV)], [], [.cs [wV (gI (rowS g s i : List Int) 0), wV (gI (rowS g s i : List Int) 1), wV (gI (rowS g s i : List Int) 2), wV (gI (rowS g s i : List Int) 3)], .cs [wV (gI ([0, 0, 0, 0]) 0), wV (gI ([0, 0, 0, 0]) 1), wV (gI ([0, 0, 0, 0]) 2), wV (gI ([0, 0, 0, 0]) 3)], .as_ (.bool (!(decide (((rowS g s i : List Int) : List Int) = ([0, 0, 0, 0])))))], [], [.as_ (.bool true)], [.cs (((rowS g s i : List Int) : List Int).map wV)], [.cs ((sy2 : List Int).map wV)]] [(120, .agg ((sy2 : List Int).map wV).toArray), (119, .agg (((rowS g s i : List Int) : List Int).map wV).toArray), (118, .bool true), (117, .bool (!(decide (((rowS g s i : List Int) : List Int) = ([0, 0, 0, 0]))))), (116, .bool (!(decide (((rowS g s i : List Int) : List Int) = ([0, 0, 0, 0]))))), (115, .agg (([0, 0, 0, 0] : List Int).map wV).toArray), (114, .agg (((rowS g s i : List Int) : List Int).map wV).toArray), (113, .bool true)] [((.bool (hasW sy2 i) : Value) = .bool true), ((((rowS g s i : List Int) : List Int).map wV).length = 4), (∀ (j : Nat) (v : Value), (((rowS g s i : List Int) : List Int).map wV)[j]? = some v → w1083.cell? ((⟨b_630, 0, none⟩ : Addr).add j) = some v), ((((rowS g s i : List Int) : List Int).map wV).toArray = ([wV (gI (rowS g s i : List Int) 0), wV (gI (rowS g s i : List Int) 1), wV (gI (rowS g s i : List Int) 2), wV (gI (rowS g s i : List Int) 3)] : List Value).toArray), ((([0, 0, 0, 0] : List Int).map wV).toArray = ([wV (gI ([0, 0, 0, 0]) 0), wV (gI ([0, 0, 0, 0]) 1), wV (gI ([0, 0, 0, 0]) 2), wV (gI ([0, 0, 0, 0]) 3)] : List Value).toArray), ((.bool (!(((gI (rowS g s i : List Int) 0 : Int) == gI ([0, 0, 0, 0]) 0) && (((gI (rowS g s i : List Int) 1 : Int) == gI ([0, 0, 0, 0]) 1) && (((gI (rowS g s i : List Int) 2 : Int) == gI ([0, 0, 0, 0]) 2) && (((gI (rowS g s i : List Int) 3 : Int) == gI ([0, 0, 0, 0]) 3) && true))))) : Value) = .bool (!(decide (((rowS g s i : List Int) : List Int) = ([0, 0, 0, 0]))))), ((.bool (!(decide (((rowS g s i : List Int) : List Int) = ([0, 0, 0, 0])))) : Value) = .bool true), ((((rowS g s i : List Int) : List Int).map wV).length = 4), (∀ (j : Nat) (v : Value), (((rowS g s i : List Int) : List Int).map wV)[j]? = some v → w1083.cell? ((⟨b_630, 0, none⟩ : Addr).add j) = some v), (((sy2 : List Int).map wV).length = 4), (∀ (j : Nat) (v : Value), ((sy2 : List Int).map wV)[j]? = some v → w1083.cell? ((⟨w498.heap.size, 0, none⟩ : Addr).add j) = some v)] (by kernel_rfl) ⟨(congrArg Value.bool h1104), ((List.length_map _).trans (okLen (rowS_ok (by assumption) _))), bx1103.whole, (map4 (okLen (rowS_ok (by assumption) _))), (map4 (okLen okW_00)), (congrArg (fun b => Value.bool (!b)) (w4_eq (okLen (rowS_ok (by assumption) _)) (okLen okW_00))), (congrArg Value.bool h1106), ((List.length_map _).trans (okLen (rowS_ok (by assumption) _))), bx1103.whole, (by simp only [List.length_map, List.length_set, List.length_replicate, List.length_cons, List.length_nil]; first | done | assumption | exact from_len _ | exact of_len _ | exact ofZ_len _ | exact (ofW_ok _).1 | exact (fullW_W _).1 | exact (okW_with (by assumption)).1 | exact (okW_less (by assumption)).1 | exact put_len (from_len _) | exact orD_len _ _ | exact andD_len _ _ | exact minusD_len _ _ | exact fullD_len _ | (refine okLen ?_; (repeat (first | assumption | exact ofW_ok _ | exact fullW_W _ | apply okW_with | apply okW_less | refine okW_orS ?_ ?_ | refine okW_andS ?_ ?_ | refine okW_minusS ?_ ?_)); done) | omega | rfl), bx1102.whole, trivial⟩ (fun act1110 f1109 => ?_)
          clear f1085
          refine At.call f1109 19 #[.agg (((rowS g s i : List Int) : List Int).map wV).toArray, .agg ((sy2 : List Int).map wV).toArray] (some 121) (by kernel_rfl) (andS_any (s := (rowS g s i : List Int)) (t := sy2) (rowS_ok (by assumption) _) (by repeat (first | assumption | exact ofW_ok _ | exact fullW_W _ | exact wordsD_W _ | exact okW_0 | exact okW_00 | apply okW_orS | apply okW_andS | apply okW_minusS | apply okW_with | apply okW_less | apply okW_or | apply okW_and | apply okW_minus | (apply okW_lit <;> exact ⟨by omega, by omega⟩)))) ?_
          rintro e_ w1111 ⟨rfl, he⟩
          refine ⟨_, rfl, _, rfl, fun act1112 f1113 => ?_⟩
          clear f1109
          have g1114 := gr_ext he
          have szw1111 := g1114.size
          have e1115 := e1087.gr g1114 no_row
          clear e1087
          have r1116 := r1088.gr g1114 (fun _ h => by cases h)
          clear r1088
          have r1117 := r1089.gr g1114 (fun _ h => by cases h)
          clear r1089
          have bx1118 := bx1090.gr g1114 (by simp)
          clear bx1090
          have bx1119 := bx1091.gr g1114 (by simp)
          clear bx1091
          have bx1120 := bx1092.gr g1114 (by simp)
          clear bx1092
          have ow1121 := ow1093.gr g1114 (fun _ _ h => by cases h)
          clear ow1093
          have ow1122 := ow1094.gr g1114 (fun _ _ h => by cases h)
          clear ow1094
          have ow1123 := ow1095.gr g1114 (fun _ _ h => by cases h)
          clear ow1095
          have bx1124 := bx1096.gr g1114 (by simp)
          clear bx1096
          have ow1125 := ow1097.gr g1114 (fun _ _ h => by cases h)
          clear ow1097
          have ow1126 := ow1098.gr g1114 (fun _ _ h => by cases h)
          clear ow1098
          have ow1127 := ow1099.gr g1114 (fun _ _ h => by cases h)
          clear ow1099
          have bx1128 := bx1100.gr g1114 (by simp)
          clear bx1100
          have bx1129 := bx1101.gr g1114 (by simp)
          clear bx1101
          have bx1130 := bx1102.gr g1114 (by simp)
          clear bx1102
          have bx1131 := bx1103.gr g1114 (by simp)
          clear bx1103
          clear g1114 he
          refine At.rd f1113 3 [[], [.cs [wV (gI (andS (rowS g s i : List Int) sy2) 0), wV (gI (andS (rowS g s i : List Int) sy2) 1), wV (gI (andS (rowS g s i : List Int) sy2) 2), wV (gI (andS (rowS g s i : List Int) sy2) 3)], .cs [wV (gI ([0, 0, 0, 0]) 0), wV (gI ([0, 0, 0, 0]) 1), wV (gI ([0, 0, 0, 0]) 2), wV (gI ([0, 0, 0, 0]) 3)], .as_ (.bool (decide ((andS (rowS g s i : List Int) sy2 : List Int) = ([0, 0, 0, 0]))))], []] [(124, .bool (decide ((andS (rowS g s i : List Int) sy2 : List Int) = ([0, 0, 0, 0])))), (123, .bool (decide ((andS (rowS g s i : List Int) sy2 : List Int) = ([0, 0, 0, 0])))), (122, .agg (([0, 0, 0, 0] : List Int).map wV).toArray)] [(((andS (rowS g s i : List Int) sy2 : List Int).map wV).toArray = ([wV (gI (andS (rowS g s i : List Int) sy2) 0), wV (gI (andS (rowS g s i : List Int) sy2) 1), wV (gI (andS (rowS g s i : List Int) sy2) 2), wV (gI (andS (rowS g s i : List Int) sy2) 3)] : List Value).toArray), ((([0, 0, 0, 0] : List Int).map wV).toArray = ([wV (gI ([0, 0, 0, 0]) 0), wV (gI ([0, 0, 0, 0]) 1), wV (gI ([0, 0, 0, 0]) 2), wV (gI ([0, 0, 0, 0]) 3)] : List Value).toArray), ((.bool ((((gI (andS (rowS g s i : List Int) sy2) 0 : Int) == gI ([0, 0, 0, 0]) 0) && (((gI (andS (rowS g s i : List Int) sy2) 1 : Int) == gI ([0, 0, 0, 0]) 1) && (((gI (andS (rowS g s i : List Int) sy2) 2 : Int) == gI ([0, 0, 0, 0]) 2) && (((gI (andS (rowS g s i : List Int) sy2) 3 : Int) == gI ([0, 0, 0, 0]) 3) && true))))) : Value) = .bool (decide ((andS (rowS g s i : List Int) sy2 : List Int) = ([0, 0, 0, 0]))))] (by kernel_rfl) ⟨(map4 (okLen (okW_andS (rowS_ok (by assumption) _) (by assumption)))), (map4 (okLen okW_00)), (congrArg (fun b => Value.bool b) (w4_eq (okLen (okW_andS (rowS_ok (by assumption) _) (by assumption))) (okLen okW_00))), trivial⟩ (fun act1133 f1132 => ?_)
          clear f1113
          refine At.done rfl ?_
          refine t_n ?_
          have f1134 := f1132.sub (r := [(124, .bool (decide ((andS (rowS g s i : List Int) sy2 : List Int) = ([0, 0, 0, 0])))), (123, .bool (decide ((andS (rowS g s i : List Int) sy2 : List Int) = ([0, 0, 0, 0])))), (122, .agg (([0, 0, 0, 0] : List Int).map wV).toArray), (121, .agg ((andS (rowS g s i : List Int) sy2 : List Int).map wV).toArray), (120, .agg ((sy2 : List Int).map wV).toArray), (119, .agg (((rowS g s i : List Int) : List Int).map wV).toArray), (116, .bool (!(decide (((rowS g s i : List Int) : List Int) = ([0, 0, 0, 0]))))), (115, .agg (([0, 0, 0, 0] : List Int).map wV).toArray), (114, .agg (((rowS g s i : List Int) : List Int).map wV).toArray), (19, .int .i64 (i)), (18, .int .i64 (r)), (17, .pointer (some ⟨w498.heap.size, 0, none⟩)), (16, .pointer (some ⟨w437.heap.size, 0, none⟩)), (14, .pointer (some ⟨w280.heap.size, 0, none⟩)), (13, .pointer (some ⟨w224.heap.size, 0, none⟩)), (12, .int .i64 (((g.ow.length : Nat) : Int))), (7, .pointer (some ⟨w11.heap.size, 0, none⟩)), (5, .pointer (some ⟨w1.heap.size, 0, none⟩)), (4, .pointer (some ⟨w.heap.size, 0, none⟩)), (2, .int .i64 (p))]) ⟨rfl, rfl, rfl, rfl, rfl, rfl, rfl, rfl, rfl, rfl, rfl, rfl, rfl, rfl, rfl, rfl, rfl, rfl, rfl, rfl, trivial⟩
          clear f1132
          refine cond_S f1134 (t := decide ((andS (rowS g s i : List Int) sy2 : List Int) = ([0, 0, 0, 0]))) rfl (fun h1135 => ?_) (fun h1135 => ?_)
          ·-- decide ((andS (rowS g s i : List Int) sy2 : List Int) = ([0, 0, 0, 0])) is True
           have q1136 := of_decide_eq_true h1135
           refine At.start ?_
           refine At.rd f1134 2 [[.cs ((sy2 : List Int).map wV)], []] [(126, .int .i64 (i)), (125, .agg ((sy2 : List Int).map wV).toArray)] [(((sy2 : List Int).map wV).length = 4), (∀ (j : Nat) (v : Value), ((sy2 : List Int).map wV)[j]? = some v → w1111.cell? ((⟨w498.heap.size, 0, none⟩ : Addr).add j) = some v)] (by kernel_rfl) ⟨(by simp only [List.length_map, List.length_set, List.length_replicate, List.length_cons, List.length_nil]; first | done | assumption | exact from_len _ | exact of_len _ | exact ofZ_len _ | exact (ofW_ok _).1 | exact (fullW_W _).1 | exact (okW_with (by assumption)).1 | exact (okW_less (by assumption)).1 | exact put_len (from_len _) | exact orD_len _ _ | exact andD_len _ _ | exact minusD_len _ _ | exact fullD_len _ | (refine okLen ?_; (repeat (first | assumption | exact ofW_ok _ | exact fullW_W _ | apply okW_with | apply okW_less | refine okW_orS ?_ ?_ | refine okW_andS ?_ ?_ | refine okW_minusS ?_ ?_)); done) | omega | rfl), bx1130.whole, trivial⟩ (fun act1138 f1137 => ?_)
           clear f1134
           refine At.call f1137 28 #[.agg ((sy2 : List Int).map wV).toArray, .int .i64 (i)] (some 127) (by kernel_rfl) (less_any (s := sy2) (n := i) (by repeat (first | assumption | exact ofW_ok _ | exact fullW_W _ | exact wordsD_W _ | exact okW_0 | exact okW_00 | apply okW_orS | apply okW_andS | apply okW_minusS | apply okW_with | apply okW_less | apply okW_or | apply okW_and | apply okW_minus | (apply okW_lit <;> exact ⟨by omega, by omega⟩)))) ?_
           rintro e_ w1139 ⟨rfl, he⟩
           refine ⟨_, rfl, _, rfl, fun act1140 f1141 => ?_⟩
           clear f1137
           have g1142 := gr_ext he
           have szw1139 := g1142.size
           have e1143 := e1115.gr g1142 no_row
           clear e1115
           have r1144 := r1116.gr g1142 (fun _ h => by cases h)
           clear r1116
           have r1145 := r1117.gr g1142 (fun _ h => by cases h)
           clear r1117
           have bx1146 := bx1118.gr g1142 (by simp)
           clear bx1118
           have bx1147 := bx1119.gr g1142 (by simp)
           clear bx1119
           have bx1148 := bx1120.gr g1142 (by simp)
           clear bx1120
           have ow1149 := ow1121.gr g1142 (fun _ _ h => by cases h)
           clear ow1121
           have ow1150 := ow1122.gr g1142 (fun _ _ h => by cases h)
           clear ow1122
           have ow1151 := ow1123.gr g1142 (fun _ _ h => by cases h)
           clear ow1123
           have bx1152 := bx1124.gr g1142 (by simp)
           clear bx1124
           have ow1153 := ow1125.gr g1142 (fun _ _ h => by cases h)
           clear ow1125
           have ow1154 := ow1126.gr g1142 (fun _ _ h => by cases h)
           clear ow1126
           have ow1155 := ow1127.gr g1142 (fun _ _ h => by cases h)
           clear ow1127
           have bx1156 := bx1128.gr g1142 (by simp)
           clear bx1128
           have bx1157 := bx1129.gr g1142 (by simp)
           clear bx1129
           have bx1158 := bx1130.gr g1142 (by simp)
           clear bx1130
           have bx1159 := bx1131.gr g1142 (by simp)
           clear bx1131
           clear g1142 he
           refine At.act f1141 (storeBlk (t := 28) (b := w498.heap.size) (n := 4) (cs' := ((lessW sy2 i : List Int).map wV)) (by kernel_rfl) (by kernel_rfl) ((List.length_map _).trans (okLen (okW_less (by assumption)))) oneW_ ((show ((lessW sy2 i : List Int).map wV).length = 4 from ((List.length_map _).trans (okLen (okW_less (by assumption))))).trans (show ((sy2 : List Int).map wV).length = 4 from (by simp only [List.length_map, List.length_set, List.length_replicate, List.length_cons, List.length_nil]; first | done | assumption | exact from_len _ | exact of_len _ | exact ofZ_len _ | exact (ofW_ok _).1 | exact (fullW_W _).1 | exact (okW_with (by assumption)).1 | exact (okW_less (by assumption)).1 | exact put_len (from_len _) | exact orD_len _ _ | exact andD_len _ _ | exact minusD_len _ _ | exact fullD_len _ | (refine okLen ?_; (repeat (first | assumption | exact ofW_ok _ | exact fullW_W _ | apply okW_with | apply okW_less | refine okW_orS ?_ ?_ | refine okW_andS ?_ ?_ | refine okW_minusS ?_ ?_)); done) | omega | rfl)).symm) bx1158) ?_
           rintro d_ v_ w1160 ⟨rfl, g1161, bx1162⟩
           refine ⟨_, rfl, fun act1164 f1163 => ?_⟩
           clear f1141
           have szw1160 := g1161.size
           have e1165 := e1143.gr g1161 (fun k h => by injection h; omega)
           clear e1143
           have r1166 := r1144.gr g1161 (fun k h => by injection h; omega)
           clear r1144
           have r1167 := r1145.gr g1161 (fun k h => by injection h; omega)
           clear r1145
           have bx1168 := bx1146.gr g1161 (fun h => by injection h; omega)
           clear bx1146
           have bx1169 := bx1147.gr g1161 (fun h => by injection h; omega)
           clear bx1147
           have bx1170 := bx1148.gr g1161 (fun h => by injection h; omega)
           clear bx1148
           have ow1171 := ow1149.gr g1161 (fun k hk => hk.1)
           clear ow1149
           have ow1172 := ow1150.gr g1161 (fun k hk => hk.1)
           clear ow1150
           have ow1173 := ow1151.gr g1161 (fun k hk => hk.1)
           clear ow1151
           have bx1174 := bx1152.gr g1161 (fun h => by injection h; omega)
           clear bx1152
           have ow1175 := ow1153.gr g1161 (fun k hk => hk.1)
           clear ow1153
           have ow1176 := ow1154.gr g1161 (fun k hk => hk.1)
           clear ow1154
           have ow1177 := ow1155.gr g1161 (fun k hk => hk.1)
           clear ow1155
           have bx1178 := bx1156.gr g1161 (fun h => by injection h; omega)
           clear bx1156
           have bx1179 := bx1157.gr g1161 (fun h => by injection h; omega)
           clear bx1157
           have bx1180 := bx1159.gr g1161 (fun h => by injection h; omega)
           clear bx1159
           clear bx1158 g1161
           refine At.done rfl ?_
           refine b_n ?_
           refine t_n ?_
           have f1181 := f1163.sub (r := [(123, .bool (decide ((andS (rowS g s i : List Int) sy2 : List Int) = ([0, 0, 0, 0])))), (122, .agg (([0, 0, 0, 0] : List Int).map wV).toArray), (121, .agg ((andS (rowS g s i : List Int) sy2 : List Int).map wV).toArray), (120, .agg ((sy2 : List Int).map wV).toArray), (119, .agg (((rowS g s i : List Int) : List Int).map wV).toArray), (116, .bool (!(decide (((rowS g s i : List Int) : List Int) = ([0, 0, 0, 0]))))), (115, .agg (([0, 0, 0, 0] : List Int).map wV).toArray), (114, .agg (((rowS g s i : List Int) : List Int).map wV).toArray), (19, .int .i64 (i)), (18, .int .i64 (r)), (17, .pointer (some ⟨w498.heap.size, 0, none⟩)), (16, .pointer (some ⟨w437.heap.size, 0, none⟩)), (14, .pointer (some ⟨w280.heap.size, 0, none⟩)), (13, .pointer (some ⟨w224.heap.size, 0, none⟩)), (12, .int .i64 (((g.ow.length : Nat) : Int))), (7, .pointer (some ⟨w11.heap.size, 0, none⟩)), (5, .pointer (some ⟨w1.heap.size, 0, none⟩)), (4, .pointer (some ⟨w.heap.size, 0, none⟩)), (2, .int .i64 (p))]) ⟨rfl, rfl, rfl, rfl, rfl, rfl, rfl, rfl, rfl, rfl, rfl, rfl, rfl, rfl, rfl, rfl, rfl, rfl, rfl, trivial⟩
           clear f1163
           refine At.start ?_
           refine At.rd f1181 3 [[], [.as_ (.int .i64 (i + 1))], []] [(19, .int .i64 (i + 1)), (88, .int .i64 (i + 1)), (87, .int .i64 (i))] [((.int .i64 (IntKind.i64.wrap (i + 1)) : Value) = .int .i64 (i + 1))] (by kernel_rfl) ⟨(w64 (by omega) (by omega)), trivial⟩ (fun act1183 f1182 => ?_)
           clear f1181
           refine At.done rfl ?_
           refine t_n ?_
           have f1184 := f1182.sub (r := [(19, .int .i64 (i + 1)), (18, .int .i64 (r)), (17, .pointer (some ⟨w498.heap.size, 0, none⟩)), (16, .pointer (some ⟨w437.heap.size, 0, none⟩)), (14, .pointer (some ⟨w280.heap.size, 0, none⟩)), (13, .pointer (some ⟨w224.heap.size, 0, none⟩)), (12, .int .i64 (((g.ow.length : Nat) : Int))), (7, .pointer (some ⟨w11.heap.size, 0, none⟩)), (5, .pointer (some ⟨w1.heap.size, 0, none⟩)), (4, .pointer (some ⟨w.heap.size, 0, none⟩)), (2, .int .i64 (p))]) ⟨rfl, rfl, rfl, rfl, rfl, rfl, rfl, rfl, rfl, rfl, rfl, trivial⟩
           exact ⟨_, (by omega), (i + 1), sm3, lessW sy2 i, rfl, f1184, e1165, r1166, r1167, bx1168, bx1169, bx1170, (ow1171.imp (fun g _ hs => ⟨hs.1, hs.2.1, hs.2.2.1, hs.2.2.2.1, hs.2.2.2.2.1, hs.2.2.2.2.2.1, hs.2.2.2.2.2.2.1, hs.2.2.2.2.2.2.2.1, hs.2.2.2.2.2.2.2.2.1, hs.2.2.2.2.2.2.2.2.2.2⟩)), (ow1172.imp (fun g _ hs => ⟨hs.1, hs.2.1, hs.2.2.1, hs.2.2.2.1, hs.2.2.2.2.1, hs.2.2.2.2.2.1, hs.2.2.2.2.2.2.1, hs.2.2.2.2.2.2.2.1, hs.2.2.2.2.2.2.2.2.1, hs.2.2.2.2.2.2.2.2.2.2⟩)), (ow1173.imp (fun g _ hs => ⟨hs.1, hs.2.1, hs.2.2.1, hs.2.2.2.1, hs.2.2.2.2.1, hs.2.2.2.2.2.1, hs.2.2.2.2.2.2.1, hs.2.2.2.2.2.2.2.1, hs.2.2.2.2.2.2.2.2.1, hs.2.2.2.2.2.2.2.2.2.2⟩)), bx1174, (ow1175.imp (fun g _ hs => ⟨hs.1, hs.2.1, hs.2.2.1, hs.2.2.2.1, hs.2.2.2.2.1, hs.2.2.2.2.2.1, hs.2.2.2.2.2.2.1, hs.2.2.2.2.2.2.2.1, hs.2.2.2.2.2.2.2.2.2⟩)), (ow1176.imp (fun g _ hs => ⟨hs.1, hs.2.1, hs.2.2.1, hs.2.2.2.1, hs.2.2.2.2.1, hs.2.2.2.2.2.1, hs.2.2.2.2.2.2.1, hs.2.2.2.2.2.2.2.1, hs.2.2.2.2.2.2.2.2.2⟩)), (ow1177.imp (fun g _ hs => ⟨hs.1, hs.2.1, hs.2.2.1, hs.2.2.2.1, hs.2.2.2.2.1, hs.2.2.2.2.2.1, hs.2.2.2.2.2.2.1, hs.2.2.2.2.2.2.2.1, hs.2.2.2.2.2.2.2.2.2⟩)), bx1178, bx1179, bx1162, (by omega), (by omega), hT3, hK3, (stay_lessT hR hY2 (by omega) (by omega) (hY2.sub _ (by omega) (by omega) (has_yes2 (by omega) (by omega) (by assumption))) (row_hit hR hs (of_nb (by assumption))) (some_miss hR hs hY2.ok (by omega) (by omega) (of_decide_eq_true (by assumption)))), (stay_lessK hR hY2.ok hL (by omega) (by omega) (has_yes2 (by omega) (by omega) (by assumption)) (row_hit hR hs (of_nb (by assumption))) (some_miss hR hs hY2.ok (by omega) (by omega) (of_decide_eq_true (by assumption)))), hT3.ok.1, (okW_less hY2.ok).1, (by omega), (by omega)⟩
          ·-- decide ((andS (rowS g s i : List Int) sy2 : List Int) = ([0, 0, 0, 0])) is False
           have q1185 := of_decide_eq_false h1135
           refine wp_skip ?_
           refine b_n ?_
           refine t_n ?_
           have f1186 := f1134.sub (r := [(123, .bool (decide ((andS (rowS g s i : List Int) sy2 : List Int) = ([0, 0, 0, 0])))), (122, .agg (([0, 0, 0, 0] : List Int).map wV).toArray), (121, .agg ((andS (rowS g s i : List Int) sy2 : List Int).map wV).toArray), (120, .agg ((sy2 : List Int).map wV).toArray), (119, .agg (((rowS g s i : List Int) : List Int).map wV).toArray), (116, .bool (!(decide (((rowS g s i : List Int) : List Int) = ([0, 0, 0, 0]))))), (115, .agg (([0, 0, 0, 0] : List Int).map wV).toArray), (114, .agg (((rowS g s i : List Int) : List Int).map wV).toArray), (19, .int .i64 (i)), (18, .int .i64 (r)), (17, .pointer (some ⟨w498.heap.size, 0, none⟩)), (16, .pointer (some ⟨w437.heap.size, 0, none⟩)), (14, .pointer (some ⟨w280.heap.size, 0, none⟩)), (13, .pointer (some ⟨w224.heap.size, 0, none⟩)), (12, .int .i64 (((g.ow.length : Nat) : Int))), (7, .pointer (some ⟨w11.heap.size, 0, none⟩)), (5, .pointer (some ⟨w1.heap.size, 0, none⟩)), (4, .pointer (some ⟨w.heap.size, 0, none⟩)), (2, .int .i64 (p))]) ⟨rfl, rfl, rfl, rfl, rfl, rfl, rfl, rfl, rfl, rfl, rfl, rfl, rfl, rfl, rfl, rfl, rfl, rfl, rfl, trivial⟩
           clear f1134
           refine At.start ?_
           refine At.rd f1186 3 [[], [.as_ (.int .i64 (i + 1))], []] [(19, .int .i64 (i + 1)), (88, .int .i64 (i + 1)), (87, .int .i64 (i))] [((.int .i64 (IntKind.i64.wrap (i + 1)) : Value) = .int .i64 (i + 1))] (by kernel_rfl) ⟨(w64 (by omega) (by omega)), trivial⟩ (fun act1188 f1187 => ?_)
           clear f1186
           refine At.done rfl ?_
           refine t_n ?_
           have f1189 := f1187.sub (r := [(19, .int .i64 (i + 1)), (18, .int .i64 (r)), (17, .pointer (some ⟨w498.heap.size, 0, none⟩)), (16, .pointer (some ⟨w437.heap.size, 0, none⟩)), (14, .pointer (some ⟨w280.heap.size, 0, none⟩)), (13, .pointer (some ⟨w224.heap.size, 0, none⟩)), (12, .int .i64 (((g.ow.length : Nat) : Int))), (7, .pointer (some ⟨w11.heap.size, 0, none⟩)), (5, .pointer (some ⟨w1.heap.size, 0, none⟩)), (4, .pointer (some ⟨w.heap.size, 0, none⟩)), (2, .int .i64 (p))]) ⟨rfl, rfl, rfl, rfl, rfl, rfl, rfl, rfl, rfl, rfl, rfl, trivial⟩
           exact ⟨_, (by omega), (i + 1), sm3, sy2, rfl, f1189, e1115, r1116, r1117, bx1118, bx1119, bx1120, (ow1121.imp (fun g _ hs => ⟨hs.1, hs.2.1, hs.2.2.1, hs.2.2.2.1, hs.2.2.2.2.1, hs.2.2.2.2.2.1, hs.2.2.2.2.2.2.1, hs.2.2.2.2.2.2.2.1, hs.2.2.2.2.2.2.2.2.1, hs.2.2.2.2.2.2.2.2.2.2⟩)), (ow1122.imp (fun g _ hs => ⟨hs.1, hs.2.1, hs.2.2.1, hs.2.2.2.1, hs.2.2.2.2.1, hs.2.2.2.2.2.1, hs.2.2.2.2.2.2.1, hs.2.2.2.2.2.2.2.1, hs.2.2.2.2.2.2.2.2.1, hs.2.2.2.2.2.2.2.2.2.2⟩)), (ow1123.imp (fun g _ hs => ⟨hs.1, hs.2.1, hs.2.2.1, hs.2.2.2.1, hs.2.2.2.2.1, hs.2.2.2.2.2.1, hs.2.2.2.2.2.2.1, hs.2.2.2.2.2.2.2.1, hs.2.2.2.2.2.2.2.2.1, hs.2.2.2.2.2.2.2.2.2.2⟩)), bx1124, (ow1125.imp (fun g _ hs => ⟨hs.1, hs.2.1, hs.2.2.1, hs.2.2.2.1, hs.2.2.2.2.1, hs.2.2.2.2.2.1, hs.2.2.2.2.2.2.1, hs.2.2.2.2.2.2.2.1, hs.2.2.2.2.2.2.2.2.2⟩)), (ow1126.imp (fun g _ hs => ⟨hs.1, hs.2.1, hs.2.2.1, hs.2.2.2.1, hs.2.2.2.2.1, hs.2.2.2.2.2.1, hs.2.2.2.2.2.2.1, hs.2.2.2.2.2.2.2.1, hs.2.2.2.2.2.2.2.2.2⟩)), (ow1127.imp (fun g _ hs => ⟨hs.1, hs.2.1, hs.2.2.1, hs.2.2.2.1, hs.2.2.2.2.1, hs.2.2.2.2.2.1, hs.2.2.2.2.2.2.1, hs.2.2.2.2.2.2.2.1, hs.2.2.2.2.2.2.2.2.2⟩)), bx1128, bx1129, bx1130, (by omega), (by omega), hT3, hK3, hY2, (stay_skipK hL (stay_no hR hs hY2.ok (by omega) (by omega) (by first | exact .inl (by assumption) | exact .inr (.inl (by assumption)) | exact .inr (.inr (by assumption))))), hT3.ok.1, hY2.ok.1, (by omega), (by omega)⟩
         ·-- !(decide (((rowS g s i : List Int) : List Int) = ([0, 0, 0, 0]))) is False
          have q1190 : (decide (((rowS g s i : List Int) : List Int) = ([0, 0, 0, 0]))) = true := by first | exact Eq.mp (Bool.not_eq_true' _) h1106 | exact Eq.mp (Bool.not_eq_false' _) h1106 | simpa using h1106
          -- decide (((rowS g s i : List Int) : List Int) = ([0, 0, 0, 0])) is True
          have q1191 := of_decide_eq_true q1190
          refine At.rd f1085 12 [[.as_ (.bool true)], [.cs (((rowS g s i : List Int) : List Int).map wV)], [], [.cs [wV (gI (rowS g s i : List Int) 0), wV (gI (rowS g s i : List Int) 1), wV (gI (rowS g s i : List Int) 2), wV (gI (rowS g s i : List Int) 3)], .cs [wV (gI ([0, 0, 0, 0]) 0), wV (gI ([0, 0, 0, 0]) 1), wV (gI ([0, 0, 0, 0]) 2), wV (gI ([0, 0, 0, 0]) 3)], .as_ (.bool (!(decide (((rowS g s i : List Int) : List Int) = ([0, 0, 0, 0])))))], [], [.as_ (.bool false)], [], [], [], [], [], []] [(124, .bool false), (123, undef), (122, undef), (121, undef), (120, undef), (119, undef), (118, .bool false), (117, .bool (!(decide (((rowS g s i : List Int) : List Int) = ([0, 0, 0, 0]))))), (116, .bool (!(decide (((rowS g s i : List Int) : List Int) = ([0, 0, 0, 0]))))), (115, .agg (([0, 0, 0, 0] : List Int).map wV).toArray), (114, .agg (((rowS g s i : List Int) : List Int).map wV).toArray), (113, .bool true)] [((.bool (hasW sy2 i) : Value) = .bool true), ((((rowS g s i : List Int) : List Int).map wV).length = 4), (∀ (j : Nat) (v : Value), (((rowS g s i : List Int) : List Int).map wV)[j]? = some v → w1083.cell? ((⟨b_630, 0, none⟩ : Addr).add j) = some v), ((((rowS g s i : List Int) : List Int).map wV).toArray = ([wV (gI (rowS g s i : List Int) 0), wV (gI (rowS g s i : List Int) 1), wV (gI (rowS g s i : List Int) 2), wV (gI (rowS g s i : List Int) 3)] : List Value).toArray), ((([0, 0, 0, 0] : List Int).map wV).toArray = ([wV (gI ([0, 0, 0, 0]) 0), wV (gI ([0, 0, 0, 0]) 1), wV (gI ([0, 0, 0, 0]) 2), wV (gI ([0, 0, 0, 0]) 3)] : List Value).toArray), ((.bool (!(((gI (rowS g s i : List Int) 0 : Int) == gI ([0, 0, 0, 0]) 0) && (((gI (rowS g s i : List Int) 1 : Int) == gI ([0, 0, 0, 0]) 1) && (((gI (rowS g s i : List Int) 2 : Int) == gI ([0, 0, 0, 0]) 2) && (((gI (rowS g s i : List Int) 3 : Int) == gI ([0, 0, 0, 0]) 3) && true))))) : Value) = .bool (!(decide (((rowS g s i : List Int) : List Int) = ([0, 0, 0, 0]))))), ((.bool (!(decide (((rowS g s i : List Int) : List Int) = ([0, 0, 0, 0])))) : Value) = .bool false)] (by kernel_rfl) ⟨(congrArg Value.bool h1104), ((List.length_map _).trans (okLen (rowS_ok (by assumption) _))), bx1103.whole, (map4 (okLen (rowS_ok (by assumption) _))), (map4 (okLen okW_00)), (congrArg (fun b => Value.bool (!b)) (w4_eq (okLen (rowS_ok (by assumption) _)) (okLen okW_00))), (congrArg Value.bool h1106), trivial⟩ (fun act1193 f1192 => ?_)
          clear f1085
          refine At.done rfl ?_
          refine t_n ?_
          have f1194 := f1192.sub (r := [(124, .bool false), (116, .bool (!(decide (((rowS g s i : List Int) : List Int) = ([0, 0, 0, 0]))))), (115, .agg (([0, 0, 0, 0] : List Int).map wV).toArray), (114, .agg (((rowS g s i : List Int) : List Int).map wV).toArray), (19, .int .i64 (i)), (18, .int .i64 (r)), (17, .pointer (some ⟨w498.heap.size, 0, none⟩)), (16, .pointer (some ⟨w437.heap.size, 0, none⟩)), (14, .pointer (some ⟨w280.heap.size, 0, none⟩)), (13, .pointer (some ⟨w224.heap.size, 0, none⟩)), (12, .int .i64 (((g.ow.length : Nat) : Int))), (7, .pointer (some ⟨w11.heap.size, 0, none⟩)), (5, .pointer (some ⟨w1.heap.size, 0, none⟩)), (4, .pointer (some ⟨w.heap.size, 0, none⟩)), (2, .int .i64 (p))]) ⟨rfl, rfl, rfl, rfl, rfl, rfl, rfl, rfl, rfl, rfl, rfl, rfl, rfl, rfl, rfl, trivial⟩
          clear f1192
          refine cond_F f1194 rfl ?_
          refine wp_skip ?_
          refine b_n ?_
          refine t_n ?_
          have f1195 := f1194.sub (r := [(116, .bool (!(decide (((rowS g s i : List Int) : List Int) = ([0, 0, 0, 0]))))), (115, .agg (([0, 0, 0, 0] : List Int).map wV).toArray), (114, .agg (((rowS g s i : List Int) : List Int).map wV).toArray), (19, .int .i64 (i)), (18, .int .i64 (r)), (17, .pointer (some ⟨w498.heap.size, 0, none⟩)), (16, .pointer (some ⟨w437.heap.size, 0, none⟩)), (14, .pointer (some ⟨w280.heap.size, 0, none⟩)), (13, .pointer (some ⟨w224.heap.size, 0, none⟩)), (12, .int .i64 (((g.ow.length : Nat) : Int))), (7, .pointer (some ⟨w11.heap.size, 0, none⟩)), (5, .pointer (some ⟨w1.heap.size, 0, none⟩)), (4, .pointer (some ⟨w.heap.size, 0, none⟩)), (2, .int .i64 (p))]) ⟨rfl, rfl, rfl, rfl, rfl, rfl, rfl, rfl, rfl, rfl, rfl, rfl, rfl, rfl, trivial⟩
          clear f1194
          refine At.start ?_
          refine At.rd f1195 3 [[], [.as_ (.int .i64 (i + 1))], []] [(19, .int .i64 (i + 1)), (88, .int .i64 (i + 1)), (87, .int .i64 (i))] [((.int .i64 (IntKind.i64.wrap (i + 1)) : Value) = .int .i64 (i + 1))] (by kernel_rfl) ⟨(w64 (by omega) (by omega)), trivial⟩ (fun act1197 f1196 => ?_)
          clear f1195
          refine At.done rfl ?_
          refine t_n ?_
          have f1198 := f1196.sub (r := [(19, .int .i64 (i + 1)), (18, .int .i64 (r)), (17, .pointer (some ⟨w498.heap.size, 0, none⟩)), (16, .pointer (some ⟨w437.heap.size, 0, none⟩)), (14, .pointer (some ⟨w280.heap.size, 0, none⟩)), (13, .pointer (some ⟨w224.heap.size, 0, none⟩)), (12, .int .i64 (((g.ow.length : Nat) : Int))), (7, .pointer (some ⟨w11.heap.size, 0, none⟩)), (5, .pointer (some ⟨w1.heap.size, 0, none⟩)), (4, .pointer (some ⟨w.heap.size, 0, none⟩)), (2, .int .i64 (p))]) ⟨rfl, rfl, rfl, rfl, rfl, rfl, rfl, rfl, rfl, rfl, rfl, trivial⟩
          exact ⟨_, (by omega), (i + 1), sm3, sy2, rfl, f1198, e1087, r1088, r1089, bx1090, bx1091, bx1092, (ow1093.imp (fun g _ hs => ⟨hs.1, hs.2.1, hs.2.2.1, hs.2.2.2.1, hs.2.2.2.2.1, hs.2.2.2.2.2.1, hs.2.2.2.2.2.2.1, hs.2.2.2.2.2.2.2.1, hs.2.2.2.2.2.2.2.2.1, hs.2.2.2.2.2.2.2.2.2.2⟩)), (ow1094.imp (fun g _ hs => ⟨hs.1, hs.2.1, hs.2.2.1, hs.2.2.2.1, hs.2.2.2.2.1, hs.2.2.2.2.2.1, hs.2.2.2.2.2.2.1, hs.2.2.2.2.2.2.2.1, hs.2.2.2.2.2.2.2.2.1, hs.2.2.2.2.2.2.2.2.2.2⟩)), (ow1095.imp (fun g _ hs => ⟨hs.1, hs.2.1, hs.2.2.1, hs.2.2.2.1, hs.2.2.2.2.1, hs.2.2.2.2.2.1, hs.2.2.2.2.2.2.1, hs.2.2.2.2.2.2.2.1, hs.2.2.2.2.2.2.2.2.1, hs.2.2.2.2.2.2.2.2.2.2⟩)), bx1096, (ow1097.imp (fun g _ hs => ⟨hs.1, hs.2.1, hs.2.2.1, hs.2.2.2.1, hs.2.2.2.2.1, hs.2.2.2.2.2.1, hs.2.2.2.2.2.2.1, hs.2.2.2.2.2.2.2.1, hs.2.2.2.2.2.2.2.2.2⟩)), (ow1098.imp (fun g _ hs => ⟨hs.1, hs.2.1, hs.2.2.1, hs.2.2.2.1, hs.2.2.2.2.1, hs.2.2.2.2.2.1, hs.2.2.2.2.2.2.1, hs.2.2.2.2.2.2.2.1, hs.2.2.2.2.2.2.2.2.2⟩)), (ow1099.imp (fun g _ hs => ⟨hs.1, hs.2.1, hs.2.2.1, hs.2.2.2.1, hs.2.2.2.2.1, hs.2.2.2.2.2.1, hs.2.2.2.2.2.2.1, hs.2.2.2.2.2.2.2.1, hs.2.2.2.2.2.2.2.2.2⟩)), bx1100, bx1101, bx1102, (by omega), (by omega), hT3, hK3, hY2, (stay_skipK hL (stay_no hR hs hY2.ok (by omega) (by omega) (by first | exact .inl (by assumption) | exact .inr (.inl (by assumption)) | exact .inr (.inr (by assumption))))), hT3.ok.1, hY2.ok.1, (by omega), (by omega)⟩
        ·-- hasW sy2 i is False
         refine At.rd f1085 12 [[.as_ (.bool false)], [], [], [], [], [], [], [], [], [], [], []] [(124, .bool false), (123, undef), (122, undef), (121, undef), (120, undef), (119, undef), (118, .bool false), (117, .bool false), (116, undef), (115, undef), (114, undef), (113, .bool false)] [((.bool (hasW sy2 i) : Value) = .bool false)] (by kernel_rfl) ⟨(congrArg Value.bool h1104), trivial⟩ (fun act1201 f1200 => ?_)
         clear f1085
         refine At.done rfl ?_
         refine t_n ?_
         have f1202 := f1200.sub (r := [(124, .bool false), (19, .int .i64 (i)), (18, .int .i64 (r)), (17, .pointer (some ⟨w498.heap.size, 0, none⟩)), (16, .pointer (some ⟨w437.heap.size, 0, none⟩)), (14, .pointer (some ⟨w280.heap.size, 0, none⟩)), (13, .pointer (some ⟨w224.heap.size, 0, none⟩)), (12, .int .i64 (((g.ow.length : Nat) : Int))), (7, .pointer (some ⟨w11.heap.size, 0, none⟩)), (5, .pointer (some ⟨w1.heap.size, 0, none⟩)), (4, .pointer (some ⟨w.heap.size, 0, none⟩)), (2, .int .i64 (p))]) ⟨rfl, rfl, rfl, rfl, rfl, rfl, rfl, rfl, rfl, rfl, rfl, rfl, trivial⟩
         clear f1200
         refine cond_F f1202 rfl ?_
         refine wp_skip ?_
         refine b_n ?_
         refine t_n ?_
         have f1203 := f1202.sub (r := [(19, .int .i64 (i)), (18, .int .i64 (r)), (17, .pointer (some ⟨w498.heap.size, 0, none⟩)), (16, .pointer (some ⟨w437.heap.size, 0, none⟩)), (14, .pointer (some ⟨w280.heap.size, 0, none⟩)), (13, .pointer (some ⟨w224.heap.size, 0, none⟩)), (12, .int .i64 (((g.ow.length : Nat) : Int))), (7, .pointer (some ⟨w11.heap.size, 0, none⟩)), (5, .pointer (some ⟨w1.heap.size, 0, none⟩)), (4, .pointer (some ⟨w.heap.size, 0, none⟩)), (2, .int .i64 (p))]) ⟨rfl, rfl, rfl, rfl, rfl, rfl, rfl, rfl, rfl, rfl, rfl, trivial⟩
         clear f1202
         refine At.start ?_
         refine At.rd f1203 3 [[], [.as_ (.int .i64 (i + 1))], []] [(19, .int .i64 (i + 1)), (88, .int .i64 (i + 1)), (87, .int .i64 (i))] [((.int .i64 (IntKind.i64.wrap (i + 1)) : Value) = .int .i64 (i + 1))] (by kernel_rfl) ⟨(w64 (by omega) (by omega)), trivial⟩ (fun act1205 f1204 => ?_)
         clear f1203
         refine At.done rfl ?_
         refine t_n ?_
         have f1206 := f1204.sub (r := [(19, .int .i64 (i + 1)), (18, .int .i64 (r)), (17, .pointer (some ⟨w498.heap.size, 0, none⟩)), (16, .pointer (some ⟨w437.heap.size, 0, none⟩)), (14, .pointer (some ⟨w280.heap.size, 0, none⟩)), (13, .pointer (some ⟨w224.heap.size, 0, none⟩)), (12, .int .i64 (((g.ow.length : Nat) : Int))), (7, .pointer (some ⟨w11.heap.size, 0, none⟩)), (5, .pointer (some ⟨w1.heap.size, 0, none⟩)), (4, .pointer (some ⟨w.heap.size, 0, none⟩)), (2, .int .i64 (p))]) ⟨rfl, rfl, rfl, rfl, rfl, rfl, rfl, rfl, rfl, rfl, rfl, trivial⟩
         exact ⟨_, (by omega), (i + 1), sm3, sy2, rfl, f1206, e1087, r1088, r1089, bx1090, bx1091, bx1092, (ow1093.imp (fun g _ hs => ⟨hs.1, hs.2.1, hs.2.2.1, hs.2.2.2.1, hs.2.2.2.2.1, hs.2.2.2.2.2.1, hs.2.2.2.2.2.2.1, hs.2.2.2.2.2.2.2.1, hs.2.2.2.2.2.2.2.2.1, hs.2.2.2.2.2.2.2.2.2.2⟩)), (ow1094.imp (fun g _ hs => ⟨hs.1, hs.2.1, hs.2.2.1, hs.2.2.2.1, hs.2.2.2.2.1, hs.2.2.2.2.2.1, hs.2.2.2.2.2.2.1, hs.2.2.2.2.2.2.2.1, hs.2.2.2.2.2.2.2.2.1, hs.2.2.2.2.2.2.2.2.2.2⟩)), (ow1095.imp (fun g _ hs => ⟨hs.1, hs.2.1, hs.2.2.1, hs.2.2.2.1, hs.2.2.2.2.1, hs.2.2.2.2.2.1, hs.2.2.2.2.2.2.1, hs.2.2.2.2.2.2.2.1, hs.2.2.2.2.2.2.2.2.1, hs.2.2.2.2.2.2.2.2.2.2⟩)), bx1096, (ow1097.imp (fun g _ hs => ⟨hs.1, hs.2.1, hs.2.2.1, hs.2.2.2.1, hs.2.2.2.2.1, hs.2.2.2.2.2.1, hs.2.2.2.2.2.2.1, hs.2.2.2.2.2.2.2.1, hs.2.2.2.2.2.2.2.2.2⟩)), (ow1098.imp (fun g _ hs => ⟨hs.1, hs.2.1, hs.2.2.1, hs.2.2.2.1, hs.2.2.2.2.1, hs.2.2.2.2.2.1, hs.2.2.2.2.2.2.1, hs.2.2.2.2.2.2.2.1, hs.2.2.2.2.2.2.2.2.2⟩)), (ow1099.imp (fun g _ hs => ⟨hs.1, hs.2.1, hs.2.2.1, hs.2.2.2.1, hs.2.2.2.2.1, hs.2.2.2.2.2.1, hs.2.2.2.2.2.2.1, hs.2.2.2.2.2.2.2.1, hs.2.2.2.2.2.2.2.2.2⟩)), bx1100, bx1101, bx1102, (by omega), (by omega), hT3, hK3, hY2, (stay_skipK hL (stay_no hR hs hY2.ok (by omega) (by omega) (by first | exact .inl (by assumption) | exact .inr (.inl (by assumption)) | exact .inr (.inr (by assumption))))), hT3.ok.1, hY2.ok.1, (by omega), (by omega)⟩
     ·-- decide ((i : Int) < ((g.ow.length : Nat) : Int)) is False
      have q1207 := of_decide_eq_false h627
      refine wp_exit ?_
      refine t_e ?_
      refine t_e ?_
      refine b_e ?_
      refine b_n ?_
      refine t_n ?_
      have f1208 := f626.sub (r := [(18, .int .i64 (r)), (17, .pointer (some ⟨w498.heap.size, 0, none⟩)), (16, .pointer (some ⟨w437.heap.size, 0, none⟩)), (14, .pointer (some ⟨w280.heap.size, 0, none⟩)), (13, .pointer (some ⟨w224.heap.size, 0, none⟩)), (12, .int .i64 (((g.ow.length : Nat) : Int))), (7, .pointer (some ⟨w11.heap.size, 0, none⟩)), (5, .pointer (some ⟨w1.heap.size, 0, none⟩)), (4, .pointer (some ⟨w.heap.size, 0, none⟩)), (2, .int .i64 (p))]) ⟨rfl, rfl, rfl, rfl, rfl, rfl, rfl, rfl, rfl, rfl, trivial⟩
      clear f626
      refine At.start ?_
      refine At.rd f1208 3 [[], [.as_ (.int .i64 (r + 1))], []] [(18, .int .i64 (r + 1)), (83, .int .i64 (r + 1)), (82, .int .i64 (r))] [((.int .i64 (IntKind.i64.wrap (r + 1)) : Value) = .int .i64 (r + 1))] (by kernel_rfl) ⟨(w64 (by omega) (by omega)), trivial⟩ (fun act1210 f1209 => ?_)
      clear f1208
      refine At.done rfl ?_
      refine t_n ?_
      have f1211 := f1209.sub (r := [(18, .int .i64 (r + 1)), (17, .pointer (some ⟨w498.heap.size, 0, none⟩)), (16, .pointer (some ⟨w437.heap.size, 0, none⟩)), (14, .pointer (some ⟨w280.heap.size, 0, none⟩)), (13, .pointer (some ⟨w224.heap.size, 0, none⟩)), (12, .int .i64 (((g.ow.length : Nat) : Int))), (7, .pointer (some ⟨w11.heap.size, 0, none⟩)), (5, .pointer (some ⟨w1.heap.size, 0, none⟩)), (4, .pointer (some ⟨w.heap.size, 0, none⟩)), (2, .int .i64 (p))]) ⟨rfl, rfl, rfl, rfl, rfl, rfl, rfl, rfl, rfl, rfl, trivial⟩
      exact ⟨_, (by omega), (r + 1), sm2, sy2, rfl, f1211, e600, r603, r604, bx605, bx606, bx607, ow608, ow609, r610, bx611, ow612, ow613, r614, bx615, bx616, bx617, (by omega), (by omega), hT2, (someP_s hK (by omega)), hY2, (stayP_s hL (by omega)), hT2.ok.1, hY2.ok.1, (by omega), (by omega)⟩
    ·-- decide ((r : Int) ≤ ((g.ow.length : Nat) : Int)) is False
     have q1212 := of_decide_eq_false h592
     refine wp_exit ?_
     refine t_e ?_
     refine t_e ?_
     refine b_e ?_
     refine t_n ?_
     have f1213 := f591.sub (r := [(17, .pointer (some ⟨w498.heap.size, 0, none⟩)), (16, .pointer (some ⟨w437.heap.size, 0, none⟩)), (14, .pointer (some ⟨w280.heap.size, 0, none⟩)), (13, .pointer (some ⟨w224.heap.size, 0, none⟩)), (7, .pointer (some ⟨w11.heap.size, 0, none⟩)), (5, .pointer (some ⟨w1.heap.size, 0, none⟩)), (2, .int .i64 (p))]) ⟨rfl, rfl, rfl, rfl, rfl, rfl, rfl, trivial⟩
     clear f591
     refine wp_seq ?_
     refine At.start ?_
     refine At.rd f1213 4 [[.ld (.slice A_341 xa.length c_342), .ld (.slice A213 g.pr.length c214), .ld (.slice A215 g.mv.length c216)], [.cs (((inS g s : List Int) : List Int).map wV)], [], [.cs ((t : List Int).map wV)]] [(132, .agg ((t : List Int).map wV).toArray), (131, .int .i64 (p)), (130, .agg (((inS g s : List Int) : List Int).map wV).toArray), (129, .agg #[.slice A_341 xa.length c_342, .slice A213 g.pr.length c214, .slice A215 g.mv.length c216])] [(w564.cell? ⟨w224.heap.size, 0, none⟩ = some (.slice A_341 xa.length c_342)), (w564.cell? ⟨w224.heap.size, 1, none⟩ = some (.slice A213 g.pr.length c214)), (w564.cell? ⟨w224.heap.size, 2, none⟩ = some (.slice A215 g.mv.length c216)), ((((inS g s : List Int) : List Int).map wV).length = 4), (∀ (j : Nat) (v : Value), (((inS g s : List Int) : List Int).map wV)[j]? = some v → w564.cell? ((⟨w1.heap.size, 0, none⟩ : Addr).add j) = some v), (((t : List Int).map wV).length = 4), (∀ (j : Nat) (v : Value), ((t : List Int).map wV)[j]? = some v → w564.cell? ((⟨w11.heap.size, 0, none⟩ : Addr).add j) = some v)] (by kernel_rfl) ⟨(bx576.cell (i := 0) rfl), (bx576.cell (i := 1) rfl), (bx576.cell (i := 2) rfl), ((List.length_map _).trans (okLen (inS_ok (by assumption)))), bx571.whole, (by simp only [List.length_map, List.length_set, List.length_replicate, List.length_cons, List.length_nil]; first | done | assumption | exact from_len _ | exact of_len _ | exact ofZ_len _ | exact (ofW_ok _).1 | exact (fullW_W _).1 | exact (okW_with (by assumption)).1 | exact (okW_less (by assumption)).1 | exact put_len (from_len _) | exact orD_len _ _ | exact andD_len _ _ | exact minusD_len _ _ | exact fullD_len _ | (refine okLen ?_; (repeat (first | assumption | exact ofW_ok _ | exact fullW_W _ | apply okW_with | apply okW_less | refine okW_orS ?_ ?_ | refine okW_andS ?_ ?_ | refine okW_minusS ?_ ?_)); done) | omega | rfl), bx572.whole, trivial⟩ (fun act1215 f1214 => ?_)
     clear f1213
     refine At.call f1214 12 #[.agg #[.slice A_341 xa.length c_342, .slice A213 g.pr.length c214, .slice A215 g.mv.length c216], .agg (((inS g s : List Int) : List Int).map wV).toArray, .int .i64 (p), .agg ((t : List Int).map wV).toArray] (some 133) (by kernel_rfl) (attract_any (g := (⟨xa, g.pr, g.mv⟩ : GameL)) (s := (inS g s : List Int)) (t := t) (p := p) (RdG.mk (G := (⟨xa, g.pr, g.mv⟩ : GameL)) (ow573.rdI0 (by first | omega | (simp only [List.length_cons, List.length_nil]; omega) | (simp; done) | (simp; omega))) (ow574.rdI0 (by first | omega | (simp only [List.length_cons, List.length_nil]; omega) | (simp; done) | (simp; omega))) (r575.rdII0 (by first | omega | (simp only [List.length_cons, List.length_nil]; omega) | (simp; done) | (simp; omega)) hip223) ow573.cap ow574.cap r575.cap) (inS_ok (by assumption)) (by repeat (first | assumption | exact ofW_ok _ | exact fullW_W _ | exact wordsD_W _ | exact okW_0 | exact okW_00 | apply okW_orS | apply okW_andS | apply okW_minusS | apply okW_with | apply okW_less | apply okW_or | apply okW_and | apply okW_minus | (apply okW_lit <;> exact ⟨by omega, by omega⟩))) (r569.wide (Nat.zero_le _) (by omega))) ?_
     rintro e_ w1220 ⟨A1216, c1217, sb, mb, rfl, he, ow1218, hB⟩
     have hok_sb := att_ok hB
     have hl_sb := okLen hok_sb
     have hlm_mb := att_len hB
     refine ⟨_, rfl, _, rfl, fun act1221 f1222 => ?_⟩
     clear f1214
     have g1223 := gr_ext he
     have lt1224 := ow573.lt
     have lt1225 := ow574.lt
     have lt1226 := r575.lt
     have lt1227 := ow577.lt
     have lt1228 := ow578.lt
     have lt1229 := r579.lt
     have szw1220 := g1223.size
     have e1230 := e565.gr g1223 no_row
     clear e565
     have r1231 := r568.gr g1223 (fun _ h => by cases h)
     clear r568
     have r1232 := r569.gr g1223 (fun _ h => by cases h)
     clear r569
     have bx1233 := bx570.gr g1223 (by simp)
     clear bx570
     have bx1234 := bx571.gr g1223 (by simp)
     clear bx571
     have bx1235 := bx572.gr g1223 (by simp)
     clear bx572
     have ow1236 : OwnR w1220 (Sx (w200.heap.size) [obk (A1216), some (w498.heap.size), some (w437.heap.size), some (w280.heap.size), obk (A_343), obk (A269), obk (A271), some (w224.heap.size), obk (A213), obk (A215)]) A_341 c_342 3 (xa : List Int) := ow573.grA g1223 (fun _ _ h => by cases h) (fun k hk hs => ⟨(fun e => by have := ow1218.ge _ e; omega), hs.1, hs.2.1, hs.2.2.1, hs.2.2.2.1, hs.2.2.2.2.1, hs.2.2.2.2.2.1, hs.2.2.2.2.2.2.1, hs.2.2.2.2.2.2.2.1, hs.2.2.2.2.2.2.2.2.1, hs.2.2.2.2.2.2.2.2.2⟩)
     clear ow573
     have ow1237 : OwnR w1220 (Sx (w200.heap.size) [obk (A1216), some (w498.heap.size), some (w437.heap.size), some (w280.heap.size), obk (A_343), obk (A269), obk (A271), some (w224.heap.size), obk (A_341), obk (A215)]) A213 c214 3 (g.pr : List Int) := ow574.grA g1223 (fun _ _ h => by cases h) (fun k hk hs => ⟨(fun e => by have := ow1218.ge _ e; omega), hs.1, hs.2.1, hs.2.2.1, hs.2.2.2.1, hs.2.2.2.2.1, hs.2.2.2.2.2.1, hs.2.2.2.2.2.2.1, hs.2.2.2.2.2.2.2.1, hs.2.2.2.2.2.2.2.2.1, hs.2.2.2.2.2.2.2.2.2⟩)
     clear ow574
     have ow1238 : OwnLL w1220 (w200.heap.size) [obk (A1216), some (w498.heap.size), some (w437.heap.size), some (w280.heap.size), obk (A_343), obk (A269), obk (A271), some (w224.heap.size), obk (A_341), obk (A213)] A215 c216 22 3 (g.mv : List (List Int)) := r575.grA g1223 (fun _ _ h => by cases h) (fun k hk hs => ⟨(fun e => by have := ow1218.ge _ e; omega), hs.1, hs.2.1, hs.2.2.1, hs.2.2.2.1, hs.2.2.2.2.1, hs.2.2.2.2.2.1, hs.2.2.2.2.2.2.1, hs.2.2.2.2.2.2.2.1, hs.2.2.2.2.2.2.2.2.1, hs.2.2.2.2.2.2.2.2.2⟩)
     clear r575
     have bx1239 := bx576.gr g1223 (by simp)
     clear bx576
     have ow1240 : OwnR w1220 (Sx (w250.heap.size) [obk (A1216), some (w498.heap.size), some (w437.heap.size), some (w280.heap.size), obk (A_341), obk (A213), obk (A215), obk (A269), obk (A271)]) A_343 c_344 3 (xb : List Int) := ow577.grA g1223 (fun _ _ h => by cases h) (fun k hk hs => ⟨(fun e => by have := ow1218.ge _ e; omega), hs.1, hs.2.1, hs.2.2.1, hs.2.2.2.1, hs.2.2.2.2.1, hs.2.2.2.2.2.1, hs.2.2.2.2.2.2.1, hs.2.2.2.2.2.2.2.1, hs.2.2.2.2.2.2.2.2⟩)
     clear ow577
     have ow1241 : OwnR w1220 (Sx (w250.heap.size) [obk (A1216), some (w498.heap.size), some (w437.heap.size), some (w280.heap.size), obk (A_341), obk (A213), obk (A215), obk (A_343), obk (A271)]) A269 c270 3 (g.pr : List Int) := ow578.grA g1223 (fun _ _ h => by cases h) (fun k hk hs => ⟨(fun e => by have := ow1218.ge _ e; omega), hs.1, hs.2.1, hs.2.2.1, hs.2.2.2.1, hs.2.2.2.2.1, hs.2.2.2.2.2.1, hs.2.2.2.2.2.2.1, hs.2.2.2.2.2.2.2.1, hs.2.2.2.2.2.2.2.2⟩)
     clear ow578
     have ow1242 : OwnLL w1220 (w250.heap.size) [obk (A1216), some (w498.heap.size), some (w437.heap.size), some (w280.heap.size), obk (A_341), obk (A213), obk (A215), obk (A_343), obk (A269)] A271 c272 22 3 (g.mv : List (List Int)) := r579.grA g1223 (fun _ _ h => by cases h) (fun k hk hs => ⟨(fun e => by have := ow1218.ge _ e; omega), hs.1, hs.2.1, hs.2.2.1, hs.2.2.2.1, hs.2.2.2.2.1, hs.2.2.2.2.2.1, hs.2.2.2.2.2.2.1, hs.2.2.2.2.2.2.2.1, hs.2.2.2.2.2.2.2.2⟩)
     clear r579
     have bx1243 := bx580.gr g1223 (by simp)
     clear bx580
     have bx1244 := bx581.gr g1223 (by simp)
     clear bx581
     have bx1245 := bx582.gr g1223 (by simp)
     clear bx582
     have ow1246 : OwnR w1220 (Sx (w564.heap.size) [obk (A_341), obk (A213), obk (A215), obk (A_343), obk (A269), obk (A271)]) A1216 c1217 3 (mb : List Int) := ow1218.imp (fun g _ hs => ⟨(fun e => by have := lt1224 _ e; have := Sx_base hs; omega), (fun e => by have := lt1225 _ e; have := Sx_base hs; omega), (fun e => by have := lt1226 _ e; have := Sx_base hs; omega), (fun e => by have := lt1227 _ e; have := Sx_base hs; omega), (fun e => by have := lt1228 _ e; have := Sx_base hs; omega), (fun e => by have := lt1229 _ e; have := Sx_base hs; omega), hs⟩)
     clear ow1218
     clear lt1224 lt1225 lt1226 lt1227 lt1228 lt1229
     clear g1223 he
     refine At.rd f1222 3 [[], [], []] [(135, .slice A1216 mb.length c1217), (134, .agg ((sb : List Int).map wV).toArray), (128, .tuple #[.agg ((sb : List Int).map wV).toArray, .slice A1216 mb.length c1217])] [] (by kernel_rfl) trivial (fun act1248 f1247 => ?_)
     clear f1222
     refine At.seq f1247 1 [[]] [(21, .pointer (some ⟨w1220.heap.size, 0, none⟩))] (w1220.alloc (.cells ((List.replicate 4 (0 : Int) : List Int).map wV).toArray 28 (0, 0))) [] (by kernel_rfl) trivial (fun act1252 w1249 hw1250 f1251 => ?_)
     clear f1247
     have g1253 := gr_alloc hw1250
     have szw1249 := g1253.size
     have e1255 := e1230.gr g1253 no_row
     clear e1230
     have r1256 := r1231.gr g1253 (fun _ h => by cases h)
     clear r1231
     have r1257 := r1232.gr g1253 (fun _ h => by cases h)
     clear r1232
     have bx1258 := bx1233.gr g1253 (by simp)
     clear bx1233
     have bx1259 := bx1234.gr g1253 (by simp)
     clear bx1234
     have bx1260 := bx1235.gr g1253 (by simp)
     clear bx1235
     have ow1261 : OwnR w1249 (Sx (w200.heap.size) [some (w1220.heap.size), obk (A1216), some (w498.heap.size), some (w437.heap.size), some (w280.heap.size), obk (A_343), obk (A269), obk (A271), some (w224.heap.size), obk (A213), obk (A215)]) A_341 c_342 3 (xa : List Int) := ow1236.grA g1253 (fun _ _ h => by cases h) (fun k hk hs => ⟨(fun e => by injection e; omega), hs.1, hs.2.1, hs.2.2.1, hs.2.2.2.1, hs.2.2.2.2.1, hs.2.2.2.2.2.1, hs.2.2.2.2.2.2.1, hs.2.2.2.2.2.2.2.1, hs.2.2.2.2.2.2.2.2.1, hs.2.2.2.2.2.2.2.2.2.1, hs.2.2.2.2.2.2.2.2.2.2⟩)
     clear ow1236
     have ow1262 : OwnR w1249 (Sx (w200.heap.size) [some (w1220.heap.size), obk (A1216), some (w498.heap.size), some (w437.heap.size), some (w280.heap.size), obk (A_343), obk (A269), obk (A271), some (w224.heap.size), obk (A_341), obk (A215)]) A213 c214 3 (g.pr : List Int) := ow1237.grA g1253 (fun _ _ h => by cases h) (fun k hk hs => ⟨(fun e => by injection e; omega), hs.1, hs.2.1, hs.2.2.1, hs.2.2.2.1, hs.2.2.2.2.1, hs.2.2.2.2.2.1, hs.2.2.2.2.2.2.1, hs.2.2.2.2.2.2.2.1, hs.2.2.2.2.2.2.2.2.1, hs.2.2.2.2.2.2.2.2.2.1, hs.2.2.2.2.2.2.2.2.2.2⟩)
     clear ow1237
     have ow1263 : OwnLL w1249 (w200.heap.size) [some (w1220.heap.size), obk (A1216), some (w498.heap.size), some (w437.heap.size), some (w280.heap.size), obk (A_343), obk (A269), obk (A271), some (w224.heap.size), obk (A_341), obk (A213)] A215 c216 22 3 (g.mv : List (List Int)) := ow1238.grA g1253 (fun _ _ h => by cases h) (fun k hk hs => ⟨(fun e => by injection e; omega), hs.1, hs.2.1, hs.2.2.1, hs.2.2.2.1, hs.2.2.2.2.1, hs.2.2.2.2.2.1, hs.2.2.2.2.2.2.1, hs.2.2.2.2.2.2.2.1, hs.2.2.2.2.2.2.2.2.1, hs.2.2.2.2.2.2.2.2.2.1, hs.2.2.2.2.2.2.2.2.2.2⟩)
     clear ow1238
     have bx1264 := bx1239.gr g1253 (by simp)
     clear bx1239
     have ow1265 : OwnR w1249 (Sx (w250.heap.size) [some (w1220.heap.size), obk (A1216), some (w498.heap.size), some (w437.heap.size), some (w280.heap.size), obk (A_341), obk (A213), obk (A215), obk (A269), obk (A271)]) A_343 c_344 3 (xb : List Int) := ow1240.grA g1253 (fun _ _ h => by cases h) (fun k hk hs => ⟨(fun e => by injection e; omega), hs.1, hs.2.1, hs.2.2.1, hs.2.2.2.1, hs.2.2.2.2.1, hs.2.2.2.2.2.1, hs.2.2.2.2.2.2.1, hs.2.2.2.2.2.2.2.1, hs.2.2.2.2.2.2.2.2.1, hs.2.2.2.2.2.2.2.2.2⟩)
     clear ow1240
     have ow1266 : OwnR w1249 (Sx (w250.heap.size) [some (w1220.heap.size), obk (A1216), some (w498.heap.size), some (w437.heap.size), some (w280.heap.size), obk (A_341), obk (A213), obk (A215), obk (A_343), obk (A271)]) A269 c270 3 (g.pr : List Int) := ow1241.grA g1253 (fun _ _ h => by cases h) (fun k hk hs => ⟨(fun e => by injection e; omega), hs.1, hs.2.1, hs.2.2.1, hs.2.2.2.1, hs.2.2.2.2.1, hs.2.2.2.2.2.1, hs.2.2.2.2.2.2.1, hs.2.2.2.2.2.2.2.1, hs.2.2.2.2.2.2.2.2.1, hs.2.2.2.2.2.2.2.2.2⟩)
     clear ow1241
     have ow1267 : OwnLL w1249 (w250.heap.size) [some (w1220.heap.size), obk (A1216), some (w498.heap.size), some (w437.heap.size), some (w280.heap.size), obk (A_341), obk (A213), obk (A215), obk (A_343), obk (A269)] A271 c272 22 3 (g.mv : List (List Int)) := ow1242.grA g1253 (fun _ _ h => by cases h) (fun k hk hs => ⟨(fun e => by injection e; omega), hs.1, hs.2.1, hs.2.2.1, hs.2.2.2.1, hs.2.2.2.2.1, hs.2.2.2.2.2.1, hs.2.2.2.2.2.2.1, hs.2.2.2.2.2.2.2.1, hs.2.2.2.2.2.2.2.2.1, hs.2.2.2.2.2.2.2.2.2⟩)
     clear ow1242
     have bx1268 := bx1243.gr g1253 (by simp)
     clear bx1243
     have bx1269 := bx1244.gr g1253 (by simp)
     clear bx1244
     have bx1270 := bx1245.gr g1253 (by simp)
     clear bx1245
     have ow1271 : OwnR w1249 (Sx (w564.heap.size) [some (w1220.heap.size), obk (A_341), obk (A213), obk (A215), obk (A_343), obk (A269), obk (A271)]) A1216 c1217 3 (mb : List Int) := ow1246.grA g1253 (fun _ _ h => by cases h) (fun k hk hs => ⟨(fun e => by injection e; omega), hs.1, hs.2.1, hs.2.2.1, hs.2.2.2.1, hs.2.2.2.2.1, hs.2.2.2.2.2.1, hs.2.2.2.2.2.2⟩)
     clear ow1246
     have bx1272 : Bx w1249 (w1220.heap.size) ((List.replicate 4 (0 : Int) : List Int).map wV) 28 := Bx.new hw1250
     have := bx1272.lt
     clear g1253 hw1250
     refine At.act f1251 (storeBlk (t := 28) (b := w1220.heap.size) (n := 4) (cs' := ((sb : List Int).map wV)) (by kernel_rfl) (by kernel_rfl) (by simp only [List.length_map, List.length_set, List.length_replicate, List.length_cons, List.length_nil]; first | done | assumption | exact from_len _ | exact of_len _ | exact ofZ_len _ | exact (ofW_ok _).1 | exact (fullW_W _).1 | exact (okW_with (by assumption)).1 | exact (okW_less (by assumption)).1 | exact put_len (from_len _) | exact orD_len _ _ | exact andD_len _ _ | exact minusD_len _ _ | exact fullD_len _ | (refine okLen ?_; (repeat (first | assumption | exact ofW_ok _ | exact fullW_W _ | apply okW_with | apply okW_less | refine okW_orS ?_ ?_ | refine okW_andS ?_ ?_ | refine okW_minusS ?_ ?_)); done) | omega | rfl) oneW_ ((show ((sb : List Int).map wV).length = 4 from (by simp only [List.length_map, List.length_set, List.length_replicate, List.length_cons, List.length_nil]; first | done | assumption | exact from_len _ | exact of_len _ | exact ofZ_len _ | exact (ofW_ok _).1 | exact (fullW_W _).1 | exact (okW_with (by assumption)).1 | exact (okW_less (by assumption)).1 | exact put_len (from_len _) | exact orD_len _ _ | exact andD_len _ _ | exact minusD_len _ _ | exact fullD_len _ | (refine okLen ?_; (repeat (first | assumption | exact ofW_ok _ | exact fullW_W _ | apply okW_with | apply okW_less | refine okW_orS ?_ ?_ | refine okW_andS ?_ ?_ | refine okW_minusS ?_ ?_)); done) | omega | rfl)).trans (show ((List.replicate 4 (0 : Int) : List Int).map wV).length = 4 from (by simp only [List.length_map, List.length_set, List.length_replicate, List.length_cons, List.length_nil]; first | done | assumption | exact from_len _ | exact of_len _ | exact ofZ_len _ | exact (ofW_ok _).1 | exact (fullW_W _).1 | exact (okW_with (by assumption)).1 | exact (okW_less (by assumption)).1 | exact put_len (from_len _) | exact orD_len _ _ | exact andD_len _ _ | exact minusD_len _ _ | exact fullD_len _ | (refine okLen ?_; (repeat (first | assumption | exact ofW_ok _ | exact fullW_W _ | apply okW_with | apply okW_less | refine okW_orS ?_ ?_ | refine okW_andS ?_ ?_ | refine okW_minusS ?_ ?_)); done) | omega | rfl)).symm) bx1272) ?_
     rintro d_ v_ w1273 ⟨rfl, g1274, bx1275⟩
     refine ⟨_, rfl, fun act1277 f1276 => ?_⟩
     clear f1251
     have szw1273 := g1274.size
     have e1278 := e1255.gr g1274 (fun k h => by injection h; omega)
     clear e1255
     have r1279 := r1256.gr g1274 (fun k h => by injection h; omega)
     clear r1256
     have r1280 := r1257.gr g1274 (fun k h => by injection h; omega)
     clear r1257
     have bx1281 := bx1258.gr g1274 (fun h => by injection h; omega)
     clear bx1258
     have bx1282 := bx1259.gr g1274 (fun h => by injection h; omega)
     clear bx1259
     have bx1283 := bx1260.gr g1274 (fun h => by injection h; omega)
     clear bx1260
     have ow1284 := ow1261.gr g1274 (fun k hk => hk.1)
     clear ow1261
     have ow1285 := ow1262.gr g1274 (fun k hk => hk.1)
     clear ow1262
     have ow1286 := ow1263.gr g1274 (fun k hk => hk.1)
     clear ow1263
     have bx1287 := bx1264.gr g1274 (fun h => by injection h; omega)
     clear bx1264
     have ow1288 := ow1265.gr g1274 (fun k hk => hk.1)
     clear ow1265
     have ow1289 := ow1266.gr g1274 (fun k hk => hk.1)
     clear ow1266
     have ow1290 := ow1267.gr g1274 (fun k hk => hk.1)
     clear ow1267
     have bx1291 := bx1268.gr g1274 (fun h => by injection h; omega)
     clear bx1268
     have bx1292 := bx1269.gr g1274 (fun h => by injection h; omega)
     clear bx1269
     have bx1293 := bx1270.gr g1274 (fun h => by injection h; omega)
     clear bx1270
     have ow1294 := ow1271.gr g1274 (fun k hk => hk.1)
     clear ow1271
     clear bx1272 g1274
     refine At.rd f1276 1 [[]] [(22, .slice A1216 mb.length c1217)] [] (by kernel_rfl) trivial (fun act1296 f1295 => ?_)
     clear f1276
     refine At.done rfl ?_
     refine t_n ?_
     have f1297 := f1295.sub (r := [(21, .pointer (some ⟨w1220.heap.size, 0, none⟩)), (17, .pointer (some ⟨w498.heap.size, 0, none⟩)), (16, .pointer (some ⟨w437.heap.size, 0, none⟩)), (14, .pointer (some ⟨w280.heap.size, 0, none⟩)), (7, .pointer (some ⟨w11.heap.size, 0, none⟩)), (5, .pointer (some ⟨w1.heap.size, 0, none⟩)), (2, .int .i64 (p))]) ⟨rfl, rfl, rfl, rfl, rfl, rfl, rfl, trivial⟩
     clear f1295
     refine wp_seq ?_
     refine At.start ?_
     refine At.rd f1297 4 [[.ld (.slice A_343 xb.length c_344), .ld (.slice A269 g.pr.length c270), .ld (.slice A271 g.mv.length c272)], [.cs (((inS g s : List Int) : List Int).map wV)], [], [.cs ((t : List Int).map wV)]] [(140, .agg ((t : List Int).map wV).toArray), (139, .int .i64 (p)), (138, .agg (((inS g s : List Int) : List Int).map wV).toArray), (137, .agg #[.slice A_343 xb.length c_344, .slice A269 g.pr.length c270, .slice A271 g.mv.length c272])] [(w1273.cell? ⟨w280.heap.size, 0, none⟩ = some (.slice A_343 xb.length c_344)), (w1273.cell? ⟨w280.heap.size, 1, none⟩ = some (.slice A269 g.pr.length c270)), (w1273.cell? ⟨w280.heap.size, 2, none⟩ = some (.slice A271 g.mv.length c272)), ((((inS g s : List Int) : List Int).map wV).length = 4), (∀ (j : Nat) (v : Value), (((inS g s : List Int) : List Int).map wV)[j]? = some v → w1273.cell? ((⟨w1.heap.size, 0, none⟩ : Addr).add j) = some v), (((t : List Int).map wV).length = 4), (∀ (j : Nat) (v : Value), ((t : List Int).map wV)[j]? = some v → w1273.cell? ((⟨w11.heap.size, 0, none⟩ : Addr).add j) = some v)] (by kernel_rfl) ⟨(bx1291.cell (i := 0) rfl), (bx1291.cell (i := 1) rfl), (bx1291.cell (i := 2) rfl), ((List.length_map _).trans (okLen (inS_ok (by assumption)))), bx1282.whole, (by simp only [List.length_map, List.length_set, List.length_replicate, List.length_cons, List.length_nil]; first | done | assumption | exact from_len _ | exact of_len _ | exact ofZ_len _ | exact (ofW_ok _).1 | exact (fullW_W _).1 | exact (okW_with (by assumption)).1 | exact (okW_less (by assumption)).1 | exact put_len (from_len _) | exact orD_len _ _ | exact andD_len _ _ | exact minusD_len _ _ | exact fullD_len _ | (refine okLen ?_; (repeat (first | assumption | exact ofW_ok _ | exact fullW_W _ | apply okW_with | apply okW_less | refine okW_orS ?_ ?_ | refine okW_andS ?_ ?_ | refine okW_minusS ?_ ?_)); done) | omega | rfl), bx1283.whole, trivial⟩ (fun act1299 f1298 => ?_)
     clear f1297
     refine At.call f1298 12 #[.agg #[.slice A_343 xb.length c_344, .slice A269 g.pr.length c270, .slice A271 g.mv.length c272], .agg (((inS g s : List Int) : List Int).map wV).toArray, .int .i64 (p), .agg ((t : List Int).map wV).toArray] (some 141) (by kernel_rfl) (attract_any (g := (⟨xb, g.pr, g.mv⟩ : GameL)) (s := (inS g s : List Int)) (t := t) (p := p) (RdG.mk (G := (⟨xb, g.pr, g.mv⟩ : GameL)) (ow1288.rdI0 (by first | omega | (simp only [List.length_cons, List.length_nil]; omega) | (simp; done) | (simp; omega))) (ow1289.rdI0 (by first | omega | (simp only [List.length_cons, List.length_nil]; omega) | (simp; done) | (simp; omega))) (ow1290.rdII0 (by first | omega | (simp only [List.length_cons, List.length_nil]; omega) | (simp; done) | (simp; omega)) hip279) ow1288.cap ow1289.cap ow1290.cap) (inS_ok (by assumption)) (by repeat (first | assumption | exact ofW_ok _ | exact fullW_W _ | exact wordsD_W _ | exact okW_0 | exact okW_00 | apply okW_orS | apply okW_andS | apply okW_minusS | apply okW_with | apply okW_less | apply okW_or | apply okW_and | apply okW_minus | (apply okW_lit <;> exact ⟨by omega, by omega⟩))) (r1280.wide (Nat.zero_le _) (by omega))) ?_
     rintro e_ w1304 ⟨A1300, c1301, sc, mc, rfl, he, ow1302, hC⟩
     have hok_sc := att_ok hC
     have hl_sc := okLen hok_sc
     have hlm_mc := att_len hC
     refine ⟨_, rfl, _, rfl, fun act1305 f1306 => ?_⟩
     clear f1298
     have g1307 := gr_ext he
     have lt1308 := ow1284.lt
     have lt1309 := ow1285.lt
     have lt1310 := ow1286.lt
     have lt1311 := ow1288.lt
     have lt1312 := ow1289.lt
     have lt1313 := ow1290.lt
     have lt1314 := ow1294.lt
     have szw1304 := g1307.size
     have e1315 := e1278.gr g1307 no_row
     clear e1278
     have r1316 := r1279.gr g1307 (fun _ h => by cases h)
     clear r1279
     have r1317 := r1280.gr g1307 (fun _ h => by cases h)
     clear r1280
     have bx1318 := bx1281.gr g1307 (by simp)
     clear bx1281
     have bx1319 := bx1282.gr g1307 (by simp)
     clear bx1282
     have bx1320 := bx1283.gr g1307 (by simp)
     clear bx1283
     have ow1321 : OwnR w1304 (Sx (w200.heap.size) [obk (A1300), some (w1220.heap.size), obk (A1216), some (w498.heap.size), some (w437.heap.size), some (w280.heap.size), obk (A_343), obk (A269), obk (A271), some (w224.heap.size), obk (A213), obk (A215)]) A_341 c_342 3 (xa : List Int) := ow1284.grA g1307 (fun _ _ h => by cases h) (fun k hk hs => ⟨(fun e => by have := ow1302.ge _ e; omega), hs.1, hs.2.1, hs.2.2.1, hs.2.2.2.1, hs.2.2.2.2.1, hs.2.2.2.2.2.1, hs.2.2.2.2.2.2.1, hs.2.2.2.2.2.2.2.1, hs.2.2.2.2.2.2.2.2.1, hs.2.2.2.2.2.2.2.2.2.1, hs.2.2.2.2.2.2.2.2.2.2.1, hs.2.2.2.2.2.2.2.2.2.2.2⟩)
     clear ow1284
     have ow1322 : OwnR w1304 (Sx (w200.heap.size) [obk (A1300), some (w1220.heap.size), obk (A1216), some (w498.heap.size), some (w437.heap.size), some (w280.heap.size), obk (A_343), obk (A269), obk (A271), some (w224.heap.size), obk (A_341), obk (A215)]) A213 c214 3 (g.pr : List Int) := ow1285.grA g1307 (fun _ _ h => by cases h) (fun k hk hs => ⟨(fun e => by have := ow1302.ge _ e; omega), hs.1, hs.2.1, hs.2.2.1, hs.2.2.2.1, hs.2.2.2.2.1, hs.2.2.2.2.2.1, hs.2.2.2.2.2.2.1, hs.2.2.2.2.2.2.2.1, hs.2.2.2.2.2.2.2.2.1, hs.2.2.2.2.2.2.2.2.2.1, hs.2.2.2.2.2.2.2.2.2.2.1, hs.2.2.2.2.2.2.2.2.2.2.2⟩)
     clear ow1285
     have ow1323 : OwnLL w1304 (w200.heap.size) [obk (A1300), some (w1220.heap.size), obk (A1216), some (w498.heap.size), some (w437.heap.size), some (w280.heap.size), obk (A_343), obk (A269), obk (A271), some (w224.heap.size), obk (A_341), obk (A213)] A215 c216 22 3 (g.mv : List (List Int)) := ow1286.grA g1307 (fun _ _ h => by cases h) (fun k hk hs => ⟨(fun e => by have := ow1302.ge _ e; omega), hs.1, hs.2.1, hs.2.2.1, hs.2.2.2.1, hs.2.2.2.2.1, hs.2.2.2.2.2.1, hs.2.2.2.2.2.2.1, hs.2.2.2.2.2.2.2.1, hs.2.2.2.2.2.2.2.2.1, hs.2.2.2.2.2.2.2.2.2.1, hs.2.2.2.2.2.2.2.2.2.2.1, hs.2.2.2.2.2.2.2.2.2.2.2⟩)
     clear ow1286
     have bx1324 := bx1287.gr g1307 (by simp)
     clear bx1287
     have ow1325 : OwnR w1304 (Sx (w250.heap.size) [obk (A1300), some (w1220.heap.size), obk (A1216), some (w498.heap.size), some (w437.heap.size), some (w280.heap.size), obk (A_341), obk (A213), obk (A215), obk (A269), obk (A271)]) A_343 c_344 3 (xb : List Int) := ow1288.grA g1307 (fun _ _ h => by cases h) (fun k hk hs => ⟨(fun e => by have := ow1302.ge _ e; omega), hs.1, hs.2.1, hs.2.2.1, hs.2.2.2.1, hs.2.2.2.2.1, hs.2.2.2.2.2.1, hs.2.2.2.2.2.2.1, hs.2.2.2.2.2.2.2.1, hs.2.2.2.2.2.2.2.2.1, hs.2.2.2.2.2.2.2.2.2.1, hs.2.2.2.2.2.2.2.2.2.2⟩)
     clear ow1288
     have ow1326 : OwnR w1304 (Sx (w250.heap.size) [obk (A1300), some (w1220.heap.size), obk (A1216), some (w498.heap.size), some (w437.heap.size), some (w280.heap.size), obk (A_341), obk (A213), obk (A215), obk (A_343), obk (A271)]) A269 c270 3 (g.pr : List Int) := ow1289.grA g1307 (fun _ _ h => by cases h) (fun k hk hs => ⟨(fun e => by have := ow1302.ge _ e; omega), hs.1, hs.2.1, hs.2.2.1, hs.2.2.2.1, hs.2.2.2.2.1, hs.2.2.2.2.2.1, hs.2.2.2.2.2.2.1, hs.2.2.2.2.2.2.2.1, hs.2.2.2.2.2.2.2.2.1, hs.2.2.2.2.2.2.2.2.2.1, hs.2.2.2.2.2.2.2.2.2.2⟩)
     clear ow1289
     have ow1327 : OwnLL w1304 (w250.heap.size) [obk (A1300), some (w1220.heap.size), obk (A1216), some (w498.heap.size), some (w437.heap.size), some (w280.heap.size), obk (A_341), obk (A213), obk (A215), obk (A_343), obk (A269)] A271 c272 22 3 (g.mv : List (List Int)) := ow1290.grA g1307 (fun _ _ h => by cases h) (fun k hk hs => ⟨(fun e => by have := ow1302.ge _ e; omega), hs.1, hs.2.1, hs.2.2.1, hs.2.2.2.1, hs.2.2.2.2.1, hs.2.2.2.2.2.1, hs.2.2.2.2.2.2.1, hs.2.2.2.2.2.2.2.1, hs.2.2.2.2.2.2.2.2.1, hs.2.2.2.2.2.2.2.2.2.1, hs.2.2.2.2.2.2.2.2.2.2⟩)
     clear ow1290
     have bx1328 := bx1291.gr g1307 (by simp)
     clear bx1291
     have bx1329 := bx1292.gr g1307 (by simp)
     clear bx1292
     have bx1330 := bx1293.gr g1307 (by simp)
     clear bx1293
     have ow1331 : OwnR w1304 (Sx (w564.heap.size) [obk (A1300), some (w1220.heap.size), obk (A_341), obk (A213), obk (A215), obk (A_343), obk (A269), obk (A271)]) A1216 c1217 3 (mb : List Int) := ow1294.grA g1307 (fun _ _ h => by cases h) (fun k hk hs => ⟨(fun e => by have := ow1302.ge _ e; omega), hs.1, hs.2.1, hs.2.2.1, hs.2.2.2.1, hs.2.2.2.2.1, hs.2.2.2.2.2.1, hs.2.2.2.2.2.2.1, hs.2.2.2.2.2.2.2⟩)
     clear ow1294
     have bx1332 := bx1275.gr g1307 (by simp)
     clear bx1275
     have ow1333 : OwnR w1304 (Sx (w1273.heap.size) [obk (A_341), obk (A213), obk (A215), obk (A_343), obk (A269), obk (A271), obk (A1216)]) A1300 c1301 3 (mc : List Int) := ow1302.imp (fun g _ hs => ⟨(fun e => by have := lt1308 _ e; have := Sx_base hs; omega), (fun e => by have := lt1309 _ e; have := Sx_base hs; omega), (fun e => by have := lt1310 _ e; have := Sx_base hs; omega), (fun e => by have := lt1311 _ e; have := Sx_base hs; omega), (fun e => by have := lt1312 _ e; have := Sx_base hs; omega), (fun e => by have := lt1313 _ e; have := Sx_base hs; omega), (fun e => by have := lt1314 _ e; have := Sx_base hs; omega), hs⟩)
     clear ow1302
     clear lt1308 lt1309 lt1310 lt1311 lt1312 lt1313 lt1314
     clear g1307 he
     refine At.rd f1306 3 [[], [], []] [(143, .slice A1300 mc.length c1301), (142, .agg ((sc : List Int).map wV).toArray), (136, .tuple #[.agg ((sc : List Int).map wV).toArray, .slice A1300 mc.length c1301])] [] (by kernel_rfl) trivial (fun act1335 f1334 => ?_)
     clear f1306
     refine At.seq f1334 1 [[]] [(23, .pointer (some ⟨w1304.heap.size, 0, none⟩))] (w1304.alloc (.cells ((List.replicate 4 (0 : Int) : List Int).map wV).toArray 28 (0, 0))) [] (by kernel_rfl) trivial (fun act1339 w1336 hw1337 f1338 => ?_)
     clear f1334
     have g1340 := gr_alloc hw1337
     have szw1336 := g1340.size
     have e1342 := e1315.gr g1340 no_row
     clear e1315
     have r1343 := r1316.gr g1340 (fun _ h => by cases h)
     clear r1316
     have r1344 := r1317.gr g1340 (fun _ h => by cases h)
     clear r1317
     have bx1345 := bx1318.gr g1340 (by simp)
     clear bx1318
     have bx1346 := bx1319.gr g1340 (by simp)
     clear bx1319
     have bx1347 := bx1320.gr g1340 (by simp)
     clear bx1320
     have ow1348 : OwnR w1336 (Sx (w200.heap.size) [some (w1304.heap.size), obk (A1300), some (w1220.heap.size), obk (A1216), some (w498.heap.size), some (w437.heap.size), some (w280.heap.size), obk (A_343), obk (A269), obk (A271), some (w224.heap.size), obk (A213), obk (A215)]) A_341 c_342 3 (xa : List Int) := ow1321.grA g1340 (fun _ _ h => by cases h) (fun k hk hs => ⟨(fun e => by injection e; omega), hs.1, hs.2.1, hs.2.2.1, hs.2.2.2.1, hs.2.2.2.2.1, hs.2.2.2.2.2.1, hs.2.2.2.2.2.2.1, hs.2.2.2.2.2.2.2.1, hs.2.2.2.2.2.2.2.2.1, hs.2.2.2.2.2.2.2.2.2.1, hs.2.2.2.2.2.2.2.2.2.2.1, hs.2.2.2.2.2.2.2.2.2.2.2.1, hs.2.2.2.2.2.2.2.2.2.2.2.2⟩)
     clear ow1321
     have ow1349 : OwnR w1336 (Sx (w200.heap.size) [some (w1304.heap.size), obk (A1300), some (w1220.heap.size), obk (A1216), some (w498.heap.size), some (w437.heap.size), some (w280.heap.size), obk (A_343), obk (A269), obk (A271), some (w224.heap.size), obk (A_341), obk (A215)]) A213 c214 3 (g.pr : List Int) := ow1322.grA g1340 (fun _ _ h => by cases h) (fun k hk hs => ⟨(fun e => by injection e; omega), hs.1, hs.2.1, hs.2.2.1, hs.2.2.2.1, hs.2.2.2.2.1, hs.2.2.2.2.2.1, hs.2.2.2.2.2.2.1, hs.2.2.2.2.2.2.2.1, hs.2.2.2.2.2.2.2.2.1, hs.2.2.2.2.2.2.2.2.2.1, hs.2.2.2.2.2.2.2.2.2.2.1, hs.2.2.2.2.2.2.2.2.2.2.2.1, hs.2.2.2.2.2.2.2.2.2.2.2.2⟩)
     clear ow1322
     have ow1350 : OwnLL w1336 (w200.heap.size) [some (w1304.heap.size), obk (A1300), some (w1220.heap.size), obk (A1216), some (w498.heap.size), some (w437.heap.size), some (w280.heap.size), obk (A_343), obk (A269), obk (A271), some (w224.heap.size), obk (A_341), obk (A213)] A215 c216 22 3 (g.mv : List (List Int)) := ow1323.grA g1340 (fun _ _ h => by cases h) (fun k hk hs => ⟨(fun e => by injection e; omega), hs.1, hs.2.1, hs.2.2.1, hs.2.2.2.1, hs.2.2.2.2.1, hs.2.2.2.2.2.1, hs.2.2.2.2.2.2.1, hs.2.2.2.2.2.2.2.1, hs.2.2.2.2.2.2.2.2.1, hs.2.2.2.2.2.2.2.2.2.1, hs.2.2.2.2.2.2.2.2.2.2.1, hs.2.2.2.2.2.2.2.2.2.2.2.1, hs.2.2.2.2.2.2.2.2.2.2.2.2⟩)
     clear ow1323
     have bx1351 := bx1324.gr g1340 (by simp)
     clear bx1324
     have ow1352 : OwnR w1336 (Sx (w250.heap.size) [some (w1304.heap.size), obk (A1300), some (w1220.heap.size), obk (A1216), some (w498.heap.size), some (w437.heap.size), some (w280.heap.size), obk (A_341), obk (A213), obk (A215), obk (A269), obk (A271)]) A_343 c_344 3 (xb : List Int) := ow1325.grA g1340 (fun _ _ h => by cases h) (fun k hk hs => ⟨(fun e => by injection e; omega), hs.1, hs.2.1, hs.2.2.1, hs.2.2.2.1, hs.2.2.2.2.1, hs.2.2.2.2.2.1, hs.2.2.2.2.2.2.1, hs.2.2.2.2.2.2.2.1, hs.2.2.2.2.2.2.2.2.1, hs.2.2.2.2.2.2.2.2.2.1, hs.2.2.2.2.2.2.2.2.2.2.1, hs.2.2.2.2.2.2.2.2.2.2.2⟩)
     clear ow1325
     have ow1353 : OwnR w1336 (Sx (w250.heap.size) [some (w1304.heap.size), obk (A1300), some (w1220.heap.size), obk (A1216), some (w498.heap.size), some (w437.heap.size), some (w280.heap.size), obk (A_341), obk (A213), obk (A215), obk (A_343), obk (A271)]) A269 c270 3 (g.pr : List Int) := ow1326.grA g1340 (fun _ _ h => by cases h) (fun k hk hs => ⟨(fun e => by injection e; omega), hs.1, hs.2.1, hs.2.2.1, hs.2.2.2.1, hs.2.2.2.2.1, hs.2.2.2.2.2.1, hs.2.2.2.2.2.2.1, hs.2.2.2.2.2.2.2.1, hs.2.2.2.2.2.2.2.2.1, hs.2.2.2.2.2.2.2.2.2.1, hs.2.2.2.2.2.2.2.2.2.2.1, hs.2.2.2.2.2.2.2.2.2.2.2⟩)
     clear ow1326
     have ow1354 : OwnLL w1336 (w250.heap.size) [some (w1304.heap.size), obk (A1300), some (w1220.heap.size), obk (A1216), some (w498.heap.size), some (w437.heap.size), some (w280.heap.size), obk (A_341), obk (A213), obk (A215), obk (A_343), obk (A269)] A271 c272 22 3 (g.mv : List (List Int)) := ow1327.grA g1340 (fun _ _ h => by cases h) (fun k hk hs => ⟨(fun e => by injection e; omega), hs.1, hs.2.1, hs.2.2.1, hs.2.2.2.1, hs.2.2.2.2.1, hs.2.2.2.2.2.1, hs.2.2.2.2.2.2.1, hs.2.2.2.2.2.2.2.1, hs.2.2.2.2.2.2.2.2.1, hs.2.2.2.2.2.2.2.2.2.1, hs.2.2.2.2.2.2.2.2.2.2.1, hs.2.2.2.2.2.2.2.2.2.2.2⟩)
     clear ow1327
     have bx1355 := bx1328.gr g1340 (by simp)
     clear bx1328
     have bx1356 := bx1329.gr g1340 (by simp)
     clear bx1329
     have bx1357 := bx1330.gr g1340 (by simp)
     clear bx1330
     have ow1358 : OwnR w1336 (Sx (w564.heap.size) [some (w1304.heap.size), obk (A1300), some (w1220.heap.size), obk (A_341), obk (A213), obk (A215), obk (A_343), obk (A269), obk (A271)]) A1216 c1217 3 (mb : List Int) := ow1331.grA g1340 (fun _ _ h => by cases h) (fun k hk hs => ⟨(fun e => by injection e; omega), hs.1, hs.2.1, hs.2.2.1, hs.2.2.2.1, hs.2.2.2.2.1, hs.2.2.2.2.2.1, hs.2.2.2.2.2.2.1, hs.2.2.2.2.2.2.2.1, hs.2.2.2.2.2.2.2.2⟩)
     clear ow1331
     have bx1359 := bx1332.gr g1340 (by simp)
     clear bx1332
     have ow1360 : OwnR w1336 (Sx (w1273.heap.size) [some (w1304.heap.size), obk (A_341), obk (A213), obk (A215), obk (A_343), obk (A269), obk (A271), obk (A1216)]) A1300 c1301 3 (mc : List Int) := ow1333.grA g1340 (fun _ _ h => by cases h) (fun k hk hs => ⟨(fun e => by injection e; omega), hs.1, hs.2.1, hs.2.2.1, hs.2.2.2.1, hs.2.2.2.2.1, hs.2.2.2.2.2.1, hs.2.2.2.2.2.2.1, hs.2.2.2.2.2.2.2⟩)
     clear ow1333
     have bx1361 : Bx w1336 (w1304.heap.size) ((List.replicate 4 (0 : Int) : List Int).map wV) 28 := Bx.new hw1337
     have := bx1361.lt
     clear g1340 hw1337
     refine At.act f1338 (storeBlk (t := 28) (b := w1304.heap.size) (n := 4) (cs' := ((sc : List Int).map wV)) (by kernel_rfl) (by kernel_rfl) (by simp only [List.length_map, List.length_set, List.length_replicate, List.length_cons, List.length_nil]; first | done | assumption | exact from_len _ | exact of_len _ | exact ofZ_len _ | exact (ofW_ok _).1 | exact (fullW_W _).1 | exact (okW_with (by assumption)).1 | exact (okW_less (by assumption)).1 | exact put_len (from_len _) | exact orD_len _ _ | exact andD_len _ _ | exact minusD_len _ _ | exact fullD_len _ | (refine okLen ?_; (repeat (first | assumption | exact ofW_ok _ | exact fullW_W _ | apply okW_with | apply okW_less | refine okW_orS ?_ ?_ | refine okW_andS ?_ ?_ | refine okW_minusS ?_ ?_)); done) | omega | rfl) oneW_ ((show ((sc : List Int).map wV).length = 4 from (by simp only [List.length_map, List.length_set, List.length_replicate, List.length_cons, List.length_nil]; first | done | assumption | exact from_len _ | exact of_len _ | exact ofZ_len _ | exact (ofW_ok _).1 | exact (fullW_W _).1 | exact (okW_with (by assumption)).1 | exact (okW_less (by assumption)).1 | exact put_len (from_len _) | exact orD_len _ _ | exact andD_len _ _ | exact minusD_len _ _ | exact fullD_len _ | (refine okLen ?_; (repeat (first | assumption | exact ofW_ok _ | exact fullW_W _ | apply okW_with | apply okW_less | refine okW_orS ?_ ?_ | refine okW_andS ?_ ?_ | refine okW_minusS ?_ ?_)); done) | omega | rfl)).trans (show ((List.replicate 4 (0 : Int) : List Int).map wV).length = 4 from (by simp only [List.length_map, List.length_set, List.length_replicate, List.length_cons, List.length_nil]; first | done | assumption | exact from_len _ | exact of_len _ | exact ofZ_len _ | exact (ofW_ok _).1 | exact (fullW_W _).1 | exact (okW_with (by assumption)).1 | exact (okW_less (by assumption)).1 | exact put_len (from_len _) | exact orD_len _ _ | exact andD_len _ _ | exact minusD_len _ _ | exact fullD_len _ | (refine okLen ?_; (repeat (first | assumption | exact ofW_ok _ | exact fullW_W _ | apply okW_with | apply okW_less | refine okW_orS ?_ ?_ | refine okW_andS ?_ ?_ | refine okW_minusS ?_ ?_)); done) | omega | rfl)).symm) bx1361) ?_
     rintro d_ v_ w1362 ⟨rfl, g1363, bx1364⟩
     refine ⟨_, rfl, fun act1366 f1365 => ?_⟩
     clear f1338
     have szw1362 := g1363.size
     have e1367 := e1342.gr g1363 (fun k h => by injection h; omega)
     clear e1342
     have r1368 := r1343.gr g1363 (fun k h => by injection h; omega)
     clear r1343
     have r1369 := r1344.gr g1363 (fun k h => by injection h; omega)
     clear r1344
     have bx1370 := bx1345.gr g1363 (fun h => by injection h; omega)
     clear bx1345
     have bx1371 := bx1346.gr g1363 (fun h => by injection h; omega)
     clear bx1346
     have bx1372 := bx1347.gr g1363 (fun h => by injection h; omega)
     clear bx1347
     have ow1373 := ow1348.gr g1363 (fun k hk => hk.1)
     clear ow1348
     have ow1374 := ow1349.gr g1363 (fun k hk => hk.1)
     clear ow1349
     have ow1375 := ow1350.gr g1363 (fun k hk => hk.1)
     clear ow1350
     have bx1376 := bx1351.gr g1363 (fun h => by injection h; omega)
     clear bx1351
     have ow1377 := ow1352.gr g1363 (fun k hk => hk.1)
     clear ow1352
     have ow1378 := ow1353.gr g1363 (fun k hk => hk.1)
     clear ow1353
     have ow1379 := ow1354.gr g1363 (fun k hk => hk.1)
     clear ow1354
     have bx1380 := bx1355.gr g1363 (fun h => by injection h; omega)
     clear bx1355
     have bx1381 := bx1356.gr g1363 (fun h => by injection h; omega)
     clear bx1356
     have bx1382 := bx1357.gr g1363 (fun h => by injection h; omega)
     clear bx1357
     have ow1383 := ow1358.gr g1363 (fun k hk => hk.1)
     clear ow1358
     have bx1384 := bx1359.gr g1363 (fun h => by injection h; omega)
     clear bx1359
     have ow1385 := ow1360.gr g1363 (fun k hk => hk.1)
     clear ow1360
     clear bx1361 g1363
     refine At.rd f1365 1 [[]] [(24, .slice A1300 mc.length c1301)] [] (by kernel_rfl) trivial (fun act1387 f1386 => ?_)
     clear f1365
     refine At.done rfl ?_
     refine t_n ?_
     have f1388 := f1386.sub (r := [(23, .pointer (some ⟨w1304.heap.size, 0, none⟩)), (21, .pointer (some ⟨w1220.heap.size, 0, none⟩)), (17, .pointer (some ⟨w498.heap.size, 0, none⟩)), (16, .pointer (some ⟨w437.heap.size, 0, none⟩)), (5, .pointer (some ⟨w1.heap.size, 0, none⟩))]) ⟨rfl, rfl, rfl, rfl, rfl, trivial⟩
     clear f1386
     refine wp_seq ?_
     obtain ⟨Cs1389, hCs1390⟩ : ∃ c : List (Addr × Value), c = ([] : List (Addr × Value)) ++ (blkC (w1220.heap.size) ((sb : List Int).map wV) ++ (blkC (w437.heap.size) ((sm : List Int).map wV) ++ (blkC (w1304.heap.size) ((sc : List Int).map wV) ++ (blkC (w1.heap.size) (((inS g s : List Int) : List Int).map wV) ++ blkC (w498.heap.size) ((sy : List Int).map wV))))) := ⟨_, rfl⟩
     have hS1391 : HoldsC Cs1389 w1362 := by rw [hCs1390]; exact (holdsA (show HoldsC [] w1362 from trivial) (holdsA (holds_blk bx1384) (holdsA (holds_blk bx1381) (holdsA (holds_blk bx1364) (holdsA (holds_blk bx1371) (holds_blk bx1382))))))
     refine AtH.start Cs1389 11 #[false, false, false, false, false, false, false, false, false, false, false] (by kernel_rfl) rfl rfl (fun w1393 hw1394 => ?_)
     have g1392 := gr_drew hw1394
     have hS1395 := hS1391.gr g1392
     have szw1393 := g1392.size
     have e1396 := e1367.gr g1392 no_row
     clear e1367
     have r1397 := r1368.gr g1392 (fun _ h => by cases h)
     clear r1368
     have r1398 := r1369.gr g1392 (fun _ h => by cases h)
     clear r1369
     have bx1399 := bx1370.gr g1392 (by simp)
     clear bx1370
     have bx1400 := bx1371.gr g1392 (by simp)
     clear bx1371
     have bx1401 := bx1372.gr g1392 (by simp)
     clear bx1372
     have ow1402 := ow1373.gr g1392 (fun _ _ h => by cases h)
     clear ow1373
     have ow1403 := ow1374.gr g1392 (fun _ _ h => by cases h)
     clear ow1374
     have ow1404 := ow1375.gr g1392 (fun _ _ h => by cases h)
     clear ow1375
     have bx1405 := bx1376.gr g1392 (by simp)
     clear bx1376
     have ow1406 := ow1377.gr g1392 (fun _ _ h => by cases h)
     clear ow1377
     have ow1407 := ow1378.gr g1392 (fun _ _ h => by cases h)
     clear ow1378
     have ow1408 := ow1379.gr g1392 (fun _ _ h => by cases h)
     clear ow1379
     have bx1409 := bx1380.gr g1392 (by simp)
     clear bx1380
     have bx1410 := bx1381.gr g1392 (by simp)
     clear bx1381
     have bx1411 := bx1382.gr g1392 (by simp)
     clear bx1382
     have ow1412 := ow1383.gr g1392 (fun _ _ h => by cases h)
     clear ow1383
     have bx1413 := bx1384.gr g1392 (by simp)
     clear bx1384
     have ow1414 := ow1385.gr g1392 (fun _ _ h => by cases h)
     clear ow1385
     have bx1415 := bx1364.gr g1392 (by simp)
     clear bx1364
     clear g1392 hw1394 hS1391
     refine AtH.rd (by kernel_rfl) (fun d v c a w h => by cases d <;> exact h) hS1395 [0, 1, 2, 3, 4, 5, 6] [[.cs ((sb : List Int).map wV)], [.cs ((sm : List Int).map wV)], [.cs [wV (gI sb 0), wV (gI sb 1), wV (gI sb 2), wV (gI sb 3)], .cs [wV (gI sm 0), wV (gI sm 1), wV (gI sm 2), wV (gI sm 3)], .as_ (.bool true)], [], [.cs ((sc : List Int).map wV)], [.cs (((inS g s : List Int) : List Int).map wV)], [.cs ((sy : List Int).map wV)]] [(150, .agg ((sy : List Int).map wV).toArray), (149, .agg (((inS g s : List Int) : List Int).map wV).toArray), (148, .agg ((sc : List Int).map wV).toArray), (147, .bool true), (146, .bool true), (145, .agg ((sm : List Int).map wV).toArray), (144, .agg ((sb : List Int).map wV).toArray)] #[true, true, true, true, true, true, true, false, false, false, false] [(((sb : List Int).map wV).length = 4), (∀ (j : Nat) (v : Value), ((sb : List Int).map wV)[j]? = some v → ∃ j_ : Nat, Cs1389[j_]? = some (((⟨w1220.heap.size, 0, none⟩ : Addr).add j), v)), (((sm : List Int).map wV).length = 4), (∀ (j : Nat) (v : Value), ((sm : List Int).map wV)[j]? = some v → ∃ j_ : Nat, Cs1389[j_]? = some (((⟨w437.heap.size, 0, none⟩ : Addr).add j), v)), (((sb : List Int).map wV).toArray = ([wV (gI sb 0), wV (gI sb 1), wV (gI sb 2), wV (gI sb 3)] : List Value).toArray), (((sm : List Int).map wV).toArray = ([wV (gI sm 0), wV (gI sm 1), wV (gI sm 2), wV (gI sm 3)] : List Value).toArray), ((.bool ((((gI sb 0 : Int) == gI sm 0) && (((gI sb 1 : Int) == gI sm 1) && (((gI sb 2 : Int) == gI sm 2) && (((gI sb 3 : Int) == gI sm 3) && true))))) : Value) = .bool true), (((sc : List Int).map wV).length = 4), (∀ (j : Nat) (v : Value), ((sc : List Int).map wV)[j]? = some v → ∃ j_ : Nat, Cs1389[j_]? = some (((⟨w1304.heap.size, 0, none⟩ : Addr).add j), v)), ((((inS g s : List Int) : List Int).map wV).length = 4), (∀ (j : Nat) (v : Value), (((inS g s : List Int) : List Int).map wV)[j]? = some v → ∃ j_ : Nat, Cs1389[j_]? = some (((⟨w1.heap.size, 0, none⟩ : Addr).add j), v)), (((sy : List Int).map wV).length = 4), (∀ (j : Nat) (v : Value), ((sy : List Int).map wV)[j]? = some v → ∃ j_ : Nat, Cs1389[j_]? = some (((⟨w498.heap.size, 0, none⟩ : Addr).add j), v))] 4 f1388 (by kernel_rfl) ⟨(by simp only [List.length_map, List.length_set, List.length_replicate, List.length_cons, List.length_nil]; first | done | assumption | exact from_len _ | exact of_len _ | exact ofZ_len _ | exact (ofW_ok _).1 | exact (fullW_W _).1 | exact (okW_with (by assumption)).1 | exact (okW_less (by assumption)).1 | exact put_len (from_len _) | exact orD_len _ _ | exact andD_len _ _ | exact minusD_len _ _ | exact fullD_len _ | (refine okLen ?_; (repeat (first | assumption | exact ofW_ok _ | exact fullW_W _ | apply okW_with | apply okW_less | refine okW_orS ?_ ?_ | refine okW_andS ?_ ?_ | refine okW_minusS ?_ ?_)); done) | omega | rfl), (fun j v hv => List.getElem?_of_mem (by rw [hCs1390]; exact List.mem_append.2 (.inr (List.mem_append.2 (.inl (blkC_in hv)))))), (by simp only [List.length_map, List.length_set, List.length_replicate, List.length_cons, List.length_nil]; first | done | assumption | exact from_len _ | exact of_len _ | exact ofZ_len _ | exact (ofW_ok _).1 | exact (fullW_W _).1 | exact (okW_with (by assumption)).1 | exact (okW_less (by assumption)).1 | exact put_len (from_len _) | exact orD_len _ _ | exact andD_len _ _ | exact minusD_len _ _ | exact fullD_len _ | (refine okLen ?_; (repeat (first | assumption | exact ofW_ok _ | exact fullW_W _ | apply okW_with | apply okW_less | refine okW_orS ?_ ?_ | refine okW_andS ?_ ?_ | refine okW_minusS ?_ ?_)); done) | omega | rfl), (fun j v hv => List.getElem?_of_mem (by rw [hCs1390]; exact List.mem_append.2 (.inr (List.mem_append.2 (.inr (List.mem_append.2 (.inl (blkC_in hv)))))))), (map4 (by first | assumption | exact (okW_with (by assumption)).1 | exact (okW_less (by assumption)).1 | exact (ofW_ok _).1 | exact (fullW_W _).1 | (refine okLen ?_; (repeat (first | assumption | exact ofW_ok _ | exact fullW_W _ | apply okW_with | apply okW_less | refine okW_orS ?_ ?_ | refine okW_andS ?_ ?_ | refine okW_minusS ?_ ?_)); done) | rfl | omega | (simp only [List.length_set]; first | done | assumption | omega) | exact lenW4 _ (by assumption))), (map4 (by first | assumption | exact (okW_with (by assumption)).1 | exact (okW_less (by assumption)).1 | exact (ofW_ok _).1 | exact (fullW_W _).1 | (refine okLen ?_; (repeat (first | assumption | exact ofW_ok _ | exact fullW_W _ | apply okW_with | apply okW_less | refine okW_orS ?_ ?_ | refine okW_andS ?_ ?_ | refine okW_minusS ?_ ?_)); done) | rfl | omega | (simp only [List.length_set]; first | done | assumption | omega) | exact lenW4 _ (by assumption))), (Eq.trans (b := (.bool (decide ((sb : List Int) = sm)) : Value)) (congrArg (fun b => Value.bool b) (w4_eq (by first | assumption | exact (okW_with (by assumption)).1 | exact (okW_less (by assumption)).1 | exact (ofW_ok _).1 | exact (fullW_W _).1 | (refine okLen ?_; (repeat (first | assumption | exact ofW_ok _ | exact fullW_W _ | apply okW_with | apply okW_less | refine okW_orS ?_ ?_ | refine okW_andS ?_ ?_ | refine okW_minusS ?_ ?_)); done) | rfl | omega | (simp only [List.length_set]; first | done | assumption | omega) | exact lenW4 _ (by assumption)) (by first | assumption | exact (okW_with (by assumption)).1 | exact (okW_less (by assumption)).1 | exact (ofW_ok _).1 | exact (fullW_W _).1 | (refine okLen ?_; (repeat (first | assumption | exact ofW_ok _ | exact fullW_W _ | apply okW_with | apply okW_less | refine okW_orS ?_ ?_ | refine okW_andS ?_ ?_ | refine okW_minusS ?_ ?_)); done) | rfl | omega | (simp only [List.length_set]; first | done | assumption | omega) | exact lenW4 _ (by assumption)))) (congrArg Value.bool (decide_eq_true (ways12_a hR hp01 hs (by assumption) hxaE hB hT hP (by omega))))), (by simp only [List.length_map, List.length_set, List.length_replicate, List.length_cons, List.length_nil]; first | done | assumption | exact from_len _ | exact of_len _ | exact ofZ_len _ | exact (ofW_ok _).1 | exact (fullW_W _).1 | exact (okW_with (by assumption)).1 | exact (okW_less (by assumption)).1 | exact put_len (from_len _) | exact orD_len _ _ | exact andD_len _ _ | exact minusD_len _ _ | exact fullD_len _ | (refine okLen ?_; (repeat (first | assumption | exact ofW_ok _ | exact fullW_W _ | apply okW_with | apply okW_less | refine okW_orS ?_ ?_ | refine okW_andS ?_ ?_ | refine okW_minusS ?_ ?_)); done) | omega | rfl), (fun j v hv => List.getElem?_of_mem (by rw [hCs1390]; exact List.mem_append.2 (.inr (List.mem_append.2 (.inr (List.mem_append.2 (.inr (List.mem_append.2 (.inl (blkC_in hv)))))))))), ((List.length_map _).trans (okLen (inS_ok (by assumption)))), (fun j v hv => List.getElem?_of_mem (by rw [hCs1390]; exact List.mem_append.2 (.inr (List.mem_append.2 (.inr (List.mem_append.2 (.inr (List.mem_append.2 (.inr (List.mem_append.2 (.inl (blkC_in hv)))))))))))), (by simp only [List.length_map, List.length_set, List.length_replicate, List.length_cons, List.length_nil]; first | done | assumption | exact from_len _ | exact of_len _ | exact ofZ_len _ | exact (ofW_ok _).1 | exact (fullW_W _).1 | exact (okW_with (by assumption)).1 | exact (okW_less (by assumption)).1 | exact put_len (from_len _) | exact orD_len _ _ | exact andD_len _ _ | exact minusD_len _ _ | exact fullD_len _ | (refine okLen ?_; (repeat (first | assumption | exact ofW_ok _ | exact fullW_W _ | apply okW_with | apply okW_less | refine okW_orS ?_ ?_ | refine okW_andS ?_ ?_ | refine okW_minusS ?_ ?_)); done) | omega | rfl), (fun j v hv => List.getElem?_of_mem (by rw [hCs1390]; exact List.mem_append.2 (.inr (List.mem_append.2 (.inr (List.mem_append.2 (.inr (List.mem_append.2 (.inr (List.mem_append.2 (.inr (blkC_in hv)))))))))))), trivial⟩ (fun act1417 f1416 => ?_)
     clear f1388
     refine AtH.all [7] 3 (by kernel_rfl) (by simp) ⟨?_, trivial⟩
     refine OneH.call f1416 22 #[.agg (((inS g s : List Int) : List Int).map wV).toArray, .agg ((sy : List Int).map wV).toArray] (some 151) #[true, true, true, true, true, true, true, true, false, false, false] (by kernel_rfl) (by kernel_rfl) (minusS_any (s := (inS g s : List Int)) (t := sy) (inS_ok (by assumption)) (by repeat (first | assumption | exact ofW_ok _ | exact fullW_W _ | exact wordsD_W _ | exact okW_0 | exact okW_00 | apply okW_orS | apply okW_andS | apply okW_minusS | apply okW_with | apply okW_less | apply okW_or | apply okW_and | apply okW_minus | (apply okW_lit <;> exact ⟨by omega, by omega⟩)))) ?_
     rintro e_ w1419 ⟨rfl, he⟩
     refine ⟨_, rfl, _, rfl, fun act1420 f1421 => ?_⟩
     clear f1416
     have g1422 := gr_ext he
     have hS1418 := hS1395.gr g1422
     have szw1419 := g1422.size
     have e1423 := e1396.gr g1422 no_row
     clear e1396
     have r1424 := r1397.gr g1422 (fun _ h => by cases h)
     clear r1397
     have r1425 := r1398.gr g1422 (fun _ h => by cases h)
     clear r1398
     have bx1426 := bx1399.gr g1422 (by simp)
     clear bx1399
     have bx1427 := bx1400.gr g1422 (by simp)
     clear bx1400
     have bx1428 := bx1401.gr g1422 (by simp)
     clear bx1401
     have ow1429 := ow1402.gr g1422 (fun _ _ h => by cases h)
     clear ow1402
     have ow1430 := ow1403.gr g1422 (fun _ _ h => by cases h)
     clear ow1403
     have ow1431 := ow1404.gr g1422 (fun _ _ h => by cases h)
     clear ow1404
     have bx1432 := bx1405.gr g1422 (by simp)
     clear bx1405
     have ow1433 := ow1406.gr g1422 (fun _ _ h => by cases h)
     clear ow1406
     have ow1434 := ow1407.gr g1422 (fun _ _ h => by cases h)
     clear ow1407
     have ow1435 := ow1408.gr g1422 (fun _ _ h => by cases h)
     clear ow1408
     have bx1436 := bx1409.gr g1422 (by simp)
     clear bx1409
     have bx1437 := bx1410.gr g1422 (by simp)
     clear bx1410
     have bx1438 := bx1411.gr g1422 (by simp)
     clear bx1411
     have ow1439 := ow1412.gr g1422 (fun _ _ h => by cases h)
     clear ow1412
     have bx1440 := bx1413.gr g1422 (by simp)
     clear bx1413
     have ow1441 := ow1414.gr g1422 (fun _ _ h => by cases h)
     clear ow1414
     have bx1442 := bx1415.gr g1422 (by simp)
     clear bx1415
     clear g1422 he
     refine ⟨hS1418, ?_⟩
     refine AtH.rd (by kernel_rfl) (fun d v c a w h => by cases d <;> exact h) hS1418 [8] [[.cs [wV (gI sc 0), wV (gI sc 1), wV (gI sc 2), wV (gI sc 3)], .cs [wV (gI (minusS (inS g s : List Int) sy) 0), wV (gI (minusS (inS g s : List Int) sy) 1), wV (gI (minusS (inS g s : List Int) sy) 2), wV (gI (minusS (inS g s : List Int) sy) 3)], .as_ (.bool true)]] [(152, .bool true)] #[true, true, true, true, true, true, true, true, true, false, false] [(((sc : List Int).map wV).toArray = ([wV (gI sc 0), wV (gI sc 1), wV (gI sc 2), wV (gI sc 3)] : List Value).toArray), (((minusS (inS g s : List Int) sy : List Int).map wV).toArray = ([wV (gI (minusS (inS g s : List Int) sy) 0), wV (gI (minusS (inS g s : List Int) sy) 1), wV (gI (minusS (inS g s : List Int) sy) 2), wV (gI (minusS (inS g s : List Int) sy) 3)] : List Value).toArray), ((.bool ((((gI sc 0 : Int) == gI (minusS (inS g s : List Int) sy) 0) && (((gI sc 1 : Int) == gI (minusS (inS g s : List Int) sy) 1) && (((gI sc 2 : Int) == gI (minusS (inS g s : List Int) sy) 2) && (((gI sc 3 : Int) == gI (minusS (inS g s : List Int) sy) 3) && true))))) : Value) = .bool true)] 2 f1421 (by kernel_rfl) ⟨(map4 (by first | assumption | exact (okW_with (by assumption)).1 | exact (okW_less (by assumption)).1 | exact (ofW_ok _).1 | exact (fullW_W _).1 | (refine okLen ?_; (repeat (first | assumption | exact ofW_ok _ | exact fullW_W _ | apply okW_with | apply okW_less | refine okW_orS ?_ ?_ | refine okW_andS ?_ ?_ | refine okW_minusS ?_ ?_)); done) | rfl | omega | (simp only [List.length_set]; first | done | assumption | omega) | exact lenW4 _ (by assumption))), (map4 (okLen (okW_minusS (inS_ok (by assumption)) (by assumption)))), (Eq.trans (b := (.bool (decide ((sc : List Int) = (minusS (inS g s : List Int) sy))) : Value)) (congrArg (fun b => Value.bool b) (w4_eq (by first | assumption | exact (okW_with (by assumption)).1 | exact (okW_less (by assumption)).1 | exact (ofW_ok _).1 | exact (fullW_W _).1 | (refine okLen ?_; (repeat (first | assumption | exact ofW_ok _ | exact fullW_W _ | apply okW_with | apply okW_less | refine okW_orS ?_ ?_ | refine okW_andS ?_ ?_ | refine okW_minusS ?_ ?_)); done) | rfl | omega | (simp only [List.length_set]; first | done | assumption | omega) | exact lenW4 _ (by assumption)) (okLen (okW_minusS (inS_ok (by assumption)) (by assumption))))) (congrArg Value.bool (decide_eq_true (ways12_b hR hp01 hs (by assumption) hxbE hC hY hQ (by omega))))), trivial⟩ (fun act1444 f1443 => ?_)
     clear f1421
     refine AtH.rd (by kernel_rfl) (fun d v c a w h => by cases d <;> exact h) hS1418 [9] [[]] [(153, .bool true)] #[true, true, true, true, true, true, true, true, true, true, false] [] 1 f1443 (by kernel_rfl) trivial (fun act1446 f1445 => ?_)
     clear f1443
     refine AtH.rd (by kernel_rfl) (fun d v c a w h => by cases d <;> exact h) hS1418 [10] [[]] [(8, .bool true)] #[true, true, true, true, true, true, true, true, true, true, true] [] 0 f1445 (by kernel_rfl) trivial (fun act1448 f1447 => ?_)
     clear f1445
     refine AtH.done (by kernel_rfl) ?_
     clear hS1418
     refine t_n ?_
     have f1449 := f1447.sub (r := [(8, .bool true)]) ⟨rfl, trivial⟩
     clear f1447
     refine wp_ret ?_
     refine ret_ f1449 [] [.bool true] [] (by kernel_rfl) trivial ?_
     -- returns .bool true
     exact ⟨rfl, e1423⟩

end Go.Proofs.YtkpljmalbmcdfaaDoor
