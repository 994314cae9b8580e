/-
  A walk of a Go function, printed by a program of this repo. Conditions: what the theorems name.
-/
import Derived.Test.YtkpljmalbmcdfaaDoorWShown12
import Derived.Test.YtkpljmalbmcdfaaDoorPureOwn12
import Derived.Test.YtkpljmalbmcdfaaDoorWCopyM
set_option linter.unusedVariables false
set_option linter.unusedSimpArgs false
namespace Go.Proofs.YtkpljmalbmcdfaaDoor
open Go Go.RowKit

attribute [local irreducible] ofZ fromW wordsD ofD ofW lsD lenW lenN fullW withW lessW hasW hasD inW inD leastD putD onI tzI orS andS minusS orD andD minusD fullD emptyD
set_option maxHeartbeats 4000000 in
theorem own12_any {Ag0 Ag1 Ag2 : Option Addr} {cg0 cg1 cg2 : Nat} {g : GameL} {s : List Int} {t : List Int} {p : Int} {w : World} (rg : RdG w 0 w.heap.size Ag0 Ag1 Ag2 cg0 cg1 cg2 g) (hs : OkW s) (ht : OkW t) (rT : RdT w 0 w.heap.size) :
    Calls Tryd.prog 6 #[.agg #[.slice Ag0 g.ow.length cg0, .slice Ag1 g.pr.length cg1, .slice Ag2 g.mv.length cg2], .agg ((s : List Int).map wV).toArray, .int .i64 (p), .agg ((t : List Int).map wV).toArray] w fun e w' => e = .returned (.bool true) ∧ Ext w w' := by
 have hlg0 := rg.ow.len
 have hlg1 := rg.pr.len
 have hlg2 := rg.mv.len
 have hkg0 := rg.k0
 have hkg1 := rg.k1
 have hkg2 := rg.k2
 have hls := hs.1
 have hlt := ht.1
 refine enter_ (args := [.agg #[.slice Ag0 g.ow.length cg0, .slice Ag1 g.pr.length cg1, .slice Ag2 g.mv.length cg2], .agg ((s : List Int).map wV).toArray, .int .i64 (p), .agg ((t : List Int).map wV).toArray]) Tryd.func6 rfl Tryd.ntmps6 (Nat.le_of_ble_eq_true rfl) (fun act0 f0 => ?_)
 have e0 := Ext.refl w
 refine wp_seq ?_
 refine At.start ?_
 refine At.seq f0 1 [[]] [(4, .pointer (some ⟨w.heap.size, 0, none⟩))] (w.alloc (.cells #[.slice Ag0 g.ow.length cg0, .slice Ag1 g.pr.length cg1, .slice Ag2 g.mv.length cg2] 25 (0, 0))) [] (by kernel_rfl) trivial (fun act4 w1 hw2 f3 => ?_)
 clear f0
 have g5 := gr_alloc hw2
 have szw1 := g5.size
 have e7 := e0.gr g5 no_row
 clear e0
 have r8 := rg.gr g5 (fun _ h => by cases h)
 clear rg
 have r9 := rT.gr g5 (fun _ h => by cases h)
 clear rT
 have bx10 : Bx w1 (w.heap.size) [.slice Ag0 g.ow.length cg0, .slice Ag1 g.pr.length cg1, .slice Ag2 g.mv.length cg2] 25 := Bx.new hw2
 have := bx10.lt
 clear g5 hw2
 refine At.seq f3 1 [[]] [(5, .pointer (some ⟨w1.heap.size, 0, none⟩))] (w1.alloc (.cells ((s : List Int).map wV).toArray 28 (0, 0))) [] (by kernel_rfl) trivial (fun act14 w11 hw12 f13 => ?_)
 clear f3
 have g15 := gr_alloc hw12
 have szw11 := g15.size
 have e17 := e7.gr g15 no_row
 clear e7
 have r18 := r8.gr g15 (fun _ h => by cases h)
 clear r8
 have r19 := r9.gr g15 (fun _ h => by cases h)
 clear r9
 have bx20 := bx10.gr g15 (by simp)
 clear bx10
 have bx21 : Bx w11 (w1.heap.size) ((s : List Int).map wV) 28 := Bx.new hw12
 have := bx21.lt
 clear g15 hw12
 refine At.seq f13 1 [[]] [(7, .pointer (some ⟨w11.heap.size, 0, none⟩))] (w11.alloc (.cells ((t : List Int).map wV).toArray 28 (0, 0))) [] (by kernel_rfl) trivial (fun act25 w22 hw23 f24 => ?_)
 clear f13
 have g26 := gr_alloc hw23
 have szw22 := g26.size
 have e28 := e17.gr g26 no_row
 clear e17
 have r29 := r18.gr g26 (fun _ h => by cases h)
 clear r18
 have r30 := r19.gr g26 (fun _ h => by cases h)
 clear r19
 have bx31 := bx20.gr g26 (by simp)
 clear bx20
 have bx32 := bx21.gr g26 (by simp)
 clear bx21
 have bx33 : Bx w22 (w11.heap.size) ((t : List Int).map wV) 28 := Bx.new hw23
 have := bx33.lt
 clear g26 hw23
 refine At.rd f24 1 [[]] [(8, .bool false)] [] (by kernel_rfl) trivial (fun act35 f34 => ?_)
 clear f24
 refine At.done rfl ?_
 refine t_n ?_
 have f36 := f34.sub (r := [(8, .bool false), (7, .pointer (some ⟨w11.heap.size, 0, none⟩)), (5, .pointer (some ⟨w1.heap.size, 0, none⟩)), (4, .pointer (some ⟨w.heap.size, 0, none⟩)), (2, .int .i64 (p))]) ⟨rfl, rfl, rfl, rfl, rfl, trivial⟩
 clear f34
 refine wp_seq ?_
 refine At.start ?_
 refine At.call f36 9 #[] (some 21) (by kernel_rfl) (shown12_any (r30.wide (Nat.zero_le _) (by omega))) ?_
 rintro e_ w37 ⟨rfl, he⟩
 refine ⟨_, rfl, _, rfl, fun act38 f39 => ?_⟩
 clear f36
 have g40 := gr_ext he
 have szw37 := g40.size
 have e41 := e28.gr g40 no_row
 clear e28
 have r42 := r29.gr g40 (fun _ h => by cases h)
 clear r29
 have r43 := r30.gr g40 (fun _ h => by cases h)
 clear r30
 have bx44 := bx31.gr g40 (by simp)
 clear bx31
 have bx45 := bx32.gr g40 (by simp)
 clear bx32
 have bx46 := bx33.gr g40 (by simp)
 clear bx33
 clear g40 he
 refine At.rd f39 1 [[]] [(9, .bool true)] [] (by kernel_rfl) trivial (fun act48 f47 => ?_)
 clear f39
 refine At.done rfl ?_
 refine t_n ?_
 have f49 := f47.sub (r := [(9, .bool true), (8, .bool false), (7, .pointer (some ⟨w11.heap.size, 0, none⟩)), (5, .pointer (some ⟨w1.heap.size, 0, none⟩)), (4, .pointer (some ⟨w.heap.size, 0, none⟩)), (2, .int .i64 (p))]) ⟨rfl, rfl, rfl, rfl, rfl, rfl, trivial⟩
 clear f47
 refine wp_seq ?_
 refine At.start ?_
 refine At.rd f49 1 [[.ld (.slice Ag0 g.ow.length cg0), .ld (.slice Ag1 g.pr.length cg1), .ld (.slice Ag2 g.mv.length cg2)]] [(23, .agg #[.slice Ag0 g.ow.length cg0, .slice Ag1 g.pr.length cg1, .slice Ag2 g.mv.length cg2])] [(w37.cell? ⟨w.heap.size, 0, none⟩ = some (.slice Ag0 g.ow.length cg0)), (w37.cell? ⟨w.heap.size, 1, none⟩ = some (.slice Ag1 g.pr.length cg1)), (w37.cell? ⟨w.heap.size, 2, none⟩ = some (.slice Ag2 g.mv.length cg2))] (by kernel_rfl) ⟨(bx44.cell (i := 0) rfl), (bx44.cell (i := 1) rfl), (bx44.cell (i := 2) rfl), trivial⟩ (fun act51 f50 => ?_)
 clear f49
 refine At.call f50 18 #[.agg #[.slice Ag0 g.ow.length cg0, .slice Ag1 g.pr.length cg1, .slice Ag2 g.mv.length cg2]] (some 24) (by kernel_rfl) (right_any (r42.wide (Nat.zero_le _) (by omega))) ?_
 rintro e_ w52 ⟨rfl, he⟩
 refine ⟨_, rfl, _, rfl, fun act53 f54 => ?_⟩
 clear f50
 have g55 := gr_ext he
 have szw52 := g55.size
 have e56 := e41.gr g55 no_row
 clear e41
 have r57 := r42.gr g55 (fun _ h => by cases h)
 clear r42
 have r58 := r43.gr g55 (fun _ h => by cases h)
 clear r43
 have bx59 := bx44.gr g55 (by simp)
 clear bx44
 have bx60 := bx45.gr g55 (by simp)
 clear bx45
 have bx61 := bx46.gr g55 (by simp)
 clear bx46
 clear g55 he
 refine At.rd f54 5 [[], [], [], [], []] [(11, .int .i64 ((rightP g).2)), (10, .int .i64 ((rightP g).1)), (26, .int .i64 ((rightP g).2)), (25, .int .i64 ((rightP g).1)), (22, .tuple #[.int .i64 ((rightP g).1), .int .i64 ((rightP g).2)])] [] (by kernel_rfl) trivial (fun act63 f62 => ?_)
 clear f54
 refine At.done rfl ?_
 refine t_n ?_
 have f64 := f62.sub (r := [(11, .int .i64 ((rightP g).2)), (9, .bool true), (8, .bool false), (7, .pointer (some ⟨w11.heap.size, 0, none⟩)), (5, .pointer (some ⟨w1.heap.size, 0, none⟩)), (4, .pointer (some ⟨w.heap.size, 0, none⟩)), (2, .int .i64 (p))]) ⟨rfl, rfl, rfl, rfl, rfl, rfl, rfl, trivial⟩
 clear f62
 refine wp_seq (cut (fun a_ w_ => (Frm 96 a_ [(7, .pointer (some ⟨w11.heap.size, 0, none⟩)), (5, .pointer (some ⟨w1.heap.size, 0, none⟩)), (4, .pointer (some ⟨w.heap.size, 0, none⟩)), (2, .int .i64 (p))]) ∧ (Ext w w_) ∧ (RdG w_ 0 w.heap.size Ag0 Ag1 Ag2 cg0 cg1 cg2 g) ∧ (RdT w_ 0 w.heap.size) ∧ (Bx w_ (w.heap.size) [.slice Ag0 g.ow.length cg0, .slice Ag1 g.pr.length cg1, .slice Ag2 g.mv.length cg2] 25) ∧ (Bx w_ (w1.heap.size) ((s : List Int).map wV) 28) ∧ (Bx w_ (w11.heap.size) ((t : List Int).map wV) 28) ∧ ((rightP g).2 = 0) ∧ (p = 0 ∨ p = 1) ∧ (w52.heap.size ≤ w_.heap.size)) ?_ ?_)
 ·refine wp_seq ?_
  refine At.start ?_
  rcases Bool.eq_false_or_eq_true (((rightP g).2 : Int) != 0) with h65 | h65
  ·have q66 := bne_iff_ne.1 h65
   refine At.rd f64 14 [[], [], [], [], [], [], [.as_ (.bool true)], [], [], [], [], [], [], []] [(40, .bool true), (39, undef), (38, undef), (37, undef), (36, undef), (35, undef), (34, undef), (33, .bool true), (32, .bool (((rightP g).2 : Int) != 0)), (31, .bool (((rightP g).2 : Int) != 0)), (30, .int .i64 ((rightP g).2)), (29, .bool false), (28, .bool false), (27, .bool true)] [((.bool (((rightP g).2 : Int) != 0) : Value) = .bool true)] (by kernel_rfl) ⟨(congrArg Value.bool h65), trivial⟩ (fun act68 f67 => ?_)
   clear f64
   refine At.done rfl ?_
   refine t_n ?_
   have f69 := f67.sub (r := [(40, .bool true), (9, .bool true), (8, .bool false), (7, .pointer (some ⟨w11.heap.size, 0, none⟩)), (5, .pointer (some ⟨w1.heap.size, 0, none⟩)), (4, .pointer (some ⟨w.heap.size, 0, none⟩)), (2, .int .i64 (p))]) ⟨rfl, rfl, rfl, rfl, rfl, rfl, rfl, trivial⟩
   clear f67
   refine cond_T f69 rfl ?_
   refine wp_seq ?_
   refine At.start ?_
   refine At.rd f69 2 [[], []] [(8, .bool true), (41, .bool true)] [] (by kernel_rfl) trivial (fun act71 f70 => ?_)
   clear f69
   refine At.done rfl ?_
   refine t_n ?_
   have f72 := f70.sub (r := [(8, .bool true)]) ⟨rfl, trivial⟩
   clear f70
   refine wp_ret ?_
   refine t_r ?_
   refine ret_ f72 [] [.bool true] [] (by kernel_rfl) trivial ?_
   exact ⟨rfl, e56⟩
  ·have q73 := bne_eq_false_iff_eq.1 h65
   rcases Bool.eq_false_or_eq_true ((p : Int) != 0) with h74 | h74
   ·have q75 := bne_iff_ne.1 h74
    refine At.rd f64 14 [[], [], [], [], [], [], [.as_ (.bool false)], [], [], [.as_ (.bool true)], [], [], [], []] [(40, .bool ((p : Int) != 1)), (39, .bool ((p : Int) != 1)), (38, .bool ((p : Int) != 1)), (37, .int .i64 (p)), (36, .bool true), (35, .bool ((p : Int) != 0)), (34, .int .i64 (p)), (33, .bool false), (32, .bool (((rightP g).2 : Int) != 0)), (31, .bool (((rightP g).2 : Int) != 0)), (30, .int .i64 ((rightP g).2)), (29, .bool false), (28, .bool false), (27, .bool true)] [((.bool (((rightP g).2 : Int) != 0) : Value) = .bool false), ((.bool ((p : Int) != 0) : Value) = .bool true)] (by kernel_rfl) ⟨(congrArg Value.bool h65), (congrArg Value.bool h74), trivial⟩ (fun act77 f76 => ?_)
    clear f64
    refine At.done rfl ?_
    refine t_n ?_
    have f78 := f76.sub (r := [(40, .bool ((p : Int) != 1)), (9, .bool true), (8, .bool false), (7, .pointer (some ⟨w11.heap.size, 0, none⟩)), (5, .pointer (some ⟨w1.heap.size, 0, none⟩)), (4, .pointer (some ⟨w.heap.size, 0, none⟩)), (2, .int .i64 (p))]) ⟨rfl, rfl, rfl, rfl, rfl, rfl, rfl, trivial⟩
    clear f76
    refine cond_S f78 (t := (p : Int) != 1) rfl (fun h79 => ?_) (fun h79 => ?_)
    ·have q80 := bne_iff_ne.1 h79
     refine wp_seq ?_
     refine At.start ?_
     refine At.rd f78 2 [[], []] [(8, .bool true), (41, .bool true)] [] (by kernel_rfl) trivial (fun act82 f81 => ?_)
     clear f78
     refine At.done rfl ?_
     refine t_n ?_
     have f83 := f81.sub (r := [(8, .bool true)]) ⟨rfl, trivial⟩
     clear f81
     refine wp_ret ?_
     refine t_r ?_
     refine ret_ f83 [] [.bool true] [] (by kernel_rfl) trivial ?_
     exact ⟨rfl, e56⟩
    ·have q84 := bne_eq_false_iff_eq.1 h79
     refine wp_skip ?_
     refine t_n ?_
     have f85 := f78.sub (r := [(7, .pointer (some ⟨w11.heap.size, 0, none⟩)), (5, .pointer (some ⟨w1.heap.size, 0, none⟩)), (4, .pointer (some ⟨w.heap.size, 0, none⟩)), (2, .int .i64 (p))]) ⟨rfl, rfl, rfl, rfl, trivial⟩
     exact ⟨f85, e56, r57, r58, bx59, bx60, bx61, (by omega), (by omega), (by omega)⟩
   ·have q86 := bne_eq_false_iff_eq.1 h74
    refine At.rd f64 14 [[], [], [], [], [], [], [.as_ (.bool false)], [], [], [.as_ (.bool false)], [], [], [], []] [(40, .bool false), (39, .bool false), (38, undef), (37, undef), (36, .bool false), (35, .bool ((p : Int) != 0)), (34, .int .i64 (p)), (33, .bool false), (32, .bool (((rightP g).2 : Int) != 0)), (31, .bool (((rightP g).2 : Int) != 0)), (30, .int .i64 ((rightP g).2)), (29, .bool false), (28, .bool false), (27, .bool true)] [((.bool (((rightP g).2 : Int) != 0) : Value) = .bool false), ((.bool ((p : Int) != 0) : Value) = .bool false)] (by kernel_rfl) ⟨(congrArg Value.bool h65), (congrArg Value.bool h74), trivial⟩ (fun act88 f87 => ?_)
    clear f64
    refine At.done rfl ?_
    refine t_n ?_
    have f89 := f87.sub (r := [(40, .bool false), (9, .bool true), (8, .bool false), (7, .pointer (some ⟨w11.heap.size, 0, none⟩)), (5, .pointer (some ⟨w1.heap.size, 0, none⟩)), (4, .pointer (some ⟨w.heap.size, 0, none⟩)), (2, .int .i64 (p))]) ⟨rfl, rfl, rfl, rfl, rfl, rfl, rfl, trivial⟩
    clear f87
    refine cond_F f89 rfl ?_
    refine wp_skip ?_
    refine t_n ?_
    have f90 := f89.sub (r := [(7, .pointer (some ⟨w11.heap.size, 0, none⟩)), (5, .pointer (some ⟨w1.heap.size, 0, none⟩)), (4, .pointer (some ⟨w.heap.size, 0, none⟩)), (2, .int .i64 (p))]) ⟨rfl, rfl, rfl, rfl, trivial⟩
    exact ⟨f90, e56, r57, r58, bx59, bx60, bx61, (by omega), (by omega), (by omega)⟩
 ·clear r57
  clear r58
  clear bx59
  clear bx60
  clear bx61
  clear f64 e56
  intro act91 w92 ⟨f93, e94, r95, r96, bx97, bx98, bx99, i100, i101, i102⟩
  have szw92 := e94.size
  have := bx97.lt
  have := bx98.lt
  have := bx99.lt
  refine wp_seq ?_
  have hR : isR g = true := right_of2 (by omega)
  have hp01 : p = 0 ∨ p = 1 := by omega
  have hG := isR_ok hR
  have hn1 := hG.n1
  have hn0 := hG.n0
  have hpl := hG.pl
  have hml := hG.ml
  have hnd := mv_nd hG
  refine At.start ?_
  refine At.rd f93 4 [[.ld (.slice Ag0 g.ow.length cg0), .ld (.slice Ag1 g.pr.length cg1), .ld (.slice Ag2 g.mv.length cg2)], [.cs ((s : List Int).map wV)], [], [.cs ((t : List Int).map wV)]] [(46, .agg ((t : List Int).map wV).toArray), (45, .int .i64 (p)), (44, .agg ((s : List Int).map wV).toArray), (43, .agg #[.slice Ag0 g.ow.length cg0, .slice Ag1 g.pr.length cg1, .slice Ag2 g.mv.length cg2])] [(w92.cell? ⟨w.heap.size, 0, none⟩ = some (.slice Ag0 g.ow.length cg0)), (w92.cell? ⟨w.heap.size, 1, none⟩ = some (.slice Ag1 g.pr.length cg1)), (w92.cell? ⟨w.heap.size, 2, none⟩ = some (.slice Ag2 g.mv.length cg2)), (((s : List Int).map wV).length = 4), (∀ (j : Nat) (v : Value), ((s : List Int).map wV)[j]? = some v → w92.cell? ((⟨w1.heap.size, 0, none⟩ : Addr).add j) = some v), (((t : List Int).map wV).length = 4), (∀ (j : Nat) (v : Value), ((t : List Int).map wV)[j]? = some v → w92.cell? ((⟨w11.heap.size, 0, none⟩ : Addr).add j) = some v)] (by kernel_rfl) ⟨(bx97.cell (i := 0) rfl), (bx97.cell (i := 1) rfl), (bx97.cell (i := 2) rfl), (by simp only [List.length_map, List.length_set, List.length_replicate, List.length_cons, List.length_nil]; first | done | assumption | exact from_len _ | exact of_len _ | exact ofZ_len _ | exact (ofW_ok _).1 | exact (fullW_W _).1 | exact (okW_with (by assumption)).1 | exact (okW_less (by assumption)).1 | exact put_len (from_len _) | exact orD_len _ _ | exact andD_len _ _ | exact minusD_len _ _ | exact fullD_len _ | (refine okLen ?_; (repeat (first | assumption | exact ofW_ok _ | exact fullW_W _ | apply okW_with | apply okW_less | refine okW_orS ?_ ?_ | refine okW_andS ?_ ?_ | refine okW_minusS ?_ ?_)); done) | omega | rfl), bx98.whole, (by simp only [List.length_map, List.length_set, List.length_replicate, List.length_cons, List.length_nil]; first | done | assumption | exact from_len _ | exact of_len _ | exact ofZ_len _ | exact (ofW_ok _).1 | exact (fullW_W _).1 | exact (okW_with (by assumption)).1 | exact (okW_less (by assumption)).1 | exact put_len (from_len _) | exact orD_len _ _ | exact andD_len _ _ | exact minusD_len _ _ | exact fullD_len _ | (refine okLen ?_; (repeat (first | assumption | exact ofW_ok _ | exact fullW_W _ | apply okW_with | apply okW_less | refine okW_orS ?_ ?_ | refine okW_andS ?_ ?_ | refine okW_minusS ?_ ?_)); done) | omega | rfl), bx99.whole, trivial⟩ (fun act104 f103 => ?_)
  clear f93
  refine At.call f103 12 #[.agg #[.slice Ag0 g.ow.length cg0, .slice Ag1 g.pr.length cg1, .slice Ag2 g.mv.length cg2], .agg ((s : List Int).map wV).toArray, .int .i64 (p), .agg ((t : List Int).map wV).toArray] (some 47) (by kernel_rfl) (attract_any (g := g) (s := s) (t := t) (p := p) (r95.wide (Nat.zero_le _) (by omega)) (by repeat (first | assumption | exact ofW_ok _ | exact fullW_W _ | exact wordsD_W _ | exact okW_0 | exact okW_00 | apply okW_orS | apply okW_andS | apply okW_minusS | apply okW_with | apply okW_less | apply okW_or | apply okW_and | apply okW_minus | (apply okW_lit <;> exact ⟨by omega, by omega⟩))) (by repeat (first | assumption | exact ofW_ok _ | exact fullW_W _ | exact wordsD_W _ | exact okW_0 | exact okW_00 | apply okW_orS | apply okW_andS | apply okW_minusS | apply okW_with | apply okW_less | apply okW_or | apply okW_and | apply okW_minus | (apply okW_lit <;> exact ⟨by omega, by omega⟩))) (r96.wide (Nat.zero_le _) (by omega))) ?_
  rintro e_ w109 ⟨A105, c106, sa, ma, rfl, he, ow107, hA⟩
  have hok_sa := att_ok hA
  have hl_sa := okLen hok_sa
  have hlm_ma := att_len hA
  refine ⟨_, rfl, _, rfl, fun act110 f111 => ?_⟩
  clear f103
  have g112 := gr_ext he
  have szw109 := g112.size
  have e113 := e94.gr g112 no_row
  clear e94
  have r114 := r95.gr g112 (fun _ h => by cases h)
  clear r95
  have r115 := r96.gr g112 (fun _ h => by cases h)
  clear r96
  have bx116 := bx97.gr g112 (by simp)
  clear bx97
  have bx117 := bx98.gr g112 (by simp)
  clear bx98
  have bx118 := bx99.gr g112 (by simp)
  clear bx99
  clear g112 he
  refine At.rd f111 3 [[], [], []] [(49, .slice A105 ma.length c106), (48, .agg ((sa : List Int).map wV).toArray), (42, .tuple #[.agg ((sa : List Int).map wV).toArray, .slice A105 ma.length c106])] [] (by kernel_rfl) trivial (fun act120 f119 => ?_)
  clear f111
  refine At.seq f119 1 [[]] [(12, .pointer (some ⟨w109.heap.size, 0, none⟩))] (w109.alloc (.cells ((List.replicate 4 (0 : Int) : List Int).map wV).toArray 28 (0, 0))) [] (by kernel_rfl) trivial (fun act124 w121 hw122 f123 => ?_)
  clear f119
  have g125 := gr_alloc hw122
  have szw121 := g125.size
  have e127 := e113.gr g125 no_row
  clear e113
  have r128 := r114.gr g125 (fun _ h => by cases h)
  clear r114
  have r129 := r115.gr g125 (fun _ h => by cases h)
  clear r115
  have bx130 := bx116.gr g125 (by simp)
  clear bx116
  have bx131 := bx117.gr g125 (by simp)
  clear bx117
  have bx132 := bx118.gr g125 (by simp)
  clear bx118
  have ow133 : OwnR w121 (Sx (w92.heap.size) [some (w109.heap.size)]) A105 c106 3 (ma : List Int) := ow107.grA g125 (fun _ _ h => by cases h) (fun k hk hs => ⟨(fun e => by injection e; omega), hs⟩)
  clear ow107
  have bx134 : Bx w121 (w109.heap.size) ((List.replicate 4 (0 : Int) : List Int).map wV) 28 := Bx.new hw122
  have := bx134.lt
  clear g125 hw122
  refine At.act f123 (storeBlk (t := 28) (b := w109.heap.size) (n := 4) (cs' := ((sa : List Int).map wV)) (by kernel_rfl) (by kernel_rfl) (by simp only [List.length_map, List.length_set, List.length_replicate, List.length_cons, List.length_nil]; first | done | assumption | exact from_len _ | exact of_len _ | exact ofZ_len _ | exact (ofW_ok _).1 | exact (fullW_W _).1 | exact (okW_with (by assumption)).1 | exact (okW_less (by assumption)).1 | exact put_len (from_len _) | exact orD_len _ _ | exact andD_len _ _ | exact minusD_len _ _ | exact fullD_len _ | (refine okLen ?_; (repeat (first | assumption | exact ofW_ok _ | exact fullW_W _ | apply okW_with | apply okW_less | refine okW_orS ?_ ?_ | refine okW_andS ?_ ?_ | refine okW_minusS ?_ ?_)); done) | omega | rfl) oneW_ ((show ((sa : List Int).map wV).length = 4 from (by simp only [List.length_map, List.length_set, List.length_replicate, List.length_cons, List.length_nil]; first | done | assumption | exact from_len _ | exact of_len _ | exact ofZ_len _ | exact (ofW_ok _).1 | exact (fullW_W _).1 | exact (okW_with (by assumption)).1 | exact (okW_less (by assumption)).1 | exact put_len (from_len _) | exact orD_len _ _ | exact andD_len _ _ | exact minusD_len _ _ | exact fullD_len _ | (refine okLen ?_; (repeat (first | assumption | exact ofW_ok _ | exact fullW_W _ | apply okW_with | apply okW_less | refine okW_orS ?_ ?_ | refine okW_andS ?_ ?_ | refine okW_minusS ?_ ?_)); done) | omega | rfl)).trans (show ((List.replicate 4 (0 : Int) : List Int).map wV).length = 4 from (by simp only [List.length_map, List.length_set, List.length_replicate, List.length_cons, List.length_nil]; first | done | assumption | exact from_len _ | exact of_len _ | exact ofZ_len _ | exact (ofW_ok _).1 | exact (fullW_W _).1 | exact (okW_with (by assumption)).1 | exact (okW_less (by assumption)).1 | exact put_len (from_len _) | exact orD_len _ _ | exact andD_len _ _ | exact minusD_len _ _ | exact fullD_len _ | (refine okLen ?_; (repeat (first | assumption | exact ofW_ok _ | exact fullW_W _ | apply okW_with | apply okW_less | refine okW_orS ?_ ?_ | refine okW_andS ?_ ?_ | refine okW_minusS ?_ ?_)); done) | omega | rfl)).symm) bx134) ?_
  rintro d_ v_ w135 ⟨rfl, g136, bx137⟩
  refine ⟨_, rfl, fun act139 f138 => ?_⟩
  clear f123
  have szw135 := g136.size
  have e140 := e127.gr g136 (fun k h => by injection h; omega)
  clear e127
  have r141 := r128.gr g136 (fun k h => by injection h; omega)
  clear r128
  have r142 := r129.gr g136 (fun k h => by injection h; omega)
  clear r129
  have bx143 := bx130.gr g136 (fun h => by injection h; omega)
  clear bx130
  have bx144 := bx131.gr g136 (fun h => by injection h; omega)
  clear bx131
  have bx145 := bx132.gr g136 (fun h => by injection h; omega)
  clear bx132
  have ow146 := ow133.gr g136 (fun k hk => hk.1)
  clear ow133
  clear bx134 g136
  refine At.rd f138 1 [[]] [(13, .slice A105 ma.length c106)] [] (by kernel_rfl) trivial (fun act148 f147 => ?_)
  clear f138
  refine At.done rfl ?_
  refine t_n ?_
  have f149 := f147.sub (r := [(12, .pointer (some ⟨w109.heap.size, 0, none⟩)), (7, .pointer (some ⟨w11.heap.size, 0, none⟩)), (5, .pointer (some ⟨w1.heap.size, 0, none⟩)), (4, .pointer (some ⟨w.heap.size, 0, none⟩)), (2, .int .i64 (p))]) ⟨rfl, rfl, rfl, rfl, rfl, trivial⟩
  clear f147
  refine wp_seq ?_
  refine At.start ?_
  refine At.rd f149 1 [[.ld (.slice Ag0 g.ow.length cg0), .ld (.slice Ag1 g.pr.length cg1), .ld (.slice Ag2 g.mv.length cg2)]] [(50, .agg #[.slice Ag0 g.ow.length cg0, .slice Ag1 g.pr.length cg1, .slice Ag2 g.mv.length cg2])] [(w135.cell? ⟨w.heap.size, 0, none⟩ = some (.slice Ag0 g.ow.length cg0)), (w135.cell? ⟨w.heap.size, 1, none⟩ = some (.slice Ag1 g.pr.length cg1)), (w135.cell? ⟨w.heap.size, 2, none⟩ = some (.slice Ag2 g.mv.length cg2))] (by kernel_rfl) ⟨(bx143.cell (i := 0) rfl), (bx143.cell (i := 1) rfl), (bx143.cell (i := 2) rfl), trivial⟩ (fun act151 f150 => ?_)
  clear f149
  refine At.call f150 26 #[.agg #[.slice Ag0 g.ow.length cg0, .slice Ag1 g.pr.length cg1, .slice Ag2 g.mv.length cg2]] (some 51) (by kernel_rfl) (copyM_any (g := g) (r141.wide (Nat.zero_le _) (by omega))) ?_
  rintro e_ w165 ⟨A152, c153, A154, c155, A156, c157, rfl, he, ow158, ow159, ow160⟩
  have hip164 := inner_len (RdG.mv (r141.wide (Nat.zero_le _) (by omega)))
  refine ⟨_, rfl, _, rfl, fun act166 f167 => ?_⟩
  clear f150
  have g168 := gr_ext he
  have lt169 := ow146.lt
  have szw165 := g168.size
  have e170 := e140.gr g168 no_row
  clear e140
  have r171 := r141.gr g168 (fun _ h => by cases h)
  clear r141
  have r172 := r142.gr g168 (fun _ h => by cases h)
  clear r142
  have bx173 := bx143.gr g168 (by simp)
  clear bx143
  have bx174 := bx144.gr g168 (by simp)
  clear bx144
  have bx175 := bx145.gr g168 (by simp)
  clear bx145
  have ow176 : OwnR w165 (Sx (w92.heap.size) [obk (A152), obk (A154), obk (A156), some (w109.heap.size)]) A105 c106 3 (ma : List Int) := ow146.grA g168 (fun _ _ h => by cases h) (fun k hk hs => ⟨(fun e => by have := ow158.ge _ e; omega), (fun e => by have := ow159.ge _ e; omega), (fun e => by have := ow160.ge _ e; omega), hs.1, hs.2⟩)
  clear ow146
  have bx177 := bx137.gr g168 (by simp)
  clear bx137
  have ow178 : OwnR w165 (Sx (w135.heap.size) [obk (A105), obk (A154), obk (A156)]) A152 c153 3 (g.ow : List Int) := ow158.imp (fun g _ hs => ⟨(fun e => by have := lt169 _ e; have := Sx_base hs; omega), hs⟩)
  clear ow158
  have ow179 : OwnR w165 (Sx (w135.heap.size) [obk (A105), obk (A152), obk (A156)]) A154 c155 3 (g.pr : List Int) := ow159.imp (fun g _ hs => ⟨(fun e => by have := lt169 _ e; have := Sx_base hs; omega), hs⟩)
  clear ow159
  have ow180 : OwnLL w165 (w135.heap.size) [obk (A105), obk (A152), obk (A154)] A156 c157 22 3 (g.mv : List (List Int)) := ow160.imp (fun g _ hs => ⟨(fun e => by have := lt169 _ e; have := Sx_base hs; omega), hs⟩)
  clear ow160
  clear lt169
  clear g168 he
  refine At.seq f167 1 [[]] [(14, .pointer (some ⟨w165.heap.size, 0, none⟩))] (w165.alloc (.cells #[.slice none 0 0, .slice none 0 0, .slice none 0 0] 25 (0, 0))) [] (by kernel_rfl) trivial (fun act184 w181 hw182 f183 => ?_)
  clear f167
  have g185 := gr_alloc hw182
  have szw181 := g185.size
  have e187 := e170.gr g185 no_row
  clear e170
  have r188 := r171.gr g185 (fun _ h => by cases h)
  clear r171
  have r189 := r172.gr g185 (fun _ h => by cases h)
  clear r172
  have bx190 := bx173.gr g185 (by simp)
  clear bx173
  have bx191 := bx174.gr g185 (by simp)
  clear bx174
  have bx192 := bx175.gr g185 (by simp)
  clear bx175
  have ow193 : OwnR w181 (Sx (w92.heap.size) [some (w165.heap.size), obk (A152), obk (A154), obk (A156), some (w109.heap.size)]) A105 c106 3 (ma : List Int) := ow176.grA g185 (fun _ _ h => by cases h) (fun k hk hs => ⟨(fun e => by injection e; omega), hs.1, hs.2.1, hs.2.2.1, hs.2.2.2.1, hs.2.2.2.2⟩)
  clear ow176
  have bx194 := bx177.gr g185 (by simp)
  clear bx177
  have ow195 : OwnR w181 (Sx (w135.heap.size) [some (w165.heap.size), obk (A105), obk (A154), obk (A156)]) A152 c153 3 (g.ow : List Int) := ow178.grA g185 (fun _ _ h => by cases h) (fun k hk hs => ⟨(fun e => by injection e; omega), hs.1, hs.2.1, hs.2.2.1, hs.2.2.2⟩)
  clear ow178
  have ow196 : OwnR w181 (Sx (w135.heap.size) [some (w165.heap.size), obk (A105), obk (A152), obk (A156)]) A154 c155 3 (g.pr : List Int) := ow179.grA g185 (fun _ _ h => by cases h) (fun k hk hs => ⟨(fun e => by injection e; omega), hs.1, hs.2.1, hs.2.2.1, hs.2.2.2⟩)
  clear ow179
  have ow197 : OwnLL w181 (w135.heap.size) [some (w165.heap.size), obk (A105), obk (A152), obk (A154)] A156 c157 22 3 (g.mv : List (List Int)) := ow180.grA g185 (fun _ _ h => by cases h) (fun k hk hs => ⟨(fun e => by injection e; omega), hs.1, hs.2.1, hs.2.2.1, hs.2.2.2⟩)
  clear ow180
  have bx198 : Bx w181 (w165.heap.size) [.slice none 0 0, .slice none 0 0, .slice none 0 0] 25 := Bx.new hw182
  have := bx198.lt
  clear g185 hw182
  refine At.store f183 (t := 25) (b := w165.heap.size) (off := 0) (v := .agg #[.slice A152 g.ow.length c153, .slice A154 g.pr.length c155, .slice A156 g.mv.length c157]) (by kernel_rfl) bx198 (by kernel_rfl) (fun act203 w199 g200 bx201 f202 => ?_)
  clear f183
  replace bx201 : Bx w199 (w165.heap.size) [.slice A152 g.ow.length c153, .slice A154 g.pr.length c155, .slice A156 g.mv.length c157] 25 := bx201
  have szw199 := g200.size
  have e204 := e187.gr g200 (fun k h => by injection h; omega)
  clear e187
  have r205 := r188.gr g200 (fun k h => by injection h; omega)
  clear r188
  have r206 := r189.gr g200 (fun k h => by injection h; omega)
  clear r189
  have bx207 := bx190.gr g200 (fun h => by injection h; omega)
  clear bx190
  have bx208 := bx191.gr g200 (fun h => by injection h; omega)
  clear bx191
  have bx209 := bx192.gr g200 (fun h => by injection h; omega)
  clear bx192
  have ow210 := ow193.gr g200 (fun k hk => hk.1)
  clear ow193
  have bx211 := bx194.gr g200 (fun h => by injection h; omega)
  clear bx194
  have ow212 := ow195.gr g200 (fun k hk => hk.1)
  clear ow195
  have ow213 := ow196.gr g200 (fun k hk => hk.1)
  clear ow196
  have ow214 := ow197.gr g200 (fun k hk => hk.1)
  clear ow197
  clear bx198 g200
  refine At.done rfl ?_
  refine t_n ?_
  have f215 := f202.sub (r := [(14, .pointer (some ⟨w165.heap.size, 0, none⟩)), (12, .pointer (some ⟨w109.heap.size, 0, none⟩)), (7, .pointer (some ⟨w11.heap.size, 0, none⟩)), (5, .pointer (some ⟨w1.heap.size, 0, none⟩)), (4, .pointer (some ⟨w.heap.size, 0, none⟩)), (2, .int .i64 (p))]) ⟨rfl, rfl, rfl, rfl, rfl, rfl, trivial⟩
  clear f202
  refine wp_seq ?_
  refine At.start ?_
  refine At.rd f215 1 [[.ld (.slice Ag0 g.ow.length cg0), .ld (.slice Ag1 g.pr.length cg1), .ld (.slice Ag2 g.mv.length cg2)]] [(52, .agg #[.slice Ag0 g.ow.length cg0, .slice Ag1 g.pr.length cg1, .slice Ag2 g.mv.length cg2])] [(w199.cell? ⟨w.heap.size, 0, none⟩ = some (.slice Ag0 g.ow.length cg0)), (w199.cell? ⟨w.heap.size, 1, none⟩ = some (.slice Ag1 g.pr.length cg1)), (w199.cell? ⟨w.heap.size, 2, none⟩ = some (.slice Ag2 g.mv.length cg2))] (by kernel_rfl) ⟨(bx207.cell (i := 0) rfl), (bx207.cell (i := 1) rfl), (bx207.cell (i := 2) rfl), trivial⟩ (fun act217 f216 => ?_)
  clear f215
  refine At.call f216 26 #[.agg #[.slice Ag0 g.ow.length cg0, .slice Ag1 g.pr.length cg1, .slice Ag2 g.mv.length cg2]] (some 53) (by kernel_rfl) (copyM_any (g := g) (r205.wide (Nat.zero_le _) (by omega))) ?_
  rintro e_ w231 ⟨A218, c219, A220, c221, A222, c223, rfl, he, ow224, ow225, ow226⟩
  have hip230 := inner_len (RdG.mv (r205.wide (Nat.zero_le _) (by omega)))
  refine ⟨_, rfl, _, rfl, fun act232 f233 => ?_⟩
  clear f216
  have g234 := gr_ext he
  have lt235 := ow210.lt
  have lt236 := ow212.lt
  have lt237 := ow213.lt
  have lt238 := ow214.lt
  have szw231 := g234.size
  have e239 := e204.gr g234 no_row
  clear e204
  have r240 := r205.gr g234 (fun _ h => by cases h)
  clear r205
  have r241 := r206.gr g234 (fun _ h => by cases h)
  clear r206
  have bx242 := bx207.gr g234 (by simp)
  clear bx207
  have bx243 := bx208.gr g234 (by simp)
  clear bx208
  have bx244 := bx209.gr g234 (by simp)
  clear bx209
  have ow245 : OwnR w231 (Sx (w92.heap.size) [obk (A218), obk (A220), obk (A222), some (w165.heap.size), obk (A152), obk (A154), obk (A156), some (w109.heap.size)]) A105 c106 3 (ma : List Int) := ow210.grA g234 (fun _ _ h => by cases h) (fun k hk hs => ⟨(fun e => by have := ow224.ge _ e; omega), (fun e => by have := ow225.ge _ e; omega), (fun e => by have := ow226.ge _ e; omega), hs.1, hs.2.1, hs.2.2.1, hs.2.2.2.1, hs.2.2.2.2.1, hs.2.2.2.2.2⟩)
  clear ow210
  have bx246 := bx211.gr g234 (by simp)
  clear bx211
  have ow247 : OwnR w231 (Sx (w135.heap.size) [obk (A218), obk (A220), obk (A222), some (w165.heap.size), obk (A105), obk (A154), obk (A156)]) A152 c153 3 (g.ow : List Int) := ow212.grA g234 (fun _ _ h => by cases h) (fun k hk hs => ⟨(fun e => by have := ow224.ge _ e; omega), (fun e => by have := ow225.ge _ e; omega), (fun e => by have := ow226.ge _ e; omega), hs.1, hs.2.1, hs.2.2.1, hs.2.2.2.1, hs.2.2.2.2⟩)
  clear ow212
  have ow248 : OwnR w231 (Sx (w135.heap.size) [obk (A218), obk (A220), obk (A222), some (w165.heap.size), obk (A105), obk (A152), obk (A156)]) A154 c155 3 (g.pr : List Int) := ow213.grA g234 (fun _ _ h => by cases h) (fun k hk hs => ⟨(fun e => by have := ow224.ge _ e; omega), (fun e => by have := ow225.ge _ e; omega), (fun e => by have := ow226.ge _ e; omega), hs.1, hs.2.1, hs.2.2.1, hs.2.2.2.1, hs.2.2.2.2⟩)
  clear ow213
  have ow249 : OwnLL w231 (w135.heap.size) [obk (A218), obk (A220), obk (A222), some (w165.heap.size), obk (A105), obk (A152), obk (A154)] A156 c157 22 3 (g.mv : List (List Int)) := ow214.grA g234 (fun _ _ h => by cases h) (fun k hk hs => ⟨(fun e => by have := ow224.ge _ e; omega), (fun e => by have := ow225.ge _ e; omega), (fun e => by have := ow226.ge _ e; omega), hs.1, hs.2.1, hs.2.2.1, hs.2.2.2.1, hs.2.2.2.2⟩)
  clear ow214
  have bx250 := bx201.gr g234 (by simp)
  clear bx201
  have ow251 : OwnR w231 (Sx (w199.heap.size) [obk (A105), obk (A152), obk (A154), obk (A156), obk (A220), obk (A222)]) A218 c219 3 (g.ow : List Int) := ow224.imp (fun g _ hs => ⟨(fun e => by have := lt235 _ e; have := Sx_base hs; omega), (fun e => by have := lt236 _ e; have := Sx_base hs; omega), (fun e => by have := lt237 _ e; have := Sx_base hs; omega), (fun e => by have := lt238 _ e; have := Sx_base hs; omega), hs⟩)
  clear ow224
  have ow252 : OwnR w231 (Sx (w199.heap.size) [obk (A105), obk (A152), obk (A154), obk (A156), obk (A218), obk (A222)]) A220 c221 3 (g.pr : List Int) := ow225.imp (fun g _ hs => ⟨(fun e => by have := lt235 _ e; have := Sx_base hs; omega), (fun e => by have := lt236 _ e; have := Sx_base hs; omega), (fun e => by have := lt237 _ e; have := Sx_base hs; omega), (fun e => by have := lt238 _ e; have := Sx_base hs; omega), hs⟩)
  clear ow225
  have ow253 : OwnLL w231 (w199.heap.size) [obk (A105), obk (A152), obk (A154), obk (A156), obk (A218), obk (A220)] A222 c223 22 3 (g.mv : List (List Int)) := ow226.imp (fun g _ hs => ⟨(fun e => by have := lt235 _ e; have := Sx_base hs; omega), (fun e => by have := lt236 _ e; have := Sx_base hs; omega), (fun e => by have := lt237 _ e; have := Sx_base hs; omega), (fun e => by have := lt238 _ e; have := Sx_base hs; omega), hs⟩)
  clear ow226
  clear lt235 lt236 lt237 lt238
  clear g234 he
  refine At.seq f233 1 [[]] [(15, .pointer (some ⟨w231.heap.size, 0, none⟩))] (w231.alloc (.cells #[.slice none 0 0, .slice none 0 0, .slice none 0 0] 25 (0, 0))) [] (by kernel_rfl) trivial (fun act257 w254 hw255 f256 => ?_)
  clear f233
  have g258 := gr_alloc hw255
  have szw254 := g258.size
  have e260 := e239.gr g258 no_row
  clear e239
  have r261 := r240.gr g258 (fun _ h => by cases h)
  clear r240
  have r262 := r241.gr g258 (fun _ h => by cases h)
  clear r241
  have bx263 := bx242.gr g258 (by simp)
  clear bx242
  have bx264 := bx243.gr g258 (by simp)
  clear bx243
  have bx265 := bx244.gr g258 (by simp)
  clear bx244
  have ow266 : OwnR w254 (Sx (w92.heap.size) [some (w231.heap.size), obk (A218), obk (A220), obk (A222), some (w165.heap.size), obk (A152), obk (A154), obk (A156), some (w109.heap.size)]) A105 c106 3 (ma : List Int) := ow245.grA g258 (fun _ _ h => by cases h) (fun k hk hs => ⟨(fun e => by injection e; omega), hs.1, hs.2.1, hs.2.2.1, hs.2.2.2.1, hs.2.2.2.2.1, hs.2.2.2.2.2.1, hs.2.2.2.2.2.2.1, hs.2.2.2.2.2.2.2.1, hs.2.2.2.2.2.2.2.2⟩)
  clear ow245
  have bx267 := bx246.gr g258 (by simp)
  clear bx246
  have ow268 : OwnR w254 (Sx (w135.heap.size) [some (w231.heap.size), obk (A218), obk (A220), obk (A222), some (w165.heap.size), obk (A105), obk (A154), obk (A156)]) A152 c153 3 (g.ow : List Int) := ow247.grA g258 (fun _ _ h => by cases h) (fun k hk hs => ⟨(fun e => by injection e; omega), hs.1, hs.2.1, hs.2.2.1, hs.2.2.2.1, hs.2.2.2.2.1, hs.2.2.2.2.2.1, hs.2.2.2.2.2.2.1, hs.2.2.2.2.2.2.2⟩)
  clear ow247
  have ow269 : OwnR w254 (Sx (w135.heap.size) [some (w231.heap.size), obk (A218), obk (A220), obk (A222), some (w165.heap.size), obk (A105), obk (A152), obk (A156)]) A154 c155 3 (g.pr : List Int) := ow248.grA g258 (fun _ _ h => by cases h) (fun k hk hs => ⟨(fun e => by injection e; omega), hs.1, hs.2.1, hs.2.2.1, hs.2.2.2.1, hs.2.2.2.2.1, hs.2.2.2.2.2.1, hs.2.2.2.2.2.2.1, hs.2.2.2.2.2.2.2⟩)
  clear ow248
  have ow270 : OwnLL w254 (w135.heap.size) [some (w231.heap.size), obk (A218), obk (A220), obk (A222), some (w165.heap.size), obk (A105), obk (A152), obk (A154)] A156 c157 22 3 (g.mv : List (List Int)) := ow249.grA g258 (fun _ _ h => by cases h) (fun k hk hs => ⟨(fun e => by injection e; omega), hs.1, hs.2.1, hs.2.2.1, hs.2.2.2.1, hs.2.2.2.2.1, hs.2.2.2.2.2.1, hs.2.2.2.2.2.2.1, hs.2.2.2.2.2.2.2⟩)
  clear ow249
  have bx271 := bx250.gr g258 (by simp)
  clear bx250
  have ow272 : OwnR w254 (Sx (w199.heap.size) [some (w231.heap.size), obk (A105), obk (A152), obk (A154), obk (A156), obk (A220), obk (A222)]) A218 c219 3 (g.ow : List Int) := ow251.grA g258 (fun _ _ h => by cases h) (fun k hk hs => ⟨(fun e => by injection e; omega), hs.1, hs.2.1, hs.2.2.1, hs.2.2.2.1, hs.2.2.2.2.1, hs.2.2.2.2.2.1, hs.2.2.2.2.2.2⟩)
  clear ow251
  have ow273 : OwnR w254 (Sx (w199.heap.size) [some (w231.heap.size), obk (A105), obk (A152), obk (A154), obk (A156), obk (A218), obk (A222)]) A220 c221 3 (g.pr : List Int) := ow252.grA g258 (fun _ _ h => by cases h) (fun k hk hs => ⟨(fun e => by injection e; omega), hs.1, hs.2.1, hs.2.2.1, hs.2.2.2.1, hs.2.2.2.2.1, hs.2.2.2.2.2.1, hs.2.2.2.2.2.2⟩)
  clear ow252
  have ow274 : OwnLL w254 (w199.heap.size) [some (w231.heap.size), obk (A105), obk (A152), obk (A154), obk (A156), obk (A218), obk (A220)] A222 c223 22 3 (g.mv : List (List Int)) := ow253.grA g258 (fun _ _ h => by cases h) (fun k hk hs => ⟨(fun e => by injection e; omega), hs.1, hs.2.1, hs.2.2.1, hs.2.2.2.1, hs.2.2.2.2.1, hs.2.2.2.2.2.1, hs.2.2.2.2.2.2⟩)
  clear ow253
  have bx275 : Bx w254 (w231.heap.size) [.slice none 0 0, .slice none 0 0, .slice none 0 0] 25 := Bx.new hw255
  have := bx275.lt
  clear g258 hw255
  refine At.store f256 (t := 25) (b := w231.heap.size) (off := 0) (v := .agg #[.slice A218 g.ow.length c219, .slice A220 g.pr.length c221, .slice A222 g.mv.length c223]) (by kernel_rfl) bx275 (by kernel_rfl) (fun act280 w276 g277 bx278 f279 => ?_)
  clear f256
  replace bx278 : Bx w276 (w231.heap.size) [.slice A218 g.ow.length c219, .slice A220 g.pr.length c221, .slice A222 g.mv.length c223] 25 := bx278
  have szw276 := g277.size
  have e281 := e260.gr g277 (fun k h => by injection h; omega)
  clear e260
  have r282 := r261.gr g277 (fun k h => by injection h; omega)
  clear r261
  have r283 := r262.gr g277 (fun k h => by injection h; omega)
  clear r262
  have bx284 := bx263.gr g277 (fun h => by injection h; omega)
  clear bx263
  have bx285 := bx264.gr g277 (fun h => by injection h; omega)
  clear bx264
  have bx286 := bx265.gr g277 (fun h => by injection h; omega)
  clear bx265
  have ow287 := ow266.gr g277 (fun k hk => hk.1)
  clear ow266
  have bx288 := bx267.gr g277 (fun h => by injection h; omega)
  clear bx267
  have ow289 := ow268.gr g277 (fun k hk => hk.1)
  clear ow268
  have ow290 := ow269.gr g277 (fun k hk => hk.1)
  clear ow269
  have ow291 := ow270.gr g277 (fun k hk => hk.1)
  clear ow270
  have bx292 := bx271.gr g277 (fun h => by injection h; omega)
  clear bx271
  have ow293 := ow272.gr g277 (fun k hk => hk.1)
  clear ow272
  have ow294 := ow273.gr g277 (fun k hk => hk.1)
  clear ow273
  have ow295 := ow274.gr g277 (fun k hk => hk.1)
  clear ow274
  clear bx275 g277
  refine At.done rfl ?_
  refine t_n ?_
  have f296 := f279.sub (r := [(15, .pointer (some ⟨w231.heap.size, 0, none⟩)), (14, .pointer (some ⟨w165.heap.size, 0, none⟩)), (12, .pointer (some ⟨w109.heap.size, 0, none⟩)), (7, .pointer (some ⟨w11.heap.size, 0, none⟩)), (5, .pointer (some ⟨w1.heap.size, 0, none⟩)), (4, .pointer (some ⟨w.heap.size, 0, none⟩)), (2, .int .i64 (p))]) ⟨rfl, rfl, rfl, rfl, rfl, rfl, rfl, trivial⟩
  clear f279
  refine wp_seq ?_
  refine wp_seq ?_
  refine At.start ?_
  refine At.rd f296 1 [[]] [(16, .int .i64 (0))] [] (by kernel_rfl) trivial (fun act298 f297 => ?_)
  clear f296
  refine At.done rfl ?_
  refine t_n ?_
  refine wp_block ?_
  have f303 := f297.sub (r := [(16, .int .i64 (0)), (15, .pointer (some ⟨w231.heap.size, 0, none⟩)), (14, .pointer (some ⟨w165.heap.size, 0, none⟩)), (12, .pointer (some ⟨w109.heap.size, 0, none⟩)), (7, .pointer (some ⟨w11.heap.size, 0, none⟩)), (5, .pointer (some ⟨w1.heap.size, 0, none⟩)), (4, .pointer (some ⟨w.heap.size, 0, none⟩)), (2, .int .i64 (p))]) ⟨rfl, rfl, rfl, rfl, rfl, rfl, rfl, rfl, trivial⟩
  refine loop_g (fun (m_ : Nat) a_ w_ => ∃ (k : Int) (xa : List Int) (A_299 : Option Addr) (c_300 : Nat) (xb : List Int) (A_301 : Option Addr) (c_302 : Nat), m_ = ((g.ow.length : Int) - k).toNat ∧ (Frm 96 a_ [(16, .int .i64 (k)), (15, .pointer (some ⟨w231.heap.size, 0, none⟩)), (14, .pointer (some ⟨w165.heap.size, 0, none⟩)), (12, .pointer (some ⟨w109.heap.size, 0, none⟩)), (7, .pointer (some ⟨w11.heap.size, 0, none⟩)), (5, .pointer (some ⟨w1.heap.size, 0, none⟩)), (4, .pointer (some ⟨w.heap.size, 0, none⟩)), (2, .int .i64 (p))]) ∧ (Ext w w_) ∧ (RdG w_ 0 w.heap.size Ag0 Ag1 Ag2 cg0 cg1 cg2 g) ∧ (RdT w_ 0 w.heap.size) ∧ (Bx w_ (w.heap.size) [.slice Ag0 g.ow.length cg0, .slice Ag1 g.pr.length cg1, .slice Ag2 g.mv.length cg2] 25) ∧ (Bx w_ (w1.heap.size) ((s : List Int).map wV) 28) ∧ (Bx w_ (w11.heap.size) ((t : List Int).map wV) 28) ∧ (OwnR w_ (Sx (w92.heap.size) [some (w231.heap.size), obk (A_301), obk (A220), obk (A222), some (w165.heap.size), obk (A_299), obk (A154), obk (A156), some (w109.heap.size)]) A105 c106 3 (ma : List Int)) ∧ (Bx w_ (w109.heap.size) ((sa : List Int).map wV) 28) ∧ (OwnR w_ (Sx (w135.heap.size) [some (w231.heap.size), obk (A_301), obk (A220), obk (A222), some (w165.heap.size), obk (A105), obk (A154), obk (A156)]) A_299 c_300 3 (xa : List Int)) ∧ (OwnR w_ (Sx (w135.heap.size) [some (w231.heap.size), obk (A_301), obk (A220), obk (A222), some (w165.heap.size), obk (A105), obk (A_299), obk (A156)]) A154 c155 3 (g.pr : List Int)) ∧ (OwnLL w_ (w135.heap.size) [some (w231.heap.size), obk (A_301), obk (A220), obk (A222), some (w165.heap.size), obk (A105), obk (A_299), obk (A154)] A156 c157 22 3 (g.mv : List (List Int))) ∧ (Bx w_ (w165.heap.size) [.slice A_299 xa.length c_300, .slice A154 g.pr.length c155, .slice A156 g.mv.length c157] 25) ∧ (OwnR w_ (Sx (w199.heap.size) [some (w231.heap.size), obk (A105), obk (A_299), obk (A154), obk (A156), obk (A220), obk (A222)]) A_301 c_302 3 (xb : List Int)) ∧ (OwnR w_ (Sx (w199.heap.size) [some (w231.heap.size), obk (A105), obk (A_299), obk (A154), obk (A156), obk (A_301), obk (A222)]) A220 c221 3 (g.pr : List Int)) ∧ (OwnLL w_ (w199.heap.size) [some (w231.heap.size), obk (A105), obk (A_299), obk (A154), obk (A156), obk (A_301), obk (A220)] A222 c223 22 3 (g.mv : List (List Int))) ∧ (Bx w_ (w231.heap.size) [.slice A_301 xb.length c_302, .slice A220 g.pr.length c221, .slice A222 g.mv.length c223] 25) ∧ (0 ≤ k) ∧ (k ≤ (g.ow.length : Int)) ∧ (xa.length = g.ow.length) ∧ (xb.length = g.ow.length) ∧ (∀ j : Int, 0 ≤ j → j < k → gI xa j = p) ∧ (∀ j : Int, 0 ≤ j → j < k → gI xb j = 1 - p) ∧ (w92.heap.size ≤ w_.heap.size) ∧ (w135.heap.size ≤ w_.heap.size) ∧ (w199.heap.size ≤ w_.heap.size)) _ ⟨0, (g.ow : List Int), A152, c153, (g.ow : List Int), A218, c219, rfl, f303, e281, r282, r283, bx284, bx285, bx286, ow287, bx288, ow289, ow290, ow291, bx292, ow293, ow294, ow295, bx278, (by omega), (by omega), rfl, rfl, (fun j a b => by omega), (fun j a b => by omega), (by omega), (by omega), (by omega)⟩ ?_
  clear f303 f297
  clear r282
  clear r283
  clear bx284
  clear bx285
  clear bx286
  clear ow287
  clear bx288
  clear ow289
  clear ow290
  clear ow291
  clear bx292
  clear ow293
  clear ow294
  clear ow295
  clear bx278
  clear e281
  intro m_ act304 w305 ⟨k, xa, A_299, c_300, xb, A_301, c_302, hm307, f308, e306, r309, r310, bx311, bx312, bx313, ow314, bx315, ow316, ow317, r318, bx319, ow320, ow321, r322, bx323, i324, i325, i326, i327, hxa, hxb, i328, i329, i330⟩
  have szw305 := e306.size
  have := bx311.lt
  have := bx312.lt
  have := bx313.lt
  have := bx315.lt
  have := bx319.lt
  have := bx323.lt
  refine wp_seq ?_
  refine wp_seq ?_
  refine At.start ?_
  refine At.rd f308 5 [[], [], [.ld (.slice Ag0 g.ow.length cg0)], [], []] [(58, .bool (decide ((k : Int) < ((g.ow.length : Nat) : Int)))), (57, .int .i64 (((g.ow.length : Nat) : Int))), (56, .slice Ag0 g.ow.length cg0), (55, .pointer (some ⟨w.heap.size, 0, none⟩)), (54, .int .i64 (k))] [(w305.cell? ⟨w.heap.size, 0, none⟩ = some (.slice Ag0 g.ow.length cg0))] (by kernel_rfl) ⟨(bx311.cell (i := 0) rfl), trivial⟩ (fun act332 f331 => ?_)
  clear f308
  refine At.done rfl ?_
  refine t_n ?_
  have f333 := f331.sub (r := [(58, .bool (decide ((k : Int) < ((g.ow.length : Nat) : Int)))), (16, .int .i64 (k)), (15, .pointer (some ⟨w231.heap.size, 0, none⟩)), (14, .pointer (some ⟨w165.heap.size, 0, none⟩)), (12, .pointer (some ⟨w109.heap.size, 0, none⟩)), (7, .pointer (some ⟨w11.heap.size, 0, none⟩)), (5, .pointer (some ⟨w1.heap.size, 0, none⟩)), (4, .pointer (some ⟨w.heap.size, 0, none⟩)), (2, .int .i64 (p))]) ⟨rfl, rfl, rfl, rfl, rfl, rfl, rfl, rfl, rfl, trivial⟩
  clear f331
  refine cond_S f333 (t := decide ((k : Int) < ((g.ow.length : Nat) : Int))) rfl (fun h334 => ?_) (fun h334 => ?_)
  ·have q335 := of_decide_eq_true h334
   refine wp_skip ?_
   refine t_n ?_
   have f336 := f333.sub (r := [(16, .int .i64 (k)), (15, .pointer (some ⟨w231.heap.size, 0, none⟩)), (14, .pointer (some ⟨w165.heap.size, 0, none⟩)), (12, .pointer (some ⟨w109.heap.size, 0, none⟩)), (7, .pointer (some ⟨w11.heap.size, 0, none⟩)), (5, .pointer (some ⟨w1.heap.size, 0, none⟩)), (4, .pointer (some ⟨w.heap.size, 0, none⟩)), (2, .int .i64 (p))]) ⟨rfl, rfl, rfl, rfl, rfl, rfl, rfl, rfl, trivial⟩
   clear f333
   refine wp_seq ?_
   refine wp_block ?_
   refine wp_seq ?_
   refine At.start ?_
   obtain ⟨ad337, hA338, hb341, hc340, hc339⟩ := ow316.get (k) (by omega) (by omega) (sz := 1) rfl
   refine At.rd f336 5 [[], [.ld (.slice A_299 xa.length c_300)], [], [], [.ad ad337]] [(65, .pointer (some (ad337.add ((k : Int).toNat * 1)))), (64, .int .i64 (p)), (63, .int .i64 (k)), (62, .slice A_299 xa.length c_300), (61, .pointer (some ⟨w165.heap.size, 0, none⟩))] [(w305.cell? ⟨w165.heap.size, 0, none⟩ = some (.slice A_299 xa.length c_300)), (A_299 = some ad337), (0 ≤ (k : Int)), ((k : Int) < (xa.length : Nat))] (by kernel_rfl) ⟨(bx319.cell (i := 0) rfl), hA338, (by omega), (by omega), trivial⟩ (fun act343 f342 => ?_)
   clear f336
   refine At.act f342 (storeR (α := Int) (t := 3) (i := k) (ad := ad337) (v := .int .i64 (p)) (p) (by kernel_rfl) rfl rfl (by kernel_rfl) hA338 ow316 (by omega) (by omega)) ?_
   rintro d_ v_ w344 ⟨rfl, g345, ow346⟩
   refine ⟨_, rfl, fun act349 f348 => ?_⟩
   clear f342
   have hl347 : ((xa).set (k : Int).toNat p).length = (xa).length := List.length_set
   have szw344 := g345.size
   have e350 := e306.gr g345 (fun k hk => by have := ow316.ge k hk; omega)
   clear e306
   have r351 := r309.gr g345 (fun k hk => by have := ow316.ge k hk; omega)
   clear r309
   have r352 := r310.gr g345 (fun k hk => by have := ow316.ge k hk; omega)
   clear r310
   have bx353 := bx311.gr g345 (fun e => by have := ow316.ge _ e; omega)
   clear bx311
   have bx354 := bx312.gr g345 (fun e => by have := ow316.ge _ e; omega)
   clear bx312
   have bx355 := bx313.gr g345 (fun e => by have := ow316.ge _ e; omega)
   clear bx313
   have ow356 := ow314.gr g345 (fun k hk => hk.2.2.2.2.2.1)
   clear ow314
   have bx357 := bx315.gr g345 (fun e => by have := ow316.ge _ e; omega)
   clear bx315
   have ow358 := ow317.gr g345 (fun k hk => hk.2.2.2.2.2.2.1)
   clear ow317
   have ow359 := r318.gr g345 (fun k hk => hk.2.2.2.2.2.2.1)
   clear r318
   have bx360 := bx319.gr g345 (ow316.neb (fun g hs => hs.2.2.2.2.1))
   clear bx319
   have ow361 := ow320.gr g345 (fun k hk => hk.2.2.1)
   clear ow320
   have ow362 := ow321.gr g345 (fun k hk => hk.2.2.1)
   clear ow321
   have ow363 := r322.gr g345 (fun k hk => hk.2.2.1)
   clear r322
   have bx364 := bx323.gr g345 (ow316.neb (fun g hs => hs.1))
   clear bx323
   clear ow316 g345
   refine At.done rfl ?_
   refine t_n ?_
   have f365 := f348.sub (r := [(16, .int .i64 (k)), (15, .pointer (some ⟨w231.heap.size, 0, none⟩)), (14, .pointer (some ⟨w165.heap.size, 0, none⟩)), (12, .pointer (some ⟨w109.heap.size, 0, none⟩)), (7, .pointer (some ⟨w11.heap.size, 0, none⟩)), (5, .pointer (some ⟨w1.heap.size, 0, none⟩)), (4, .pointer (some ⟨w.heap.size, 0, none⟩)), (2, .int .i64 (p))]) ⟨rfl, rfl, rfl, rfl, rfl, rfl, rfl, rfl, trivial⟩
   clear f348
   refine At.start ?_
   obtain ⟨ad366, hA367, hb370, hc369, hc368⟩ := ow361.get (k) (by omega) (by omega) (sz := 1) rfl
   refine At.rd f365 6 [[], [.ld (.slice A_301 xb.length c_302)], [], [], [.as_ (.int .i64 (1 - p))], [.ad ad366]] [(71, .pointer (some (ad366.add ((k : Int).toNat * 1)))), (70, .int .i64 (1 - p)), (69, .int .i64 (p)), (68, .int .i64 (k)), (67, .slice A_301 xb.length c_302), (66, .pointer (some ⟨w231.heap.size, 0, none⟩))] [(w344.cell? ⟨w231.heap.size, 0, none⟩ = some (.slice A_301 xb.length c_302)), ((.int .i64 (IntKind.i64.wrap (1 - p)) : Value) = .int .i64 (1 - p)), (A_301 = some ad366), (0 ≤ (k : Int)), ((k : Int) < (xb.length : Nat))] (by kernel_rfl) ⟨(bx364.cell (i := 0) rfl), (w64 (by omega) (by omega)), hA367, (by omega), (by omega), trivial⟩ (fun act372 f371 => ?_)
   clear f365
   refine At.act f371 (storeR (α := Int) (t := 3) (i := k) (ad := ad366) (v := .int .i64 (1 - p)) (1 - p) (by kernel_rfl) rfl rfl (by kernel_rfl) hA367 ow361 (by omega) (by omega)) ?_
   rintro d_ v_ w373 ⟨rfl, g374, ow375⟩
   refine ⟨_, rfl, fun act378 f377 => ?_⟩
   clear f371
   have hl376 : ((xb).set (k : Int).toNat (1 - p)).length = (xb).length := List.length_set
   have szw373 := g374.size
   have e379 := e350.gr g374 (fun k hk => by have := ow361.ge k hk; omega)
   clear e350
   have r380 := r351.gr g374 (fun k hk => by have := ow361.ge k hk; omega)
   clear r351
   have r381 := r352.gr g374 (fun k hk => by have := ow361.ge k hk; omega)
   clear r352
   have bx382 := bx353.gr g374 (fun e => by have := ow361.ge _ e; omega)
   clear bx353
   have bx383 := bx354.gr g374 (fun e => by have := ow361.ge _ e; omega)
   clear bx354
   have bx384 := bx355.gr g374 (fun e => by have := ow361.ge _ e; omega)
   clear bx355
   have ow385 := ow356.gr g374 (fun k hk => hk.2.1)
   clear ow356
   have bx386 := bx357.gr g374 (fun e => by have := ow361.ge _ e; omega)
   clear bx357
   have ow387 := ow346.gr g374 (fun k hk => hk.2.1)
   clear ow346
   have ow388 := ow358.gr g374 (fun k hk => hk.2.1)
   clear ow358
   have ow389 := ow359.gr g374 (fun k hk => hk.2.1)
   clear ow359
   have bx390 := bx360.gr g374 (fun e => by have := ow361.ge _ e; omega)
   clear bx360
   have ow391 := ow362.gr g374 (fun k hk => hk.2.2.2.2.2.1)
   clear ow362
   have ow392 := ow363.gr g374 (fun k hk => hk.2.2.2.2.2.1)
   clear ow363
   have bx393 := bx364.gr g374 (ow361.neb (fun g hs => hs.1))
   clear bx364
   clear ow361 g374
   refine At.done rfl ?_
   refine b_n ?_
   refine t_n ?_
   have f394 := f377.sub (r := [(16, .int .i64 (k)), (15, .pointer (some ⟨w231.heap.size, 0, none⟩)), (14, .pointer (some ⟨w165.heap.size, 0, none⟩)), (12, .pointer (some ⟨w109.heap.size, 0, none⟩)), (7, .pointer (some ⟨w11.heap.size, 0, none⟩)), (5, .pointer (some ⟨w1.heap.size, 0, none⟩)), (4, .pointer (some ⟨w.heap.size, 0, none⟩)), (2, .int .i64 (p))]) ⟨rfl, rfl, rfl, rfl, rfl, rfl, rfl, rfl, trivial⟩
   clear f377
   refine At.start ?_
   refine At.rd f394 3 [[], [.as_ (.int .i64 (k + 1))], []] [(16, .int .i64 (k + 1)), (60, .int .i64 (k + 1)), (59, .int .i64 (k))] [((.int .i64 (IntKind.i64.wrap (k + 1)) : Value) = .int .i64 (k + 1))] (by kernel_rfl) ⟨(w64 (by omega) (by omega)), trivial⟩ (fun act396 f395 => ?_)
   clear f394
   refine At.done rfl ?_
   refine t_n ?_
   have f397 := f395.sub (r := [(16, .int .i64 (k + 1)), (15, .pointer (some ⟨w231.heap.size, 0, none⟩)), (14, .pointer (some ⟨w165.heap.size, 0, none⟩)), (12, .pointer (some ⟨w109.heap.size, 0, none⟩)), (7, .pointer (some ⟨w11.heap.size, 0, none⟩)), (5, .pointer (some ⟨w1.heap.size, 0, none⟩)), (4, .pointer (some ⟨w.heap.size, 0, none⟩)), (2, .int .i64 (p))]) ⟨rfl, rfl, rfl, rfl, rfl, rfl, rfl, rfl, trivial⟩
   exact ⟨_, (by omega), (k + 1), ((xa).set (k : Int).toNat p : List Int), A_299, c_300, ((xb).set (k : Int).toNat (1 - p) : List Int), A_301, c_302, rfl, f397, e379, r380, r381, bx382, bx383, bx384, ow385, bx386, ow387, ow388, ow389, (bx390.as (by first | rfl | (simp only [List.length_set]; done) | (simp; done))), ow375, ow391, ow392, (bx393.as (by first | rfl | (simp only [List.length_set]; done) | (simp; done))), (by omega), (by omega), (by rw [List.length_set]; assumption), (by rw [List.length_set]; assumption), (set_next hxa (by omega) (by omega)), (set_next hxb (by omega) (by omega)), (by omega), (by omega), (by omega)⟩
  ·have q398 := of_decide_eq_false h334
   refine wp_exit ?_
   refine t_e ?_
   refine t_e ?_
   refine b_e ?_
   refine t_n ?_
   have f399 := f333.sub (r := [(15, .pointer (some ⟨w231.heap.size, 0, none⟩)), (14, .pointer (some ⟨w165.heap.size, 0, none⟩)), (12, .pointer (some ⟨w109.heap.size, 0, none⟩)), (7, .pointer (some ⟨w11.heap.size, 0, none⟩)), (5, .pointer (some ⟨w1.heap.size, 0, none⟩)), (2, .int .i64 (p))]) ⟨rfl, rfl, rfl, rfl, rfl, rfl, trivial⟩
   clear f333
   refine wp_seq ?_
   have hxaE : ∀ j : Int, 0 ≤ j → j < (g.ow.length : Int) → gI xa j = p := fun j a b => hxa j a (by omega)
   have hxbE : ∀ j : Int, 0 ≤ j → j < (g.ow.length : Int) → gI xb j = 1 - p := fun j a b => hxb j a (by omega)
   refine At.start ?_
   refine At.rd f399 4 [[.ld (.slice A_299 xa.length c_300), .ld (.slice A154 g.pr.length c155), .ld (.slice A156 g.mv.length c157)], [.cs ((s : List Int).map wV)], [], [.cs ((t : List Int).map wV)]] [(76, .agg ((t : List Int).map wV).toArray), (75, .int .i64 (p)), (74, .agg ((s : List Int).map wV).toArray), (73, .agg #[.slice A_299 xa.length c_300, .slice A154 g.pr.length c155, .slice A156 g.mv.length c157])] [(w305.cell? ⟨w165.heap.size, 0, none⟩ = some (.slice A_299 xa.length c_300)), (w305.cell? ⟨w165.heap.size, 1, none⟩ = some (.slice A154 g.pr.length c155)), (w305.cell? ⟨w165.heap.size, 2, none⟩ = some (.slice A156 g.mv.length c157)), (((s : List Int).map wV).length = 4), (∀ (j : Nat) (v : Value), ((s : List Int).map wV)[j]? = some v → w305.cell? ((⟨w1.heap.size, 0, none⟩ : Addr).add j) = some v), (((t : List Int).map wV).length = 4), (∀ (j : Nat) (v : Value), ((t : List Int).map wV)[j]? = some v → w305.cell? ((⟨w11.heap.size, 0, none⟩ : Addr).add j) = some v)] (by kernel_rfl) ⟨(bx319.cell (i := 0) rfl), (bx319.cell (i := 1) rfl), (bx319.cell (i := 2) rfl), (by simp only [List.length_map, List.length_set, List.length_replicate, List.length_cons, List.length_nil]; first | done | assumption | exact from_len _ | exact of_len _ | exact ofZ_len _ | exact (ofW_ok _).1 | exact (fullW_W _).1 | exact (okW_with (by assumption)).1 | exact (okW_less (by assumption)).1 | exact put_len (from_len _) | exact orD_len _ _ | exact andD_len _ _ | exact minusD_len _ _ | exact fullD_len _ | (refine okLen ?_; (repeat (first | assumption | exact ofW_ok _ | exact fullW_W _ | apply okW_with | apply okW_less | refine okW_orS ?_ ?_ | refine okW_andS ?_ ?_ | refine okW_minusS ?_ ?_)); done) | omega | rfl), bx312.whole, (by simp only [List.length_map, List.length_set, List.length_replicate, List.length_cons, List.length_nil]; first | done | assumption | exact from_len _ | exact of_len _ | exact ofZ_len _ | exact (ofW_ok _).1 | exact (fullW_W _).1 | exact (okW_with (by assumption)).1 | exact (okW_less (by assumption)).1 | exact put_len (from_len _) | exact orD_len _ _ | exact andD_len _ _ | exact minusD_len _ _ | exact fullD_len _ | (refine okLen ?_; (repeat (first | assumption | exact ofW_ok _ | exact fullW_W _ | apply okW_with | apply okW_less | refine okW_orS ?_ ?_ | refine okW_andS ?_ ?_ | refine okW_minusS ?_ ?_)); done) | omega | rfl), bx313.whole, trivial⟩ (fun act401 f400 => ?_)
   clear f399
   refine At.call f400 12 #[.agg #[.slice A_299 xa.length c_300, .slice A154 g.pr.length c155, .slice A156 g.mv.length c157], .agg ((s : List Int).map wV).toArray, .int .i64 (p), .agg ((t : List Int).map wV).toArray] (some 77) (by kernel_rfl) (attract_any (g := (⟨xa, g.pr, g.mv⟩ : GameL)) (s := s) (t := t) (p := p) (RdG.mk (G := (⟨xa, g.pr, g.mv⟩ : GameL)) (ow316.rdI0 (by first | omega | (simp only [List.length_cons, List.length_nil]; omega) | (simp; done) | (simp; omega))) (ow317.rdI0 (by first | omega | (simp only [List.length_cons, List.length_nil]; omega) | (simp; done) | (simp; omega))) (r318.rdII0 (by first | omega | (simp only [List.length_cons, List.length_nil]; omega) | (simp; done) | (simp; omega)) hip164) ow316.cap ow317.cap r318.cap) (by repeat (first | assumption | exact ofW_ok _ | exact fullW_W _ | exact wordsD_W _ | exact okW_0 | exact okW_00 | apply okW_orS | apply okW_andS | apply okW_minusS | apply okW_with | apply okW_less | apply okW_or | apply okW_and | apply okW_minus | (apply okW_lit <;> exact ⟨by omega, by omega⟩))) (by repeat (first | assumption | exact ofW_ok _ | exact fullW_W _ | exact wordsD_W _ | exact okW_0 | exact okW_00 | apply okW_orS | apply okW_andS | apply okW_minusS | apply okW_with | apply okW_less | apply okW_or | apply okW_and | apply okW_minus | (apply okW_lit <;> exact ⟨by omega, by omega⟩))) (r310.wide (Nat.zero_le _) (by omega))) ?_
   rintro e_ w406 ⟨A402, c403, sb, mb, rfl, he, ow404, hB⟩
   have hok_sb := att_ok hB
   have hl_sb := okLen hok_sb
   have hlm_mb := att_len hB
   refine ⟨_, rfl, _, rfl, fun act407 f408 => ?_⟩
   clear f400
   have g409 := gr_ext he
   have lt410 := ow314.lt
   have lt411 := ow316.lt
   have lt412 := ow317.lt
   have lt413 := r318.lt
   have lt414 := ow320.lt
   have lt415 := ow321.lt
   have lt416 := r322.lt
   have szw406 := g409.size
   have e417 := e306.gr g409 no_row
   clear e306
   have r418 := r309.gr g409 (fun _ h => by cases h)
   clear r309
   have r419 := r310.gr g409 (fun _ h => by cases h)
   clear r310
   have bx420 := bx311.gr g409 (by simp)
   clear bx311
   have bx421 := bx312.gr g409 (by simp)
   clear bx312
   have bx422 := bx313.gr g409 (by simp)
   clear bx313
   have ow423 : OwnR w406 (Sx (w92.heap.size) [obk (A402), some (w231.heap.size), obk (A_301), obk (A220), obk (A222), some (w165.heap.size), obk (A_299), obk (A154), obk (A156), some (w109.heap.size)]) A105 c106 3 (ma : List Int) := ow314.grA g409 (fun _ _ h => by cases h) (fun k hk hs => ⟨(fun e => by have := ow404.ge _ e; omega), hs.1, hs.2.1, hs.2.2.1, hs.2.2.2.1, hs.2.2.2.2.1, hs.2.2.2.2.2.1, hs.2.2.2.2.2.2.1, hs.2.2.2.2.2.2.2.1, hs.2.2.2.2.2.2.2.2.1, hs.2.2.2.2.2.2.2.2.2⟩)
   clear ow314
   have bx424 := bx315.gr g409 (by simp)
   clear bx315
   have ow425 : OwnR w406 (Sx (w135.heap.size) [obk (A402), some (w231.heap.size), obk (A_301), obk (A220), obk (A222), some (w165.heap.size), obk (A105), obk (A154), obk (A156)]) A_299 c_300 3 (xa : List Int) := ow316.grA g409 (fun _ _ h => by cases h) (fun k hk hs => ⟨(fun e => by have := ow404.ge _ e; omega), hs.1, hs.2.1, hs.2.2.1, hs.2.2.2.1, hs.2.2.2.2.1, hs.2.2.2.2.2.1, hs.2.2.2.2.2.2.1, hs.2.2.2.2.2.2.2.1, hs.2.2.2.2.2.2.2.2⟩)
   clear ow316
   have ow426 : OwnR w406 (Sx (w135.heap.size) [obk (A402), some (w231.heap.size), obk (A_301), obk (A220), obk (A222), some (w165.heap.size), obk (A105), obk (A_299), obk (A156)]) A154 c155 3 (g.pr : List Int) := ow317.grA g409 (fun _ _ h => by cases h) (fun k hk hs => ⟨(fun e => by have := ow404.ge _ e; omega), hs.1, hs.2.1, hs.2.2.1, hs.2.2.2.1, hs.2.2.2.2.1, hs.2.2.2.2.2.1, hs.2.2.2.2.2.2.1, hs.2.2.2.2.2.2.2.1, hs.2.2.2.2.2.2.2.2⟩)
   clear ow317
   have ow427 : OwnLL w406 (w135.heap.size) [obk (A402), some (w231.heap.size), obk (A_301), obk (A220), obk (A222), some (w165.heap.size), obk (A105), obk (A_299), obk (A154)] A156 c157 22 3 (g.mv : List (List Int)) := r318.grA g409 (fun _ _ h => by cases h) (fun k hk hs => ⟨(fun e => by have := ow404.ge _ e; omega), hs.1, hs.2.1, hs.2.2.1, hs.2.2.2.1, hs.2.2.2.2.1, hs.2.2.2.2.2.1, hs.2.2.2.2.2.2.1, hs.2.2.2.2.2.2.2.1, hs.2.2.2.2.2.2.2.2⟩)
   clear r318
   have bx428 := bx319.gr g409 (by simp)
   clear bx319
   have ow429 : OwnR w406 (Sx (w199.heap.size) [obk (A402), some (w231.heap.size), obk (A105), obk (A_299), obk (A154), obk (A156), obk (A220), obk (A222)]) A_301 c_302 3 (xb : List Int) := ow320.grA g409 (fun _ _ h => by cases h) (fun k hk hs => ⟨(fun e => by have := ow404.ge _ e; omega), hs.1, hs.2.1, hs.2.2.1, hs.2.2.2.1, hs.2.2.2.2.1, hs.2.2.2.2.2.1, hs.2.2.2.2.2.2.1, hs.2.2.2.2.2.2.2⟩)
   clear ow320
   have ow430 : OwnR w406 (Sx (w199.heap.size) [obk (A402), some (w231.heap.size), obk (A105), obk (A_299), obk (A154), obk (A156), obk (A_301), obk (A222)]) A220 c221 3 (g.pr : List Int) := ow321.grA g409 (fun _ _ h => by cases h) (fun k hk hs => ⟨(fun e => by have := ow404.ge _ e; omega), hs.1, hs.2.1, hs.2.2.1, hs.2.2.2.1, hs.2.2.2.2.1, hs.2.2.2.2.2.1, hs.2.2.2.2.2.2.1, hs.2.2.2.2.2.2.2⟩)
   clear ow321
   have ow431 : OwnLL w406 (w199.heap.size) [obk (A402), some (w231.heap.size), obk (A105), obk (A_299), obk (A154), obk (A156), obk (A_301), obk (A220)] A222 c223 22 3 (g.mv : List (List Int)) := r322.grA g409 (fun _ _ h => by cases h) (fun k hk hs => ⟨(fun e => by have := ow404.ge _ e; omega), hs.1, hs.2.1, hs.2.2.1, hs.2.2.2.1, hs.2.2.2.2.1, hs.2.2.2.2.2.1, hs.2.2.2.2.2.2.1, hs.2.2.2.2.2.2.2⟩)
   clear r322
   have bx432 := bx323.gr g409 (by simp)
   clear bx323
   have ow433 : OwnR w406 (Sx (w305.heap.size) [obk (A105), obk (A_299), obk (A154), obk (A156), obk (A_301), obk (A220), obk (A222)]) A402 c403 3 (mb : List Int) := ow404.imp (fun g _ hs => ⟨(fun e => by have := lt410 _ e; have := Sx_base hs; omega), (fun e => by have := lt411 _ e; have := Sx_base hs; omega), (fun e => by have := lt412 _ e; have := Sx_base hs; omega), (fun e => by have := lt413 _ e; have := Sx_base hs; omega), (fun e => by have := lt414 _ e; have := Sx_base hs; omega), (fun e => by have := lt415 _ e; have := Sx_base hs; omega), (fun e => by have := lt416 _ e; have := Sx_base hs; omega), hs⟩)
   clear ow404
   clear lt410 lt411 lt412 lt413 lt414 lt415 lt416
   clear g409 he
   refine At.rd f408 3 [[], [], []] [(79, .slice A402 mb.length c403), (78, .agg ((sb : List Int).map wV).toArray), (72, .tuple #[.agg ((sb : List Int).map wV).toArray, .slice A402 mb.length c403])] [] (by kernel_rfl) trivial (fun act435 f434 => ?_)
   clear f408
   refine At.seq f434 1 [[]] [(17, .pointer (some ⟨w406.heap.size, 0, none⟩))] (w406.alloc (.cells ((List.replicate 4 (0 : Int) : List Int).map wV).toArray 28 (0, 0))) [] (by kernel_rfl) trivial (fun act439 w436 hw437 f438 => ?_)
   clear f434
   have g440 := gr_alloc hw437
   have szw436 := g440.size
   have e442 := e417.gr g440 no_row
   clear e417
   have r443 := r418.gr g440 (fun _ h => by cases h)
   clear r418
   have r444 := r419.gr g440 (fun _ h => by cases h)
   clear r419
   have bx445 := bx420.gr g440 (by simp)
   clear bx420
   have bx446 := bx421.gr g440 (by simp)
   clear bx421
   have bx447 := bx422.gr g440 (by simp)
   clear bx422
   have ow448 : OwnR w436 (Sx (w92.heap.size) [some (w406.heap.size), obk (A402), some (w231.heap.size), obk (A_301), obk (A220), obk (A222), some (w165.heap.size), obk (A_299), obk (A154), obk (A156), some (w109.heap.size)]) A105 c106 3 (ma : List Int) := ow423.grA g440 (fun _ _ h => by cases h) (fun k hk hs => ⟨(fun e => by injection e; omega), hs.1, hs.2.1, hs.2.2.1, hs.2.2.2.1, hs.2.2.2.2.1, hs.2.2.2.2.2.1, hs.2.2.2.2.2.2.1, hs.2.2.2.2.2.2.2.1, hs.2.2.2.2.2.2.2.2.1, hs.2.2.2.2.2.2.2.2.2.1, hs.2.2.2.2.2.2.2.2.2.2⟩)
   clear ow423
   have bx449 := bx424.gr g440 (by simp)
   clear bx424
   have ow450 : OwnR w436 (Sx (w135.heap.size) [some (w406.heap.size), obk (A402), some (w231.heap.size), obk (A_301), obk (A220), obk (A222), some (w165.heap.size), obk (A105), obk (A154), obk (A156)]) A_299 c_300 3 (xa : List Int) := ow425.grA g440 (fun _ _ h => by cases h) (fun k hk hs => ⟨(fun e => by injection e; omega), hs.1, hs.2.1, hs.2.2.1, hs.2.2.2.1, hs.2.2.2.2.1, hs.2.2.2.2.2.1, hs.2.2.2.2.2.2.1, hs.2.2.2.2.2.2.2.1, hs.2.2.2.2.2.2.2.2.1, hs.2.2.2.2.2.2.2.2.2⟩)
   clear ow425
   have ow451 : OwnR w436 (Sx (w135.heap.size) [some (w406.heap.size), obk (A402), some (w231.heap.size), obk (A_301), obk (A220), obk (A222), some (w165.heap.size), obk (A105), obk (A_299), obk (A156)]) A154 c155 3 (g.pr : List Int) := ow426.grA g440 (fun _ _ h => by cases h) (fun k hk hs => ⟨(fun e => by injection e; omega), hs.1, hs.2.1, hs.2.2.1, hs.2.2.2.1, hs.2.2.2.2.1, hs.2.2.2.2.2.1, hs.2.2.2.2.2.2.1, hs.2.2.2.2.2.2.2.1, hs.2.2.2.2.2.2.2.2.1, hs.2.2.2.2.2.2.2.2.2⟩)
   clear ow426
   have ow452 : OwnLL w436 (w135.heap.size) [some (w406.heap.size), obk (A402), some (w231.heap.size), obk (A_301), obk (A220), obk (A222), some (w165.heap.size), obk (A105), obk (A_299), obk (A154)] A156 c157 22 3 (g.mv : List (List Int)) := ow427.grA g440 (fun _ _ h => by cases h) (fun k hk hs => ⟨(fun e => by injection e; omega), hs.1, hs.2.1, hs.2.2.1, hs.2.2.2.1, hs.2.2.2.2.1, hs.2.2.2.2.2.1, hs.2.2.2.2.2.2.1, hs.2.2.2.2.2.2.2.1, hs.2.2.2.2.2.2.2.2.1, hs.2.2.2.2.2.2.2.2.2⟩)
   clear ow427
   have bx453 := bx428.gr g440 (by simp)
   clear bx428
   have ow454 : OwnR w436 (Sx (w199.heap.size) [some (w406.heap.size), obk (A402), some (w231.heap.size), obk (A105), obk (A_299), obk (A154), obk (A156), obk (A220), obk (A222)]) A_301 c_302 3 (xb : List Int) := ow429.grA g440 (fun _ _ h => by cases h) (fun k hk hs => ⟨(fun e => by injection e; omega), hs.1, hs.2.1, hs.2.2.1, hs.2.2.2.1, hs.2.2.2.2.1, hs.2.2.2.2.2.1, hs.2.2.2.2.2.2.1, hs.2.2.2.2.2.2.2.1, hs.2.2.2.2.2.2.2.2⟩)
   clear ow429
   have ow455 : OwnR w436 (Sx (w199.heap.size) [some (w406.heap.size), obk (A402), some (w231.heap.size), obk (A105), obk (A_299), obk (A154), obk (A156), obk (A_301), obk (A222)]) A220 c221 3 (g.pr : List Int) := ow430.grA g440 (fun _ _ h => by cases h) (fun k hk hs => ⟨(fun e => by injection e; omega), hs.1, hs.2.1, hs.2.2.1, hs.2.2.2.1, hs.2.2.2.2.1, hs.2.2.2.2.2.1, hs.2.2.2.2.2.2.1, hs.2.2.2.2.2.2.2.1, hs.2.2.2.2.2.2.2.2⟩)
   clear ow430
   have ow456 : OwnLL w436 (w199.heap.size) [some (w406.heap.size), obk (A402), some (w231.heap.size), obk (A105), obk (A_299), obk (A154), obk (A156), obk (A_301), obk (A220)] A222 c223 22 3 (g.mv : List (List Int)) := ow431.grA g440 (fun _ _ h => by cases h) (fun k hk hs => ⟨(fun e => by injection e; omega), hs.1, hs.2.1, hs.2.2.1, hs.2.2.2.1, hs.2.2.2.2.1, hs.2.2.2.2.2.1, hs.2.2.2.2.2.2.1, hs.2.2.2.2.2.2.2.1, hs.2.2.2.2.2.2.2.2⟩)
   clear ow431
   have bx457 := bx432.gr g440 (by simp)
   clear bx432
   have ow458 : OwnR w436 (Sx (w305.heap.size) [some (w406.heap.size), obk (A105), obk (A_299), obk (A154), obk (A156), obk (A_301), obk (A220), obk (A222)]) A402 c403 3 (mb : List Int) := ow433.grA g440 (fun _ _ h => by cases h) (fun k hk hs => ⟨(fun e => by injection e; omega), hs.1, hs.2.1, hs.2.2.1, hs.2.2.2.1, hs.2.2.2.2.1, hs.2.2.2.2.2.1, hs.2.2.2.2.2.2.1, hs.2.2.2.2.2.2.2⟩)
   clear ow433
   have bx459 : Bx w436 (w406.heap.size) ((List.replicate 4 (0 : Int) : List Int).map wV) 28 := Bx.new hw437
   have := bx459.lt
   clear g440 hw437
   refine At.act f438 (storeBlk (t := 28) (b := w406.heap.size) (n := 4) (cs' := ((sb : List Int).map wV)) (by kernel_rfl) (by kernel_rfl) (by simp only [List.length_map, List.length_set, List.length_replicate, List.length_cons, List.length_nil]; first | done | assumption | exact from_len _ | exact of_len _ | exact ofZ_len _ | exact (ofW_ok _).1 | exact (fullW_W _).1 | exact (okW_with (by assumption)).1 | exact (okW_less (by assumption)).1 | exact put_len (from_len _) | exact orD_len _ _ | exact andD_len _ _ | exact minusD_len _ _ | exact fullD_len _ | (refine okLen ?_; (repeat (first | assumption | exact ofW_ok _ | exact fullW_W _ | apply okW_with | apply okW_less | refine okW_orS ?_ ?_ | refine okW_andS ?_ ?_ | refine okW_minusS ?_ ?_)); done) | omega | rfl) oneW_ ((show ((sb : List Int).map wV).length = 4 from (by simp only [List.length_map, List.length_set, List.length_replicate, List.length_cons, List.length_nil]; first | done | assumption | exact from_len _ | exact of_len _ | exact ofZ_len _ | exact (ofW_ok _).1 | exact (fullW_W _).1 | exact (okW_with (by assumption)).1 | exact (okW_less (by assumption)).1 | exact put_len (from_len _) | exact orD_len _ _ | exact andD_len _ _ | exact minusD_len _ _ | exact fullD_len _ | (refine okLen ?_; (repeat (first | assumption | exact ofW_ok _ | exact fullW_W _ | apply okW_with | apply okW_less | refine okW_orS ?_ ?_ | refine okW_andS ?_ ?_ | refine okW_minusS ?_ ?_)); done) | omega | rfl)).trans (show ((List.replicate 4 (0 : Int) : List Int).map wV).length = 4 from (by simp only [List.length_map, List.length_set, List.length_replicate, List.length_cons, List.length_nil]; first | done | assumption | exact from_len _ | exact of_len _ | exact ofZ_len _ | exact (ofW_ok _).1 | exact (fullW_W _).1 | exact (okW_with (by assumption)).1 | exact (okW_less (by assumption)).1 | exact put_len (from_len _) | exact orD_len _ _ | exact andD_len _ _ | exact minusD_len _ _ | exact fullD_len _ | (refine okLen ?_; (repeat (first | assumption | exact ofW_ok _ | exact fullW_W _ | apply okW_with | apply okW_less | refine okW_orS ?_ ?_ | refine okW_andS ?_ ?_ | refine okW_minusS ?_ ?_)); done) | omega | rfl)).symm) bx459) ?_
   rintro d_ v_ w460 ⟨rfl, g461, bx462⟩
   refine ⟨_, rfl, fun act464 f463 => ?_⟩
   clear f438
   have szw460 := g461.size
   have e465 := e442.gr g461 (fun k h => by injection h; omega)
   clear e442
   have r466 := r443.gr g461 (fun k h => by injection h; omega)
   clear r443
   have r467 := r444.gr g461 (fun k h => by injection h; omega)
   clear r444
   have bx468 := bx445.gr g461 (fun h => by injection h; omega)
   clear bx445
   have bx469 := bx446.gr g461 (fun h => by injection h; omega)
   clear bx446
   have bx470 := bx447.gr g461 (fun h => by injection h; omega)
   clear bx447
   have ow471 := ow448.gr g461 (fun k hk => hk.1)
   clear ow448
   have bx472 := bx449.gr g461 (fun h => by injection h; omega)
   clear bx449
   have ow473 := ow450.gr g461 (fun k hk => hk.1)
   clear ow450
   have ow474 := ow451.gr g461 (fun k hk => hk.1)
   clear ow451
   have ow475 := ow452.gr g461 (fun k hk => hk.1)
   clear ow452
   have bx476 := bx453.gr g461 (fun h => by injection h; omega)
   clear bx453
   have ow477 := ow454.gr g461 (fun k hk => hk.1)
   clear ow454
   have ow478 := ow455.gr g461 (fun k hk => hk.1)
   clear ow455
   have ow479 := ow456.gr g461 (fun k hk => hk.1)
   clear ow456
   have bx480 := bx457.gr g461 (fun h => by injection h; omega)
   clear bx457
   have ow481 := ow458.gr g461 (fun k hk => hk.1)
   clear ow458
   clear bx459 g461
   refine At.rd f463 1 [[]] [(18, .slice A402 mb.length c403)] [] (by kernel_rfl) trivial (fun act483 f482 => ?_)
   clear f463
   refine At.done rfl ?_
   refine t_n ?_
   have f484 := f482.sub (r := [(17, .pointer (some ⟨w406.heap.size, 0, none⟩)), (15, .pointer (some ⟨w231.heap.size, 0, none⟩)), (12, .pointer (some ⟨w109.heap.size, 0, none⟩)), (7, .pointer (some ⟨w11.heap.size, 0, none⟩)), (5, .pointer (some ⟨w1.heap.size, 0, none⟩)), (2, .int .i64 (p))]) ⟨rfl, rfl, rfl, rfl, rfl, rfl, trivial⟩
   clear f482
   refine wp_seq ?_
   refine At.start ?_
   refine At.rd f484 4 [[.ld (.slice A_301 xb.length c_302), .ld (.slice A220 g.pr.length c221), .ld (.slice A222 g.mv.length c223)], [.cs ((s : List Int).map wV)], [], [.cs ((t : List Int).map wV)]] [(84, .agg ((t : List Int).map wV).toArray), (83, .int .i64 (p)), (82, .agg ((s : List Int).map wV).toArray), (81, .agg #[.slice A_301 xb.length c_302, .slice A220 g.pr.length c221, .slice A222 g.mv.length c223])] [(w460.cell? ⟨w231.heap.size, 0, none⟩ = some (.slice A_301 xb.length c_302)), (w460.cell? ⟨w231.heap.size, 1, none⟩ = some (.slice A220 g.pr.length c221)), (w460.cell? ⟨w231.heap.size, 2, none⟩ = some (.slice A222 g.mv.length c223)), (((s : List Int).map wV).length = 4), (∀ (j : Nat) (v : Value), ((s : List Int).map wV)[j]? = some v → w460.cell? ((⟨w1.heap.size, 0, none⟩ : Addr).add j) = some v), (((t : List Int).map wV).length = 4), (∀ (j : Nat) (v : Value), ((t : List Int).map wV)[j]? = some v → w460.cell? ((⟨w11.heap.size, 0, none⟩ : Addr).add j) = some v)] (by kernel_rfl) ⟨(bx480.cell (i := 0) rfl), (bx480.cell (i := 1) rfl), (bx480.cell (i := 2) rfl), (by simp only [List.length_map, List.length_set, List.length_replicate, List.length_cons, List.length_nil]; first | done | assumption | exact from_len _ | exact of_len _ | exact ofZ_len _ | exact (ofW_ok _).1 | exact (fullW_W _).1 | exact (okW_with (by assumption)).1 | exact (okW_less (by assumption)).1 | exact put_len (from_len _) | exact orD_len _ _ | exact andD_len _ _ | exact minusD_len _ _ | exact fullD_len _ | (refine okLen ?_; (repeat (first | assumption | exact ofW_ok _ | exact fullW_W _ | apply okW_with | apply okW_less | refine okW_orS ?_ ?_ | refine okW_andS ?_ ?_ | refine okW_minusS ?_ ?_)); done) | omega | rfl), bx469.whole, (by simp only [List.length_map, List.length_set, List.length_replicate, List.length_cons, List.length_nil]; first | done | assumption | exact from_len _ | exact of_len _ | exact ofZ_len _ | exact (ofW_ok _).1 | exact (fullW_W _).1 | exact (okW_with (by assumption)).1 | exact (okW_less (by assumption)).1 | exact put_len (from_len _) | exact orD_len _ _ | exact andD_len _ _ | exact minusD_len _ _ | exact fullD_len _ | (refine okLen ?_; (repeat (first | assumption | exact ofW_ok _ | exact fullW_W _ | apply okW_with | apply okW_less | refine okW_orS ?_ ?_ | refine okW_andS ?_ ?_ | refine okW_minusS ?_ ?_)); done) | omega | rfl), bx470.whole, trivial⟩ (fun act486 f485 => ?_)
   clear f484
   refine At.call f485 12 #[.agg #[.slice A_301 xb.length c_302, .slice A220 g.pr.length c221, .slice A222 g.mv.length c223], .agg ((s : List Int).map wV).toArray, .int .i64 (p), .agg ((t : List Int).map wV).toArray] (some 85) (by kernel_rfl) (attract_any (g := (⟨xb, g.pr, g.mv⟩ : GameL)) (s := s) (t := t) (p := p) (RdG.mk (G := (⟨xb, g.pr, g.mv⟩ : GameL)) (ow477.rdI0 (by first | omega | (simp only [List.length_cons, List.length_nil]; omega) | (simp; done) | (simp; omega))) (ow478.rdI0 (by first | omega | (simp only [List.length_cons, List.length_nil]; omega) | (simp; done) | (simp; omega))) (ow479.rdII0 (by first | omega | (simp only [List.length_cons, List.length_nil]; omega) | (simp; done) | (simp; omega)) hip230) ow477.cap ow478.cap ow479.cap) (by repeat (first | assumption | exact ofW_ok _ | exact fullW_W _ | exact wordsD_W _ | exact okW_0 | exact okW_00 | apply okW_orS | apply okW_andS | apply okW_minusS | apply okW_with | apply okW_less | apply okW_or | apply okW_and | apply okW_minus | (apply okW_lit <;> exact ⟨by omega, by omega⟩))) (by repeat (first | assumption | exact ofW_ok _ | exact fullW_W _ | exact wordsD_W _ | exact okW_0 | exact okW_00 | apply okW_orS | apply okW_andS | apply okW_minusS | apply okW_with | apply okW_less | apply okW_or | apply okW_and | apply okW_minus | (apply okW_lit <;> exact ⟨by omega, by omega⟩))) (r467.wide (Nat.zero_le _) (by omega))) ?_
   rintro e_ w491 ⟨A487, c488, sc, mc, rfl, he, ow489, hC⟩
   have hok_sc := att_ok hC
   have hl_sc := okLen hok_sc
   have hlm_mc := att_len hC
   refine ⟨_, rfl, _, rfl, fun act492 f493 => ?_⟩
   clear f485
   have g494 := gr_ext he
   have lt495 := ow471.lt
   have lt496 := ow473.lt
   have lt497 := ow474.lt
   have lt498 := ow475.lt
   have lt499 := ow477.lt
   have lt500 := ow478.lt
   have lt501 := ow479.lt
   have lt502 := ow481.lt
   have szw491 := g494.size
   have e503 := e465.gr g494 no_row
   clear e465
   have r504 := r466.gr g494 (fun _ h => by cases h)
   clear r466
   have r505 := r467.gr g494 (fun _ h => by cases h)
   clear r467
   have bx506 := bx468.gr g494 (by simp)
   clear bx468
   have bx507 := bx469.gr g494 (by simp)
   clear bx469
   have bx508 := bx470.gr g494 (by simp)
   clear bx470
   have ow509 : OwnR w491 (Sx (w92.heap.size) [obk (A487), some (w406.heap.size), obk (A402), some (w231.heap.size), obk (A_301), obk (A220), obk (A222), some (w165.heap.size), obk (A_299), obk (A154), obk (A156), some (w109.heap.size)]) A105 c106 3 (ma : List Int) := ow471.grA g494 (fun _ _ h => by cases h) (fun k hk hs => ⟨(fun e => by have := ow489.ge _ e; omega), hs.1, hs.2.1, hs.2.2.1, hs.2.2.2.1, hs.2.2.2.2.1, hs.2.2.2.2.2.1, hs.2.2.2.2.2.2.1, hs.2.2.2.2.2.2.2.1, hs.2.2.2.2.2.2.2.2.1, hs.2.2.2.2.2.2.2.2.2.1, hs.2.2.2.2.2.2.2.2.2.2.1, hs.2.2.2.2.2.2.2.2.2.2.2⟩)
   clear ow471
   have bx510 := bx472.gr g494 (by simp)
   clear bx472
   have ow511 : OwnR w491 (Sx (w135.heap.size) [obk (A487), some (w406.heap.size), obk (A402), some (w231.heap.size), obk (A_301), obk (A220), obk (A222), some (w165.heap.size), obk (A105), obk (A154), obk (A156)]) A_299 c_300 3 (xa : List Int) := ow473.grA g494 (fun _ _ h => by cases h) (fun k hk hs => ⟨(fun e => by have := ow489.ge _ e; omega), hs.1, hs.2.1, hs.2.2.1, hs.2.2.2.1, hs.2.2.2.2.1, hs.2.2.2.2.2.1, hs.2.2.2.2.2.2.1, hs.2.2.2.2.2.2.2.1, hs.2.2.2.2.2.2.2.2.1, hs.2.2.2.2.2.2.2.2.2.1, hs.2.2.2.2.2.2.2.2.2.2⟩)
   clear ow473
   have ow512 : OwnR w491 (Sx (w135.heap.size) [obk (A487), some (w406.heap.size), obk (A402), some (w231.heap.size), obk (A_301), obk (A220), obk (A222), some (w165.heap.size), obk (A105), obk (A_299), obk (A156)]) A154 c155 3 (g.pr : List Int) := ow474.grA g494 (fun _ _ h => by cases h) (fun k hk hs => ⟨(fun e => by have := ow489.ge _ e; omega), hs.1, hs.2.1, hs.2.2.1, hs.2.2.2.1, hs.2.2.2.2.1, hs.2.2.2.2.2.1, hs.2.2.2.2.2.2.1, hs.2.2.2.2.2.2.2.1, hs.2.2.2.2.2.2.2.2.1, hs.2.2.2.2.2.2.2.2.2.1, hs.2.2.2.2.2.2.2.2.2.2⟩)
   clear ow474
   have ow513 : OwnLL w491 (w135.heap.size) [obk (A487), some (w406.heap.size), obk (A402), some (w231.heap.size), obk (A_301), obk (A220), obk (A222), some (w165.heap.size), obk (A105), obk (A_299), obk (A154)] A156 c157 22 3 (g.mv : List (List Int)) := ow475.grA g494 (fun _ _ h => by cases h) (fun k hk hs => ⟨(fun e => by have := ow489.ge _ e; omega), hs.1, hs.2.1, hs.2.2.1, hs.2.2.2.1, hs.2.2.2.2.1, hs.2.2.2.2.2.1, hs.2.2.2.2.2.2.1, hs.2.2.2.2.2.2.2.1, hs.2.2.2.2.2.2.2.2.1, hs.2.2.2.2.2.2.2.2.2.1, hs.2.2.2.2.2.2.2.2.2.2⟩)
   clear ow475
   have bx514 := bx476.gr g494 (by simp)
   clear bx476
   have ow515 : OwnR w491 (Sx (w199.heap.size) [obk (A487), some (w406.heap.size), obk (A402), some (w231.heap.size), obk (A105), obk (A_299), obk (A154), obk (A156), obk (A220), obk (A222)]) A_301 c_302 3 (xb : List Int) := ow477.grA g494 (fun _ _ h => by cases h) (fun k hk hs => ⟨(fun e => by have := ow489.ge _ e; omega), hs.1, hs.2.1, hs.2.2.1, hs.2.2.2.1, hs.2.2.2.2.1, hs.2.2.2.2.2.1, hs.2.2.2.2.2.2.1, hs.2.2.2.2.2.2.2.1, hs.2.2.2.2.2.2.2.2.1, hs.2.2.2.2.2.2.2.2.2⟩)
   clear ow477
   have ow516 : OwnR w491 (Sx (w199.heap.size) [obk (A487), some (w406.heap.size), obk (A402), some (w231.heap.size), obk (A105), obk (A_299), obk (A154), obk (A156), obk (A_301), obk (A222)]) A220 c221 3 (g.pr : List Int) := ow478.grA g494 (fun _ _ h => by cases h) (fun k hk hs => ⟨(fun e => by have := ow489.ge _ e; omega), hs.1, hs.2.1, hs.2.2.1, hs.2.2.2.1, hs.2.2.2.2.1, hs.2.2.2.2.2.1, hs.2.2.2.2.2.2.1, hs.2.2.2.2.2.2.2.1, hs.2.2.2.2.2.2.2.2.1, hs.2.2.2.2.2.2.2.2.2⟩)
   clear ow478
   have ow517 : OwnLL w491 (w199.heap.size) [obk (A487), some (w406.heap.size), obk (A402), some (w231.heap.size), obk (A105), obk (A_299), obk (A154), obk (A156), obk (A_301), obk (A220)] A222 c223 22 3 (g.mv : List (List Int)) := ow479.grA g494 (fun _ _ h => by cases h) (fun k hk hs => ⟨(fun e => by have := ow489.ge _ e; omega), hs.1, hs.2.1, hs.2.2.1, hs.2.2.2.1, hs.2.2.2.2.1, hs.2.2.2.2.2.1, hs.2.2.2.2.2.2.1, hs.2.2.2.2.2.2.2.1, hs.2.2.2.2.2.2.2.2.1, hs.2.2.2.2.2.2.2.2.2⟩)
   clear ow479
   have bx518 := bx480.gr g494 (by simp)
   clear bx480
   have ow519 : OwnR w491 (Sx (w305.heap.size) [obk (A487), some (w406.heap.size), obk (A105), obk (A_299), obk (A154), obk (A156), obk (A_301), obk (A220), obk (A222)]) A402 c403 3 (mb : List Int) := ow481.grA g494 (fun _ _ h => by cases h) (fun k hk hs => ⟨(fun e => by have := ow489.ge _ e; omega), hs.1, hs.2.1, hs.2.2.1, hs.2.2.2.1, hs.2.2.2.2.1, hs.2.2.2.2.2.1, hs.2.2.2.2.2.2.1, hs.2.2.2.2.2.2.2.1, hs.2.2.2.2.2.2.2.2⟩)
   clear ow481
   have bx520 := bx462.gr g494 (by simp)
   clear bx462
   have ow521 : OwnR w491 (Sx (w460.heap.size) [obk (A105), obk (A_299), obk (A154), obk (A156), obk (A_301), obk (A220), obk (A222), obk (A402)]) A487 c488 3 (mc : List Int) := ow489.imp (fun g _ hs => ⟨(fun e => by have := lt495 _ e; have := Sx_base hs; omega), (fun e => by have := lt496 _ e; have := Sx_base hs; omega), (fun e => by have := lt497 _ e; have := Sx_base hs; omega), (fun e => by have := lt498 _ e; have := Sx_base hs; omega), (fun e => by have := lt499 _ e; have := Sx_base hs; omega), (fun e => by have := lt500 _ e; have := Sx_base hs; omega), (fun e => by have := lt501 _ e; have := Sx_base hs; omega), (fun e => by have := lt502 _ e; have := Sx_base hs; omega), hs⟩)
   clear ow489
   clear lt495 lt496 lt497 lt498 lt499 lt500 lt501 lt502
   clear g494 he
   refine At.rd f493 3 [[], [], []] [(87, .slice A487 mc.length c488), (86, .agg ((sc : List Int).map wV).toArray), (80, .tuple #[.agg ((sc : List Int).map wV).toArray, .slice A487 mc.length c488])] [] (by kernel_rfl) trivial (fun act523 f522 => ?_)
   clear f493
   refine At.seq f522 1 [[]] [(19, .pointer (some ⟨w491.heap.size, 0, none⟩))] (w491.alloc (.cells ((List.replicate 4 (0 : Int) : List Int).map wV).toArray 28 (0, 0))) [] (by kernel_rfl) trivial (fun act527 w524 hw525 f526 => ?_)
   clear f522
   have g528 := gr_alloc hw525
   have szw524 := g528.size
   have e530 := e503.gr g528 no_row
   clear e503
   have r531 := r504.gr g528 (fun _ h => by cases h)
   clear r504
   have r532 := r505.gr g528 (fun _ h => by cases h)
   clear r505
   have bx533 := bx506.gr g528 (by simp)
   clear bx506
   have bx534 := bx507.gr g528 (by simp)
   clear bx507
   have bx535 := bx508.gr g528 (by simp)
   clear bx508
   have ow536 : OwnR w524 (Sx (w92.heap.size) [some (w491.heap.size), obk (A487), some (w406.heap.size), obk (A402), some (w231.heap.size), obk (A_301), obk (A220), obk (A222), some (w165.heap.size), obk (A_299), obk (A154), obk (A156), some (w109.heap.size)]) A105 c106 3 (ma : List Int) := ow509.grA g528 (fun _ _ h => by cases h) (fun k hk hs => ⟨(fun e => by injection e; omega), hs.1, hs.2.1, hs.2.2.1, hs.2.2.2.1, hs.2.2.2.2.1, hs.2.2.2.2.2.1, hs.2.2.2.2.2.2.1, hs.2.2.2.2.2.2.2.1, hs.2.2.2.2.2.2.2.2.1, hs.2.2.2.2.2.2.2.2.2.1, hs.2.2.2.2.2.2.2.2.2.2.1, hs.2.2.2.2.2.2.2.2.2.2.2.1, hs.2.2.2.2.2.2.2.2.2.2.2.2⟩)
   clear ow509
   have bx537 := bx510.gr g528 (by simp)
   clear bx510
   have ow538 : OwnR w524 (Sx (w135.heap.size) [some (w491.heap.size), obk (A487), some (w406.heap.size), obk (A402), some (w231.heap.size), obk (A_301), obk (A220), obk (A222), some (w165.heap.size), obk (A105), obk (A154), obk (A156)]) A_299 c_300 3 (xa : List Int) := ow511.grA g528 (fun _ _ h => by cases h) (fun k hk hs => ⟨(fun e => by injection e; omega), hs.1, hs.2.1, hs.2.2.1, hs.2.2.2.1, hs.2.2.2.2.1, hs.2.2.2.2.2.1, hs.2.2.2.2.2.2.1, hs.2.2.2.2.2.2.2.1, hs.2.2.2.2.2.2.2.2.1, hs.2.2.2.2.2.2.2.2.2.1, hs.2.2.2.2.2.2.2.2.2.2.1, hs.2.2.2.2.2.2.2.2.2.2.2⟩)
   clear ow511
   have ow539 : OwnR w524 (Sx (w135.heap.size) [some (w491.heap.size), obk (A487), some (w406.heap.size), obk (A402), some (w231.heap.size), obk (A_301), obk (A220), obk (A222), some (w165.heap.size), obk (A105), obk (A_299), obk (A156)]) A154 c155 3 (g.pr : List Int) := ow512.grA g528 (fun _ _ h => by cases h) (fun k hk hs => ⟨(fun e => by injection e; omega), hs.1, hs.2.1, hs.2.2.1, hs.2.2.2.1, hs.2.2.2.2.1, hs.2.2.2.2.2.1, hs.2.2.2.2.2.2.1, hs.2.2.2.2.2.2.2.1, hs.2.2.2.2.2.2.2.2.1, hs.2.2.2.2.2.2.2.2.2.1, hs.2.2.2.2.2.2.2.2.2.2.1, hs.2.2.2.2.2.2.2.2.2.2.2⟩)
   clear ow512
   have ow540 : OwnLL w524 (w135.heap.size) [some (w491.heap.size), obk (A487), some (w406.heap.size), obk (A402), some (w231.heap.size), obk (A_301), obk (A220), obk (A222), some (w165.heap.size), obk (A105), obk (A_299), obk (A154)] A156 c157 22 3 (g.mv : List (List Int)) := ow513.grA g528 (fun _ _ h => by cases h) (fun k hk hs => ⟨(fun e => by injection e; omega), hs.1, hs.2.1, hs.2.2.1, hs.2.2.2.1, hs.2.2.2.2.1, hs.2.2.2.2.2.1, hs.2.2.2.2.2.2.1, hs.2.2.2.2.2.2.2.1, hs.2.2.2.2.2.2.2.2.1, hs.2.2.2.2.2.2.2.2.2.1, hs.2.2.2.2.2.2.2.2.2.2.1, hs.2.2.2.2.2.2.2.2.2.2.2⟩)
   clear ow513
   have bx541 := bx514.gr g528 (by simp)
   clear bx514
   have ow542 : OwnR w524 (Sx (w199.heap.size) [some (w491.heap.size), obk (A487), some (w406.heap.size), obk (A402), some (w231.heap.size), obk (A105), obk (A_299), obk (A154), obk (A156), obk (A220), obk (A222)]) A_301 c_302 3 (xb : List Int) := ow515.grA g528 (fun _ _ h => by cases h) (fun k hk hs => ⟨(fun e => by injection e; omega), hs.1, hs.2.1, hs.2.2.1, hs.2.2.2.1, hs.2.2.2.2.1, hs.2.2.2.2.2.1, hs.2.2.2.2.2.2.1, hs.2.2.2.2.2.2.2.1, hs.2.2.2.2.2.2.2.2.1, hs.2.2.2.2.2.2.2.2.2.1, hs.2.2.2.2.2.2.2.2.2.2⟩)
   clear ow515
   have ow543 : OwnR w524 (Sx (w199.heap.size) [some (w491.heap.size), obk (A487), some (w406.heap.size), obk (A402), some (w231.heap.size), obk (A105), obk (A_299), obk (A154), obk (A156), obk (A_301), obk (A222)]) A220 c221 3 (g.pr : List Int) := ow516.grA g528 (fun _ _ h => by cases h) (fun k hk hs => ⟨(fun e => by injection e; omega), hs.1, hs.2.1, hs.2.2.1, hs.2.2.2.1, hs.2.2.2.2.1, hs.2.2.2.2.2.1, hs.2.2.2.2.2.2.1, hs.2.2.2.2.2.2.2.1, hs.2.2.2.2.2.2.2.2.1, hs.2.2.2.2.2.2.2.2.2.1, hs.2.2.2.2.2.2.2.2.2.2⟩)
   clear ow516
   have ow544 : OwnLL w524 (w199.heap.size) [some (w491.heap.size), obk (A487), some (w406.heap.size), obk (A402), some (w231.heap.size), obk (A105), obk (A_299), obk (A154), obk (A156), obk (A_301), obk (A220)] A222 c223 22 3 (g.mv : List (List Int)) := ow517.grA g528 (fun _ _ h => by cases h) (fun k hk hs => ⟨(fun e => by injection e; omega), hs.1, hs.2.1, hs.2.2.1, hs.2.2.2.1, hs.2.2.2.2.1, hs.2.2.2.2.2.1, hs.2.2.2.2.2.2.1, hs.2.2.2.2.2.2.2.1, hs.2.2.2.2.2.2.2.2.1, hs.2.2.2.2.2.2.2.2.2.1, hs.2.2.2.2.2.2.2.2.2.2⟩)
   clear ow517
   have bx545 := bx518.gr g528 (by simp)
   clear bx518
   have ow546 : OwnR w524 (Sx (w305.heap.size) [some (w491.heap.size), obk (A487), some (w406.heap.size), obk (A105), obk (A_299), obk (A154), obk (A156), obk (A_301), obk (A220), obk (A222)]) A402 c403 3 (mb : List Int) := ow519.grA g528 (fun _ _ h => by cases h) (fun k hk hs => ⟨(fun e => by injection e; omega), hs.1, hs.2.1, hs.2.2.1, hs.2.2.2.1, hs.2.2.2.2.1, hs.2.2.2.2.2.1, hs.2.2.2.2.2.2.1, hs.2.2.2.2.2.2.2.1, hs.2.2.2.2.2.2.2.2.1, hs.2.2.2.2.2.2.2.2.2⟩)
   clear ow519
   have bx547 := bx520.gr g528 (by simp)
   clear bx520
   have ow548 : OwnR w524 (Sx (w460.heap.size) [some (w491.heap.size), obk (A105), obk (A_299), obk (A154), obk (A156), obk (A_301), obk (A220), obk (A222), obk (A402)]) A487 c488 3 (mc : List Int) := ow521.grA g528 (fun _ _ h => by cases h) (fun k hk hs => ⟨(fun e => by injection e; omega), hs.1, hs.2.1, hs.2.2.1, hs.2.2.2.1, hs.2.2.2.2.1, hs.2.2.2.2.2.1, hs.2.2.2.2.2.2.1, hs.2.2.2.2.2.2.2.1, hs.2.2.2.2.2.2.2.2⟩)
   clear ow521
   have bx549 : Bx w524 (w491.heap.size) ((List.replicate 4 (0 : Int) : List Int).map wV) 28 := Bx.new hw525
   have := bx549.lt
   clear g528 hw525
   refine At.act f526 (storeBlk (t := 28) (b := w491.heap.size) (n := 4) (cs' := ((sc : List Int).map wV)) (by kernel_rfl) (by kernel_rfl) (by simp only [List.length_map, List.length_set, List.length_replicate, List.length_cons, List.length_nil]; first | done | assumption | exact from_len _ | exact of_len _ | exact ofZ_len _ | exact (ofW_ok _).1 | exact (fullW_W _).1 | exact (okW_with (by assumption)).1 | exact (okW_less (by assumption)).1 | exact put_len (from_len _) | exact orD_len _ _ | exact andD_len _ _ | exact minusD_len _ _ | exact fullD_len _ | (refine okLen ?_; (repeat (first | assumption | exact ofW_ok _ | exact fullW_W _ | apply okW_with | apply okW_less | refine okW_orS ?_ ?_ | refine okW_andS ?_ ?_ | refine okW_minusS ?_ ?_)); done) | omega | rfl) oneW_ ((show ((sc : List Int).map wV).length = 4 from (by simp only [List.length_map, List.length_set, List.length_replicate, List.length_cons, List.length_nil]; first | done | assumption | exact from_len _ | exact of_len _ | exact ofZ_len _ | exact (ofW_ok _).1 | exact (fullW_W _).1 | exact (okW_with (by assumption)).1 | exact (okW_less (by assumption)).1 | exact put_len (from_len _) | exact orD_len _ _ | exact andD_len _ _ | exact minusD_len _ _ | exact fullD_len _ | (refine okLen ?_; (repeat (first | assumption | exact ofW_ok _ | exact fullW_W _ | apply okW_with | apply okW_less | refine okW_orS ?_ ?_ | refine okW_andS ?_ ?_ | refine okW_minusS ?_ ?_)); done) | omega | rfl)).trans (show ((List.replicate 4 (0 : Int) : List Int).map wV).length = 4 from (by simp only [List.length_map, List.length_set, List.length_replicate, List.length_cons, List.length_nil]; first | done | assumption | exact from_len _ | exact of_len _ | exact ofZ_len _ | exact (ofW_ok _).1 | exact (fullW_W _).1 | exact (okW_with (by assumption)).1 | exact (okW_less (by assumption)).1 | exact put_len (from_len _) | exact orD_len _ _ | exact andD_len _ _ | exact minusD_len _ _ | exact fullD_len _ | (refine okLen ?_; (repeat (first | assumption | exact ofW_ok _ | exact fullW_W _ | apply okW_with | apply okW_less | refine okW_orS ?_ ?_ | refine okW_andS ?_ ?_ | refine okW_minusS ?_ ?_)); done) | omega | rfl)).symm) bx549) ?_
   rintro d_ v_ w550 ⟨rfl, g551, bx552⟩
   refine ⟨_, rfl, fun act554 f553 => ?_⟩
   clear f526
   have szw550 := g551.size
   have e555 := e530.gr g551 (fun k h => by injection h; omega)
   clear e530
   have r556 := r531.gr g551 (fun k h => by injection h; omega)
   clear r531
   have r557 := r532.gr g551 (fun k h => by injection h; omega)
   clear r532
   have bx558 := bx533.gr g551 (fun h => by injection h; omega)
   clear bx533
   have bx559 := bx534.gr g551 (fun h => by injection h; omega)
   clear bx534
   have bx560 := bx535.gr g551 (fun h => by injection h; omega)
   clear bx535
   have ow561 := ow536.gr g551 (fun k hk => hk.1)
   clear ow536
   have bx562 := bx537.gr g551 (fun h => by injection h; omega)
   clear bx537
   have ow563 := ow538.gr g551 (fun k hk => hk.1)
   clear ow538
   have ow564 := ow539.gr g551 (fun k hk => hk.1)
   clear ow539
   have ow565 := ow540.gr g551 (fun k hk => hk.1)
   clear ow540
   have bx566 := bx541.gr g551 (fun h => by injection h; omega)
   clear bx541
   have ow567 := ow542.gr g551 (fun k hk => hk.1)
   clear ow542
   have ow568 := ow543.gr g551 (fun k hk => hk.1)
   clear ow543
   have ow569 := ow544.gr g551 (fun k hk => hk.1)
   clear ow544
   have bx570 := bx545.gr g551 (fun h => by injection h; omega)
   clear bx545
   have ow571 := ow546.gr g551 (fun k hk => hk.1)
   clear ow546
   have bx572 := bx547.gr g551 (fun h => by injection h; omega)
   clear bx547
   have ow573 := ow548.gr g551 (fun k hk => hk.1)
   clear ow548
   clear bx549 g551
   refine At.rd f553 1 [[]] [(20, .slice A487 mc.length c488)] [] (by kernel_rfl) trivial (fun act575 f574 => ?_)
   clear f553
   refine At.done rfl ?_
   refine t_n ?_
   have f576 := f574.sub (r := [(19, .pointer (some ⟨w491.heap.size, 0, none⟩)), (17, .pointer (some ⟨w406.heap.size, 0, none⟩)), (12, .pointer (some ⟨w109.heap.size, 0, none⟩))]) ⟨rfl, rfl, rfl, trivial⟩
   clear f574
   refine wp_seq ?_
   refine At.start ?_
   refine At.rd f576 2 [[.cs ((sc : List Int).map wV)], [.cs ((sa : List Int).map wV)]] [(89, .agg ((sa : List Int).map wV).toArray), (88, .agg ((sc : List Int).map wV).toArray)] [(((sc : List Int).map wV).length = 4), (∀ (j : Nat) (v : Value), ((sc : List Int).map wV)[j]? = some v → w550.cell? ((⟨w491.heap.size, 0, none⟩ : Addr).add j) = some v), (((sa : List Int).map wV).length = 4), (∀ (j : Nat) (v : Value), ((sa : List Int).map wV)[j]? = some v → w550.cell? ((⟨w109.heap.size, 0, none⟩ : Addr).add j) = some v)] (by kernel_rfl) ⟨(by simp only [List.length_map, List.length_set, List.length_replicate, List.length_cons, List.length_nil]; first | done | assumption | exact from_len _ | exact of_len _ | exact ofZ_len _ | exact (ofW_ok _).1 | exact (fullW_W _).1 | exact (okW_with (by assumption)).1 | exact (okW_less (by assumption)).1 | exact put_len (from_len _) | exact orD_len _ _ | exact andD_len _ _ | exact minusD_len _ _ | exact fullD_len _ | (refine okLen ?_; (repeat (first | assumption | exact ofW_ok _ | exact fullW_W _ | apply okW_with | apply okW_less | refine okW_orS ?_ ?_ | refine okW_andS ?_ ?_ | refine okW_minusS ?_ ?_)); done) | omega | rfl), bx552.whole, (by simp only [List.length_map, List.length_set, List.length_replicate, List.length_cons, List.length_nil]; first | done | assumption | exact from_len _ | exact of_len _ | exact ofZ_len _ | exact (ofW_ok _).1 | exact (fullW_W _).1 | exact (okW_with (by assumption)).1 | exact (okW_less (by assumption)).1 | exact put_len (from_len _) | exact orD_len _ _ | exact andD_len _ _ | exact minusD_len _ _ | exact fullD_len _ | (refine okLen ?_; (repeat (first | assumption | exact ofW_ok _ | exact fullW_W _ | apply okW_with | apply okW_less | refine okW_orS ?_ ?_ | refine okW_andS ?_ ?_ | refine okW_minusS ?_ ?_)); done) | omega | rfl), bx562.whole, trivial⟩ (fun act578 f577 => ?_)
   clear f576
   refine At.call f577 21 #[.agg ((sc : List Int).map wV).toArray, .agg ((sa : List Int).map wV).toArray] (some 90) (by kernel_rfl) ((in_any (s := sc) (t := sa) (by repeat (first | assumption | exact ofW_ok _ | exact fullW_W _ | exact wordsD_W _ | exact okW_0 | exact okW_00 | apply okW_orS | apply okW_andS | apply okW_minusS | apply okW_with | apply okW_less | apply okW_or | apply okW_and | apply okW_minus | (apply okW_lit <;> exact ⟨by omega, by omega⟩))) (by repeat (first | assumption | exact ofW_ok _ | exact fullW_W _ | exact wordsD_W _ | exact okW_0 | exact okW_00 | apply okW_orS | apply okW_andS | apply okW_minusS | apply okW_with | apply okW_less | apply okW_or | apply okW_and | apply okW_minus | (apply okW_lit <;> exact ⟨by omega, by omega⟩)))).mono (R' := fun e w' => e = .returned (.bool true) ∧ Ext _ w') (fun e_ w_ h_ => by rw [show (inW sc sa : Bool) = true from own12_c hR hp01 hA (by assumption) hxbE hC] at h_; exact h_)) ?_
   rintro e_ w579 ⟨rfl, he⟩
   refine ⟨_, rfl, _, rfl, fun act580 f581 => ?_⟩
   clear f577
   have g582 := gr_ext he
   have szw579 := g582.size
   have e583 := e555.gr g582 no_row
   clear e555
   have r584 := r556.gr g582 (fun _ h => by cases h)
   clear r556
   have r585 := r557.gr g582 (fun _ h => by cases h)
   clear r557
   have bx586 := bx558.gr g582 (by simp)
   clear bx558
   have bx587 := bx559.gr g582 (by simp)
   clear bx559
   have bx588 := bx560.gr g582 (by simp)
   clear bx560
   have ow589 := ow561.gr g582 (fun _ _ h => by cases h)
   clear ow561
   have bx590 := bx562.gr g582 (by simp)
   clear bx562
   have ow591 := ow563.gr g582 (fun _ _ h => by cases h)
   clear ow563
   have ow592 := ow564.gr g582 (fun _ _ h => by cases h)
   clear ow564
   have ow593 := ow565.gr g582 (fun _ _ h => by cases h)
   clear ow565
   have bx594 := bx566.gr g582 (by simp)
   clear bx566
   have ow595 := ow567.gr g582 (fun _ _ h => by cases h)
   clear ow567
   have ow596 := ow568.gr g582 (fun _ _ h => by cases h)
   clear ow568
   have ow597 := ow569.gr g582 (fun _ _ h => by cases h)
   clear ow569
   have bx598 := bx570.gr g582 (by simp)
   clear bx570
   have ow599 := ow571.gr g582 (fun _ _ h => by cases h)
   clear ow571
   have bx600 := bx572.gr g582 (by simp)
   clear bx572
   have ow601 := ow573.gr g582 (fun _ _ h => by cases h)
   clear ow573
   have bx602 := bx552.gr g582 (by simp)
   clear bx552
   clear g582 he
   refine At.rd f581 3 [[], [.cs ((sa : List Int).map wV)], [.cs ((sb : List Int).map wV)]] [(93, .agg ((sb : List Int).map wV).toArray), (92, .agg ((sa : List Int).map wV).toArray), (91, .bool true)] [(((sa : List Int).map wV).length = 4), (∀ (j : Nat) (v : Value), ((sa : List Int).map wV)[j]? = some v → w579.cell? ((⟨w109.heap.size, 0, none⟩ : Addr).add j) = some v), (((sb : List Int).map wV).length = 4), (∀ (j : Nat) (v : Value), ((sb : List Int).map wV)[j]? = some v → w579.cell? ((⟨w406.heap.size, 0, none⟩ : Addr).add j) = some v)] (by kernel_rfl) ⟨(by simp only [List.length_map, List.length_set, List.length_replicate, List.length_cons, List.length_nil]; first | done | assumption | exact from_len _ | exact of_len _ | exact ofZ_len _ | exact (ofW_ok _).1 | exact (fullW_W _).1 | exact (okW_with (by assumption)).1 | exact (okW_less (by assumption)).1 | exact put_len (from_len _) | exact orD_len _ _ | exact andD_len _ _ | exact minusD_len _ _ | exact fullD_len _ | (refine okLen ?_; (repeat (first | assumption | exact ofW_ok _ | exact fullW_W _ | apply okW_with | apply okW_less | refine okW_orS ?_ ?_ | refine okW_andS ?_ ?_ | refine okW_minusS ?_ ?_)); done) | omega | rfl), bx590.whole, (by simp only [List.length_map, List.length_set, List.length_replicate, List.length_cons, List.length_nil]; first | done | assumption | exact from_len _ | exact of_len _ | exact ofZ_len _ | exact (ofW_ok _).1 | exact (fullW_W _).1 | exact (okW_with (by assumption)).1 | exact (okW_less (by assumption)).1 | exact put_len (from_len _) | exact orD_len _ _ | exact andD_len _ _ | exact minusD_len _ _ | exact fullD_len _ | (refine okLen ?_; (repeat (first | assumption | exact ofW_ok _ | exact fullW_W _ | apply okW_with | apply okW_less | refine okW_orS ?_ ?_ | refine okW_andS ?_ ?_ | refine okW_minusS ?_ ?_)); done) | omega | rfl), bx600.whole, trivial⟩ (fun act604 f603 => ?_)
   clear f581
   refine At.call f603 21 #[.agg ((sa : List Int).map wV).toArray, .agg ((sb : List Int).map wV).toArray] (some 94) (by kernel_rfl) ((in_any (s := sa) (t := sb) (by repeat (first | assumption | exact ofW_ok _ | exact fullW_W _ | exact wordsD_W _ | exact okW_0 | exact okW_00 | apply okW_orS | apply okW_andS | apply okW_minusS | apply okW_with | apply okW_less | apply okW_or | apply okW_and | apply okW_minus | (apply okW_lit <;> exact ⟨by omega, by omega⟩))) (by repeat (first | assumption | exact ofW_ok _ | exact fullW_W _ | exact wordsD_W _ | exact okW_0 | exact okW_00 | apply okW_orS | apply okW_andS | apply okW_minusS | apply okW_with | apply okW_less | apply okW_or | apply okW_and | apply okW_minus | (apply okW_lit <;> exact ⟨by omega, by omega⟩)))).mono (R' := fun e w' => e = .returned (.bool true) ∧ Ext _ w') (fun e_ w_ h_ => by rw [show (inW sa sb : Bool) = true from own12_b hR hp01 hA (by assumption) hxaE hB] at h_; exact h_)) ?_
   rintro e_ w605 ⟨rfl, he⟩
   refine ⟨_, rfl, _, rfl, fun act606 f607 => ?_⟩
   clear f603
   have g608 := gr_ext he
   have szw605 := g608.size
   have e609 := e583.gr g608 no_row
   clear e583
   have r610 := r584.gr g608 (fun _ h => by cases h)
   clear r584
   have r611 := r585.gr g608 (fun _ h => by cases h)
   clear r585
   have bx612 := bx586.gr g608 (by simp)
   clear bx586
   have bx613 := bx587.gr g608 (by simp)
   clear bx587
   have bx614 := bx588.gr g608 (by simp)
   clear bx588
   have ow615 := ow589.gr g608 (fun _ _ h => by cases h)
   clear ow589
   have bx616 := bx590.gr g608 (by simp)
   clear bx590
   have ow617 := ow591.gr g608 (fun _ _ h => by cases h)
   clear ow591
   have ow618 := ow592.gr g608 (fun _ _ h => by cases h)
   clear ow592
   have ow619 := ow593.gr g608 (fun _ _ h => by cases h)
   clear ow593
   have bx620 := bx594.gr g608 (by simp)
   clear bx594
   have ow621 := ow595.gr g608 (fun _ _ h => by cases h)
   clear ow595
   have ow622 := ow596.gr g608 (fun _ _ h => by cases h)
   clear ow596
   have ow623 := ow597.gr g608 (fun _ _ h => by cases h)
   clear ow597
   have bx624 := bx598.gr g608 (by simp)
   clear bx598
   have ow625 := ow599.gr g608 (fun _ _ h => by cases h)
   clear ow599
   have bx626 := bx600.gr g608 (by simp)
   clear bx600
   have ow627 := ow601.gr g608 (fun _ _ h => by cases h)
   clear ow601
   have bx628 := bx602.gr g608 (by simp)
   clear bx602
   clear g608 he
   refine At.rd f607 2 [[], []] [(8, .bool true), (95, .bool true)] [] (by kernel_rfl) trivial (fun act630 f629 => ?_)
   clear f607
   refine At.done rfl ?_
   refine t_n ?_
   have f631 := f629.sub (r := [(8, .bool true)]) ⟨rfl, trivial⟩
   clear f629
   refine wp_ret ?_
   refine ret_ f631 [] [.bool true] [] (by kernel_rfl) trivial ?_
   exact ⟨rfl, e609⟩

end Go.Proofs.YtkpljmalbmcdfaaDoor
