/-
  A walk of a Go function, printed by a program of this repo. Conditions: what the theorems name.
-/
import Derived.Test.YtkpljmalbmcdfaaDoorWShown12
set_option linter.unusedVariables false
set_option linter.unusedSimpArgs false
namespace Go.Proofs.YtkpljmalbmcdfaaDoor
open Go Go.RowKit

attribute [local irreducible] ofZ fromW wordsD ofD ofW lsD lenW lenN fullW withW lessW hasW hasD inW inD leastD putD onI tzI orS andS minusS orD andD minusD fullD emptyD
set_option maxHeartbeats 4000000 in
theorem again_any {Ag0 Ag1 Ag2 : Option Addr} {cg0 cg1 cg2 : Nat} {g : GameL} {s : List Int} {t : List Int} {u : List Int} {p : Int} {w : World} (rg : RdG w 0 w.heap.size Ag0 Ag1 Ag2 cg0 cg1 cg2 g) (hs : OkW s) (ht : OkW t) (hu : OkW u) (rT : RdT w 0 w.heap.size) :
    Calls Tryd.prog 5 #[.agg #[.slice Ag0 g.ow.length cg0, .slice Ag1 g.pr.length cg1, .slice Ag2 g.mv.length cg2], .agg ((s : List Int).map wV).toArray, .int .i64 (p), .agg ((t : List Int).map wV).toArray, .agg ((u : List Int).map wV).toArray] w fun e w' => e = .returned (.bool true) ∧ Ext w w' := by
 have hlg0 := rg.ow.len
 have hlg1 := rg.pr.len
 have hlg2 := rg.mv.len
 have hkg0 := rg.k0
 have hkg1 := rg.k1
 have hkg2 := rg.k2
 have hls := hs.1
 have hlt := ht.1
 have hlu := hu.1
 refine enter_ (args := [.agg #[.slice Ag0 g.ow.length cg0, .slice Ag1 g.pr.length cg1, .slice Ag2 g.mv.length cg2], .agg ((s : List Int).map wV).toArray, .int .i64 (p), .agg ((t : List Int).map wV).toArray, .agg ((u : List Int).map wV).toArray]) Tryd.func5 rfl Tryd.ntmps5 (Nat.le_of_ble_eq_true rfl) (fun act0 f0 => ?_)
 have e0 := Ext.refl w
 refine wp_seq ?_
 refine At.start ?_
 refine At.seq f0 1 [[]] [(5, .pointer (some ⟨w.heap.size, 0, none⟩))] (w.alloc (.cells #[.slice Ag0 g.ow.length cg0, .slice Ag1 g.pr.length cg1, .slice Ag2 g.mv.length cg2] 25 (0, 0))) [] (by kernel_rfl) trivial (fun act4 w1 hw2 f3 => ?_)
 clear f0
 have g5 := gr_alloc hw2
 have szw1 := g5.size
 have e7 := e0.gr g5 no_row
 clear e0
 have r8 := rg.gr g5 (fun _ h => by cases h)
 clear rg
 have r9 := rT.gr g5 (fun _ h => by cases h)
 clear rT
 have bx10 : Bx w1 (w.heap.size) [.slice Ag0 g.ow.length cg0, .slice Ag1 g.pr.length cg1, .slice Ag2 g.mv.length cg2] 25 := Bx.new hw2
 have := bx10.lt
 clear g5 hw2
 refine At.seq f3 1 [[]] [(6, .pointer (some ⟨w1.heap.size, 0, none⟩))] (w1.alloc (.cells ((s : List Int).map wV).toArray 28 (0, 0))) [] (by kernel_rfl) trivial (fun act14 w11 hw12 f13 => ?_)
 clear f3
 have g15 := gr_alloc hw12
 have szw11 := g15.size
 have e17 := e7.gr g15 no_row
 clear e7
 have r18 := r8.gr g15 (fun _ h => by cases h)
 clear r8
 have r19 := r9.gr g15 (fun _ h => by cases h)
 clear r9
 have bx20 := bx10.gr g15 (by simp)
 clear bx10
 have bx21 : Bx w11 (w1.heap.size) ((s : List Int).map wV) 28 := Bx.new hw12
 have := bx21.lt
 clear g15 hw12
 refine At.seq f13 1 [[]] [(8, .pointer (some ⟨w11.heap.size, 0, none⟩))] (w11.alloc (.cells ((t : List Int).map wV).toArray 28 (0, 0))) [] (by kernel_rfl) trivial (fun act25 w22 hw23 f24 => ?_)
 clear f13
 have g26 := gr_alloc hw23
 have szw22 := g26.size
 have e28 := e17.gr g26 no_row
 clear e17
 have r29 := r18.gr g26 (fun _ h => by cases h)
 clear r18
 have r30 := r19.gr g26 (fun _ h => by cases h)
 clear r19
 have bx31 := bx20.gr g26 (by simp)
 clear bx20
 have bx32 := bx21.gr g26 (by simp)
 clear bx21
 have bx33 : Bx w22 (w11.heap.size) ((t : List Int).map wV) 28 := Bx.new hw23
 have := bx33.lt
 clear g26 hw23
 refine At.seq f24 1 [[]] [(9, .pointer (some ⟨w22.heap.size, 0, none⟩))] (w22.alloc (.cells ((u : List Int).map wV).toArray 28 (0, 0))) [] (by kernel_rfl) trivial (fun act37 w34 hw35 f36 => ?_)
 clear f24
 have g38 := gr_alloc hw35
 have szw34 := g38.size
 have e40 := e28.gr g38 no_row
 clear e28
 have r41 := r29.gr g38 (fun _ h => by cases h)
 clear r29
 have r42 := r30.gr g38 (fun _ h => by cases h)
 clear r30
 have bx43 := bx31.gr g38 (by simp)
 clear bx31
 have bx44 := bx32.gr g38 (by simp)
 clear bx32
 have bx45 := bx33.gr g38 (by simp)
 clear bx33
 have bx46 : Bx w34 (w22.heap.size) ((u : List Int).map wV) 28 := Bx.new hw35
 have := bx46.lt
 clear g38 hw35
 refine At.rd f36 1 [[]] [(10, .bool false)] [] (by kernel_rfl) trivial (fun act48 f47 => ?_)
 clear f36
 refine At.done rfl ?_
 refine t_n ?_
 have f49 := f47.sub (r := [(10, .bool false), (9, .pointer (some ⟨w22.heap.size, 0, none⟩)), (8, .pointer (some ⟨w11.heap.size, 0, none⟩)), (6, .pointer (some ⟨w1.heap.size, 0, none⟩)), (5, .pointer (some ⟨w.heap.size, 0, none⟩)), (2, .int .i64 (p))]) ⟨rfl, rfl, rfl, rfl, rfl, rfl, trivial⟩
 clear f47
 refine wp_seq ?_
 refine At.start ?_
 refine At.call f49 9 #[] (some 23) (by kernel_rfl) (shown12_any (r42.wide (Nat.zero_le _) (by omega))) ?_
 rintro e_ w50 ⟨rfl, he⟩
 refine ⟨_, rfl, _, rfl, fun act51 f52 => ?_⟩
 clear f49
 have g53 := gr_ext he
 have szw50 := g53.size
 have e54 := e40.gr g53 no_row
 clear e40
 have r55 := r41.gr g53 (fun _ h => by cases h)
 clear r41
 have r56 := r42.gr g53 (fun _ h => by cases h)
 clear r42
 have bx57 := bx43.gr g53 (by simp)
 clear bx43
 have bx58 := bx44.gr g53 (by simp)
 clear bx44
 have bx59 := bx45.gr g53 (by simp)
 clear bx45
 have bx60 := bx46.gr g53 (by simp)
 clear bx46
 clear g53 he
 refine At.rd f52 1 [[]] [(11, .bool true)] [] (by kernel_rfl) trivial (fun act62 f61 => ?_)
 clear f52
 refine At.done rfl ?_
 refine t_n ?_
 have f63 := f61.sub (r := [(11, .bool true), (10, .bool false), (9, .pointer (some ⟨w22.heap.size, 0, none⟩)), (8, .pointer (some ⟨w11.heap.size, 0, none⟩)), (6, .pointer (some ⟨w1.heap.size, 0, none⟩)), (5, .pointer (some ⟨w.heap.size, 0, none⟩)), (2, .int .i64 (p))]) ⟨rfl, rfl, rfl, rfl, rfl, rfl, rfl, trivial⟩
 clear f61
 refine wp_seq ?_
 refine At.start ?_
 refine At.rd f63 4 [[.ld (.slice Ag0 g.ow.length cg0), .ld (.slice Ag1 g.pr.length cg1), .ld (.slice Ag2 g.mv.length cg2)], [.cs ((s : List Int).map wV)], [], [.cs ((t : List Int).map wV)]] [(28, .agg ((t : List Int).map wV).toArray), (27, .int .i64 (p)), (26, .agg ((s : List Int).map wV).toArray), (25, .agg #[.slice Ag0 g.ow.length cg0, .slice Ag1 g.pr.length cg1, .slice Ag2 g.mv.length cg2])] [(w50.cell? ⟨w.heap.size, 0, none⟩ = some (.slice Ag0 g.ow.length cg0)), (w50.cell? ⟨w.heap.size, 1, none⟩ = some (.slice Ag1 g.pr.length cg1)), (w50.cell? ⟨w.heap.size, 2, none⟩ = some (.slice Ag2 g.mv.length cg2)), (((s : List Int).map wV).length = 4), (∀ (j : Nat) (v : Value), ((s : List Int).map wV)[j]? = some v → w50.cell? ((⟨w1.heap.size, 0, none⟩ : Addr).add j) = some v), (((t : List Int).map wV).length = 4), (∀ (j : Nat) (v : Value), ((t : List Int).map wV)[j]? = some v → w50.cell? ((⟨w11.heap.size, 0, none⟩ : Addr).add j) = some v)] (by kernel_rfl) ⟨(bx57.cell (i := 0) rfl), (bx57.cell (i := 1) rfl), (bx57.cell (i := 2) rfl), (by simp only [List.length_map, List.length_set, List.length_replicate, List.length_cons, List.length_nil]; first | done | assumption | exact from_len _ | exact of_len _ | exact ofZ_len _ | exact (ofW_ok _).1 | exact (fullW_W _).1 | exact (okW_with (by assumption)).1 | exact (okW_less (by assumption)).1 | exact put_len (from_len _) | exact orD_len _ _ | exact andD_len _ _ | exact minusD_len _ _ | exact fullD_len _ | (refine okLen ?_; (repeat (first | assumption | exact ofW_ok _ | exact fullW_W _ | apply okW_with | apply okW_less | refine okW_orS ?_ ?_ | refine okW_andS ?_ ?_ | refine okW_minusS ?_ ?_)); done) | omega | rfl), bx58.whole, (by simp only [List.length_map, List.length_set, List.length_replicate, List.length_cons, List.length_nil]; first | done | assumption | exact from_len _ | exact of_len _ | exact ofZ_len _ | exact (ofW_ok _).1 | exact (fullW_W _).1 | exact (okW_with (by assumption)).1 | exact (okW_less (by assumption)).1 | exact put_len (from_len _) | exact orD_len _ _ | exact andD_len _ _ | exact minusD_len _ _ | exact fullD_len _ | (refine okLen ?_; (repeat (first | assumption | exact ofW_ok _ | exact fullW_W _ | apply okW_with | apply okW_less | refine okW_orS ?_ ?_ | refine okW_andS ?_ ?_ | refine okW_minusS ?_ ?_)); done) | omega | rfl), bx59.whole, trivial⟩ (fun act65 f64 => ?_)
 clear f63
 refine At.call f64 12 #[.agg #[.slice Ag0 g.ow.length cg0, .slice Ag1 g.pr.length cg1, .slice Ag2 g.mv.length cg2], .agg ((s : List Int).map wV).toArray, .int .i64 (p), .agg ((t : List Int).map wV).toArray] (some 29) (by kernel_rfl) (attract_any (g := g) (s := s) (t := t) (p := p) (r55.wide (Nat.zero_le _) (by omega)) (by repeat (first | assumption | exact ofW_ok _ | exact fullW_W _ | exact wordsD_W _ | exact okW_0 | exact okW_00 | apply okW_orS | apply okW_andS | apply okW_minusS | apply okW_with | apply okW_less | apply okW_or | apply okW_and | apply okW_minus | (apply okW_lit <;> exact ⟨by omega, by omega⟩))) (by repeat (first | assumption | exact ofW_ok _ | exact fullW_W _ | exact wordsD_W _ | exact okW_0 | exact okW_00 | apply okW_orS | apply okW_andS | apply okW_minusS | apply okW_with | apply okW_less | apply okW_or | apply okW_and | apply okW_minus | (apply okW_lit <;> exact ⟨by omega, by omega⟩))) (r56.wide (Nat.zero_le _) (by omega))) ?_
 rintro e_ w70 ⟨A66, c67, sa, ma, rfl, he, ow68, hA⟩
 have hok_sa := att_ok hA
 have hl_sa := okLen hok_sa
 have hlm_ma := att_len hA
 refine ⟨_, rfl, _, rfl, fun act71 f72 => ?_⟩
 clear f64
 have g73 := gr_ext he
 have szw70 := g73.size
 have e74 := e54.gr g73 no_row
 clear e54
 have r75 := r55.gr g73 (fun _ h => by cases h)
 clear r55
 have r76 := r56.gr g73 (fun _ h => by cases h)
 clear r56
 have bx77 := bx57.gr g73 (by simp)
 clear bx57
 have bx78 := bx58.gr g73 (by simp)
 clear bx58
 have bx79 := bx59.gr g73 (by simp)
 clear bx59
 have bx80 := bx60.gr g73 (by simp)
 clear bx60
 clear g73 he
 refine At.rd f72 3 [[], [], []] [(31, .slice A66 ma.length c67), (30, .agg ((sa : List Int).map wV).toArray), (24, .tuple #[.agg ((sa : List Int).map wV).toArray, .slice A66 ma.length c67])] [] (by kernel_rfl) trivial (fun act82 f81 => ?_)
 clear f72
 refine At.seq f81 1 [[]] [(12, .pointer (some ⟨w70.heap.size, 0, none⟩))] (w70.alloc (.cells ((List.replicate 4 (0 : Int) : List Int).map wV).toArray 28 (0, 0))) [] (by kernel_rfl) trivial (fun act86 w83 hw84 f85 => ?_)
 clear f81
 have g87 := gr_alloc hw84
 have szw83 := g87.size
 have e89 := e74.gr g87 no_row
 clear e74
 have r90 := r75.gr g87 (fun _ h => by cases h)
 clear r75
 have r91 := r76.gr g87 (fun _ h => by cases h)
 clear r76
 have bx92 := bx77.gr g87 (by simp)
 clear bx77
 have bx93 := bx78.gr g87 (by simp)
 clear bx78
 have bx94 := bx79.gr g87 (by simp)
 clear bx79
 have bx95 := bx80.gr g87 (by simp)
 clear bx80
 have ow96 : OwnR w83 (Sx (w50.heap.size) [some (w70.heap.size)]) A66 c67 3 (ma : List Int) := ow68.grA g87 (fun _ _ h => by cases h) (fun k hk hs => ⟨(fun e => by injection e; omega), hs⟩)
 clear ow68
 have bx97 : Bx w83 (w70.heap.size) ((List.replicate 4 (0 : Int) : List Int).map wV) 28 := Bx.new hw84
 have := bx97.lt
 clear g87 hw84
 refine At.act f85 (storeBlk (t := 28) (b := w70.heap.size) (n := 4) (cs' := ((sa : List Int).map wV)) (by kernel_rfl) (by kernel_rfl) (by simp only [List.length_map, List.length_set, List.length_replicate, List.length_cons, List.length_nil]; first | done | assumption | exact from_len _ | exact of_len _ | exact ofZ_len _ | exact (ofW_ok _).1 | exact (fullW_W _).1 | exact (okW_with (by assumption)).1 | exact (okW_less (by assumption)).1 | exact put_len (from_len _) | exact orD_len _ _ | exact andD_len _ _ | exact minusD_len _ _ | exact fullD_len _ | (refine okLen ?_; (repeat (first | assumption | exact ofW_ok _ | exact fullW_W _ | apply okW_with | apply okW_less | refine okW_orS ?_ ?_ | refine okW_andS ?_ ?_ | refine okW_minusS ?_ ?_)); done) | omega | rfl) oneW_ ((show ((sa : List Int).map wV).length = 4 from (by simp only [List.length_map, List.length_set, List.length_replicate, List.length_cons, List.length_nil]; first | done | assumption | exact from_len _ | exact of_len _ | exact ofZ_len _ | exact (ofW_ok _).1 | exact (fullW_W _).1 | exact (okW_with (by assumption)).1 | exact (okW_less (by assumption)).1 | exact put_len (from_len _) | exact orD_len _ _ | exact andD_len _ _ | exact minusD_len _ _ | exact fullD_len _ | (refine okLen ?_; (repeat (first | assumption | exact ofW_ok _ | exact fullW_W _ | apply okW_with | apply okW_less | refine okW_orS ?_ ?_ | refine okW_andS ?_ ?_ | refine okW_minusS ?_ ?_)); done) | omega | rfl)).trans (show ((List.replicate 4 (0 : Int) : List Int).map wV).length = 4 from (by simp only [List.length_map, List.length_set, List.length_replicate, List.length_cons, List.length_nil]; first | done | assumption | exact from_len _ | exact of_len _ | exact ofZ_len _ | exact (ofW_ok _).1 | exact (fullW_W _).1 | exact (okW_with (by assumption)).1 | exact (okW_less (by assumption)).1 | exact put_len (from_len _) | exact orD_len _ _ | exact andD_len _ _ | exact minusD_len _ _ | exact fullD_len _ | (refine okLen ?_; (repeat (first | assumption | exact ofW_ok _ | exact fullW_W _ | apply okW_with | apply okW_less | refine okW_orS ?_ ?_ | refine okW_andS ?_ ?_ | refine okW_minusS ?_ ?_)); done) | omega | rfl)).symm) bx97) ?_
 rintro d_ v_ w98 ⟨rfl, g99, bx100⟩
 refine ⟨_, rfl, fun act102 f101 => ?_⟩
 clear f85
 have szw98 := g99.size
 have e103 := e89.gr g99 (fun k h => by injection h; omega)
 clear e89
 have r104 := r90.gr g99 (fun k h => by injection h; omega)
 clear r90
 have r105 := r91.gr g99 (fun k h => by injection h; omega)
 clear r91
 have bx106 := bx92.gr g99 (fun h => by injection h; omega)
 clear bx92
 have bx107 := bx93.gr g99 (fun h => by injection h; omega)
 clear bx93
 have bx108 := bx94.gr g99 (fun h => by injection h; omega)
 clear bx94
 have bx109 := bx95.gr g99 (fun h => by injection h; omega)
 clear bx95
 have ow110 := ow96.gr g99 (fun k hk => hk.1)
 clear ow96
 clear bx97 g99
 refine At.rd f101 1 [[]] [(13, .slice A66 ma.length c67)] [] (by kernel_rfl) trivial (fun act112 f111 => ?_)
 clear f101
 refine At.done rfl ?_
 refine t_n ?_
 have f113 := f111.sub (r := [(12, .pointer (some ⟨w70.heap.size, 0, none⟩)), (11, .bool true), (10, .bool false), (9, .pointer (some ⟨w22.heap.size, 0, none⟩)), (8, .pointer (some ⟨w11.heap.size, 0, none⟩)), (6, .pointer (some ⟨w1.heap.size, 0, none⟩)), (5, .pointer (some ⟨w.heap.size, 0, none⟩)), (2, .int .i64 (p))]) ⟨rfl, rfl, rfl, rfl, rfl, rfl, rfl, rfl, trivial⟩
 clear f111
 refine wp_seq ?_
 refine At.start ?_
 refine At.rd f113 4 [[.ld (.slice Ag0 g.ow.length cg0), .ld (.slice Ag1 g.pr.length cg1), .ld (.slice Ag2 g.mv.length cg2)], [.cs ((s : List Int).map wV)], [], [.cs ((sa : List Int).map wV)]] [(36, .agg ((sa : List Int).map wV).toArray), (35, .int .i64 (p)), (34, .agg ((s : List Int).map wV).toArray), (33, .agg #[.slice Ag0 g.ow.length cg0, .slice Ag1 g.pr.length cg1, .slice Ag2 g.mv.length cg2])] [(w98.cell? ⟨w.heap.size, 0, none⟩ = some (.slice Ag0 g.ow.length cg0)), (w98.cell? ⟨w.heap.size, 1, none⟩ = some (.slice Ag1 g.pr.length cg1)), (w98.cell? ⟨w.heap.size, 2, none⟩ = some (.slice Ag2 g.mv.length cg2)), (((s : List Int).map wV).length = 4), (∀ (j : Nat) (v : Value), ((s : List Int).map wV)[j]? = some v → w98.cell? ((⟨w1.heap.size, 0, none⟩ : Addr).add j) = some v), (((sa : List Int).map wV).length = 4), (∀ (j : Nat) (v : Value), ((sa : List Int).map wV)[j]? = some v → w98.cell? ((⟨w70.heap.size, 0, none⟩ : Addr).add j) = some v)] (by kernel_rfl) ⟨(bx106.cell (i := 0) rfl), (bx106.cell (i := 1) rfl), (bx106.cell (i := 2) rfl), (by simp only [List.length_map, List.length_set, List.length_replicate, List.length_cons, List.length_nil]; first | done | assumption | exact from_len _ | exact of_len _ | exact ofZ_len _ | exact (ofW_ok _).1 | exact (fullW_W _).1 | exact (okW_with (by assumption)).1 | exact (okW_less (by assumption)).1 | exact put_len (from_len _) | exact orD_len _ _ | exact andD_len _ _ | exact minusD_len _ _ | exact fullD_len _ | (refine okLen ?_; (repeat (first | assumption | exact ofW_ok _ | exact fullW_W _ | apply okW_with | apply okW_less | refine okW_orS ?_ ?_ | refine okW_andS ?_ ?_ | refine okW_minusS ?_ ?_)); done) | omega | rfl), bx107.whole, (by simp only [List.length_map, List.length_set, List.length_replicate, List.length_cons, List.length_nil]; first | done | assumption | exact from_len _ | exact of_len _ | exact ofZ_len _ | exact (ofW_ok _).1 | exact (fullW_W _).1 | exact (okW_with (by assumption)).1 | exact (okW_less (by assumption)).1 | exact put_len (from_len _) | exact orD_len _ _ | exact andD_len _ _ | exact minusD_len _ _ | exact fullD_len _ | (refine okLen ?_; (repeat (first | assumption | exact ofW_ok _ | exact fullW_W _ | apply okW_with | apply okW_less | refine okW_orS ?_ ?_ | refine okW_andS ?_ ?_ | refine okW_minusS ?_ ?_)); done) | omega | rfl), bx100.whole, trivial⟩ (fun act115 f114 => ?_)
 clear f113
 refine At.call f114 12 #[.agg #[.slice Ag0 g.ow.length cg0, .slice Ag1 g.pr.length cg1, .slice Ag2 g.mv.length cg2], .agg ((s : List Int).map wV).toArray, .int .i64 (p), .agg ((sa : List Int).map wV).toArray] (some 37) (by kernel_rfl) (attract_any (g := g) (s := s) (t := sa) (p := p) (r104.wide (Nat.zero_le _) (by omega)) (by repeat (first | assumption | exact ofW_ok _ | exact fullW_W _ | exact wordsD_W _ | exact okW_0 | exact okW_00 | apply okW_orS | apply okW_andS | apply okW_minusS | apply okW_with | apply okW_less | apply okW_or | apply okW_and | apply okW_minus | (apply okW_lit <;> exact ⟨by omega, by omega⟩))) (by repeat (first | assumption | exact ofW_ok _ | exact fullW_W _ | exact wordsD_W _ | exact okW_0 | exact okW_00 | apply okW_orS | apply okW_andS | apply okW_minusS | apply okW_with | apply okW_less | apply okW_or | apply okW_and | apply okW_minus | (apply okW_lit <;> exact ⟨by omega, by omega⟩))) (r105.wide (Nat.zero_le _) (by omega))) ?_
 rintro e_ w120 ⟨A116, c117, sb, mb, rfl, he, ow118, hB⟩
 have hok_sb := att_ok hB
 have hl_sb := okLen hok_sb
 have hlm_mb := att_len hB
 refine ⟨_, rfl, _, rfl, fun act121 f122 => ?_⟩
 clear f114
 have g123 := gr_ext he
 have lt124 := ow110.lt
 have szw120 := g123.size
 have e125 := e103.gr g123 no_row
 clear e103
 have r126 := r104.gr g123 (fun _ h => by cases h)
 clear r104
 have r127 := r105.gr g123 (fun _ h => by cases h)
 clear r105
 have bx128 := bx106.gr g123 (by simp)
 clear bx106
 have bx129 := bx107.gr g123 (by simp)
 clear bx107
 have bx130 := bx108.gr g123 (by simp)
 clear bx108
 have bx131 := bx109.gr g123 (by simp)
 clear bx109
 have ow132 : OwnR w120 (Sx (w50.heap.size) [obk (A116), some (w70.heap.size)]) A66 c67 3 (ma : List Int) := ow110.grA g123 (fun _ _ h => by cases h) (fun k hk hs => ⟨(fun e => by have := ow118.ge _ e; omega), hs.1, hs.2⟩)
 clear ow110
 have bx133 := bx100.gr g123 (by simp)
 clear bx100
 have ow134 : OwnR w120 (Sx (w98.heap.size) [obk (A66)]) A116 c117 3 (mb : List Int) := ow118.imp (fun g _ hs => ⟨(fun e => by have := lt124 _ e; have := Sx_base hs; omega), hs⟩)
 clear ow118
 clear lt124
 clear g123 he
 refine At.rd f122 3 [[], [], []] [(39, .slice A116 mb.length c117), (38, .agg ((sb : List Int).map wV).toArray), (32, .tuple #[.agg ((sb : List Int).map wV).toArray, .slice A116 mb.length c117])] [] (by kernel_rfl) trivial (fun act136 f135 => ?_)
 clear f122
 refine At.seq f135 1 [[]] [(14, .pointer (some ⟨w120.heap.size, 0, none⟩))] (w120.alloc (.cells ((List.replicate 4 (0 : Int) : List Int).map wV).toArray 28 (0, 0))) [] (by kernel_rfl) trivial (fun act140 w137 hw138 f139 => ?_)
 clear f135
 have g141 := gr_alloc hw138
 have szw137 := g141.size
 have e143 := e125.gr g141 no_row
 clear e125
 have r144 := r126.gr g141 (fun _ h => by cases h)
 clear r126
 have r145 := r127.gr g141 (fun _ h => by cases h)
 clear r127
 have bx146 := bx128.gr g141 (by simp)
 clear bx128
 have bx147 := bx129.gr g141 (by simp)
 clear bx129
 have bx148 := bx130.gr g141 (by simp)
 clear bx130
 have bx149 := bx131.gr g141 (by simp)
 clear bx131
 have ow150 : OwnR w137 (Sx (w50.heap.size) [some (w120.heap.size), obk (A116), some (w70.heap.size)]) A66 c67 3 (ma : List Int) := ow132.grA g141 (fun _ _ h => by cases h) (fun k hk hs => ⟨(fun e => by injection e; omega), hs.1, hs.2.1, hs.2.2⟩)
 clear ow132
 have bx151 := bx133.gr g141 (by simp)
 clear bx133
 have ow152 : OwnR w137 (Sx (w98.heap.size) [some (w120.heap.size), obk (A66)]) A116 c117 3 (mb : List Int) := ow134.grA g141 (fun _ _ h => by cases h) (fun k hk hs => ⟨(fun e => by injection e; omega), hs.1, hs.2⟩)
 clear ow134
 have bx153 : Bx w137 (w120.heap.size) ((List.replicate 4 (0 : Int) : List Int).map wV) 28 := Bx.new hw138
 have := bx153.lt
 clear g141 hw138
 refine At.act f139 (storeBlk (t := 28) (b := w120.heap.size) (n := 4) (cs' := ((sb : List Int).map wV)) (by kernel_rfl) (by kernel_rfl) (by simp only [List.length_map, List.length_set, List.length_replicate, List.length_cons, List.length_nil]; first | done | assumption | exact from_len _ | exact of_len _ | exact ofZ_len _ | exact (ofW_ok _).1 | exact (fullW_W _).1 | exact (okW_with (by assumption)).1 | exact (okW_less (by assumption)).1 | exact put_len (from_len _) | exact orD_len _ _ | exact andD_len _ _ | exact minusD_len _ _ | exact fullD_len _ | (refine okLen ?_; (repeat (first | assumption | exact ofW_ok _ | exact fullW_W _ | apply okW_with | apply okW_less | refine okW_orS ?_ ?_ | refine okW_andS ?_ ?_ | refine okW_minusS ?_ ?_)); done) | omega | rfl) oneW_ ((show ((sb : List Int).map wV).length = 4 from (by simp only [List.length_map, List.length_set, List.length_replicate, List.length_cons, List.length_nil]; first | done | assumption | exact from_len _ | exact of_len _ | exact ofZ_len _ | exact (ofW_ok _).1 | exact (fullW_W _).1 | exact (okW_with (by assumption)).1 | exact (okW_less (by assumption)).1 | exact put_len (from_len _) | exact orD_len _ _ | exact andD_len _ _ | exact minusD_len _ _ | exact fullD_len _ | (refine okLen ?_; (repeat (first | assumption | exact ofW_ok _ | exact fullW_W _ | apply okW_with | apply okW_less | refine okW_orS ?_ ?_ | refine okW_andS ?_ ?_ | refine okW_minusS ?_ ?_)); done) | omega | rfl)).trans (show ((List.replicate 4 (0 : Int) : List Int).map wV).length = 4 from (by simp only [List.length_map, List.length_set, List.length_replicate, List.length_cons, List.length_nil]; first | done | assumption | exact from_len _ | exact of_len _ | exact ofZ_len _ | exact (ofW_ok _).1 | exact (fullW_W _).1 | exact (okW_with (by assumption)).1 | exact (okW_less (by assumption)).1 | exact put_len (from_len _) | exact orD_len _ _ | exact andD_len _ _ | exact minusD_len _ _ | exact fullD_len _ | (refine okLen ?_; (repeat (first | assumption | exact ofW_ok _ | exact fullW_W _ | apply okW_with | apply okW_less | refine okW_orS ?_ ?_ | refine okW_andS ?_ ?_ | refine okW_minusS ?_ ?_)); done) | omega | rfl)).symm) bx153) ?_
 rintro d_ v_ w154 ⟨rfl, g155, bx156⟩
 refine ⟨_, rfl, fun act158 f157 => ?_⟩
 clear f139
 have szw154 := g155.size
 have e159 := e143.gr g155 (fun k h => by injection h; omega)
 clear e143
 have r160 := r144.gr g155 (fun k h => by injection h; omega)
 clear r144
 have r161 := r145.gr g155 (fun k h => by injection h; omega)
 clear r145
 have bx162 := bx146.gr g155 (fun h => by injection h; omega)
 clear bx146
 have bx163 := bx147.gr g155 (fun h => by injection h; omega)
 clear bx147
 have bx164 := bx148.gr g155 (fun h => by injection h; omega)
 clear bx148
 have bx165 := bx149.gr g155 (fun h => by injection h; omega)
 clear bx149
 have ow166 := ow150.gr g155 (fun k hk => hk.1)
 clear ow150
 have bx167 := bx151.gr g155 (fun h => by injection h; omega)
 clear bx151
 have ow168 := ow152.gr g155 (fun k hk => hk.1)
 clear ow152
 clear bx153 g155
 refine At.rd f157 1 [[]] [(15, .slice A116 mb.length c117)] [] (by kernel_rfl) trivial (fun act170 f169 => ?_)
 clear f157
 refine At.done rfl ?_
 refine t_n ?_
 have f171 := f169.sub (r := [(15, .slice A116 mb.length c117), (14, .pointer (some ⟨w120.heap.size, 0, none⟩)), (12, .pointer (some ⟨w70.heap.size, 0, none⟩)), (11, .bool true), (10, .bool false), (9, .pointer (some ⟨w22.heap.size, 0, none⟩)), (8, .pointer (some ⟨w11.heap.size, 0, none⟩)), (6, .pointer (some ⟨w1.heap.size, 0, none⟩)), (5, .pointer (some ⟨w.heap.size, 0, none⟩)), (2, .int .i64 (p))]) ⟨rfl, rfl, rfl, rfl, rfl, rfl, rfl, rfl, rfl, rfl, trivial⟩
 clear f169
 refine wp_seq (cut (fun a_ w_ => ∃ (sc : List Int) (mc : List Int) (b_172 : Nat), (Frm 98 a_ [(16, .pointer (some ⟨b_172, 0, none⟩)), (15, .slice A116 mb.length c117), (14, .pointer (some ⟨w120.heap.size, 0, none⟩)), (12, .pointer (some ⟨w70.heap.size, 0, none⟩)), (11, .bool true), (10, .bool false), (8, .pointer (some ⟨w11.heap.size, 0, none⟩)), (6, .pointer (some ⟨w1.heap.size, 0, none⟩)), (5, .pointer (some ⟨w.heap.size, 0, none⟩)), (2, .int .i64 (p))]) ∧ (Ext w w_) ∧ (RdG w_ 0 w.heap.size Ag0 Ag1 Ag2 cg0 cg1 cg2 g) ∧ (RdT w_ 0 w.heap.size) ∧ (Bx w_ (w.heap.size) [.slice Ag0 g.ow.length cg0, .slice Ag1 g.pr.length cg1, .slice Ag2 g.mv.length cg2] 25) ∧ (Bx w_ (w1.heap.size) ((s : List Int).map wV) 28) ∧ (Bx w_ (w11.heap.size) ((t : List Int).map wV) 28) ∧ (Bx w_ (w22.heap.size) ((u : List Int).map wV) 28) ∧ (OwnR w_ (Sx (w50.heap.size) [some (w120.heap.size), obk (A116), some (w70.heap.size), some (b_172)]) A66 c67 3 (ma : List Int)) ∧ (Bx w_ (w70.heap.size) ((sa : List Int).map wV) 28) ∧ (OwnR w_ (Sx (w98.heap.size) [some (w120.heap.size), obk (A66), some (b_172)]) A116 c117 3 (mb : List Int)) ∧ (Bx w_ (w120.heap.size) ((sb : List Int).map wV) 28) ∧ (Bx w_ (b_172) ((sc : List Int).map wV) 28) ∧ (w154.heap.size ≤ b_172) ∧ (w154.heap.size ≤ w_.heap.size) ∧ (AttractT g s p (orS t u) sc mc)) ?_ ?_)
 ·obtain ⟨Cs173, hCs174⟩ : ∃ c : List (Addr × Value), c = ([(⟨w.heap.size, 0, none⟩, (.slice Ag0 g.ow.length cg0)), (⟨w.heap.size, 1, none⟩, (.slice Ag1 g.pr.length cg1)), (⟨w.heap.size, 2, none⟩, (.slice Ag2 g.mv.length cg2))] : List (Addr × Value)) ++ (blkC (w1.heap.size) ((s : List Int).map wV) ++ (blkC (w11.heap.size) ((t : List Int).map wV) ++ blkC (w22.heap.size) ((u : List Int).map wV))) := ⟨_, rfl⟩
  have hS175 : HoldsC Cs173 w154 := by rw [hCs174]; exact (holdsA (show HoldsC [(⟨w.heap.size, 0, none⟩, (.slice Ag0 g.ow.length cg0)), (⟨w.heap.size, 1, none⟩, (.slice Ag1 g.pr.length cg1)), (⟨w.heap.size, 2, none⟩, (.slice Ag2 g.mv.length cg2))] w154 from ⟨(bx162.cell (i := 0) rfl), (bx162.cell (i := 1) rfl), (bx162.cell (i := 2) rfl), trivial⟩) (holdsA (holds_blk bx163) (holdsA (holds_blk bx164) (holds_blk bx165))))
  refine AtH.start Cs173 13 #[false, false, false, false, false, false, false, false, false, false, false, false, false] (by kernel_rfl) rfl rfl (fun w177 hw178 => ?_)
  have g176 := gr_drew hw178
  have hS179 := hS175.gr g176
  have szw177 := g176.size
  have e180 := e159.gr g176 no_row
  clear e159
  have r181 := r160.gr g176 (fun _ h => by cases h)
  clear r160
  have r182 := r161.gr g176 (fun _ h => by cases h)
  clear r161
  have bx183 := bx162.gr g176 (by simp)
  clear bx162
  have bx184 := bx163.gr g176 (by simp)
  clear bx163
  have bx185 := bx164.gr g176 (by simp)
  clear bx164
  have bx186 := bx165.gr g176 (by simp)
  clear bx165
  have ow187 := ow166.gr g176 (fun _ _ h => by cases h)
  clear ow166
  have bx188 := bx167.gr g176 (by simp)
  clear bx167
  have ow189 := ow168.gr g176 (fun _ _ h => by cases h)
  clear ow168
  have bx190 := bx156.gr g176 (by simp)
  clear bx156
  clear g176 hw178 hS175
  refine AtH.rd (by kernel_rfl) (fun d v c a w h => by cases d <;> exact h) hS179 [0, 1, 2, 3, 4] [[.ld (.slice Ag0 g.ow.length cg0), .ld (.slice Ag1 g.pr.length cg1), .ld (.slice Ag2 g.mv.length cg2)], [.cs ((s : List Int).map wV)], [], [.cs ((t : List Int).map wV)], [.cs ((u : List Int).map wV)]] [(45, .agg ((u : List Int).map wV).toArray), (44, .agg ((t : List Int).map wV).toArray), (43, .int .i64 (p)), (42, .agg ((s : List Int).map wV).toArray), (41, .agg #[.slice Ag0 g.ow.length cg0, .slice Ag1 g.pr.length cg1, .slice Ag2 g.mv.length cg2])] #[true, true, true, true, true, false, false, false, false, false, false, false, false] [(∃ j_ : Nat, Cs173[j_]? = some (⟨w.heap.size, 0, none⟩, (.slice Ag0 g.ow.length cg0))), (∃ j_ : Nat, Cs173[j_]? = some (⟨w.heap.size, 1, none⟩, (.slice Ag1 g.pr.length cg1))), (∃ j_ : Nat, Cs173[j_]? = some (⟨w.heap.size, 2, none⟩, (.slice Ag2 g.mv.length cg2))), (((s : List Int).map wV).length = 4), (∀ (j : Nat) (v : Value), ((s : List Int).map wV)[j]? = some v → ∃ j_ : Nat, Cs173[j_]? = some (((⟨w1.heap.size, 0, none⟩ : Addr).add j), v)), (((t : List Int).map wV).length = 4), (∀ (j : Nat) (v : Value), ((t : List Int).map wV)[j]? = some v → ∃ j_ : Nat, Cs173[j_]? = some (((⟨w11.heap.size, 0, none⟩ : Addr).add j), v)), (((u : List Int).map wV).length = 4), (∀ (j : Nat) (v : Value), ((u : List Int).map wV)[j]? = some v → ∃ j_ : Nat, Cs173[j_]? = some (((⟨w22.heap.size, 0, none⟩ : Addr).add j), v))] 8 f171 (by kernel_rfl) ⟨⟨0, by rw [hCs174]; rfl⟩, ⟨1, by rw [hCs174]; rfl⟩, ⟨2, by rw [hCs174]; rfl⟩, (by simp only [List.length_map, List.length_set, List.length_replicate, List.length_cons, List.length_nil]; first | done | assumption | exact from_len _ | exact of_len _ | exact ofZ_len _ | exact (ofW_ok _).1 | exact (fullW_W _).1 | exact (okW_with (by assumption)).1 | exact (okW_less (by assumption)).1 | exact put_len (from_len _) | exact orD_len _ _ | exact andD_len _ _ | exact minusD_len _ _ | exact fullD_len _ | (refine okLen ?_; (repeat (first | assumption | exact ofW_ok _ | exact fullW_W _ | apply okW_with | apply okW_less | refine okW_orS ?_ ?_ | refine okW_andS ?_ ?_ | refine okW_minusS ?_ ?_)); done) | omega | rfl), (fun j v hv => List.getElem?_of_mem (by rw [hCs174]; exact List.mem_append.2 (.inr (List.mem_append.2 (.inl (blkC_in hv)))))), (by simp only [List.length_map, List.length_set, List.length_replicate, List.length_cons, List.length_nil]; first | done | assumption | exact from_len _ | exact of_len _ | exact ofZ_len _ | exact (ofW_ok _).1 | exact (fullW_W _).1 | exact (okW_with (by assumption)).1 | exact (okW_less (by assumption)).1 | exact put_len (from_len _) | exact orD_len _ _ | exact andD_len _ _ | exact minusD_len _ _ | exact fullD_len _ | (refine okLen ?_; (repeat (first | assumption | exact ofW_ok _ | exact fullW_W _ | apply okW_with | apply okW_less | refine okW_orS ?_ ?_ | refine okW_andS ?_ ?_ | refine okW_minusS ?_ ?_)); done) | omega | rfl), (fun j v hv => List.getElem?_of_mem (by rw [hCs174]; exact List.mem_append.2 (.inr (List.mem_append.2 (.inr (List.mem_append.2 (.inl (blkC_in hv)))))))), (by simp only [List.length_map, List.length_set, List.length_replicate, List.length_cons, List.length_nil]; first | done | assumption | exact from_len _ | exact of_len _ | exact ofZ_len _ | exact (ofW_ok _).1 | exact (fullW_W _).1 | exact (okW_with (by assumption)).1 | exact (okW_less (by assumption)).1 | exact put_len (from_len _) | exact orD_len _ _ | exact andD_len _ _ | exact minusD_len _ _ | exact fullD_len _ | (refine okLen ?_; (repeat (first | assumption | exact ofW_ok _ | exact fullW_W _ | apply okW_with | apply okW_less | refine okW_orS ?_ ?_ | refine okW_andS ?_ ?_ | refine okW_minusS ?_ ?_)); done) | omega | rfl), (fun j v hv => List.getElem?_of_mem (by rw [hCs174]; exact List.mem_append.2 (.inr (List.mem_append.2 (.inr (List.mem_append.2 (.inr (blkC_in hv)))))))), trivial⟩ (fun act192 f191 => ?_)
  clear f171
  refine AtH.all [5, 10] 7 (by kernel_rfl) (by simp) ⟨?_, ?_, trivial⟩
  ·refine OneH.call f191 25 #[.agg ((t : List Int).map wV).toArray, .agg ((u : List Int).map wV).toArray] (some 46) #[true, true, true, true, true, true, false, false, false, false, false, false, false] (by kernel_rfl) (by kernel_rfl) (orS_any (s := t) (t := u) (by repeat (first | assumption | exact ofW_ok _ | exact fullW_W _ | exact wordsD_W _ | exact okW_0 | exact okW_00 | apply okW_orS | apply okW_andS | apply okW_minusS | apply okW_with | apply okW_less | apply okW_or | apply okW_and | apply okW_minus | (apply okW_lit <;> exact ⟨by omega, by omega⟩))) (by repeat (first | assumption | exact ofW_ok _ | exact fullW_W _ | exact wordsD_W _ | exact okW_0 | exact okW_00 | apply okW_orS | apply okW_andS | apply okW_minusS | apply okW_with | apply okW_less | apply okW_or | apply okW_and | apply okW_minus | (apply okW_lit <;> exact ⟨by omega, by omega⟩)))) ?_
   rintro e_ w194 ⟨rfl, he⟩
   refine ⟨_, rfl, _, rfl, fun act195 f196 => ?_⟩
   clear f191
   have g197 := gr_ext he
   have hS193 := hS179.gr g197
   have szw194 := g197.size
   have e198 := e180.gr g197 no_row
   clear e180
   have r199 := r181.gr g197 (fun _ h => by cases h)
   clear r181
   have r200 := r182.gr g197 (fun _ h => by cases h)
   clear r182
   have bx201 := bx183.gr g197 (by simp)
   clear bx183
   have bx202 := bx184.gr g197 (by simp)
   clear bx184
   have bx203 := bx185.gr g197 (by simp)
   clear bx185
   have bx204 := bx186.gr g197 (by simp)
   clear bx186
   have ow205 := ow187.gr g197 (fun _ _ h => by cases h)
   clear ow187
   have bx206 := bx188.gr g197 (by simp)
   clear bx188
   have ow207 := ow189.gr g197 (fun _ _ h => by cases h)
   clear ow189
   have bx208 := bx190.gr g197 (by simp)
   clear bx190
   clear g197 he
   refine ⟨hS193, ?_⟩
   refine AtH.all [6, 10] 6 (by kernel_rfl) (by simp) ⟨?_, ?_, trivial⟩
   ·refine OneH.call f196 12 #[.agg #[.slice Ag0 g.ow.length cg0, .slice Ag1 g.pr.length cg1, .slice Ag2 g.mv.length cg2], .agg ((s : List Int).map wV).toArray, .int .i64 (p), .agg ((orS t u : List Int).map wV).toArray] (some 47) #[true, true, true, true, true, true, true, false, false, false, false, false, false] (by kernel_rfl) (by kernel_rfl) (attract_any (g := g) (s := s) (t := orS t u) (p := p) (r199.wide (Nat.zero_le _) (by omega)) (by repeat (first | assumption | exact ofW_ok _ | exact fullW_W _ | exact wordsD_W _ | exact okW_0 | exact okW_00 | apply okW_orS | apply okW_andS | apply okW_minusS | apply okW_with | apply okW_less | apply okW_or | apply okW_and | apply okW_minus | (apply okW_lit <;> exact ⟨by omega, by omega⟩))) (okW_orS (by assumption) (by assumption)) (r200.wide (Nat.zero_le _) (by omega))) ?_
    rintro e_ w214 ⟨A210, c211, sc, mc, rfl, he, ow212, hC⟩
    have hok_sc := att_ok hC
    have hl_sc := okLen hok_sc
    have hlm_mc := att_len hC
    refine ⟨_, rfl, _, rfl, fun act215 f216 => ?_⟩
    clear f196
    have g217 := gr_ext he
    have hS209 := hS193.gr g217
    have lt218 := ow205.lt
    have lt219 := ow207.lt
    have szw214 := g217.size
    have e220 := e198.gr g217 no_row
    clear e198
    have r221 := r199.gr g217 (fun _ h => by cases h)
    clear r199
    have r222 := r200.gr g217 (fun _ h => by cases h)
    clear r200
    have bx223 := bx201.gr g217 (by simp)
    clear bx201
    have bx224 := bx202.gr g217 (by simp)
    clear bx202
    have bx225 := bx203.gr g217 (by simp)
    clear bx203
    have bx226 := bx204.gr g217 (by simp)
    clear bx204
    have ow227 : OwnR w214 (Sx (w50.heap.size) [obk (A210), some (w120.heap.size), obk (A116), some (w70.heap.size)]) A66 c67 3 (ma : List Int) := ow205.grA g217 (fun _ _ h => by cases h) (fun k hk hs => ⟨(fun e => by have := ow212.ge _ e; omega), hs.1, hs.2.1, hs.2.2.1, hs.2.2.2⟩)
    clear ow205
    have bx228 := bx206.gr g217 (by simp)
    clear bx206
    have ow229 : OwnR w214 (Sx (w98.heap.size) [obk (A210), some (w120.heap.size), obk (A66)]) A116 c117 3 (mb : List Int) := ow207.grA g217 (fun _ _ h => by cases h) (fun k hk hs => ⟨(fun e => by have := ow212.ge _ e; omega), hs.1, hs.2.1, hs.2.2⟩)
    clear ow207
    have bx230 := bx208.gr g217 (by simp)
    clear bx208
    have ow231 : OwnR w214 (Sx (w194.heap.size) [obk (A66), obk (A116)]) A210 c211 3 (mc : List Int) := ow212.imp (fun g _ hs => ⟨(fun e => by have := lt218 _ e; have := Sx_base hs; omega), (fun e => by have := lt219 _ e; have := Sx_base hs; omega), hs⟩)
    clear ow212
    clear lt218 lt219
    clear g217 he
    refine ⟨hS209, ?_⟩
    refine AtH.rd (by kernel_rfl) (fun d v c a w h => by cases d <;> exact h) hS209 [7] [[]] [(40, .tuple #[.agg ((sc : List Int).map wV).toArray, .slice A210 mc.length c211])] #[true, true, true, true, true, true, true, true, false, false, false, false, false] [] 5 f216 (by kernel_rfl) trivial (fun act233 f232 => ?_)
    clear f216
    refine AtH.rd (by kernel_rfl) (fun d v c a w h => by cases d <;> exact h) hS209 [8] [[]] [(48, .agg ((sc : List Int).map wV).toArray)] #[true, true, true, true, true, true, true, true, true, false, false, false, false] [] 4 f232 (by kernel_rfl) trivial (fun act235 f234 => ?_)
    clear f232
    refine AtH.rd (by kernel_rfl) (fun d v c a w h => by cases d <;> exact h) hS209 [9] [[]] [(49, .slice A210 mc.length c211)] #[true, true, true, true, true, true, true, true, true, true, false, false, false] [] 3 f234 (by kernel_rfl) trivial (fun act237 f236 => ?_)
    clear f234
    refine AtH.all [10] 2 (by kernel_rfl) (by simp) ⟨?_, trivial⟩
    refine OneH.seq f236 [[]] [(16, .pointer (some ⟨w214.heap.size, 0, none⟩))] (w214.alloc (.cells ((List.replicate 4 (0 : Int) : List Int).map wV).toArray 28 (0, 0))) [] #[true, true, true, true, true, true, true, true, true, true, true, false, false] (by kernel_rfl) (by kernel_rfl) (by kernel_rfl) trivial (fun act242 w239 hw240 f241 => ?_)
    clear f236
    have g243 := gr_alloc hw240
    have hS238 := hS209.gr g243
    have szw239 := g243.size
    have e245 := e220.gr g243 no_row
    clear e220
    have r246 := r221.gr g243 (fun _ h => by cases h)
    clear r221
    have r247 := r222.gr g243 (fun _ h => by cases h)
    clear r222
    have bx248 := bx223.gr g243 (by simp)
    clear bx223
    have bx249 := bx224.gr g243 (by simp)
    clear bx224
    have bx250 := bx225.gr g243 (by simp)
    clear bx225
    have bx251 := bx226.gr g243 (by simp)
    clear bx226
    have ow252 : OwnR w239 (Sx (w50.heap.size) [some (w214.heap.size), obk (A210), some (w120.heap.size), obk (A116), some (w70.heap.size)]) A66 c67 3 (ma : List Int) := ow227.grA g243 (fun _ _ h => by cases h) (fun k hk hs => ⟨(fun e => by injection e; omega), hs.1, hs.2.1, hs.2.2.1, hs.2.2.2.1, hs.2.2.2.2⟩)
    clear ow227
    have bx253 := bx228.gr g243 (by simp)
    clear bx228
    have ow254 : OwnR w239 (Sx (w98.heap.size) [some (w214.heap.size), obk (A210), some (w120.heap.size), obk (A66)]) A116 c117 3 (mb : List Int) := ow229.grA g243 (fun _ _ h => by cases h) (fun k hk hs => ⟨(fun e => by injection e; omega), hs.1, hs.2.1, hs.2.2.1, hs.2.2.2⟩)
    clear ow229
    have bx255 := bx230.gr g243 (by simp)
    clear bx230
    have ow256 : OwnR w239 (Sx (w194.heap.size) [some (w214.heap.size), obk (A66), obk (A116)]) A210 c211 3 (mc : List Int) := ow231.grA g243 (fun _ _ h => by cases h) (fun k hk hs => ⟨(fun e => by injection e; omega), hs.1, hs.2.1, hs.2.2⟩)
    clear ow231
    have bx257 : Bx w239 (w214.heap.size) ((List.replicate 4 (0 : Int) : List Int).map wV) 28 := Bx.new hw240
    have := bx257.lt
    clear g243 hw240
    refine ⟨hS238, ?_⟩
    refine AtH.all [11] 1 (by kernel_rfl) (by simp) ⟨?_, trivial⟩
    refine OneH.act f241 #[true, true, true, true, true, true, true, true, true, true, true, true, false] (by kernel_rfl) (storeBlk (t := 28) (b := w214.heap.size) (n := 4) (cs' := ((sc : List Int).map wV)) (by kernel_rfl) (by kernel_rfl) (by simp only [List.length_map, List.length_set, List.length_replicate, List.length_cons, List.length_nil]; first | done | assumption | exact from_len _ | exact of_len _ | exact ofZ_len _ | exact (ofW_ok _).1 | exact (fullW_W _).1 | exact (okW_with (by assumption)).1 | exact (okW_less (by assumption)).1 | exact put_len (from_len _) | exact orD_len _ _ | exact andD_len _ _ | exact minusD_len _ _ | exact fullD_len _ | (refine okLen ?_; (repeat (first | assumption | exact ofW_ok _ | exact fullW_W _ | apply okW_with | apply okW_less | refine okW_orS ?_ ?_ | refine okW_andS ?_ ?_ | refine okW_minusS ?_ ?_)); done) | omega | rfl) oneW_ ((show ((sc : List Int).map wV).length = 4 from (by simp only [List.length_map, List.length_set, List.length_replicate, List.length_cons, List.length_nil]; first | done | assumption | exact from_len _ | exact of_len _ | exact ofZ_len _ | exact (ofW_ok _).1 | exact (fullW_W _).1 | exact (okW_with (by assumption)).1 | exact (okW_less (by assumption)).1 | exact put_len (from_len _) | exact orD_len _ _ | exact andD_len _ _ | exact minusD_len _ _ | exact fullD_len _ | (refine okLen ?_; (repeat (first | assumption | exact ofW_ok _ | exact fullW_W _ | apply okW_with | apply okW_less | refine okW_orS ?_ ?_ | refine okW_andS ?_ ?_ | refine okW_minusS ?_ ?_)); done) | omega | rfl)).trans (show ((List.replicate 4 (0 : Int) : List Int).map wV).length = 4 from (by simp only [List.length_map, List.length_set, List.length_replicate, List.length_cons, List.length_nil]; first | done | assumption | exact from_len _ | exact of_len _ | exact ofZ_len _ | exact (ofW_ok _).1 | exact (fullW_W _).1 | exact (okW_with (by assumption)).1 | exact (okW_less (by assumption)).1 | exact put_len (from_len _) | exact orD_len _ _ | exact andD_len _ _ | exact minusD_len _ _ | exact fullD_len _ | (refine okLen ?_; (repeat (first | assumption | exact ofW_ok _ | exact fullW_W _ | apply okW_with | apply okW_less | refine okW_orS ?_ ?_ | refine okW_andS ?_ ?_ | refine okW_minusS ?_ ?_)); done) | omega | rfl)).symm) bx257) ?_
    rintro d_ v_ w259 ⟨rfl, g260, bx261⟩
    have hS264 := hS238.gr' g260 (by rw [hCs174]; exact (allP_app ⟨(by simp only [add_block]; omega), (by simp only [add_block]; omega), (by simp only [add_block]; omega), trivial⟩ (allP_app (ne_blk (by omega)) (allP_app (ne_blk (by omega)) (ne_blk (by omega))))))
    refine ⟨_, rfl, fun act263 f262 => ⟨hS264, ?_⟩⟩
    clear f241
    have szw259 := g260.size
    have e265 := e245.gr g260 (fun k h => by injection h; omega)
    clear e245
    have r266 := r246.gr g260 (fun k h => by injection h; omega)
    clear r246
    have r267 := r247.gr g260 (fun k h => by injection h; omega)
    clear r247
    have bx268 := bx248.gr g260 (fun h => by injection h; omega)
    clear bx248
    have bx269 := bx249.gr g260 (fun h => by injection h; omega)
    clear bx249
    have bx270 := bx250.gr g260 (fun h => by injection h; omega)
    clear bx250
    have bx271 := bx251.gr g260 (fun h => by injection h; omega)
    clear bx251
    have ow272 := ow252.gr g260 (fun k hk => hk.1)
    clear ow252
    have bx273 := bx253.gr g260 (fun h => by injection h; omega)
    clear bx253
    have ow274 := ow254.gr g260 (fun k hk => hk.1)
    clear ow254
    have bx275 := bx255.gr g260 (fun h => by injection h; omega)
    clear bx255
    have ow276 := ow256.gr g260 (fun k hk => hk.1)
    clear ow256
    clear bx257 g260
    refine AtH.rd (by kernel_rfl) (fun d v c a w h => by cases d <;> exact h) hS264 [12] [[]] [(17, .slice A210 mc.length c211)] #[true, true, true, true, true, true, true, true, true, true, true, true, true] [] 0 f262 (by kernel_rfl) trivial (fun act278 f277 => ?_)
    clear f262
    refine AtH.done (by kernel_rfl) ?_
    clear hS264
    refine t_n ?_
    have f279 := f277.sub (r := [(16, .pointer (some ⟨w214.heap.size, 0, none⟩)), (15, .slice A116 mb.length c117), (14, .pointer (some ⟨w120.heap.size, 0, none⟩)), (12, .pointer (some ⟨w70.heap.size, 0, none⟩)), (11, .bool true), (10, .bool false), (8, .pointer (some ⟨w11.heap.size, 0, none⟩)), (6, .pointer (some ⟨w1.heap.size, 0, none⟩)), (5, .pointer (some ⟨w.heap.size, 0, none⟩)), (2, .int .i64 (p))]) ⟨rfl, rfl, rfl, rfl, rfl, rfl, rfl, rfl, rfl, rfl, trivial⟩
    exact ⟨sc, mc, w214.heap.size, f279, e265, r266, r267, bx268, bx269, bx270, bx271, (ow272.imp (fun g _ hs => ⟨hs.2.2.1, hs.2.2.2.1, hs.2.2.2.2.1, hs.1, (by have := Sx_base hs; show w50.heap.size ≤ g; omega)⟩)), bx273, (ow274.imp (fun g _ hs => ⟨hs.2.2.1, hs.2.2.2.1, hs.1, (by have := Sx_base hs; show w98.heap.size ≤ g; omega)⟩)), bx275, bx261, (by omega), (by omega), hC⟩
   ·refine OneH.seq f196 [[]] [(16, .pointer (some ⟨w194.heap.size, 0, none⟩))] (w194.alloc (.cells ((List.replicate 4 (0 : Int) : List Int).map wV).toArray 28 (0, 0))) [] #[true, true, true, true, true, true, false, false, false, false, true, false, false] (by kernel_rfl) (by kernel_rfl) (by kernel_rfl) trivial (fun act284 w281 hw282 f283 => ?_)
    clear f196
    have g285 := gr_alloc hw282
    have hS280 := hS193.gr g285
    have szw281 := g285.size
    have e287 := e198.gr g285 no_row
    clear e198
    have r288 := r199.gr g285 (fun _ h => by cases h)
    clear r199
    have r289 := r200.gr g285 (fun _ h => by cases h)
    clear r200
    have bx290 := bx201.gr g285 (by simp)
    clear bx201
    have bx291 := bx202.gr g285 (by simp)
    clear bx202
    have bx292 := bx203.gr g285 (by simp)
    clear bx203
    have bx293 := bx204.gr g285 (by simp)
    clear bx204
    have ow294 : OwnR w281 (Sx (w50.heap.size) [some (w194.heap.size), some (w120.heap.size), obk (A116), some (w70.heap.size)]) A66 c67 3 (ma : List Int) := ow205.grA g285 (fun _ _ h => by cases h) (fun k hk hs => ⟨(fun e => by injection e; omega), hs.1, hs.2.1, hs.2.2.1, hs.2.2.2⟩)
    clear ow205
    have bx295 := bx206.gr g285 (by simp)
    clear bx206
    have ow296 : OwnR w281 (Sx (w98.heap.size) [some (w194.heap.size), some (w120.heap.size), obk (A66)]) A116 c117 3 (mb : List Int) := ow207.grA g285 (fun _ _ h => by cases h) (fun k hk hs => ⟨(fun e => by injection e; omega), hs.1, hs.2.1, hs.2.2⟩)
    clear ow207
    have bx297 := bx208.gr g285 (by simp)
    clear bx208
    have bx298 : Bx w281 (w194.heap.size) ((List.replicate 4 (0 : Int) : List Int).map wV) 28 := Bx.new hw282
    have := bx298.lt
    clear g285 hw282
    refine ⟨hS280, ?_⟩
    refine AtH.all [6] 5 (by kernel_rfl) (by simp) ⟨?_, trivial⟩
    refine OneH.call f283 12 #[.agg #[.slice Ag0 g.ow.length cg0, .slice Ag1 g.pr.length cg1, .slice Ag2 g.mv.length cg2], .agg ((s : List Int).map wV).toArray, .int .i64 (p), .agg ((orS t u : List Int).map wV).toArray] (some 47) #[true, true, true, true, true, true, true, false, false, false, true, false, false] (by kernel_rfl) (by kernel_rfl) (attract_any (g := g) (s := s) (t := orS t u) (p := p) (r288.wide (Nat.zero_le _) (by omega)) (by repeat (first | assumption | exact ofW_ok _ | exact fullW_W _ | exact wordsD_W _ | exact okW_0 | exact okW_00 | apply okW_orS | apply okW_andS | apply okW_minusS | apply okW_with | apply okW_less | apply okW_or | apply okW_and | apply okW_minus | (apply okW_lit <;> exact ⟨by omega, by omega⟩))) (okW_orS (by assumption) (by assumption)) (r289.wide (Nat.zero_le _) (by omega))) ?_
    rintro e_ w304 ⟨A300, c301, sc, mc, rfl, he, ow302, hC⟩
    have hok_sc := att_ok hC
    have hl_sc := okLen hok_sc
    have hlm_mc := att_len hC
    refine ⟨_, rfl, _, rfl, fun act305 f306 => ?_⟩
    clear f283
    have g307 := gr_ext he
    have hS299 := hS280.gr g307
    have lt308 := ow294.lt
    have lt309 := ow296.lt
    have szw304 := g307.size
    have e310 := e287.gr g307 no_row
    clear e287
    have r311 := r288.gr g307 (fun _ h => by cases h)
    clear r288
    have r312 := r289.gr g307 (fun _ h => by cases h)
    clear r289
    have bx313 := bx290.gr g307 (by simp)
    clear bx290
    have bx314 := bx291.gr g307 (by simp)
    clear bx291
    have bx315 := bx292.gr g307 (by simp)
    clear bx292
    have bx316 := bx293.gr g307 (by simp)
    clear bx293
    have ow317 : OwnR w304 (Sx (w50.heap.size) [obk (A300), some (w194.heap.size), some (w120.heap.size), obk (A116), some (w70.heap.size)]) A66 c67 3 (ma : List Int) := ow294.grA g307 (fun _ _ h => by cases h) (fun k hk hs => ⟨(fun e => by have := ow302.ge _ e; omega), hs.1, hs.2.1, hs.2.2.1, hs.2.2.2.1, hs.2.2.2.2⟩)
    clear ow294
    have bx318 := bx295.gr g307 (by simp)
    clear bx295
    have ow319 : OwnR w304 (Sx (w98.heap.size) [obk (A300), some (w194.heap.size), some (w120.heap.size), obk (A66)]) A116 c117 3 (mb : List Int) := ow296.grA g307 (fun _ _ h => by cases h) (fun k hk hs => ⟨(fun e => by have := ow302.ge _ e; omega), hs.1, hs.2.1, hs.2.2.1, hs.2.2.2⟩)
    clear ow296
    have bx320 := bx297.gr g307 (by simp)
    clear bx297
    have bx321 := bx298.gr g307 (by simp)
    clear bx298
    have ow322 : OwnR w304 (Sx (w281.heap.size) [obk (A66), obk (A116)]) A300 c301 3 (mc : List Int) := ow302.imp (fun g _ hs => ⟨(fun e => by have := lt308 _ e; have := Sx_base hs; omega), (fun e => by have := lt309 _ e; have := Sx_base hs; omega), hs⟩)
    clear ow302
    clear lt308 lt309
    clear g307 he
    refine ⟨hS299, ?_⟩
    refine AtH.rd (by kernel_rfl) (fun d v c a w h => by cases d <;> exact h) hS299 [7] [[]] [(40, .tuple #[.agg ((sc : List Int).map wV).toArray, .slice A300 mc.length c301])] #[true, true, true, true, true, true, true, true, false, false, true, false, false] [] 4 f306 (by kernel_rfl) trivial (fun act324 f323 => ?_)
    clear f306
    refine AtH.rd (by kernel_rfl) (fun d v c a w h => by cases d <;> exact h) hS299 [8] [[]] [(48, .agg ((sc : List Int).map wV).toArray)] #[true, true, true, true, true, true, true, true, true, false, true, false, false] [] 3 f323 (by kernel_rfl) trivial (fun act326 f325 => ?_)
    clear f323
    refine AtH.rd (by kernel_rfl) (fun d v c a w h => by cases d <;> exact h) hS299 [9] [[]] [(49, .slice A300 mc.length c301)] #[true, true, true, true, true, true, true, true, true, true, true, false, false] [] 2 f325 (by kernel_rfl) trivial (fun act328 f327 => ?_)
    clear f325
    refine AtH.all [11] 1 (by kernel_rfl) (by simp) ⟨?_, trivial⟩
    refine OneH.act f327 #[true, true, true, true, true, true, true, true, true, true, true, true, false] (by kernel_rfl) (storeBlk (t := 28) (b := w194.heap.size) (n := 4) (cs' := ((sc : List Int).map wV)) (by kernel_rfl) (by kernel_rfl) (by simp only [List.length_map, List.length_set, List.length_replicate, List.length_cons, List.length_nil]; first | done | assumption | exact from_len _ | exact of_len _ | exact ofZ_len _ | exact (ofW_ok _).1 | exact (fullW_W _).1 | exact (okW_with (by assumption)).1 | exact (okW_less (by assumption)).1 | exact put_len (from_len _) | exact orD_len _ _ | exact andD_len _ _ | exact minusD_len _ _ | exact fullD_len _ | (refine okLen ?_; (repeat (first | assumption | exact ofW_ok _ | exact fullW_W _ | apply okW_with | apply okW_less | refine okW_orS ?_ ?_ | refine okW_andS ?_ ?_ | refine okW_minusS ?_ ?_)); done) | omega | rfl) oneW_ ((show ((sc : List Int).map wV).length = 4 from (by simp only [List.length_map, List.length_set, List.length_replicate, List.length_cons, List.length_nil]; first | done | assumption | exact from_len _ | exact of_len _ | exact ofZ_len _ | exact (ofW_ok _).1 | exact (fullW_W _).1 | exact (okW_with (by assumption)).1 | exact (okW_less (by assumption)).1 | exact put_len (from_len _) | exact orD_len _ _ | exact andD_len _ _ | exact minusD_len _ _ | exact fullD_len _ | (refine okLen ?_; (repeat (first | assumption | exact ofW_ok _ | exact fullW_W _ | apply okW_with | apply okW_less | refine okW_orS ?_ ?_ | refine okW_andS ?_ ?_ | refine okW_minusS ?_ ?_)); done) | omega | rfl)).trans (show ((List.replicate 4 (0 : Int) : List Int).map wV).length = 4 from (by simp only [List.length_map, List.length_set, List.length_replicate, List.length_cons, List.length_nil]; first | done | assumption | exact from_len _ | exact of_len _ | exact ofZ_len _ | exact (ofW_ok _).1 | exact (fullW_W _).1 | exact (okW_with (by assumption)).1 | exact (okW_less (by assumption)).1 | exact put_len (from_len _) | exact orD_len _ _ | exact andD_len _ _ | exact minusD_len _ _ | exact fullD_len _ | (refine okLen ?_; (repeat (first | assumption | exact ofW_ok _ | exact fullW_W _ | apply okW_with | apply okW_less | refine okW_orS ?_ ?_ | refine okW_andS ?_ ?_ | refine okW_minusS ?_ ?_)); done) | omega | rfl)).symm) bx321) ?_
    rintro d_ v_ w330 ⟨rfl, g331, bx332⟩
    have hS335 := hS299.gr' g331 (by rw [hCs174]; exact (allP_app ⟨(by simp only [add_block]; omega), (by simp only [add_block]; omega), (by simp only [add_block]; omega), trivial⟩ (allP_app (ne_blk (by omega)) (allP_app (ne_blk (by omega)) (ne_blk (by omega))))))
    refine ⟨_, rfl, fun act334 f333 => ⟨hS335, ?_⟩⟩
    clear f327
    have szw330 := g331.size
    have e336 := e310.gr g331 (fun k h => by injection h; omega)
    clear e310
    have r337 := r311.gr g331 (fun k h => by injection h; omega)
    clear r311
    have r338 := r312.gr g331 (fun k h => by injection h; omega)
    clear r312
    have bx339 := bx313.gr g331 (fun h => by injection h; omega)
    clear bx313
    have bx340 := bx314.gr g331 (fun h => by injection h; omega)
    clear bx314
    have bx341 := bx315.gr g331 (fun h => by injection h; omega)
    clear bx315
    have bx342 := bx316.gr g331 (fun h => by injection h; omega)
    clear bx316
    have ow343 := ow317.gr g331 (fun k hk => hk.2.1)
    clear ow317
    have bx344 := bx318.gr g331 (fun h => by injection h; omega)
    clear bx318
    have ow345 := ow319.gr g331 (fun k hk => hk.2.1)
    clear ow319
    have bx346 := bx320.gr g331 (fun h => by injection h; omega)
    clear bx320
    have ow347 := ow322.gr g331 (fun k hk e => by have := Sx_base hk; injection e; omega)
    clear ow322
    clear bx321 g331
    refine AtH.rd (by kernel_rfl) (fun d v c a w h => by cases d <;> exact h) hS335 [12] [[]] [(17, .slice A300 mc.length c301)] #[true, true, true, true, true, true, true, true, true, true, true, true, true] [] 0 f333 (by kernel_rfl) trivial (fun act349 f348 => ?_)
    clear f333
    refine AtH.done (by kernel_rfl) ?_
    clear hS335
    refine t_n ?_
    have f350 := f348.sub (r := [(16, .pointer (some ⟨w194.heap.size, 0, none⟩)), (15, .slice A116 mb.length c117), (14, .pointer (some ⟨w120.heap.size, 0, none⟩)), (12, .pointer (some ⟨w70.heap.size, 0, none⟩)), (11, .bool true), (10, .bool false), (8, .pointer (some ⟨w11.heap.size, 0, none⟩)), (6, .pointer (some ⟨w1.heap.size, 0, none⟩)), (5, .pointer (some ⟨w.heap.size, 0, none⟩)), (2, .int .i64 (p))]) ⟨rfl, rfl, rfl, rfl, rfl, rfl, rfl, rfl, rfl, rfl, trivial⟩
    exact ⟨sc, mc, w194.heap.size, f350, e336, r337, r338, bx339, bx340, bx341, bx342, (ow343.imp (fun g _ hs => ⟨hs.2.2.1, hs.2.2.2.1, hs.2.2.2.2.1, hs.2.1, (by have := Sx_base hs; show w50.heap.size ≤ g; omega)⟩)), bx344, (ow345.imp (fun g _ hs => ⟨hs.2.2.1, hs.2.2.2.1, hs.2.1, (by have := Sx_base hs; show w98.heap.size ≤ g; omega)⟩)), bx346, bx332, (by omega), (by omega), hC⟩
  ·refine OneH.seq f191 [[]] [(16, .pointer (some ⟨w177.heap.size, 0, none⟩))] (w177.alloc (.cells ((List.replicate 4 (0 : Int) : List Int).map wV).toArray 28 (0, 0))) [] #[true, true, true, true, true, false, false, false, false, false, true, false, false] (by kernel_rfl) (by kernel_rfl) (by kernel_rfl) trivial (fun act355 w352 hw353 f354 => ?_)
   clear f191
   have g356 := gr_alloc hw353
   have hS351 := hS179.gr g356
   have szw352 := g356.size
   have e358 := e180.gr g356 no_row
   clear e180
   have r359 := r181.gr g356 (fun _ h => by cases h)
   clear r181
   have r360 := r182.gr g356 (fun _ h => by cases h)
   clear r182
   have bx361 := bx183.gr g356 (by simp)
   clear bx183
   have bx362 := bx184.gr g356 (by simp)
   clear bx184
   have bx363 := bx185.gr g356 (by simp)
   clear bx185
   have bx364 := bx186.gr g356 (by simp)
   clear bx186
   have ow365 : OwnR w352 (Sx (w50.heap.size) [some (w177.heap.size), some (w120.heap.size), obk (A116), some (w70.heap.size)]) A66 c67 3 (ma : List Int) := ow187.grA g356 (fun _ _ h => by cases h) (fun k hk hs => ⟨(fun e => by injection e; omega), hs.1, hs.2.1, hs.2.2.1, hs.2.2.2⟩)
   clear ow187
   have bx366 := bx188.gr g356 (by simp)
   clear bx188
   have ow367 : OwnR w352 (Sx (w98.heap.size) [some (w177.heap.size), some (w120.heap.size), obk (A66)]) A116 c117 3 (mb : List Int) := ow189.grA g356 (fun _ _ h => by cases h) (fun k hk hs => ⟨(fun e => by injection e; omega), hs.1, hs.2.1, hs.2.2⟩)
   clear ow189
   have bx368 := bx190.gr g356 (by simp)
   clear bx190
   have bx369 : Bx w352 (w177.heap.size) ((List.replicate 4 (0 : Int) : List Int).map wV) 28 := Bx.new hw353
   have := bx369.lt
   clear g356 hw353
   refine ⟨hS351, ?_⟩
   refine AtH.all [5] 6 (by kernel_rfl) (by simp) ⟨?_, trivial⟩
   refine OneH.call f354 25 #[.agg ((t : List Int).map wV).toArray, .agg ((u : List Int).map wV).toArray] (some 46) #[true, true, true, true, true, true, false, false, false, false, true, false, false] (by kernel_rfl) (by kernel_rfl) (orS_any (s := t) (t := u) (by repeat (first | assumption | exact ofW_ok _ | exact fullW_W _ | exact wordsD_W _ | exact okW_0 | exact okW_00 | apply okW_orS | apply okW_andS | apply okW_minusS | apply okW_with | apply okW_less | apply okW_or | apply okW_and | apply okW_minus | (apply okW_lit <;> exact ⟨by omega, by omega⟩))) (by repeat (first | assumption | exact ofW_ok _ | exact fullW_W _ | exact wordsD_W _ | exact okW_0 | exact okW_00 | apply okW_orS | apply okW_andS | apply okW_minusS | apply okW_with | apply okW_less | apply okW_or | apply okW_and | apply okW_minus | (apply okW_lit <;> exact ⟨by omega, by omega⟩)))) ?_
   rintro e_ w371 ⟨rfl, he⟩
   refine ⟨_, rfl, _, rfl, fun act372 f373 => ?_⟩
   clear f354
   have g374 := gr_ext he
   have hS370 := hS351.gr g374
   have szw371 := g374.size
   have e375 := e358.gr g374 no_row
   clear e358
   have r376 := r359.gr g374 (fun _ h => by cases h)
   clear r359
   have r377 := r360.gr g374 (fun _ h => by cases h)
   clear r360
   have bx378 := bx361.gr g374 (by simp)
   clear bx361
   have bx379 := bx362.gr g374 (by simp)
   clear bx362
   have bx380 := bx363.gr g374 (by simp)
   clear bx363
   have bx381 := bx364.gr g374 (by simp)
   clear bx364
   have ow382 := ow365.gr g374 (fun _ _ h => by cases h)
   clear ow365
   have bx383 := bx366.gr g374 (by simp)
   clear bx366
   have ow384 := ow367.gr g374 (fun _ _ h => by cases h)
   clear ow367
   have bx385 := bx368.gr g374 (by simp)
   clear bx368
   have bx386 := bx369.gr g374 (by simp)
   clear bx369
   clear g374 he
   refine ⟨hS370, ?_⟩
   refine AtH.all [6] 5 (by kernel_rfl) (by simp) ⟨?_, trivial⟩
   refine OneH.call f373 12 #[.agg #[.slice Ag0 g.ow.length cg0, .slice Ag1 g.pr.length cg1, .slice Ag2 g.mv.length cg2], .agg ((s : List Int).map wV).toArray, .int .i64 (p), .agg ((orS t u : List Int).map wV).toArray] (some 47) #[true, true, true, true, true, true, true, false, false, false, true, false, false] (by kernel_rfl) (by kernel_rfl) (attract_any (g := g) (s := s) (t := orS t u) (p := p) (r376.wide (Nat.zero_le _) (by omega)) (by repeat (first | assumption | exact ofW_ok _ | exact fullW_W _ | exact wordsD_W _ | exact okW_0 | exact okW_00 | apply okW_orS | apply okW_andS | apply okW_minusS | apply okW_with | apply okW_less | apply okW_or | apply okW_and | apply okW_minus | (apply okW_lit <;> exact ⟨by omega, by omega⟩))) (okW_orS (by assumption) (by assumption)) (r377.wide (Nat.zero_le _) (by omega))) ?_
   rintro e_ w392 ⟨A388, c389, sc, mc, rfl, he, ow390, hC⟩
   have hok_sc := att_ok hC
   have hl_sc := okLen hok_sc
   have hlm_mc := att_len hC
   refine ⟨_, rfl, _, rfl, fun act393 f394 => ?_⟩
   clear f373
   have g395 := gr_ext he
   have hS387 := hS370.gr g395
   have lt396 := ow382.lt
   have lt397 := ow384.lt
   have szw392 := g395.size
   have e398 := e375.gr g395 no_row
   clear e375
   have r399 := r376.gr g395 (fun _ h => by cases h)
   clear r376
   have r400 := r377.gr g395 (fun _ h => by cases h)
   clear r377
   have bx401 := bx378.gr g395 (by simp)
   clear bx378
   have bx402 := bx379.gr g395 (by simp)
   clear bx379
   have bx403 := bx380.gr g395 (by simp)
   clear bx380
   have bx404 := bx381.gr g395 (by simp)
   clear bx381
   have ow405 : OwnR w392 (Sx (w50.heap.size) [obk (A388), some (w177.heap.size), some (w120.heap.size), obk (A116), some (w70.heap.size)]) A66 c67 3 (ma : List Int) := ow382.grA g395 (fun _ _ h => by cases h) (fun k hk hs => ⟨(fun e => by have := ow390.ge _ e; omega), hs.1, hs.2.1, hs.2.2.1, hs.2.2.2.1, hs.2.2.2.2⟩)
   clear ow382
   have bx406 := bx383.gr g395 (by simp)
   clear bx383
   have ow407 : OwnR w392 (Sx (w98.heap.size) [obk (A388), some (w177.heap.size), some (w120.heap.size), obk (A66)]) A116 c117 3 (mb : List Int) := ow384.grA g395 (fun _ _ h => by cases h) (fun k hk hs => ⟨(fun e => by have := ow390.ge _ e; omega), hs.1, hs.2.1, hs.2.2.1, hs.2.2.2⟩)
   clear ow384
   have bx408 := bx385.gr g395 (by simp)
   clear bx385
   have bx409 := bx386.gr g395 (by simp)
   clear bx386
   have ow410 : OwnR w392 (Sx (w371.heap.size) [obk (A66), obk (A116)]) A388 c389 3 (mc : List Int) := ow390.imp (fun g _ hs => ⟨(fun e => by have := lt396 _ e; have := Sx_base hs; omega), (fun e => by have := lt397 _ e; have := Sx_base hs; omega), hs⟩)
   clear ow390
   clear lt396 lt397
   clear g395 he
   refine ⟨hS387, ?_⟩
   refine AtH.rd (by kernel_rfl) (fun d v c a w h => by cases d <;> exact h) hS387 [7] [[]] [(40, .tuple #[.agg ((sc : List Int).map wV).toArray, .slice A388 mc.length c389])] #[true, true, true, true, true, true, true, true, false, false, true, false, false] [] 4 f394 (by kernel_rfl) trivial (fun act412 f411 => ?_)
   clear f394
   refine AtH.rd (by kernel_rfl) (fun d v c a w h => by cases d <;> exact h) hS387 [8] [[]] [(48, .agg ((sc : List Int).map wV).toArray)] #[true, true, true, true, true, true, true, true, true, false, true, false, false] [] 3 f411 (by kernel_rfl) trivial (fun act414 f413 => ?_)
   clear f411
   refine AtH.rd (by kernel_rfl) (fun d v c a w h => by cases d <;> exact h) hS387 [9] [[]] [(49, .slice A388 mc.length c389)] #[true, true, true, true, true, true, true, true, true, true, true, false, false] [] 2 f413 (by kernel_rfl) trivial (fun act416 f415 => ?_)
   clear f413
   refine AtH.all [11] 1 (by kernel_rfl) (by simp) ⟨?_, trivial⟩
   refine OneH.act f415 #[true, true, true, true, true, true, true, true, true, true, true, true, false] (by kernel_rfl) (storeBlk (t := 28) (b := w177.heap.size) (n := 4) (cs' := ((sc : List Int).map wV)) (by kernel_rfl) (by kernel_rfl) (by simp only [List.length_map, List.length_set, List.length_replicate, List.length_cons, List.length_nil]; first | done | assumption | exact from_len _ | exact of_len _ | exact ofZ_len _ | exact (ofW_ok _).1 | exact (fullW_W _).1 | exact (okW_with (by assumption)).1 | exact (okW_less (by assumption)).1 | exact put_len (from_len _) | exact orD_len _ _ | exact andD_len _ _ | exact minusD_len _ _ | exact fullD_len _ | (refine okLen ?_; (repeat (first | assumption | exact ofW_ok _ | exact fullW_W _ | apply okW_with | apply okW_less | refine okW_orS ?_ ?_ | refine okW_andS ?_ ?_ | refine okW_minusS ?_ ?_)); done) | omega | rfl) oneW_ ((show ((sc : List Int).map wV).length = 4 from (by simp only [List.length_map, List.length_set, List.length_replicate, List.length_cons, List.length_nil]; first | done | assumption | exact from_len _ | exact of_len _ | exact ofZ_len _ | exact (ofW_ok _).1 | exact (fullW_W _).1 | exact (okW_with (by assumption)).1 | exact (okW_less (by assumption)).1 | exact put_len (from_len _) | exact orD_len _ _ | exact andD_len _ _ | exact minusD_len _ _ | exact fullD_len _ | (refine okLen ?_; (repeat (first | assumption | exact ofW_ok _ | exact fullW_W _ | apply okW_with | apply okW_less | refine okW_orS ?_ ?_ | refine okW_andS ?_ ?_ | refine okW_minusS ?_ ?_)); done) | omega | rfl)).trans (show ((List.replicate 4 (0 : Int) : List Int).map wV).length = 4 from (by simp only [List.length_map, List.length_set, List.length_replicate, List.length_cons, List.length_nil]; first | done | assumption | exact from_len _ | exact of_len _ | exact ofZ_len _ | exact (ofW_ok _).1 | exact (fullW_W _).1 | exact (okW_with (by assumption)).1 | exact (okW_less (by assumption)).1 | exact put_len (from_len _) | exact orD_len _ _ | exact andD_len _ _ | exact minusD_len _ _ | exact fullD_len _ | (refine okLen ?_; (repeat (first | assumption | exact ofW_ok _ | exact fullW_W _ | apply okW_with | apply okW_less | refine okW_orS ?_ ?_ | refine okW_andS ?_ ?_ | refine okW_minusS ?_ ?_)); done) | omega | rfl)).symm) bx409) ?_
   rintro d_ v_ w418 ⟨rfl, g419, bx420⟩
   have hS423 := hS387.gr' g419 (by rw [hCs174]; exact (allP_app ⟨(by simp only [add_block]; omega), (by simp only [add_block]; omega), (by simp only [add_block]; omega), trivial⟩ (allP_app (ne_blk (by omega)) (allP_app (ne_blk (by omega)) (ne_blk (by omega))))))
   refine ⟨_, rfl, fun act422 f421 => ⟨hS423, ?_⟩⟩
   clear f415
   have szw418 := g419.size
   have e424 := e398.gr g419 (fun k h => by injection h; omega)
   clear e398
   have r425 := r399.gr g419 (fun k h => by injection h; omega)
   clear r399
   have r426 := r400.gr g419 (fun k h => by injection h; omega)
   clear r400
   have bx427 := bx401.gr g419 (fun h => by injection h; omega)
   clear bx401
   have bx428 := bx402.gr g419 (fun h => by injection h; omega)
   clear bx402
   have bx429 := bx403.gr g419 (fun h => by injection h; omega)
   clear bx403
   have bx430 := bx404.gr g419 (fun h => by injection h; omega)
   clear bx404
   have ow431 := ow405.gr g419 (fun k hk => hk.2.1)
   clear ow405
   have bx432 := bx406.gr g419 (fun h => by injection h; omega)
   clear bx406
   have ow433 := ow407.gr g419 (fun k hk => hk.2.1)
   clear ow407
   have bx434 := bx408.gr g419 (fun h => by injection h; omega)
   clear bx408
   have ow435 := ow410.gr g419 (fun k hk e => by have := Sx_base hk; injection e; omega)
   clear ow410
   clear bx409 g419
   refine AtH.rd (by kernel_rfl) (fun d v c a w h => by cases d <;> exact h) hS423 [12] [[]] [(17, .slice A388 mc.length c389)] #[true, true, true, true, true, true, true, true, true, true, true, true, true] [] 0 f421 (by kernel_rfl) trivial (fun act437 f436 => ?_)
   clear f421
   refine AtH.done (by kernel_rfl) ?_
   clear hS423
   refine t_n ?_
   have f438 := f436.sub (r := [(16, .pointer (some ⟨w177.heap.size, 0, none⟩)), (15, .slice A116 mb.length c117), (14, .pointer (some ⟨w120.heap.size, 0, none⟩)), (12, .pointer (some ⟨w70.heap.size, 0, none⟩)), (11, .bool true), (10, .bool false), (8, .pointer (some ⟨w11.heap.size, 0, none⟩)), (6, .pointer (some ⟨w1.heap.size, 0, none⟩)), (5, .pointer (some ⟨w.heap.size, 0, none⟩)), (2, .int .i64 (p))]) ⟨rfl, rfl, rfl, rfl, rfl, rfl, rfl, rfl, rfl, rfl, trivial⟩
   exact ⟨sc, mc, w177.heap.size, f438, e424, r425, r426, bx427, bx428, bx429, bx430, (ow431.imp (fun g _ hs => ⟨hs.2.2.1, hs.2.2.2.1, hs.2.2.2.2.1, hs.2.1, (by have := Sx_base hs; show w50.heap.size ≤ g; omega)⟩)), bx432, (ow433.imp (fun g _ hs => ⟨hs.2.2.1, hs.2.2.2.1, hs.2.1, (by have := Sx_base hs; show w98.heap.size ≤ g; omega)⟩)), bx434, bx420, (by omega), (by omega), hC⟩
 ·clear r160
  clear r161
  clear bx162
  clear bx163
  clear bx164
  clear bx165
  clear ow166
  clear bx167
  clear ow168
  clear bx156
  clear f171 e159
  intro act439 w440 ⟨sc, mc, b_172, f441, e442, r443, r444, bx445, bx446, bx447, bx448, ow449, bx450, ow451, bx452, bx453, hb454, szz455, hC⟩
  have szw440 := e442.size
  have hok_sc := att_ok hC
  have hl_sc := okLen hok_sc
  have hlm_mc := att_len hC
  have := bx445.lt
  have := bx446.lt
  have := bx447.lt
  have := bx448.lt
  have := bx450.lt
  have := bx452.lt
  have := bx453.lt
  refine wp_seq ?_
  refine At.start ?_
  refine At.rd f441 4 [[.ld (.slice Ag0 g.ow.length cg0), .ld (.slice Ag1 g.pr.length cg1), .ld (.slice Ag2 g.mv.length cg2)], [.cs ((s : List Int).map wV)], [], []] [(54, .agg (([0, 0, 0, 0] : List Int).map wV).toArray), (53, .int .i64 (p)), (52, .agg ((s : List Int).map wV).toArray), (51, .agg #[.slice Ag0 g.ow.length cg0, .slice Ag1 g.pr.length cg1, .slice Ag2 g.mv.length cg2])] [(w440.cell? ⟨w.heap.size, 0, none⟩ = some (.slice Ag0 g.ow.length cg0)), (w440.cell? ⟨w.heap.size, 1, none⟩ = some (.slice Ag1 g.pr.length cg1)), (w440.cell? ⟨w.heap.size, 2, none⟩ = some (.slice Ag2 g.mv.length cg2)), (((s : List Int).map wV).length = 4), (∀ (j : Nat) (v : Value), ((s : List Int).map wV)[j]? = some v → w440.cell? ((⟨w1.heap.size, 0, none⟩ : Addr).add j) = some v)] (by kernel_rfl) ⟨(bx445.cell (i := 0) rfl), (bx445.cell (i := 1) rfl), (bx445.cell (i := 2) rfl), (by simp only [List.length_map, List.length_set, List.length_replicate, List.length_cons, List.length_nil]; first | done | assumption | exact from_len _ | exact of_len _ | exact ofZ_len _ | exact (ofW_ok _).1 | exact (fullW_W _).1 | exact (okW_with (by assumption)).1 | exact (okW_less (by assumption)).1 | exact put_len (from_len _) | exact orD_len _ _ | exact andD_len _ _ | exact minusD_len _ _ | exact fullD_len _ | (refine okLen ?_; (repeat (first | assumption | exact ofW_ok _ | exact fullW_W _ | apply okW_with | apply okW_less | refine okW_orS ?_ ?_ | refine okW_andS ?_ ?_ | refine okW_minusS ?_ ?_)); done) | omega | rfl), bx446.whole, trivial⟩ (fun act458 f457 => ?_)
  clear f441
  refine At.call f457 12 #[.agg #[.slice Ag0 g.ow.length cg0, .slice Ag1 g.pr.length cg1, .slice Ag2 g.mv.length cg2], .agg ((s : List Int).map wV).toArray, .int .i64 (p), .agg (([0, 0, 0, 0] : List Int).map wV).toArray] (some 55) (by kernel_rfl) (attract_any (g := g) (s := s) (t := [0, 0, 0, 0]) (p := p) (r443.wide (Nat.zero_le _) (by omega)) (by repeat (first | assumption | exact ofW_ok _ | exact fullW_W _ | exact wordsD_W _ | exact okW_0 | exact okW_00 | apply okW_orS | apply okW_andS | apply okW_minusS | apply okW_with | apply okW_less | apply okW_or | apply okW_and | apply okW_minus | (apply okW_lit <;> exact ⟨by omega, by omega⟩))) okW_00 (r444.wide (Nat.zero_le _) (by omega))) ?_
  rintro e_ w463 ⟨A459, c460, sd, md, rfl, he, ow461, hD⟩
  have hok_sd := att_ok hD
  have hl_sd := okLen hok_sd
  have hlm_md := att_len hD
  refine ⟨_, rfl, _, rfl, fun act464 f465 => ?_⟩
  clear f457
  have g466 := gr_ext he
  have lt467 := ow449.lt
  have lt468 := ow451.lt
  have szw463 := g466.size
  have e469 := e442.gr g466 no_row
  clear e442
  have r470 := r443.gr g466 (fun _ h => by cases h)
  clear r443
  have r471 := r444.gr g466 (fun _ h => by cases h)
  clear r444
  have bx472 := bx445.gr g466 (by simp)
  clear bx445
  have bx473 := bx446.gr g466 (by simp)
  clear bx446
  have bx474 := bx447.gr g466 (by simp)
  clear bx447
  have bx475 := bx448.gr g466 (by simp)
  clear bx448
  have ow476 : OwnR w463 (Sx (w50.heap.size) [obk (A459), some (w120.heap.size), obk (A116), some (w70.heap.size), some (b_172)]) A66 c67 3 (ma : List Int) := ow449.grA g466 (fun _ _ h => by cases h) (fun k hk hs => ⟨(fun e => by have := ow461.ge _ e; omega), hs.1, hs.2.1, hs.2.2.1, hs.2.2.2.1, hs.2.2.2.2⟩)
  clear ow449
  have bx477 := bx450.gr g466 (by simp)
  clear bx450
  have ow478 : OwnR w463 (Sx (w98.heap.size) [obk (A459), some (w120.heap.size), obk (A66), some (b_172)]) A116 c117 3 (mb : List Int) := ow451.grA g466 (fun _ _ h => by cases h) (fun k hk hs => ⟨(fun e => by have := ow461.ge _ e; omega), hs.1, hs.2.1, hs.2.2.1, hs.2.2.2⟩)
  clear ow451
  have bx479 := bx452.gr g466 (by simp)
  clear bx452
  have bx480 := bx453.gr g466 (by simp)
  clear bx453
  have ow481 : OwnR w463 (Sx (w440.heap.size) [obk (A66), obk (A116)]) A459 c460 3 (md : List Int) := ow461.imp (fun g _ hs => ⟨(fun e => by have := lt467 _ e; have := Sx_base hs; omega), (fun e => by have := lt468 _ e; have := Sx_base hs; omega), hs⟩)
  clear ow461
  clear lt467 lt468
  clear g466 he
  refine At.rd f465 3 [[], [], []] [(57, .slice A459 md.length c460), (56, .agg ((sd : List Int).map wV).toArray), (50, .tuple #[.agg ((sd : List Int).map wV).toArray, .slice A459 md.length c460])] [] (by kernel_rfl) trivial (fun act483 f482 => ?_)
  clear f465
  refine At.seq f482 1 [[]] [(18, .pointer (some ⟨w463.heap.size, 0, none⟩))] (w463.alloc (.cells ((List.replicate 4 (0 : Int) : List Int).map wV).toArray 28 (0, 0))) [] (by kernel_rfl) trivial (fun act487 w484 hw485 f486 => ?_)
  clear f482
  have g488 := gr_alloc hw485
  have szw484 := g488.size
  have e490 := e469.gr g488 no_row
  clear e469
  have r491 := r470.gr g488 (fun _ h => by cases h)
  clear r470
  have r492 := r471.gr g488 (fun _ h => by cases h)
  clear r471
  have bx493 := bx472.gr g488 (by simp)
  clear bx472
  have bx494 := bx473.gr g488 (by simp)
  clear bx473
  have bx495 := bx474.gr g488 (by simp)
  clear bx474
  have bx496 := bx475.gr g488 (by simp)
  clear bx475
  have ow497 : OwnR w484 (Sx (w50.heap.size) [some (w463.heap.size), obk (A459), some (w120.heap.size), obk (A116), some (w70.heap.size), some (b_172)]) A66 c67 3 (ma : List Int) := ow476.grA g488 (fun _ _ h => by cases h) (fun k hk hs => ⟨(fun e => by injection e; omega), hs.1, hs.2.1, hs.2.2.1, hs.2.2.2.1, hs.2.2.2.2.1, hs.2.2.2.2.2⟩)
  clear ow476
  have bx498 := bx477.gr g488 (by simp)
  clear bx477
  have ow499 : OwnR w484 (Sx (w98.heap.size) [some (w463.heap.size), obk (A459), some (w120.heap.size), obk (A66), some (b_172)]) A116 c117 3 (mb : List Int) := ow478.grA g488 (fun _ _ h => by cases h) (fun k hk hs => ⟨(fun e => by injection e; omega), hs.1, hs.2.1, hs.2.2.1, hs.2.2.2.1, hs.2.2.2.2⟩)
  clear ow478
  have bx500 := bx479.gr g488 (by simp)
  clear bx479
  have bx501 := bx480.gr g488 (by simp)
  clear bx480
  have ow502 : OwnR w484 (Sx (w440.heap.size) [some (w463.heap.size), obk (A66), obk (A116)]) A459 c460 3 (md : List Int) := ow481.grA g488 (fun _ _ h => by cases h) (fun k hk hs => ⟨(fun e => by injection e; omega), hs.1, hs.2.1, hs.2.2⟩)
  clear ow481
  have bx503 : Bx w484 (w463.heap.size) ((List.replicate 4 (0 : Int) : List Int).map wV) 28 := Bx.new hw485
  have := bx503.lt
  clear g488 hw485
  refine At.act f486 (storeBlk (t := 28) (b := w463.heap.size) (n := 4) (cs' := ((sd : List Int).map wV)) (by kernel_rfl) (by kernel_rfl) (by simp only [List.length_map, List.length_set, List.length_replicate, List.length_cons, List.length_nil]; first | done | assumption | exact from_len _ | exact of_len _ | exact ofZ_len _ | exact (ofW_ok _).1 | exact (fullW_W _).1 | exact (okW_with (by assumption)).1 | exact (okW_less (by assumption)).1 | exact put_len (from_len _) | exact orD_len _ _ | exact andD_len _ _ | exact minusD_len _ _ | exact fullD_len _ | (refine okLen ?_; (repeat (first | assumption | exact ofW_ok _ | exact fullW_W _ | apply okW_with | apply okW_less | refine okW_orS ?_ ?_ | refine okW_andS ?_ ?_ | refine okW_minusS ?_ ?_)); done) | omega | rfl) oneW_ ((show ((sd : List Int).map wV).length = 4 from (by simp only [List.length_map, List.length_set, List.length_replicate, List.length_cons, List.length_nil]; first | done | assumption | exact from_len _ | exact of_len _ | exact ofZ_len _ | exact (ofW_ok _).1 | exact (fullW_W _).1 | exact (okW_with (by assumption)).1 | exact (okW_less (by assumption)).1 | exact put_len (from_len _) | exact orD_len _ _ | exact andD_len _ _ | exact minusD_len _ _ | exact fullD_len _ | (refine okLen ?_; (repeat (first | assumption | exact ofW_ok _ | exact fullW_W _ | apply okW_with | apply okW_less | refine okW_orS ?_ ?_ | refine okW_andS ?_ ?_ | refine okW_minusS ?_ ?_)); done) | omega | rfl)).trans (show ((List.replicate 4 (0 : Int) : List Int).map wV).length = 4 from (by simp only [List.length_map, List.length_set, List.length_replicate, List.length_cons, List.length_nil]; first | done | assumption | exact from_len _ | exact of_len _ | exact ofZ_len _ | exact (ofW_ok _).1 | exact (fullW_W _).1 | exact (okW_with (by assumption)).1 | exact (okW_less (by assumption)).1 | exact put_len (from_len _) | exact orD_len _ _ | exact andD_len _ _ | exact minusD_len _ _ | exact fullD_len _ | (refine okLen ?_; (repeat (first | assumption | exact ofW_ok _ | exact fullW_W _ | apply okW_with | apply okW_less | refine okW_orS ?_ ?_ | refine okW_andS ?_ ?_ | refine okW_minusS ?_ ?_)); done) | omega | rfl)).symm) bx503) ?_
  rintro d_ v_ w504 ⟨rfl, g505, bx506⟩
  refine ⟨_, rfl, fun act508 f507 => ?_⟩
  clear f486
  have szw504 := g505.size
  have e509 := e490.gr g505 (fun k h => by injection h; omega)
  clear e490
  have r510 := r491.gr g505 (fun k h => by injection h; omega)
  clear r491
  have r511 := r492.gr g505 (fun k h => by injection h; omega)
  clear r492
  have bx512 := bx493.gr g505 (fun h => by injection h; omega)
  clear bx493
  have bx513 := bx494.gr g505 (fun h => by injection h; omega)
  clear bx494
  have bx514 := bx495.gr g505 (fun h => by injection h; omega)
  clear bx495
  have bx515 := bx496.gr g505 (fun h => by injection h; omega)
  clear bx496
  have ow516 := ow497.gr g505 (fun k hk => hk.1)
  clear ow497
  have bx517 := bx498.gr g505 (fun h => by injection h; omega)
  clear bx498
  have ow518 := ow499.gr g505 (fun k hk => hk.1)
  clear ow499
  have bx519 := bx500.gr g505 (fun h => by injection h; omega)
  clear bx500
  have bx520 := bx501.gr g505 (fun h => by injection h; omega)
  clear bx501
  have ow521 := ow502.gr g505 (fun k hk => hk.1)
  clear ow502
  clear bx503 g505
  refine At.rd f507 1 [[]] [(19, .slice A459 md.length c460)] [] (by kernel_rfl) trivial (fun act523 f522 => ?_)
  clear f507
  refine At.done rfl ?_
  refine t_n ?_
  have f524 := f522.sub (r := [(18, .pointer (some ⟨w463.heap.size, 0, none⟩)), (16, .pointer (some ⟨b_172, 0, none⟩)), (15, .slice A116 mb.length c117), (14, .pointer (some ⟨w120.heap.size, 0, none⟩)), (12, .pointer (some ⟨w70.heap.size, 0, none⟩)), (11, .bool true), (10, .bool false), (8, .pointer (some ⟨w11.heap.size, 0, none⟩)), (5, .pointer (some ⟨w.heap.size, 0, none⟩)), (2, .int .i64 (p))]) ⟨rfl, rfl, rfl, rfl, rfl, rfl, rfl, rfl, rfl, rfl, trivial⟩
  clear f522
  refine wp_seq ?_
  refine At.start ?_
  refine At.rd f524 4 [[.ld (.slice Ag0 g.ow.length cg0), .ld (.slice Ag1 g.pr.length cg1), .ld (.slice Ag2 g.mv.length cg2)], [], [], [.cs ((t : List Int).map wV)]] [(62, .agg ((t : List Int).map wV).toArray), (61, .int .i64 (p)), (60, .agg (([0, 0, 0, 0] : List Int).map wV).toArray), (59, .agg #[.slice Ag0 g.ow.length cg0, .slice Ag1 g.pr.length cg1, .slice Ag2 g.mv.length cg2])] [(w504.cell? ⟨w.heap.size, 0, none⟩ = some (.slice Ag0 g.ow.length cg0)), (w504.cell? ⟨w.heap.size, 1, none⟩ = some (.slice Ag1 g.pr.length cg1)), (w504.cell? ⟨w.heap.size, 2, none⟩ = some (.slice Ag2 g.mv.length cg2)), (((t : List Int).map wV).length = 4), (∀ (j : Nat) (v : Value), ((t : List Int).map wV)[j]? = some v → w504.cell? ((⟨w11.heap.size, 0, none⟩ : Addr).add j) = some v)] (by kernel_rfl) ⟨(bx512.cell (i := 0) rfl), (bx512.cell (i := 1) rfl), (bx512.cell (i := 2) rfl), (by simp only [List.length_map, List.length_set, List.length_replicate, List.length_cons, List.length_nil]; first | done | assumption | exact from_len _ | exact of_len _ | exact ofZ_len _ | exact (ofW_ok _).1 | exact (fullW_W _).1 | exact (okW_with (by assumption)).1 | exact (okW_less (by assumption)).1 | exact put_len (from_len _) | exact orD_len _ _ | exact andD_len _ _ | exact minusD_len _ _ | exact fullD_len _ | (refine okLen ?_; (repeat (first | assumption | exact ofW_ok _ | exact fullW_W _ | apply okW_with | apply okW_less | refine okW_orS ?_ ?_ | refine okW_andS ?_ ?_ | refine okW_minusS ?_ ?_)); done) | omega | rfl), bx514.whole, trivial⟩ (fun act526 f525 => ?_)
  clear f524
  refine At.call f525 12 #[.agg #[.slice Ag0 g.ow.length cg0, .slice Ag1 g.pr.length cg1, .slice Ag2 g.mv.length cg2], .agg (([0, 0, 0, 0] : List Int).map wV).toArray, .int .i64 (p), .agg ((t : List Int).map wV).toArray] (some 63) (by kernel_rfl) (attract_any (g := g) (s := [0, 0, 0, 0]) (t := t) (p := p) (r510.wide (Nat.zero_le _) (by omega)) okW_00 (by repeat (first | assumption | exact ofW_ok _ | exact fullW_W _ | exact wordsD_W _ | exact okW_0 | exact okW_00 | apply okW_orS | apply okW_andS | apply okW_minusS | apply okW_with | apply okW_less | apply okW_or | apply okW_and | apply okW_minus | (apply okW_lit <;> exact ⟨by omega, by omega⟩))) (r511.wide (Nat.zero_le _) (by omega))) ?_
  rintro e_ w531 ⟨A527, c528, sf, mf, rfl, he, ow529, hF⟩
  have hok_sf := att_ok hF
  have hl_sf := okLen hok_sf
  have hlm_mf := att_len hF
  refine ⟨_, rfl, _, rfl, fun act532 f533 => ?_⟩
  clear f525
  have g534 := gr_ext he
  have lt535 := ow516.lt
  have lt536 := ow518.lt
  have lt537 := ow521.lt
  have szw531 := g534.size
  have e538 := e509.gr g534 no_row
  clear e509
  have r539 := r510.gr g534 (fun _ h => by cases h)
  clear r510
  have r540 := r511.gr g534 (fun _ h => by cases h)
  clear r511
  have bx541 := bx512.gr g534 (by simp)
  clear bx512
  have bx542 := bx513.gr g534 (by simp)
  clear bx513
  have bx543 := bx514.gr g534 (by simp)
  clear bx514
  have bx544 := bx515.gr g534 (by simp)
  clear bx515
  have ow545 : OwnR w531 (Sx (w50.heap.size) [obk (A527), some (w463.heap.size), obk (A459), some (w120.heap.size), obk (A116), some (w70.heap.size), some (b_172)]) A66 c67 3 (ma : List Int) := ow516.grA g534 (fun _ _ h => by cases h) (fun k hk hs => ⟨(fun e => by have := ow529.ge _ e; omega), hs.1, hs.2.1, hs.2.2.1, hs.2.2.2.1, hs.2.2.2.2.1, hs.2.2.2.2.2.1, hs.2.2.2.2.2.2⟩)
  clear ow516
  have bx546 := bx517.gr g534 (by simp)
  clear bx517
  have ow547 : OwnR w531 (Sx (w98.heap.size) [obk (A527), some (w463.heap.size), obk (A459), some (w120.heap.size), obk (A66), some (b_172)]) A116 c117 3 (mb : List Int) := ow518.grA g534 (fun _ _ h => by cases h) (fun k hk hs => ⟨(fun e => by have := ow529.ge _ e; omega), hs.1, hs.2.1, hs.2.2.1, hs.2.2.2.1, hs.2.2.2.2.1, hs.2.2.2.2.2⟩)
  clear ow518
  have bx548 := bx519.gr g534 (by simp)
  clear bx519
  have bx549 := bx520.gr g534 (by simp)
  clear bx520
  have ow550 : OwnR w531 (Sx (w440.heap.size) [obk (A527), some (w463.heap.size), obk (A66), obk (A116)]) A459 c460 3 (md : List Int) := ow521.grA g534 (fun _ _ h => by cases h) (fun k hk hs => ⟨(fun e => by have := ow529.ge _ e; omega), hs.1, hs.2.1, hs.2.2.1, hs.2.2.2⟩)
  clear ow521
  have bx551 := bx506.gr g534 (by simp)
  clear bx506
  have ow552 : OwnR w531 (Sx (w504.heap.size) [obk (A66), obk (A116), obk (A459)]) A527 c528 3 (mf : List Int) := ow529.imp (fun g _ hs => ⟨(fun e => by have := lt535 _ e; have := Sx_base hs; omega), (fun e => by have := lt536 _ e; have := Sx_base hs; omega), (fun e => by have := lt537 _ e; have := Sx_base hs; omega), hs⟩)
  clear ow529
  clear lt535 lt536 lt537
  clear g534 he
  refine At.rd f533 3 [[], [], []] [(65, .slice A527 mf.length c528), (64, .agg ((sf : List Int).map wV).toArray), (58, .tuple #[.agg ((sf : List Int).map wV).toArray, .slice A527 mf.length c528])] [] (by kernel_rfl) trivial (fun act554 f553 => ?_)
  clear f533
  refine At.seq f553 1 [[]] [(20, .pointer (some ⟨w531.heap.size, 0, none⟩))] (w531.alloc (.cells ((List.replicate 4 (0 : Int) : List Int).map wV).toArray 28 (0, 0))) [] (by kernel_rfl) trivial (fun act558 w555 hw556 f557 => ?_)
  clear f553
  have g559 := gr_alloc hw556
  have szw555 := g559.size
  have e561 := e538.gr g559 no_row
  clear e538
  have r562 := r539.gr g559 (fun _ h => by cases h)
  clear r539
  have r563 := r540.gr g559 (fun _ h => by cases h)
  clear r540
  have bx564 := bx541.gr g559 (by simp)
  clear bx541
  have bx565 := bx542.gr g559 (by simp)
  clear bx542
  have bx566 := bx543.gr g559 (by simp)
  clear bx543
  have bx567 := bx544.gr g559 (by simp)
  clear bx544
  have ow568 : OwnR w555 (Sx (w50.heap.size) [some (w531.heap.size), obk (A527), some (w463.heap.size), obk (A459), some (w120.heap.size), obk (A116), some (w70.heap.size), some (b_172)]) A66 c67 3 (ma : List Int) := ow545.grA g559 (fun _ _ h => by cases h) (fun k hk hs => ⟨(fun e => by injection e; omega), hs.1, hs.2.1, hs.2.2.1, hs.2.2.2.1, hs.2.2.2.2.1, hs.2.2.2.2.2.1, hs.2.2.2.2.2.2.1, hs.2.2.2.2.2.2.2⟩)
  clear ow545
  have bx569 := bx546.gr g559 (by simp)
  clear bx546
  have ow570 : OwnR w555 (Sx (w98.heap.size) [some (w531.heap.size), obk (A527), some (w463.heap.size), obk (A459), some (w120.heap.size), obk (A66), some (b_172)]) A116 c117 3 (mb : List Int) := ow547.grA g559 (fun _ _ h => by cases h) (fun k hk hs => ⟨(fun e => by injection e; omega), hs.1, hs.2.1, hs.2.2.1, hs.2.2.2.1, hs.2.2.2.2.1, hs.2.2.2.2.2.1, hs.2.2.2.2.2.2⟩)
  clear ow547
  have bx571 := bx548.gr g559 (by simp)
  clear bx548
  have bx572 := bx549.gr g559 (by simp)
  clear bx549
  have ow573 : OwnR w555 (Sx (w440.heap.size) [some (w531.heap.size), obk (A527), some (w463.heap.size), obk (A66), obk (A116)]) A459 c460 3 (md : List Int) := ow550.grA g559 (fun _ _ h => by cases h) (fun k hk hs => ⟨(fun e => by injection e; omega), hs.1, hs.2.1, hs.2.2.1, hs.2.2.2.1, hs.2.2.2.2⟩)
  clear ow550
  have bx574 := bx551.gr g559 (by simp)
  clear bx551
  have ow575 : OwnR w555 (Sx (w504.heap.size) [some (w531.heap.size), obk (A66), obk (A116), obk (A459)]) A527 c528 3 (mf : List Int) := ow552.grA g559 (fun _ _ h => by cases h) (fun k hk hs => ⟨(fun e => by injection e; omega), hs.1, hs.2.1, hs.2.2.1, hs.2.2.2⟩)
  clear ow552
  have bx576 : Bx w555 (w531.heap.size) ((List.replicate 4 (0 : Int) : List Int).map wV) 28 := Bx.new hw556
  have := bx576.lt
  clear g559 hw556
  refine At.act f557 (storeBlk (t := 28) (b := w531.heap.size) (n := 4) (cs' := ((sf : List Int).map wV)) (by kernel_rfl) (by kernel_rfl) (by simp only [List.length_map, List.length_set, List.length_replicate, List.length_cons, List.length_nil]; first | done | assumption | exact from_len _ | exact of_len _ | exact ofZ_len _ | exact (ofW_ok _).1 | exact (fullW_W _).1 | exact (okW_with (by assumption)).1 | exact (okW_less (by assumption)).1 | exact put_len (from_len _) | exact orD_len _ _ | exact andD_len _ _ | exact minusD_len _ _ | exact fullD_len _ | (refine okLen ?_; (repeat (first | assumption | exact ofW_ok _ | exact fullW_W _ | apply okW_with | apply okW_less | refine okW_orS ?_ ?_ | refine okW_andS ?_ ?_ | refine okW_minusS ?_ ?_)); done) | omega | rfl) oneW_ ((show ((sf : List Int).map wV).length = 4 from (by simp only [List.length_map, List.length_set, List.length_replicate, List.length_cons, List.length_nil]; first | done | assumption | exact from_len _ | exact of_len _ | exact ofZ_len _ | exact (ofW_ok _).1 | exact (fullW_W _).1 | exact (okW_with (by assumption)).1 | exact (okW_less (by assumption)).1 | exact put_len (from_len _) | exact orD_len _ _ | exact andD_len _ _ | exact minusD_len _ _ | exact fullD_len _ | (refine okLen ?_; (repeat (first | assumption | exact ofW_ok _ | exact fullW_W _ | apply okW_with | apply okW_less | refine okW_orS ?_ ?_ | refine okW_andS ?_ ?_ | refine okW_minusS ?_ ?_)); done) | omega | rfl)).trans (show ((List.replicate 4 (0 : Int) : List Int).map wV).length = 4 from (by simp only [List.length_map, List.length_set, List.length_replicate, List.length_cons, List.length_nil]; first | done | assumption | exact from_len _ | exact of_len _ | exact ofZ_len _ | exact (ofW_ok _).1 | exact (fullW_W _).1 | exact (okW_with (by assumption)).1 | exact (okW_less (by assumption)).1 | exact put_len (from_len _) | exact orD_len _ _ | exact andD_len _ _ | exact minusD_len _ _ | exact fullD_len _ | (refine okLen ?_; (repeat (first | assumption | exact ofW_ok _ | exact fullW_W _ | apply okW_with | apply okW_less | refine okW_orS ?_ ?_ | refine okW_andS ?_ ?_ | refine okW_minusS ?_ ?_)); done) | omega | rfl)).symm) bx576) ?_
  rintro d_ v_ w577 ⟨rfl, g578, bx579⟩
  refine ⟨_, rfl, fun act581 f580 => ?_⟩
  clear f557
  have szw577 := g578.size
  have e582 := e561.gr g578 (fun k h => by injection h; omega)
  clear e561
  have r583 := r562.gr g578 (fun k h => by injection h; omega)
  clear r562
  have r584 := r563.gr g578 (fun k h => by injection h; omega)
  clear r563
  have bx585 := bx564.gr g578 (fun h => by injection h; omega)
  clear bx564
  have bx586 := bx565.gr g578 (fun h => by injection h; omega)
  clear bx565
  have bx587 := bx566.gr g578 (fun h => by injection h; omega)
  clear bx566
  have bx588 := bx567.gr g578 (fun h => by injection h; omega)
  clear bx567
  have ow589 := ow568.gr g578 (fun k hk => hk.1)
  clear ow568
  have bx590 := bx569.gr g578 (fun h => by injection h; omega)
  clear bx569
  have ow591 := ow570.gr g578 (fun k hk => hk.1)
  clear ow570
  have bx592 := bx571.gr g578 (fun h => by injection h; omega)
  clear bx571
  have bx593 := bx572.gr g578 (fun h => by injection h; omega)
  clear bx572
  have ow594 := ow573.gr g578 (fun k hk => hk.1)
  clear ow573
  have bx595 := bx574.gr g578 (fun h => by injection h; omega)
  clear bx574
  have ow596 := ow575.gr g578 (fun k hk => hk.1)
  clear ow575
  clear bx576 g578
  refine At.rd f580 1 [[]] [(21, .slice A527 mf.length c528)] [] (by kernel_rfl) trivial (fun act598 f597 => ?_)
  clear f580
  refine At.done rfl ?_
  refine t_n ?_
  have f599 := f597.sub (r := [(20, .pointer (some ⟨w531.heap.size, 0, none⟩)), (18, .pointer (some ⟨w463.heap.size, 0, none⟩)), (16, .pointer (some ⟨b_172, 0, none⟩)), (15, .slice A116 mb.length c117), (14, .pointer (some ⟨w120.heap.size, 0, none⟩)), (12, .pointer (some ⟨w70.heap.size, 0, none⟩)), (11, .bool true), (10, .bool false)]) ⟨rfl, rfl, rfl, rfl, rfl, rfl, rfl, rfl, trivial⟩
  clear f597
  refine wp_seq ?_
  refine wp_seq ?_
  refine At.start ?_
  refine At.rd f599 1 [[]] [(22, .int .i64 (0))] [] (by kernel_rfl) trivial (fun act601 f600 => ?_)
  clear f599
  refine At.done rfl ?_
  refine t_n ?_
  refine wp_block ?_
  have f602 := f600.sub (r := [(22, .int .i64 (0)), (20, .pointer (some ⟨w531.heap.size, 0, none⟩)), (18, .pointer (some ⟨w463.heap.size, 0, none⟩)), (16, .pointer (some ⟨b_172, 0, none⟩)), (15, .slice A116 mb.length c117), (14, .pointer (some ⟨w120.heap.size, 0, none⟩)), (12, .pointer (some ⟨w70.heap.size, 0, none⟩)), (11, .bool true)]) ⟨rfl, rfl, rfl, rfl, rfl, rfl, rfl, rfl, trivial⟩
  refine loop_g (fun (m_ : Nat) a_ w_ => ∃ (k : Int), m_ = ((mb.length : Int) - k).toNat ∧ (Frm 98 a_ [(22, .int .i64 (k)), (20, .pointer (some ⟨w531.heap.size, 0, none⟩)), (18, .pointer (some ⟨w463.heap.size, 0, none⟩)), (16, .pointer (some ⟨b_172, 0, none⟩)), (15, .slice A116 mb.length c117), (14, .pointer (some ⟨w120.heap.size, 0, none⟩)), (12, .pointer (some ⟨w70.heap.size, 0, none⟩)), (11, .bool true)]) ∧ (Ext w w_) ∧ (RdG w_ 0 w.heap.size Ag0 Ag1 Ag2 cg0 cg1 cg2 g) ∧ (RdT w_ 0 w.heap.size) ∧ (Bx w_ (w.heap.size) [.slice Ag0 g.ow.length cg0, .slice Ag1 g.pr.length cg1, .slice Ag2 g.mv.length cg2] 25) ∧ (Bx w_ (w1.heap.size) ((s : List Int).map wV) 28) ∧ (Bx w_ (w11.heap.size) ((t : List Int).map wV) 28) ∧ (Bx w_ (w22.heap.size) ((u : List Int).map wV) 28) ∧ (OwnR w_ (Sx (w50.heap.size) [some (w531.heap.size), obk (A527), some (w463.heap.size), obk (A459), some (w120.heap.size), obk (A116), some (w70.heap.size), some (b_172)]) A66 c67 3 (ma : List Int)) ∧ (Bx w_ (w70.heap.size) ((sa : List Int).map wV) 28) ∧ (OwnR w_ (Sx (w98.heap.size) [some (w531.heap.size), obk (A527), some (w463.heap.size), obk (A459), some (w120.heap.size), obk (A66), some (b_172)]) A116 c117 3 (mb : List Int)) ∧ (Bx w_ (w120.heap.size) ((sb : List Int).map wV) 28) ∧ (Bx w_ (b_172) ((sc : List Int).map wV) 28) ∧ (OwnR w_ (Sx (w440.heap.size) [some (w531.heap.size), obk (A527), some (w463.heap.size), obk (A66), obk (A116)]) A459 c460 3 (md : List Int)) ∧ (Bx w_ (w463.heap.size) ((sd : List Int).map wV) 28) ∧ (OwnR w_ (Sx (w504.heap.size) [some (w531.heap.size), obk (A66), obk (A116), obk (A459)]) A527 c528 3 (mf : List Int)) ∧ (Bx w_ (w531.heap.size) ((sf : List Int).map wV) 28) ∧ (0 ≤ k) ∧ (k ≤ (mb.length : Int)) ∧ (w50.heap.size ≤ w_.heap.size) ∧ (w98.heap.size ≤ w_.heap.size) ∧ (w440.heap.size ≤ w_.heap.size) ∧ (w504.heap.size ≤ w_.heap.size)) _ ⟨0, rfl, f602, e582, r583, r584, bx585, bx586, bx587, bx588, ow589, bx590, ow591, bx592, bx593, ow594, bx595, ow596, bx579, (by omega), (by omega), (by omega), (by omega), (by omega), (by omega)⟩ ?_
  clear f602 f600
  clear r583
  clear r584
  clear bx585
  clear bx586
  clear bx587
  clear bx588
  clear ow589
  clear bx590
  clear ow591
  clear bx592
  clear bx593
  clear ow594
  clear bx595
  clear ow596
  clear bx579
  clear e582
  intro m_ act603 w604 ⟨k, hm606, f607, e605, r608, r609, bx610, bx611, bx612, bx613, ow614, bx615, ow616, bx617, bx618, ow619, bx620, ow621, bx622, i623, i624, i625, i626, i627, i628⟩
  have szw604 := e605.size
  have := bx610.lt
  have := bx611.lt
  have := bx612.lt
  have := bx613.lt
  have := bx615.lt
  have := bx617.lt
  have := bx618.lt
  have := bx620.lt
  have := bx622.lt
  refine wp_seq ?_
  refine wp_seq ?_
  refine At.start ?_
  refine At.rd f607 4 [[], [], [], []] [(69, .bool (decide ((k : Int) < ((mb.length : Nat) : Int)))), (68, .int .i64 (((mb.length : Nat) : Int))), (67, .slice A116 mb.length c117), (66, .int .i64 (k))] [] (by kernel_rfl) trivial (fun act630 f629 => ?_)
  clear f607
  refine At.done rfl ?_
  refine t_n ?_
  have f631 := f629.sub (r := [(69, .bool (decide ((k : Int) < ((mb.length : Nat) : Int)))), (22, .int .i64 (k)), (20, .pointer (some ⟨w531.heap.size, 0, none⟩)), (18, .pointer (some ⟨w463.heap.size, 0, none⟩)), (16, .pointer (some ⟨b_172, 0, none⟩)), (15, .slice A116 mb.length c117), (14, .pointer (some ⟨w120.heap.size, 0, none⟩)), (12, .pointer (some ⟨w70.heap.size, 0, none⟩)), (11, .bool true)]) ⟨rfl, rfl, rfl, rfl, rfl, rfl, rfl, rfl, rfl, trivial⟩
  clear f629
  refine cond_S f631 (t := decide ((k : Int) < ((mb.length : Nat) : Int))) rfl (fun h632 => ?_) (fun h632 => ?_)
  ·have q633 := of_decide_eq_true h632
   refine wp_skip ?_
   refine t_n ?_
   have f634 := f631.sub (r := [(22, .int .i64 (k)), (20, .pointer (some ⟨w531.heap.size, 0, none⟩)), (18, .pointer (some ⟨w463.heap.size, 0, none⟩)), (16, .pointer (some ⟨b_172, 0, none⟩)), (15, .slice A116 mb.length c117), (14, .pointer (some ⟨w120.heap.size, 0, none⟩)), (12, .pointer (some ⟨w70.heap.size, 0, none⟩)), (11, .bool true)]) ⟨rfl, rfl, rfl, rfl, rfl, rfl, rfl, rfl, trivial⟩
   clear f631
   refine wp_seq ?_
   refine wp_block ?_
   refine wp_seq ?_
   refine At.start ?_
   obtain ⟨ad635, hA636, hb639, hc638, hc637⟩ := ow616.get (k) (by omega) (by omega) (sz := 1) rfl
   refine At.rd f634 5 [[], [], [.ad ad635], [.ld (.int .i64 (gI mb k))], [.as_ (.bool false)]] [(76, .bool false), (75, .int .i64 (gI mb k)), (74, .pointer (some (ad635.add ((k : Int).toNat * 1)))), (73, .int .i64 (k)), (72, .slice A116 mb.length c117)] [(A116 = some ad635), (0 ≤ (k : Int)), ((k : Int) < (mb.length : Nat)), (w604.cell? (ad635.add ((k : Int).toNat * 1)) = some (.int .i64 (gI mb k))), ((.bool ((gI mb k : Int) != (-1)) : Value) = .bool false)] (by kernel_rfl) ⟨hA636, (by omega), (by omega), hc638, (congrArg Value.bool (bneF (again_mv hA hB (by omega) (by omega)))), trivial⟩ (fun act641 f640 => ?_)
   clear f634
   refine At.done rfl ?_
   refine t_n ?_
   have f642 := f640.sub (r := [(76, .bool false), (22, .int .i64 (k)), (20, .pointer (some ⟨w531.heap.size, 0, none⟩)), (18, .pointer (some ⟨w463.heap.size, 0, none⟩)), (16, .pointer (some ⟨b_172, 0, none⟩)), (15, .slice A116 mb.length c117), (14, .pointer (some ⟨w120.heap.size, 0, none⟩)), (12, .pointer (some ⟨w70.heap.size, 0, none⟩)), (11, .bool true)]) ⟨rfl, rfl, rfl, rfl, rfl, rfl, rfl, rfl, rfl, trivial⟩
   clear f640
   refine cond_F f642 rfl ?_
   refine wp_skip ?_
   refine b_n ?_
   refine t_n ?_
   have f643 := f642.sub (r := [(22, .int .i64 (k)), (20, .pointer (some ⟨w531.heap.size, 0, none⟩)), (18, .pointer (some ⟨w463.heap.size, 0, none⟩)), (16, .pointer (some ⟨b_172, 0, none⟩)), (15, .slice A116 mb.length c117), (14, .pointer (some ⟨w120.heap.size, 0, none⟩)), (12, .pointer (some ⟨w70.heap.size, 0, none⟩)), (11, .bool true)]) ⟨rfl, rfl, rfl, rfl, rfl, rfl, rfl, rfl, trivial⟩
   clear f642
   refine At.start ?_
   refine At.rd f643 3 [[], [.as_ (.int .i64 (k + 1))], []] [(22, .int .i64 (k + 1)), (71, .int .i64 (k + 1)), (70, .int .i64 (k))] [((.int .i64 (IntKind.i64.wrap (k + 1)) : Value) = .int .i64 (k + 1))] (by kernel_rfl) ⟨(w64 (by omega) (by omega)), trivial⟩ (fun act645 f644 => ?_)
   clear f643
   refine At.done rfl ?_
   refine t_n ?_
   have f646 := f644.sub (r := [(22, .int .i64 (k + 1)), (20, .pointer (some ⟨w531.heap.size, 0, none⟩)), (18, .pointer (some ⟨w463.heap.size, 0, none⟩)), (16, .pointer (some ⟨b_172, 0, none⟩)), (15, .slice A116 mb.length c117), (14, .pointer (some ⟨w120.heap.size, 0, none⟩)), (12, .pointer (some ⟨w70.heap.size, 0, none⟩)), (11, .bool true)]) ⟨rfl, rfl, rfl, rfl, rfl, rfl, rfl, rfl, trivial⟩
   exact ⟨_, (by omega), (k + 1), rfl, f646, e605, r608, r609, bx610, bx611, bx612, bx613, ow614, bx615, ow616, bx617, bx618, ow619, bx620, ow621, bx622, (by omega), (by omega), (by omega), (by omega), (by omega), (by omega)⟩
  ·have q647 := of_decide_eq_false h632
   refine wp_exit ?_
   refine t_e ?_
   refine t_e ?_
   refine b_e ?_
   refine t_n ?_
   have f648 := f631.sub (r := [(20, .pointer (some ⟨w531.heap.size, 0, none⟩)), (18, .pointer (some ⟨w463.heap.size, 0, none⟩)), (16, .pointer (some ⟨b_172, 0, none⟩)), (14, .pointer (some ⟨w120.heap.size, 0, none⟩)), (12, .pointer (some ⟨w70.heap.size, 0, none⟩)), (11, .bool true)]) ⟨rfl, rfl, rfl, rfl, rfl, rfl, trivial⟩
   clear f631
   refine wp_seq ?_
   refine At.start ?_
   refine At.rd f648 9 [[], [], [.cs ((sa : List Int).map wV)], [.cs ((sb : List Int).map wV)], [.cs [wV (gI sa 0), wV (gI sa 1), wV (gI sa 2), wV (gI sa 3)], .cs [wV (gI sb 0), wV (gI sb 1), wV (gI sb 2), wV (gI sb 3)], .as_ (.bool true)], [], [], [.cs ((sa : List Int).map wV)], [.cs ((sc : List Int).map wV)]] [(85, .agg ((sc : List Int).map wV).toArray), (84, .agg ((sa : List Int).map wV).toArray), (83, .bool true), (82, .bool true), (81, .bool true), (80, .agg ((sb : List Int).map wV).toArray), (79, .agg ((sa : List Int).map wV).toArray), (78, .bool true), (77, .bool true)] [(((sa : List Int).map wV).length = 4), (∀ (j : Nat) (v : Value), ((sa : List Int).map wV)[j]? = some v → w604.cell? ((⟨w70.heap.size, 0, none⟩ : Addr).add j) = some v), (((sb : List Int).map wV).length = 4), (∀ (j : Nat) (v : Value), ((sb : List Int).map wV)[j]? = some v → w604.cell? ((⟨w120.heap.size, 0, none⟩ : Addr).add j) = some v), (((sa : List Int).map wV).toArray = ([wV (gI sa 0), wV (gI sa 1), wV (gI sa 2), wV (gI sa 3)] : List Value).toArray), (((sb : List Int).map wV).toArray = ([wV (gI sb 0), wV (gI sb 1), wV (gI sb 2), wV (gI sb 3)] : List Value).toArray), ((.bool ((((gI sa 0 : Int) == gI sb 0) && (((gI sa 1 : Int) == gI sb 1) && (((gI sa 2 : Int) == gI sb 2) && (((gI sa 3 : Int) == gI sb 3) && true))))) : Value) = .bool true), (((sa : List Int).map wV).length = 4), (∀ (j : Nat) (v : Value), ((sa : List Int).map wV)[j]? = some v → w604.cell? ((⟨w70.heap.size, 0, none⟩ : Addr).add j) = some v), (((sc : List Int).map wV).length = 4), (∀ (j : Nat) (v : Value), ((sc : List Int).map wV)[j]? = some v → w604.cell? ((⟨b_172, 0, none⟩ : Addr).add j) = some v)] (by kernel_rfl) ⟨(by simp only [List.length_map, List.length_set, List.length_replicate, List.length_cons, List.length_nil]; first | done | assumption | exact from_len _ | exact of_len _ | exact ofZ_len _ | exact (ofW_ok _).1 | exact (fullW_W _).1 | exact (okW_with (by assumption)).1 | exact (okW_less (by assumption)).1 | exact put_len (from_len _) | exact orD_len _ _ | exact andD_len _ _ | exact minusD_len _ _ | exact fullD_len _ | (refine okLen ?_; (repeat (first | assumption | exact ofW_ok _ | exact fullW_W _ | apply okW_with | apply okW_less | refine okW_orS ?_ ?_ | refine okW_andS ?_ ?_ | refine okW_minusS ?_ ?_)); done) | omega | rfl), bx615.whole, (by simp only [List.length_map, List.length_set, List.length_replicate, List.length_cons, List.length_nil]; first | done | assumption | exact from_len _ | exact of_len _ | exact ofZ_len _ | exact (ofW_ok _).1 | exact (fullW_W _).1 | exact (okW_with (by assumption)).1 | exact (okW_less (by assumption)).1 | exact put_len (from_len _) | exact orD_len _ _ | exact andD_len _ _ | exact minusD_len _ _ | exact fullD_len _ | (refine okLen ?_; (repeat (first | assumption | exact ofW_ok _ | exact fullW_W _ | apply okW_with | apply okW_less | refine okW_orS ?_ ?_ | refine okW_andS ?_ ?_ | refine okW_minusS ?_ ?_)); done) | omega | rfl), bx617.whole, (map4 (by first | assumption | exact (okW_with (by assumption)).1 | exact (okW_less (by assumption)).1 | exact (ofW_ok _).1 | exact (fullW_W _).1 | (refine okLen ?_; (repeat (first | assumption | exact ofW_ok _ | exact fullW_W _ | apply okW_with | apply okW_less | refine okW_orS ?_ ?_ | refine okW_andS ?_ ?_ | refine okW_minusS ?_ ?_)); done) | rfl | omega | (simp only [List.length_set]; first | done | assumption | omega) | exact lenW4 _ (by assumption))), (map4 (by first | assumption | exact (okW_with (by assumption)).1 | exact (okW_less (by assumption)).1 | exact (ofW_ok _).1 | exact (fullW_W _).1 | (refine okLen ?_; (repeat (first | assumption | exact ofW_ok _ | exact fullW_W _ | apply okW_with | apply okW_less | refine okW_orS ?_ ?_ | refine okW_andS ?_ ?_ | refine okW_minusS ?_ ?_)); done) | rfl | omega | (simp only [List.length_set]; first | done | assumption | omega) | exact lenW4 _ (by assumption))), (Eq.trans (b := (.bool (decide ((sa : List Int) = sb)) : Value)) (congrArg (fun b => Value.bool b) (w4_eq (by first | assumption | exact (okW_with (by assumption)).1 | exact (okW_less (by assumption)).1 | exact (ofW_ok _).1 | exact (fullW_W _).1 | (refine okLen ?_; (repeat (first | assumption | exact ofW_ok _ | exact fullW_W _ | apply okW_with | apply okW_less | refine okW_orS ?_ ?_ | refine okW_andS ?_ ?_ | refine okW_minusS ?_ ?_)); done) | rfl | omega | (simp only [List.length_set]; first | done | assumption | omega) | exact lenW4 _ (by assumption)) (by first | assumption | exact (okW_with (by assumption)).1 | exact (okW_less (by assumption)).1 | exact (ofW_ok _).1 | exact (fullW_W _).1 | (refine okLen ?_; (repeat (first | assumption | exact ofW_ok _ | exact fullW_W _ | apply okW_with | apply okW_less | refine okW_orS ?_ ?_ | refine okW_andS ?_ ?_ | refine okW_minusS ?_ ?_)); done) | rfl | omega | (simp only [List.length_set]; first | done | assumption | omega) | exact lenW4 _ (by assumption)))) (congrArg Value.bool (decide_eq_true (again_eq hA hB)))), (by simp only [List.length_map, List.length_set, List.length_replicate, List.length_cons, List.length_nil]; first | done | assumption | exact from_len _ | exact of_len _ | exact ofZ_len _ | exact (ofW_ok _).1 | exact (fullW_W _).1 | exact (okW_with (by assumption)).1 | exact (okW_less (by assumption)).1 | exact put_len (from_len _) | exact orD_len _ _ | exact andD_len _ _ | exact minusD_len _ _ | exact fullD_len _ | (refine okLen ?_; (repeat (first | assumption | exact ofW_ok _ | exact fullW_W _ | apply okW_with | apply okW_less | refine okW_orS ?_ ?_ | refine okW_andS ?_ ?_ | refine okW_minusS ?_ ?_)); done) | omega | rfl), bx615.whole, (by simp only [List.length_map, List.length_set, List.length_replicate, List.length_cons, List.length_nil]; first | done | assumption | exact from_len _ | exact of_len _ | exact ofZ_len _ | exact (ofW_ok _).1 | exact (fullW_W _).1 | exact (okW_with (by assumption)).1 | exact (okW_less (by assumption)).1 | exact put_len (from_len _) | exact orD_len _ _ | exact andD_len _ _ | exact minusD_len _ _ | exact fullD_len _ | (refine okLen ?_; (repeat (first | assumption | exact ofW_ok _ | exact fullW_W _ | apply okW_with | apply okW_less | refine okW_orS ?_ ?_ | refine okW_andS ?_ ?_ | refine okW_minusS ?_ ?_)); done) | omega | rfl), bx618.whole, trivial⟩ (fun act650 f649 => ?_)
   clear f648
   refine At.call f649 21 #[.agg ((sa : List Int).map wV).toArray, .agg ((sc : List Int).map wV).toArray] (some 86) (by kernel_rfl) ((in_any (s := sa) (t := sc) (by repeat (first | assumption | exact ofW_ok _ | exact fullW_W _ | exact wordsD_W _ | exact okW_0 | exact okW_00 | apply okW_orS | apply okW_andS | apply okW_minusS | apply okW_with | apply okW_less | apply okW_or | apply okW_and | apply okW_minus | (apply okW_lit <;> exact ⟨by omega, by omega⟩))) (by repeat (first | assumption | exact ofW_ok _ | exact fullW_W _ | exact wordsD_W _ | exact okW_0 | exact okW_00 | apply okW_orS | apply okW_andS | apply okW_minusS | apply okW_with | apply okW_less | apply okW_or | apply okW_and | apply okW_minus | (apply okW_lit <;> exact ⟨by omega, by omega⟩)))).mono (R' := fun e w' => e = .returned (.bool true) ∧ Ext _ w') (fun e_ w_ h_ => by rw [show (inW sa sc : Bool) = true from again_in hA hC] at h_; exact h_)) ?_
   rintro e_ w651 ⟨rfl, he⟩
   refine ⟨_, rfl, _, rfl, fun act652 f653 => ?_⟩
   clear f649
   have g654 := gr_ext he
   have szw651 := g654.size
   have e655 := e605.gr g654 no_row
   clear e605
   have r656 := r608.gr g654 (fun _ h => by cases h)
   clear r608
   have r657 := r609.gr g654 (fun _ h => by cases h)
   clear r609
   have bx658 := bx610.gr g654 (by simp)
   clear bx610
   have bx659 := bx611.gr g654 (by simp)
   clear bx611
   have bx660 := bx612.gr g654 (by simp)
   clear bx612
   have bx661 := bx613.gr g654 (by simp)
   clear bx613
   have ow662 := ow614.gr g654 (fun _ _ h => by cases h)
   clear ow614
   have bx663 := bx615.gr g654 (by simp)
   clear bx615
   have ow664 := ow616.gr g654 (fun _ _ h => by cases h)
   clear ow616
   have bx665 := bx617.gr g654 (by simp)
   clear bx617
   have bx666 := bx618.gr g654 (by simp)
   clear bx618
   have ow667 := ow619.gr g654 (fun _ _ h => by cases h)
   clear ow619
   have bx668 := bx620.gr g654 (by simp)
   clear bx620
   have ow669 := ow621.gr g654 (fun _ _ h => by cases h)
   clear ow621
   have bx670 := bx622.gr g654 (by simp)
   clear bx622
   clear g654 he
   refine At.rd f653 12 [[], [], [.cs ((sd : List Int).map wV)], [], [.cs [wV (gI sd 0), wV (gI sd 1), wV (gI sd 2), wV (gI sd 3)], .cs [wV (gI ([0, 0, 0, 0]) 0), wV (gI ([0, 0, 0, 0]) 1), wV (gI ([0, 0, 0, 0]) 2), wV (gI ([0, 0, 0, 0]) 3)], .as_ (.bool true)], [], [], [.cs ((sf : List Int).map wV)], [], [.cs [wV (gI sf 0), wV (gI sf 1), wV (gI sf 2), wV (gI sf 3)], .cs [wV (gI ([0, 0, 0, 0]) 0), wV (gI ([0, 0, 0, 0]) 1), wV (gI ([0, 0, 0, 0]) 2), wV (gI ([0, 0, 0, 0]) 3)], .as_ (.bool true)], [], []] [(10, .bool true), (97, .bool true), (96, .bool true), (95, .agg (([0, 0, 0, 0] : List Int).map wV).toArray), (94, .agg ((sf : List Int).map wV).toArray), (93, .bool true), (92, .bool true), (91, .bool true), (90, .agg (([0, 0, 0, 0] : List Int).map wV).toArray), (89, .agg ((sd : List Int).map wV).toArray), (88, .bool true), (87, .bool true)] [(((sd : List Int).map wV).length = 4), (∀ (j : Nat) (v : Value), ((sd : List Int).map wV)[j]? = some v → w651.cell? ((⟨w463.heap.size, 0, none⟩ : Addr).add j) = some v), (((sd : List Int).map wV).toArray = ([wV (gI sd 0), wV (gI sd 1), wV (gI sd 2), wV (gI sd 3)] : List Value).toArray), ((([0, 0, 0, 0] : List Int).map wV).toArray = ([wV (gI ([0, 0, 0, 0]) 0), wV (gI ([0, 0, 0, 0]) 1), wV (gI ([0, 0, 0, 0]) 2), wV (gI ([0, 0, 0, 0]) 3)] : List Value).toArray), ((.bool ((((gI sd 0 : Int) == gI ([0, 0, 0, 0]) 0) && (((gI sd 1 : Int) == gI ([0, 0, 0, 0]) 1) && (((gI sd 2 : Int) == gI ([0, 0, 0, 0]) 2) && (((gI sd 3 : Int) == gI ([0, 0, 0, 0]) 3) && true))))) : Value) = .bool true), (((sf : List Int).map wV).length = 4), (∀ (j : Nat) (v : Value), ((sf : List Int).map wV)[j]? = some v → w651.cell? ((⟨w531.heap.size, 0, none⟩ : Addr).add j) = some v), (((sf : List Int).map wV).toArray = ([wV (gI sf 0), wV (gI sf 1), wV (gI sf 2), wV (gI sf 3)] : List Value).toArray), ((([0, 0, 0, 0] : List Int).map wV).toArray = ([wV (gI ([0, 0, 0, 0]) 0), wV (gI ([0, 0, 0, 0]) 1), wV (gI ([0, 0, 0, 0]) 2), wV (gI ([0, 0, 0, 0]) 3)] : List Value).toArray), ((.bool ((((gI sf 0 : Int) == gI ([0, 0, 0, 0]) 0) && (((gI sf 1 : Int) == gI ([0, 0, 0, 0]) 1) && (((gI sf 2 : Int) == gI ([0, 0, 0, 0]) 2) && (((gI sf 3 : Int) == gI ([0, 0, 0, 0]) 3) && true))))) : Value) = .bool true)] (by kernel_rfl) ⟨(by simp only [List.length_map, List.length_set, List.length_replicate, List.length_cons, List.length_nil]; first | done | assumption | exact from_len _ | exact of_len _ | exact ofZ_len _ | exact (ofW_ok _).1 | exact (fullW_W _).1 | exact (okW_with (by assumption)).1 | exact (okW_less (by assumption)).1 | exact put_len (from_len _) | exact orD_len _ _ | exact andD_len _ _ | exact minusD_len _ _ | exact fullD_len _ | (refine okLen ?_; (repeat (first | assumption | exact ofW_ok _ | exact fullW_W _ | apply okW_with | apply okW_less | refine okW_orS ?_ ?_ | refine okW_andS ?_ ?_ | refine okW_minusS ?_ ?_)); done) | omega | rfl), bx668.whole, (map4 (by first | assumption | exact (okW_with (by assumption)).1 | exact (okW_less (by assumption)).1 | exact (ofW_ok _).1 | exact (fullW_W _).1 | (refine okLen ?_; (repeat (first | assumption | exact ofW_ok _ | exact fullW_W _ | apply okW_with | apply okW_less | refine okW_orS ?_ ?_ | refine okW_andS ?_ ?_ | refine okW_minusS ?_ ?_)); done) | rfl | omega | (simp only [List.length_set]; first | done | assumption | omega) | exact lenW4 _ (by assumption))), (map4 (okLen okW_00)), (Eq.trans (b := (.bool (decide ((sd : List Int) = ([0, 0, 0, 0]))) : Value)) (congrArg (fun b => Value.bool b) (w4_eq (by first | assumption | exact (okW_with (by assumption)).1 | exact (okW_less (by assumption)).1 | exact (ofW_ok _).1 | exact (fullW_W _).1 | (refine okLen ?_; (repeat (first | assumption | exact ofW_ok _ | exact fullW_W _ | apply okW_with | apply okW_less | refine okW_orS ?_ ?_ | refine okW_andS ?_ ?_ | refine okW_minusS ?_ ?_)); done) | rfl | omega | (simp only [List.length_set]; first | done | assumption | omega) | exact lenW4 _ (by assumption)) (okLen okW_00))) (congrArg Value.bool (decide_eq_true (again_none hD)))), (by simp only [List.length_map, List.length_set, List.length_replicate, List.length_cons, List.length_nil]; first | done | assumption | exact from_len _ | exact of_len _ | exact ofZ_len _ | exact (ofW_ok _).1 | exact (fullW_W _).1 | exact (okW_with (by assumption)).1 | exact (okW_less (by assumption)).1 | exact put_len (from_len _) | exact orD_len _ _ | exact andD_len _ _ | exact minusD_len _ _ | exact fullD_len _ | (refine okLen ?_; (repeat (first | assumption | exact ofW_ok _ | exact fullW_W _ | apply okW_with | apply okW_less | refine okW_orS ?_ ?_ | refine okW_andS ?_ ?_ | refine okW_minusS ?_ ?_)); done) | omega | rfl), bx670.whole, (map4 (by first | assumption | exact (okW_with (by assumption)).1 | exact (okW_less (by assumption)).1 | exact (ofW_ok _).1 | exact (fullW_W _).1 | (refine okLen ?_; (repeat (first | assumption | exact ofW_ok _ | exact fullW_W _ | apply okW_with | apply okW_less | refine okW_orS ?_ ?_ | refine okW_andS ?_ ?_ | refine okW_minusS ?_ ?_)); done) | rfl | omega | (simp only [List.length_set]; first | done | assumption | omega) | exact lenW4 _ (by assumption))), (map4 (okLen okW_00)), (Eq.trans (b := (.bool (decide ((sf : List Int) = ([0, 0, 0, 0]))) : Value)) (congrArg (fun b => Value.bool b) (w4_eq (by first | assumption | exact (okW_with (by assumption)).1 | exact (okW_less (by assumption)).1 | exact (ofW_ok _).1 | exact (fullW_W _).1 | (refine okLen ?_; (repeat (first | assumption | exact ofW_ok _ | exact fullW_W _ | apply okW_with | apply okW_less | refine okW_orS ?_ ?_ | refine okW_andS ?_ ?_ | refine okW_minusS ?_ ?_)); done) | rfl | omega | (simp only [List.length_set]; first | done | assumption | omega) | exact lenW4 _ (by assumption)) (okLen okW_00))) (congrArg Value.bool (decide_eq_true (again_out hF)))), trivial⟩ (fun act672 f671 => ?_)
   clear f653
   refine At.done rfl ?_
   refine t_n ?_
   have f673 := f671.sub (r := [(10, .bool true)]) ⟨rfl, trivial⟩
   clear f671
   refine wp_ret ?_
   refine ret_ f673 [] [.bool true] [] (by kernel_rfl) trivial ?_
   exact ⟨rfl, e655⟩

end Go.Proofs.YtkpljmalbmcdfaaDoor
