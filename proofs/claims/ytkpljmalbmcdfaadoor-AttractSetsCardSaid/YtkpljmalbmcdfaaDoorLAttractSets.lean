/-
  A walk of a Go function, printed by a program of this repo. Conditions: what the theorems name.
-/
import Derived.Test.YtkpljmalbmcdfaaDoorWShown12
import Derived.Test.YtkpljmalbmcdfaaDoorWRefA2
import Derived.Test.YtkpljmalbmcdfaaDoorWRefF
import Derived.Test.YtkpljmalbmcdfaaDoorWCopy
import Derived.Test.YtkpljmalbmcdfaaDoorWSame2
set_option linter.unusedVariables false
set_option linter.unusedSimpArgs false
namespace Go.Proofs.YtkpljmalbmcdfaaDoor
open Go Go.RowKit

attribute [local irreducible] ofZ fromW wordsD ofD ofW lsD lenW lenN fullW withW lessW hasW hasD inW inD leastD putD onI tzI orS andS minusS orD andD minusD fullD emptyD
set_option maxHeartbeats 4000000 in
theorem sets12_any {Ag0 Ag1 Ag2 : Option Addr} {cg0 cg1 cg2 : Nat} {g : GameL} {s : List Int} {t : List Int} {p : Int} {w : World} (rg : RdG w 0 w.heap.size Ag0 Ag1 Ag2 cg0 cg1 cg2 g) (hs : OkW s) (ht : OkW t) (rT : RdT w 0 w.heap.size) :
    Calls Tryd.prog 3 #[.agg #[.slice Ag0 g.ow.length cg0, .slice Ag1 g.pr.length cg1, .slice Ag2 g.mv.length cg2], .agg ((s : List Int).map wV).toArray, .int .i64 (p), .agg ((t : List Int).map wV).toArray] w fun e w' => e = .returned (.bool true) ∧ Ext w w' := by
 have hlg0 := rg.ow.len
 have hlg1 := rg.pr.len
 have hlg2 := rg.mv.len
 have hkg0 := rg.k0
 have hkg1 := rg.k1
 have hkg2 := rg.k2
 have hls := hs.1
 have hlt := ht.1
 refine enter_ (args := [.agg #[.slice Ag0 g.ow.length cg0, .slice Ag1 g.pr.length cg1, .slice Ag2 g.mv.length cg2], .agg ((s : List Int).map wV).toArray, .int .i64 (p), .agg ((t : List Int).map wV).toArray]) Tryd.func3 rfl Tryd.ntmps3 (Nat.le_of_ble_eq_true rfl) (fun act0 f0 => ?_)
 have e0 := Ext.refl w
 refine wp_seq ?_
 refine At.start ?_
 refine At.seq f0 1 [[]] [(4, .pointer (some ⟨w.heap.size, 0, none⟩))] (w.alloc (.cells #[.slice Ag0 g.ow.length cg0, .slice Ag1 g.pr.length cg1, .slice Ag2 g.mv.length cg2] 25 (0, 0))) [] (by kernel_rfl) trivial (fun act4 w1 hw2 f3 => ?_)
 clear f0
 have g5 := gr_alloc hw2
 have szw1 := g5.size
 replace e0 := e0.gr g5 no_row
 have r8 := rg.gr g5 (fun _ h => by cases h)
 clear rg
 have r9 := rT.gr g5 (fun _ h => by cases h)
 clear rT
 have bx10 : Bx w1 (w.heap.size) [.slice Ag0 g.ow.length cg0, .slice Ag1 g.pr.length cg1, .slice Ag2 g.mv.length cg2] 25 := Bx.new hw2
 have := bx10.lt
 clear g5 hw2
 refine At.seq f3 1 [[]] [(5, .pointer (some ⟨w1.heap.size, 0, none⟩))] (w1.alloc (.cells ((s : List Int).map wV).toArray 28 (0, 0))) [] (by kernel_rfl) trivial (fun act14 w11 hw12 f13 => ?_)
 clear f3
 have g15 := gr_alloc hw12
 have szw11 := g15.size
 replace e0 := e0.gr g15 no_row
 replace r8 := r8.gr g15 (fun _ h => by cases h)
 replace r9 := r9.gr g15 (fun _ h => by cases h)
 replace bx10 := bx10.gr g15 (by simp)
 have bx21 : Bx w11 (w1.heap.size) ((s : List Int).map wV) 28 := Bx.new hw12
 have := bx21.lt
 clear g15 hw12
 refine At.seq f13 1 [[]] [(7, .pointer (some ⟨w11.heap.size, 0, none⟩))] (w11.alloc (.cells ((t : List Int).map wV).toArray 28 (0, 0))) [] (by kernel_rfl) trivial (fun act25 w22 hw23 f24 => ?_)
 clear f13
 have g26 := gr_alloc hw23
 have szw22 := g26.size
 replace e0 := e0.gr g26 no_row
 replace r8 := r8.gr g26 (fun _ h => by cases h)
 replace r9 := r9.gr g26 (fun _ h => by cases h)
 replace bx10 := bx10.gr g26 (by simp)
 replace bx21 := bx21.gr g26 (by simp)
 have bx33 : Bx w22 (w11.heap.size) ((t : List Int).map wV) 28 := Bx.new hw23
 have := bx33.lt
 clear g26 hw23
 refine At.rd f24 1 [[]] [(8, .bool false)] [] (by kernel_rfl) trivial (fun act35 f34 => ?_)
 clear f24
 refine At.done rfl ?_
 refine t_n ?_
 refine wp_seq ?_
 refine At.start ?_
 refine At.call f34 9 #[] (some 22) (by kernel_rfl) (shown12_any (r9.wide (Nat.zero_le _) (by omega))) ?_
 rintro e_ w36 ⟨rfl, he⟩
 refine ⟨_, rfl, _, rfl, fun act37 f38 => ?_⟩
 clear f34
 have g39 := gr_ext he
 have szw36 := g39.size
 replace e0 := e0.gr g39 no_row
 replace r8 := r8.gr g39 (fun _ h => by cases h)
 replace r9 := r9.gr g39 (fun _ h => by cases h)
 replace bx10 := bx10.gr g39 (by simp)
 replace bx21 := bx21.gr g39 (by simp)
 replace bx33 := bx33.gr g39 (by simp)
 clear g39 he
 refine At.rd f38 1 [[]] [(9, .bool true)] [] (by kernel_rfl) trivial (fun act47 f46 => ?_)
 clear f38
 refine At.done rfl ?_
 refine t_n ?_
 refine wp_seq ?_
 refine At.start ?_
 refine At.rd f46 1 [[.ld (.slice Ag0 g.ow.length cg0), .ld (.slice Ag1 g.pr.length cg1), .ld (.slice Ag2 g.mv.length cg2)]] [(23, .agg #[.slice Ag0 g.ow.length cg0, .slice Ag1 g.pr.length cg1, .slice Ag2 g.mv.length cg2])] [(w36.cell? ⟨w.heap.size, 0, none⟩ = some (.slice Ag0 g.ow.length cg0)), (w36.cell? ⟨w.heap.size, 1, none⟩ = some (.slice Ag1 g.pr.length cg1)), (w36.cell? ⟨w.heap.size, 2, none⟩ = some (.slice Ag2 g.mv.length cg2))] (by kernel_rfl) ⟨(bx10.cell (i := 0) rfl), (bx10.cell (i := 1) rfl), (bx10.cell (i := 2) rfl), trivial⟩ (fun act49 f48 => ?_)
 clear f46
 refine At.call f48 10 #[.agg #[.slice Ag0 g.ow.length cg0, .slice Ag1 g.pr.length cg1, .slice Ag2 g.mv.length cg2]] (some 24) (by kernel_rfl) (isR_any (r8.wide (Nat.zero_le _) (by omega))) ?_
 rintro e_ w50 ⟨rfl, he⟩
 refine ⟨_, rfl, _, rfl, fun act51 f52 => ?_⟩
 clear f48
 have g53 := gr_ext he
 have szw50 := g53.size
 replace e0 := e0.gr g53 no_row
 replace r8 := r8.gr g53 (fun _ h => by cases h)
 replace r9 := r9.gr g53 (fun _ h => by cases h)
 replace bx10 := bx10.gr g53 (by simp)
 replace bx21 := bx21.gr g53 (by simp)
 replace bx33 := bx33.gr g53 (by simp)
 clear g53 he
 refine At.rd f52 1 [[]] [(10, .bool (isR g))] [] (by kernel_rfl) trivial (fun act61 f60 => ?_)
 clear f52
 refine At.done rfl ?_
 refine t_n ?_
 refine wp_seq ?_
 refine At.start ?_
 refine At.rd f60 1 [[.ld (.slice Ag0 g.ow.length cg0), .ld (.slice Ag1 g.pr.length cg1), .ld (.slice Ag2 g.mv.length cg2)]] [(25, .agg #[.slice Ag0 g.ow.length cg0, .slice Ag1 g.pr.length cg1, .slice Ag2 g.mv.length cg2])] [(w50.cell? ⟨w.heap.size, 0, none⟩ = some (.slice Ag0 g.ow.length cg0)), (w50.cell? ⟨w.heap.size, 1, none⟩ = some (.slice Ag1 g.pr.length cg1)), (w50.cell? ⟨w.heap.size, 2, none⟩ = some (.slice Ag2 g.mv.length cg2))] (by kernel_rfl) ⟨(bx10.cell (i := 0) rfl), (bx10.cell (i := 1) rfl), (bx10.cell (i := 2) rfl), trivial⟩ (fun act63 f62 => ?_)
 clear f60
 refine At.call f62 11 #[.agg #[.slice Ag0 g.ow.length cg0, .slice Ag1 g.pr.length cg1, .slice Ag2 g.mv.length cg2]] (some 26) (by kernel_rfl) (copyR_any (g := g) (r8.wide (Nat.zero_le _) (by omega))) ?_
 rintro e_ w77 ⟨A64, c65, A66, c67, A68, c69, rfl, he, ow70, ow71, ow72⟩
 have hip76 := inner_len (RdG.mv (r8.wide (Nat.zero_le _) (by omega)))
 refine ⟨_, rfl, _, rfl, fun act78 f79 => ?_⟩
 clear f62
 have g80 := gr_ext he
 have szw77 := g80.size
 replace e0 := e0.gr g80 no_row
 replace r8 := r8.gr g80 (fun _ h => by cases h)
 replace r9 := r9.gr g80 (fun _ h => by cases h)
 replace bx10 := bx10.gr g80 (by simp)
 replace bx21 := bx21.gr g80 (by simp)
 replace bx33 := bx33.gr g80 (by simp)
 clear g80 he
 refine At.seq f79 1 [[]] [(11, .pointer (some ⟨w77.heap.size, 0, none⟩))] (w77.alloc (.cells #[.slice none 0 0, .slice none 0 0, .slice none 0 0] 25 (0, 0))) [] (by kernel_rfl) trivial (fun act90 w87 hw88 f89 => ?_)
 clear f79
 have g91 := gr_alloc hw88
 have szw87 := g91.size
 replace e0 := e0.gr g91 no_row
 replace r8 := r8.gr g91 (fun _ h => by cases h)
 replace r9 := r9.gr g91 (fun _ h => by cases h)
 replace bx10 := bx10.gr g91 (by simp)
 replace bx21 := bx21.gr g91 (by simp)
 replace bx33 := bx33.gr g91 (by simp)
 replace ow70 : OwnR w87 (Sx (w50.heap.size) [some (w77.heap.size), obk (A66), obk (A68)]) A64 c65 3 (g.ow : List Int) := ow70.grA g91 (fun _ _ h => by cases h) (fun k hk hs => ⟨(fun e => by injection e; omega), hs.1, hs.2.1, hs.2.2⟩)
 replace ow71 : OwnR w87 (Sx (w50.heap.size) [some (w77.heap.size), obk (A64), obk (A68)]) A66 c67 3 (g.pr : List Int) := ow71.grA g91 (fun _ _ h => by cases h) (fun k hk hs => ⟨(fun e => by injection e; omega), hs.1, hs.2.1, hs.2.2⟩)
 replace ow72 : OwnLL w87 (w50.heap.size) [some (w77.heap.size), obk (A64), obk (A66)] A68 c69 22 3 (g.mv : List (List Int)) := ow72.grA g91 (fun _ _ h => by cases h) (fun k hk hs => ⟨(fun e => by injection e; omega), hs.1, hs.2.1, hs.2.2⟩)
 have bx102 : Bx w87 (w77.heap.size) [.slice none 0 0, .slice none 0 0, .slice none 0 0] 25 := Bx.new hw88
 have := bx102.lt
 clear g91 hw88
 refine At.store f89 (t := 25) (b := w77.heap.size) (off := 0) (v := .agg #[.slice A64 g.ow.length c65, .slice A66 g.pr.length c67, .slice A68 g.mv.length c69]) (by kernel_rfl) bx102 (by kernel_rfl) (fun act107 w103 g104 bx105 f106 => ?_)
 clear f89
 replace bx105 : Bx w103 (w77.heap.size) [.slice A64 g.ow.length c65, .slice A66 g.pr.length c67, .slice A68 g.mv.length c69] 25 := bx105
 have szw103 := g104.size
 replace e0 := e0.gr g104 (fun k h => by injection h; omega)
 replace r8 := r8.gr g104 (fun k h => by injection h; omega)
 replace r9 := r9.gr g104 (fun k h => by injection h; omega)
 replace bx10 := bx10.gr g104 (fun h => by injection h; omega)
 replace bx21 := bx21.gr g104 (fun h => by injection h; omega)
 replace bx33 := bx33.gr g104 (fun h => by injection h; omega)
 replace ow70 := ow70.gr g104 (fun k hk => hk.1)
 replace ow71 := ow71.gr g104 (fun k hk => hk.1)
 replace ow72 := ow72.gr g104 (fun k hk => hk.1)
 clear bx102 g104
 refine At.done rfl ?_
 refine t_n ?_
 refine wp_seq ?_
 refine wp_seq ?_
 refine At.start ?_
 refine At.rd f106 1 [[]] [(12, .int .i64 (0))] [] (by kernel_rfl) trivial (fun act118 f117 => ?_)
 clear f106
 refine At.done rfl ?_
 refine t_n ?_
 refine wp_block ?_
 have f119 := f117.sub (r := [(12, .int .i64 (0)), (11, .pointer (some ⟨w77.heap.size, 0, none⟩)), (10, .bool (isR g)), (9, .bool true), (7, .pointer (some ⟨w11.heap.size, 0, none⟩)), (5, .pointer (some ⟨w1.heap.size, 0, none⟩)), (4, .pointer (some ⟨w.heap.size, 0, none⟩)), (2, .int .i64 (p))]) ⟨rfl, rfl, rfl, rfl, rfl, rfl, rfl, rfl, trivial⟩
 refine loop_g (fun (m_ : Nat) a_ w_ => ∃ (n : Int), m_ = (2 - n).toNat ∧ (Frm 102 a_ [(12, .int .i64 (n)), (11, .pointer (some ⟨w77.heap.size, 0, none⟩)), (10, .bool (isR g)), (9, .bool true), (7, .pointer (some ⟨w11.heap.size, 0, none⟩)), (5, .pointer (some ⟨w1.heap.size, 0, none⟩)), (4, .pointer (some ⟨w.heap.size, 0, none⟩)), (2, .int .i64 (p))]) ∧ (Ext w w_) ∧ (RdG w_ 0 w.heap.size Ag0 Ag1 Ag2 cg0 cg1 cg2 g) ∧ (RdT w_ 0 w.heap.size) ∧ (Bx w_ (w.heap.size) [.slice Ag0 g.ow.length cg0, .slice Ag1 g.pr.length cg1, .slice Ag2 g.mv.length cg2] 25) ∧ (Bx w_ (w1.heap.size) ((s : List Int).map wV) 28) ∧ (Bx w_ (w11.heap.size) ((t : List Int).map wV) 28) ∧ (OwnR w_ (Sx (w50.heap.size) [some (w77.heap.size), obk (A66), obk (A68)]) A64 c65 3 (g.ow : List Int)) ∧ (OwnR w_ (Sx (w50.heap.size) [some (w77.heap.size), obk (A64), obk (A68)]) A66 c67 3 (g.pr : List Int)) ∧ (OwnLL w_ (w50.heap.size) [some (w77.heap.size), obk (A64), obk (A66)] A68 c69 22 3 (g.mv : List (List Int))) ∧ (Bx w_ (w77.heap.size) [.slice A64 g.ow.length c65, .slice A66 g.pr.length c67, .slice A68 g.mv.length c69] 25) ∧ (0 ≤ n) ∧ (n ≤ 2) ∧ (w50.heap.size ≤ w_.heap.size)) _ ⟨0, rfl, f119, e0, r8, r9, bx10, bx21, bx33, ow70, ow71, ow72, bx105, (by omega), (by omega), (by omega)⟩ ?_
 clear f119 f117
 clear r8
 clear r9
 clear bx10
 clear bx21
 clear bx33
 clear ow70
 clear ow71
 clear ow72
 clear bx105
 clear e0
 intro m_ act120 w121 ⟨n, hm123, f124, e122, r125, r126, bx127, bx128, bx129, ow130, ow131, r132, bx133, i134, i135, i136⟩
 have szw121 := e122.size
 have := bx127.lt
 have := bx128.lt
 have := bx129.lt
 have := bx133.lt
 refine wp_seq ?_
 refine wp_seq ?_
 refine At.start ?_
 refine At.rd f124 2 [[], []] [(28, .bool (decide ((n : Int) < 2))), (27, .int .i64 (n))] [] (by kernel_rfl) trivial (fun act138 f137 => ?_)
 clear f124
 refine At.done rfl ?_
 refine t_n ?_
 refine cond_S f137 (t := decide ((n : Int) < 2)) rfl (fun h139 => ?_) (fun h139 => ?_)
 ·have q140 := of_decide_eq_true h139
  refine wp_skip ?_
  refine t_n ?_
  refine wp_seq ?_
  refine wp_block ?_
  refine wp_seq ?_
  refine At.start ?_
  refine At.rd f137 4 [[.ld (.slice A64 g.ow.length c65), .ld (.slice A66 g.pr.length c67), .ld (.slice A68 g.mv.length c69)], [.cs ((s : List Int).map wV)], [], [.cs ((t : List Int).map wV)]] [(35, .agg ((t : List Int).map wV).toArray), (34, .int .i64 (p)), (33, .agg ((s : List Int).map wV).toArray), (32, .agg #[.slice A64 g.ow.length c65, .slice A66 g.pr.length c67, .slice A68 g.mv.length c69])] [(w121.cell? ⟨w77.heap.size, 0, none⟩ = some (.slice A64 g.ow.length c65)), (w121.cell? ⟨w77.heap.size, 1, none⟩ = some (.slice A66 g.pr.length c67)), (w121.cell? ⟨w77.heap.size, 2, none⟩ = some (.slice A68 g.mv.length c69)), (((s : List Int).map wV).length = 4), (∀ (j : Nat) (v : Value), ((s : List Int).map wV)[j]? = some v → w121.cell? ((⟨w1.heap.size, 0, none⟩ : Addr).add j) = some v), (((t : List Int).map wV).length = 4), (∀ (j : Nat) (v : Value), ((t : List Int).map wV)[j]? = some v → w121.cell? ((⟨w11.heap.size, 0, none⟩ : Addr).add j) = some v)] (by kernel_rfl) ⟨(bx133.cell (i := 0) rfl), (bx133.cell (i := 1) rfl), (bx133.cell (i := 2) rfl), ((List.length_map _).trans (by assumption)), bx128.whole, ((List.length_map _).trans (by assumption)), bx129.whole, trivial⟩ (fun act142 f141 => ?_)
  clear f137
  refine At.call f141 12 #[.agg #[.slice A64 g.ow.length c65, .slice A66 g.pr.length c67, .slice A68 g.mv.length c69], .agg ((s : List Int).map wV).toArray, .int .i64 (p), .agg ((t : List Int).map wV).toArray] (some 36) (by kernel_rfl) (attract_any (g := g) (s := s) (t := t) (p := p) (RdG.mk (G := g) (ow130.rdI0 (by first | omega | (simp only [List.length_cons, List.length_nil]; omega) | (simp; done) | (simp; omega))) (ow131.rdI0 (by first | omega | (simp only [List.length_cons, List.length_nil]; omega) | (simp; done) | (simp; omega))) (r132.rdII0 (by first | omega | (simp only [List.length_cons, List.length_nil]; omega) | (simp; done) | (simp; omega)) hip76) ow130.cap ow131.cap r132.cap) (by assumption) (by assumption) (r126.wide (Nat.zero_le _) (by omega))) ?_
  rintro e_ w147 ⟨A143, c144, ss, ms, rfl, he, ow145, hat⟩
  have hok_ss := att_ok hat
  have hl_ss := okLen hok_ss
  have hlm_ms := att_len hat
  refine ⟨_, rfl, _, rfl, fun act148 f149 => ?_⟩
  clear f141
  have g150 := gr_ext he
  have lt151 := ow130.lt
  have lt152 := ow131.lt
  have lt153 := r132.lt
  have szw147 := g150.size
  replace e122 := e122.gr g150 no_row
  replace r125 := r125.gr g150 (fun _ h => by cases h)
  replace r126 := r126.gr g150 (fun _ h => by cases h)
  replace bx127 := bx127.gr g150 (by simp)
  replace bx128 := bx128.gr g150 (by simp)
  replace bx129 := bx129.gr g150 (by simp)
  replace ow130 : OwnR w147 (Sx (w50.heap.size) [obk (A143), some (w77.heap.size), obk (A66), obk (A68)]) A64 c65 3 (g.ow : List Int) := ow130.grA g150 (fun _ _ h => by cases h) (fun k hk hs => ⟨(fun e => by have := ow145.ge _ e; omega), hs.1, hs.2.1, hs.2.2.1, hs.2.2.2⟩)
  replace ow131 : OwnR w147 (Sx (w50.heap.size) [obk (A143), some (w77.heap.size), obk (A64), obk (A68)]) A66 c67 3 (g.pr : List Int) := ow131.grA g150 (fun _ _ h => by cases h) (fun k hk hs => ⟨(fun e => by have := ow145.ge _ e; omega), hs.1, hs.2.1, hs.2.2.1, hs.2.2.2⟩)
  have ow162 : OwnLL w147 (w50.heap.size) [obk (A143), some (w77.heap.size), obk (A64), obk (A66)] A68 c69 22 3 (g.mv : List (List Int)) := r132.grA g150 (fun _ _ h => by cases h) (fun k hk hs => ⟨(fun e => by have := ow145.ge _ e; omega), hs.1, hs.2.1, hs.2.2.1, hs.2.2.2⟩)
  clear r132
  replace bx133 := bx133.gr g150 (by simp)
  replace ow145 : OwnR w147 (Sx (w121.heap.size) [obk (A64), obk (A66), obk (A68)]) A143 c144 3 (ms : List Int) := ow145.imp (fun g _ hs => ⟨(fun e => by have := lt151 _ e; have := Sx_base hs; omega), (fun e => by have := lt152 _ e; have := Sx_base hs; omega), (fun e => by have := lt153 _ e; have := Sx_base hs; omega), hs⟩)
  clear lt151 lt152 lt153
  clear g150 he
  refine At.rd f149 3 [[], [], []] [(38, .slice A143 ms.length c144), (37, .agg ((ss : List Int).map wV).toArray), (31, .tuple #[.agg ((ss : List Int).map wV).toArray, .slice A143 ms.length c144])] [] (by kernel_rfl) trivial (fun act166 f165 => ?_)
  clear f149
  refine At.seq f165 1 [[]] [(13, .pointer (some ⟨w147.heap.size, 0, none⟩))] (w147.alloc (.cells ((List.replicate 4 (0 : Int) : List Int).map wV).toArray 28 (0, 0))) [] (by kernel_rfl) trivial (fun act170 w167 hw168 f169 => ?_)
  clear f165
  have g171 := gr_alloc hw168
  have szw167 := g171.size
  replace e122 := e122.gr g171 no_row
  replace r125 := r125.gr g171 (fun _ h => by cases h)
  replace r126 := r126.gr g171 (fun _ h => by cases h)
  replace bx127 := bx127.gr g171 (by simp)
  replace bx128 := bx128.gr g171 (by simp)
  replace bx129 := bx129.gr g171 (by simp)
  replace ow130 : OwnR w167 (Sx (w50.heap.size) [some (w147.heap.size), obk (A143), some (w77.heap.size), obk (A66), obk (A68)]) A64 c65 3 (g.ow : List Int) := ow130.grA g171 (fun _ _ h => by cases h) (fun k hk hs => ⟨(fun e => by injection e; omega), hs.1, hs.2.1, hs.2.2.1, hs.2.2.2.1, hs.2.2.2.2⟩)
  replace ow131 : OwnR w167 (Sx (w50.heap.size) [some (w147.heap.size), obk (A143), some (w77.heap.size), obk (A64), obk (A68)]) A66 c67 3 (g.pr : List Int) := ow131.grA g171 (fun _ _ h => by cases h) (fun k hk hs => ⟨(fun e => by injection e; omega), hs.1, hs.2.1, hs.2.2.1, hs.2.2.2.1, hs.2.2.2.2⟩)
  replace ow162 : OwnLL w167 (w50.heap.size) [some (w147.heap.size), obk (A143), some (w77.heap.size), obk (A64), obk (A66)] A68 c69 22 3 (g.mv : List (List Int)) := ow162.grA g171 (fun _ _ h => by cases h) (fun k hk hs => ⟨(fun e => by injection e; omega), hs.1, hs.2.1, hs.2.2.1, hs.2.2.2.1, hs.2.2.2.2⟩)
  replace bx133 := bx133.gr g171 (by simp)
  replace ow145 : OwnR w167 (Sx (w121.heap.size) [some (w147.heap.size), obk (A64), obk (A66), obk (A68)]) A143 c144 3 (ms : List Int) := ow145.grA g171 (fun _ _ h => by cases h) (fun k hk hs => ⟨(fun e => by injection e; omega), hs.1, hs.2.1, hs.2.2.1, hs.2.2.2⟩)
  have bx184 : Bx w167 (w147.heap.size) ((List.replicate 4 (0 : Int) : List Int).map wV) 28 := Bx.new hw168
  have := bx184.lt
  clear g171 hw168
  refine At.act f169 (storeBlk (t := 28) (b := w147.heap.size) (n := 4) (cs' := ((ss : List Int).map wV)) (by kernel_rfl) (by kernel_rfl) ((List.length_map _).trans (by assumption)) oneW_ ((show ((ss : List Int).map wV).length = 4 from ((List.length_map _).trans (by assumption))).trans (show ((List.replicate 4 (0 : Int) : List Int).map wV).length = 4 from (by simp only [List.length_map, List.length_set, List.length_replicate, List.length_cons, List.length_nil]; first | done | assumption | exact from_len _ | exact of_len _ | exact ofZ_len _ | exact (ofW_ok _).1 | exact (fullW_W _).1 | exact (okW_with (by assumption)).1 | exact (okW_less (by assumption)).1 | exact put_len (from_len _) | exact orD_len _ _ | exact andD_len _ _ | exact minusD_len _ _ | exact fullD_len _ | (refine okLen ?_; (repeat (first | assumption | exact ofW_ok _ | exact fullW_W _ | apply okW_with | apply okW_less | refine okW_orS ?_ ?_ | refine okW_andS ?_ ?_ | refine okW_minusS ?_ ?_)); done) | omega | rfl)).symm) bx184) ?_
  rintro d_ v_ w185 ⟨rfl, g186, bx187⟩
  refine ⟨_, rfl, fun act189 f188 => ?_⟩
  clear f169
  have szw185 := g186.size
  replace e122 := e122.gr g186 (fun k h => by injection h; omega)
  replace r125 := r125.gr g186 (fun k h => by injection h; omega)
  replace r126 := r126.gr g186 (fun k h => by injection h; omega)
  replace bx127 := bx127.gr g186 (fun h => by injection h; omega)
  replace bx128 := bx128.gr g186 (fun h => by injection h; omega)
  replace bx129 := bx129.gr g186 (fun h => by injection h; omega)
  replace ow130 := ow130.gr g186 (fun k hk => hk.1)
  replace ow131 := ow131.gr g186 (fun k hk => hk.1)
  replace ow162 := ow162.gr g186 (fun k hk => hk.1)
  replace bx133 := bx133.gr g186 (fun h => by injection h; omega)
  replace ow145 := ow145.gr g186 (fun k hk => hk.1)
  clear bx184 g186
  refine At.rd f188 1 [[]] [(14, .slice A143 ms.length c144)] [] (by kernel_rfl) trivial (fun act202 f201 => ?_)
  clear f188
  refine At.done rfl ?_
  refine t_n ?_
  refine wp_seq (cut (fun a_ w_ => (Frm 102 a_ [(14, .slice A143 ms.length c144), (13, .pointer (some ⟨w147.heap.size, 0, none⟩)), (12, .int .i64 (n)), (11, .pointer (some ⟨w77.heap.size, 0, none⟩)), (10, .bool (isR g)), (9, .bool true), (7, .pointer (some ⟨w11.heap.size, 0, none⟩)), (5, .pointer (some ⟨w1.heap.size, 0, none⟩)), (4, .pointer (some ⟨w.heap.size, 0, none⟩)), (2, .int .i64 (p))]) ∧ (Ext w w_) ∧ (RdG w_ 0 w.heap.size Ag0 Ag1 Ag2 cg0 cg1 cg2 g) ∧ (RdT w_ 0 w.heap.size) ∧ (Bx w_ (w.heap.size) [.slice Ag0 g.ow.length cg0, .slice Ag1 g.pr.length cg1, .slice Ag2 g.mv.length cg2] 25) ∧ (Bx w_ (w1.heap.size) ((s : List Int).map wV) 28) ∧ (Bx w_ (w11.heap.size) ((t : List Int).map wV) 28) ∧ (OwnR w_ (Sx (w50.heap.size) [some (w147.heap.size), obk (A143), some (w77.heap.size), obk (A66), obk (A68)]) A64 c65 3 (g.ow : List Int)) ∧ (OwnR w_ (Sx (w50.heap.size) [some (w147.heap.size), obk (A143), some (w77.heap.size), obk (A64), obk (A68)]) A66 c67 3 (g.pr : List Int)) ∧ (OwnLL w_ (w50.heap.size) [some (w147.heap.size), obk (A143), some (w77.heap.size), obk (A64), obk (A66)] A68 c69 22 3 (g.mv : List (List Int))) ∧ (Bx w_ (w77.heap.size) [.slice A64 g.ow.length c65, .slice A66 g.pr.length c67, .slice A68 g.mv.length c69] 25) ∧ (OwnR w_ (Sx (w121.heap.size) [some (w147.heap.size), obk (A64), obk (A66), obk (A68)]) A143 c144 3 (ms : List Int)) ∧ (Bx w_ (w147.heap.size) ((ss : List Int).map wV) 28) ∧ (isR g = true) ∧ (p = 0 ∨ p = 1) ∧ (w185.heap.size ≤ w_.heap.size)) ?_ ?_)
  ·refine wp_seq ?_
   refine At.start ?_
   rcases Bool.eq_false_or_eq_true (!(isR g)) with h203 | h203
   ·have q204 : (isR g) = false := by first | exact Eq.mp (Bool.not_eq_true' _) h203 | exact Eq.mp (Bool.not_eq_false' _) h203 | simpa using h203
    refine At.rd f201 10 [[], [], [.as_ (.bool true)], [], [], [], [], [], [], []] [(48, .bool true), (47, undef), (46, undef), (45, undef), (44, undef), (43, undef), (42, undef), (41, .bool true), (40, .bool (!(isR g))), (39, .bool (isR g))] [((.bool (!(isR g)) : Value) = .bool true)] (by kernel_rfl) ⟨(congrArg Value.bool h203), trivial⟩ (fun act207 f206 => ?_)
    clear f201
    refine At.done rfl ?_
    refine t_n ?_
    refine cond_T f206 rfl ?_
    refine wp_seq ?_
    refine wp_seq ?_
    have hno : ¬ (isR g = true ∧ (p = 0 ∨ p = 1)) := fun h_ => by first | (rw [show isR g = false from by assumption] at h_; exact absurd h_.1 (by decide)) | omega
    refine At.start ?_
    refine At.rd f206 8 [[.cs ((ss : List Int).map wV)], [], [.cs [wV (gI ss 0), wV (gI ss 1), wV (gI ss 2), wV (gI ss 3)], .cs [wV (gI ([0, 0, 0, 0]) 0), wV (gI ([0, 0, 0, 0]) 1), wV (gI ([0, 0, 0, 0]) 2), wV (gI ([0, 0, 0, 0]) 3)], .as_ (.bool false)], [], [], [], [.as_ (.bool false)], []] [(56, .bool false), (55, .bool false), (54, .int .i64 (((ms.length : Nat) : Int))), (53, .slice A143 ms.length c144), (52, .bool false), (51, .bool false), (50, .agg (([0, 0, 0, 0] : List Int).map wV).toArray), (49, .agg ((ss : List Int).map wV).toArray)] [(((ss : List Int).map wV).length = 4), (∀ (j : Nat) (v : Value), ((ss : List Int).map wV)[j]? = some v → w185.cell? ((⟨w147.heap.size, 0, none⟩ : Addr).add j) = some v), (((ss : List Int).map wV).toArray = ([wV (gI ss 0), wV (gI ss 1), wV (gI ss 2), wV (gI ss 3)] : List Value).toArray), ((([0, 0, 0, 0] : List Int).map wV).toArray = ([wV (gI ([0, 0, 0, 0]) 0), wV (gI ([0, 0, 0, 0]) 1), wV (gI ([0, 0, 0, 0]) 2), wV (gI ([0, 0, 0, 0]) 3)] : List Value).toArray), ((.bool (!(((gI ss 0 : Int) == gI ([0, 0, 0, 0]) 0) && (((gI ss 1 : Int) == gI ([0, 0, 0, 0]) 1) && (((gI ss 2 : Int) == gI ([0, 0, 0, 0]) 2) && (((gI ss 3 : Int) == gI ([0, 0, 0, 0]) 3) && true))))) : Value) = .bool false), ((.bool ((((ms.length : Nat) : Int) : Int) != 0) : Value) = .bool false)] (by kernel_rfl) ⟨((List.length_map _).trans (by assumption)), bx187.whole, (map4 (by assumption)), (map4 (okLen okW_00)), (Eq.trans (b := (.bool (!(decide ((ss : List Int) = ([0, 0, 0, 0])))) : Value)) (congrArg (fun b => Value.bool (!b)) (w4_eq (by assumption) (okLen okW_00))) (congrArg Value.bool (by rw [(att_out hat hno).1]; rfl))), (congrArg Value.bool (bneF (by rw [(att_out hat hno).2]; rfl))), trivial⟩ (fun act209 f208 => ?_)
    clear f206
    refine At.done rfl ?_
    refine t_n ?_
    have f210 := f208.sub (r := [(56, .bool false), (55, .bool false), (54, .int .i64 (((ms.length : Nat) : Int))), (53, .slice A143 ms.length c144), (12, .int .i64 (n)), (11, .pointer (some ⟨w77.heap.size, 0, none⟩)), (10, .bool (isR g)), (9, .bool true), (7, .pointer (some ⟨w11.heap.size, 0, none⟩)), (5, .pointer (some ⟨w1.heap.size, 0, none⟩)), (4, .pointer (some ⟨w.heap.size, 0, none⟩)), (2, .int .i64 (p))]) ⟨rfl, rfl, rfl, rfl, rfl, rfl, rfl, rfl, rfl, rfl, rfl, rfl, trivial⟩
    clear f208
    refine cond_F f210 rfl ?_
    refine wp_skip ?_
    refine t_n ?_
    refine wp_exit ?_
    refine t_e ?_
    refine b_e ?_
    refine t_n ?_
    clear bx187
    refine At.start ?_
    refine At.rd f210 3 [[], [.as_ (.int .i64 (n + 1))], []] [(12, .int .i64 (n + 1)), (30, .int .i64 (n + 1)), (29, .int .i64 (n))] [((.int .i64 (IntKind.i64.wrap (n + 1)) : Value) = .int .i64 (n + 1))] (by kernel_rfl) ⟨(w64 (by omega) (by omega)), trivial⟩ (fun act212 f211 => ?_)
    clear f210
    refine At.done rfl ?_
    refine t_n ?_
    have f213 := f211.sub (r := [(12, .int .i64 (n + 1)), (11, .pointer (some ⟨w77.heap.size, 0, none⟩)), (10, .bool (isR g)), (9, .bool true), (7, .pointer (some ⟨w11.heap.size, 0, none⟩)), (5, .pointer (some ⟨w1.heap.size, 0, none⟩)), (4, .pointer (some ⟨w.heap.size, 0, none⟩)), (2, .int .i64 (p))]) ⟨rfl, rfl, rfl, rfl, rfl, rfl, rfl, rfl, trivial⟩
    exact ⟨_, (by omega), (n + 1), rfl, f213, e122, r125, r126, bx127, bx128, bx129, (ow130.imp (fun g _ hs => ⟨hs.2.2.1, hs.2.2.2.1, hs.2.2.2.2.1, hs.2.2.2.2.2⟩)), (ow131.imp (fun g _ hs => ⟨hs.2.2.1, hs.2.2.2.1, hs.2.2.2.2.1, hs.2.2.2.2.2⟩)), (ow162.imp (fun g _ hs => ⟨hs.2.2.1, hs.2.2.2.1, hs.2.2.2.2.1, hs.2.2.2.2.2⟩)), bx133, (by omega), (by omega), (by omega)⟩
   ·have q214 : (isR g) = true := by first | exact Eq.mp (Bool.not_eq_true' _) h203 | exact Eq.mp (Bool.not_eq_false' _) h203 | simpa using h203
    rcases Bool.eq_false_or_eq_true ((p : Int) != 0) with h216 | h216
    ·have q217 := bne_iff_ne.1 h216
     refine At.rd f201 10 [[], [], [.as_ (.bool false)], [], [], [.as_ (.bool true)], [], [], [], []] [(48, .bool ((p : Int) != 1)), (47, .bool ((p : Int) != 1)), (46, .bool ((p : Int) != 1)), (45, .int .i64 (p)), (44, .bool true), (43, .bool ((p : Int) != 0)), (42, .int .i64 (p)), (41, .bool false), (40, .bool (!(isR g))), (39, .bool (isR g))] [((.bool (!(isR g)) : Value) = .bool false), ((.bool ((p : Int) != 0) : Value) = .bool true)] (by kernel_rfl) ⟨(congrArg Value.bool h203), (congrArg Value.bool h216), trivial⟩ (fun act219 f218 => ?_)
     clear f201
     refine At.done rfl ?_
     refine t_n ?_
     refine cond_S f218 (t := (p : Int) != 1) rfl (fun h220 => ?_) (fun h220 => ?_)
     ·have q221 := bne_iff_ne.1 h220
      refine wp_seq ?_
      refine wp_seq ?_
      have hno : ¬ (isR g = true ∧ (p = 0 ∨ p = 1)) := fun h_ => by first | (rw [show isR g = false from by assumption] at h_; exact absurd h_.1 (by decide)) | omega
      refine At.start ?_
      refine At.rd f218 8 [[.cs ((ss : List Int).map wV)], [], [.cs [wV (gI ss 0), wV (gI ss 1), wV (gI ss 2), wV (gI ss 3)], .cs [wV (gI ([0, 0, 0, 0]) 0), wV (gI ([0, 0, 0, 0]) 1), wV (gI ([0, 0, 0, 0]) 2), wV (gI ([0, 0, 0, 0]) 3)], .as_ (.bool false)], [], [], [], [.as_ (.bool false)], []] [(56, .bool false), (55, .bool false), (54, .int .i64 (((ms.length : Nat) : Int))), (53, .slice A143 ms.length c144), (52, .bool false), (51, .bool false), (50, .agg (([0, 0, 0, 0] : List Int).map wV).toArray), (49, .agg ((ss : List Int).map wV).toArray)] [(((ss : List Int).map wV).length = 4), (∀ (j : Nat) (v : Value), ((ss : List Int).map wV)[j]? = some v → w185.cell? ((⟨w147.heap.size, 0, none⟩ : Addr).add j) = some v), (((ss : List Int).map wV).toArray = ([wV (gI ss 0), wV (gI ss 1), wV (gI ss 2), wV (gI ss 3)] : List Value).toArray), ((([0, 0, 0, 0] : List Int).map wV).toArray = ([wV (gI ([0, 0, 0, 0]) 0), wV (gI ([0, 0, 0, 0]) 1), wV (gI ([0, 0, 0, 0]) 2), wV (gI ([0, 0, 0, 0]) 3)] : List Value).toArray), ((.bool (!(((gI ss 0 : Int) == gI ([0, 0, 0, 0]) 0) && (((gI ss 1 : Int) == gI ([0, 0, 0, 0]) 1) && (((gI ss 2 : Int) == gI ([0, 0, 0, 0]) 2) && (((gI ss 3 : Int) == gI ([0, 0, 0, 0]) 3) && true))))) : Value) = .bool false), ((.bool ((((ms.length : Nat) : Int) : Int) != 0) : Value) = .bool false)] (by kernel_rfl) ⟨((List.length_map _).trans (by assumption)), bx187.whole, (map4 (by assumption)), (map4 (okLen okW_00)), (Eq.trans (b := (.bool (!(decide ((ss : List Int) = ([0, 0, 0, 0])))) : Value)) (congrArg (fun b => Value.bool (!b)) (w4_eq (by assumption) (okLen okW_00))) (congrArg Value.bool (by rw [(att_out hat hno).1]; rfl))), (congrArg Value.bool (bneF (by rw [(att_out hat hno).2]; rfl))), trivial⟩ (fun act223 f222 => ?_)
      clear f218
      refine At.done rfl ?_
      refine t_n ?_
      refine cond_F f222 rfl ?_
      refine wp_skip ?_
      refine t_n ?_
      refine wp_exit ?_
      refine t_e ?_
      refine b_e ?_
      refine t_n ?_
      clear bx187
      refine At.start ?_
      refine At.rd f222 3 [[], [.as_ (.int .i64 (n + 1))], []] [(12, .int .i64 (n + 1)), (30, .int .i64 (n + 1)), (29, .int .i64 (n))] [((.int .i64 (IntKind.i64.wrap (n + 1)) : Value) = .int .i64 (n + 1))] (by kernel_rfl) ⟨(w64 (by omega) (by omega)), trivial⟩ (fun act225 f224 => ?_)
      clear f222
      refine At.done rfl ?_
      refine t_n ?_
      have f226 := f224.sub (r := [(12, .int .i64 (n + 1)), (11, .pointer (some ⟨w77.heap.size, 0, none⟩)), (10, .bool (isR g)), (9, .bool true), (7, .pointer (some ⟨w11.heap.size, 0, none⟩)), (5, .pointer (some ⟨w1.heap.size, 0, none⟩)), (4, .pointer (some ⟨w.heap.size, 0, none⟩)), (2, .int .i64 (p))]) ⟨rfl, rfl, rfl, rfl, rfl, rfl, rfl, rfl, trivial⟩
      exact ⟨_, (by omega), (n + 1), rfl, f226, e122, r125, r126, bx127, bx128, bx129, (ow130.imp (fun g _ hs => ⟨hs.2.2.1, hs.2.2.2.1, hs.2.2.2.2.1, hs.2.2.2.2.2⟩)), (ow131.imp (fun g _ hs => ⟨hs.2.2.1, hs.2.2.2.1, hs.2.2.2.2.1, hs.2.2.2.2.2⟩)), (ow162.imp (fun g _ hs => ⟨hs.2.2.1, hs.2.2.2.1, hs.2.2.2.2.1, hs.2.2.2.2.2⟩)), bx133, (by omega), (by omega), (by omega)⟩
     ·have q227 := bne_eq_false_iff_eq.1 h220
      refine wp_skip ?_
      refine t_n ?_
      have f228 := f218.sub (r := [(14, .slice A143 ms.length c144), (13, .pointer (some ⟨w147.heap.size, 0, none⟩)), (12, .int .i64 (n)), (11, .pointer (some ⟨w77.heap.size, 0, none⟩)), (10, .bool (isR g)), (9, .bool true), (7, .pointer (some ⟨w11.heap.size, 0, none⟩)), (5, .pointer (some ⟨w1.heap.size, 0, none⟩)), (4, .pointer (some ⟨w.heap.size, 0, none⟩)), (2, .int .i64 (p))]) ⟨rfl, rfl, rfl, rfl, rfl, rfl, rfl, rfl, rfl, rfl, trivial⟩
      exact ⟨f228, e122, r125, r126, bx127, bx128, bx129, ow130, ow131, ow162, bx133, ow145, bx187, (by assumption), (by omega), (by omega)⟩
    ·have q229 := bne_eq_false_iff_eq.1 h216
     refine At.rd f201 10 [[], [], [.as_ (.bool false)], [], [], [.as_ (.bool false)], [], [], [], []] [(48, .bool false), (47, .bool false), (46, undef), (45, undef), (44, .bool false), (43, .bool ((p : Int) != 0)), (42, .int .i64 (p)), (41, .bool false), (40, .bool (!(isR g))), (39, .bool (isR g))] [((.bool (!(isR g)) : Value) = .bool false), ((.bool ((p : Int) != 0) : Value) = .bool false)] (by kernel_rfl) ⟨(congrArg Value.bool h203), (congrArg Value.bool h216), trivial⟩ (fun act231 f230 => ?_)
     clear f201
     refine At.done rfl ?_
     refine t_n ?_
     refine cond_F f230 rfl ?_
     refine wp_skip ?_
     refine t_n ?_
     have f232 := f230.sub (r := [(14, .slice A143 ms.length c144), (13, .pointer (some ⟨w147.heap.size, 0, none⟩)), (12, .int .i64 (n)), (11, .pointer (some ⟨w77.heap.size, 0, none⟩)), (10, .bool (isR g)), (9, .bool true), (7, .pointer (some ⟨w11.heap.size, 0, none⟩)), (5, .pointer (some ⟨w1.heap.size, 0, none⟩)), (4, .pointer (some ⟨w.heap.size, 0, none⟩)), (2, .int .i64 (p))]) ⟨rfl, rfl, rfl, rfl, rfl, rfl, rfl, rfl, rfl, rfl, trivial⟩
     exact ⟨f232, e122, r125, r126, bx127, bx128, bx129, ow130, ow131, ow162, bx133, ow145, bx187, (by assumption), (by omega), (by omega)⟩
  ·clear r125
   clear r126
   clear bx127
   clear bx128
   clear bx129
   clear ow130
   clear ow131
   clear ow162
   clear bx133
   clear ow145
   clear bx187
   clear f201 e122
   intro act233 w234 ⟨f235, e236, r237, r238, bx239, bx240, bx241, r242, r243, r244, bx245, r246, bx247, i248, i249, i250⟩
   have szw234 := e236.size
   have := bx239.lt
   have := bx240.lt
   have := bx241.lt
   have := bx245.lt
   have := bx247.lt
   refine wp_seq ?_
   have hR : isR g = true := by assumption
   have hp01 : p = 0 ∨ p = 1 := by assumption
   have hG := isR_ok hR
   have hn1 := hG.n1
   refine At.start ?_
   refine At.rd f235 4 [[], [.ld (.slice Ag0 g.ow.length cg0)], [], []] [(15, .int .i64 (((g.ow.length : Nat) : Int))), (59, .int .i64 (((g.ow.length : Nat) : Int))), (58, .slice Ag0 g.ow.length cg0), (57, .pointer (some ⟨w.heap.size, 0, none⟩))] [(w234.cell? ⟨w.heap.size, 0, none⟩ = some (.slice Ag0 g.ow.length cg0))] (by kernel_rfl) ⟨(bx239.cell (i := 0) rfl), trivial⟩ (fun act252 f251 => ?_)
   clear f235
   refine At.done rfl ?_
   refine t_n ?_
   refine wp_seq ?_
   refine At.start ?_
   refine At.rd f251 2 [[.cs ((s : List Int).map wV)], []] [(61, .int .i64 (((g.ow.length : Nat) : Int))), (60, .agg ((s : List Int).map wV).toArray)] [(((s : List Int).map wV).length = 4), (∀ (j : Nat) (v : Value), ((s : List Int).map wV)[j]? = some v → w234.cell? ((⟨w1.heap.size, 0, none⟩ : Addr).add j) = some v)] (by kernel_rfl) ⟨((List.length_map _).trans (by assumption)), bx240.whole, trivial⟩ (fun act254 f253 => ?_)
   clear f251
   refine At.call f253 13 #[.agg ((s : List Int).map wV).toArray, .int .i64 (((g.ow.length : Nat) : Int))] (some 62) (by kernel_rfl) (truths_any (s := s) (n := ((g.ow.length : Nat) : Int)) (by assumption) (by omega) (by omega)) ?_
   rintro e_ w259 ⟨A255, c256, rfl, he, ow257⟩
   have : (truL s ((g.ow.length : Nat) : Int)).length = (((g.ow.length : Nat) : Int) : Int).toNat := truL_len (by omega) (by omega)
   refine ⟨_, rfl, _, rfl, fun act260 f261 => ?_⟩
   clear f253
   have g262 := gr_ext he
   have lt263 := r242.lt
   have lt264 := r243.lt
   have lt265 := r244.lt
   have lt266 := r246.lt
   have szw259 := g262.size
   replace e236 := e236.gr g262 no_row
   replace r237 := r237.gr g262 (fun _ h => by cases h)
   replace r238 := r238.gr g262 (fun _ h => by cases h)
   replace bx239 := bx239.gr g262 (by simp)
   replace bx240 := bx240.gr g262 (by simp)
   replace bx241 := bx241.gr g262 (by simp)
   have ow273 : OwnR w259 (Sx (w50.heap.size) [obk (A255), some (w147.heap.size), obk (A143), some (w77.heap.size), obk (A66), obk (A68)]) A64 c65 3 (g.ow : List Int) := r242.grA g262 (fun _ _ h => by cases h) (fun k hk hs => ⟨(fun e => by have := ow257.ge _ e; omega), hs.1, hs.2.1, hs.2.2.1, hs.2.2.2.1, hs.2.2.2.2.1, hs.2.2.2.2.2⟩)
   clear r242
   have ow274 : OwnR w259 (Sx (w50.heap.size) [obk (A255), some (w147.heap.size), obk (A143), some (w77.heap.size), obk (A64), obk (A68)]) A66 c67 3 (g.pr : List Int) := r243.grA g262 (fun _ _ h => by cases h) (fun k hk hs => ⟨(fun e => by have := ow257.ge _ e; omega), hs.1, hs.2.1, hs.2.2.1, hs.2.2.2.1, hs.2.2.2.2.1, hs.2.2.2.2.2⟩)
   clear r243
   have ow275 : OwnLL w259 (w50.heap.size) [obk (A255), some (w147.heap.size), obk (A143), some (w77.heap.size), obk (A64), obk (A66)] A68 c69 22 3 (g.mv : List (List Int)) := r244.grA g262 (fun _ _ h => by cases h) (fun k hk hs => ⟨(fun e => by have := ow257.ge _ e; omega), hs.1, hs.2.1, hs.2.2.1, hs.2.2.2.1, hs.2.2.2.2.1, hs.2.2.2.2.2⟩)
   clear r244
   replace bx245 := bx245.gr g262 (by simp)
   have ow277 : OwnR w259 (Sx (w121.heap.size) [obk (A255), some (w147.heap.size), obk (A64), obk (A66), obk (A68)]) A143 c144 3 (ms : List Int) := r246.grA g262 (fun _ _ h => by cases h) (fun k hk hs => ⟨(fun e => by have := ow257.ge _ e; omega), hs.1, hs.2.1, hs.2.2.1, hs.2.2.2.1, hs.2.2.2.2⟩)
   clear r246
   replace bx247 := bx247.gr g262 (by simp)
   replace ow257 : OwnR w259 (Sx (w234.heap.size) [obk (A64), obk (A66), obk (A68), obk (A143)]) A255 c256 4 ((truL s ((g.ow.length : Nat) : Int)) : List Bool) := ow257.imp (fun g _ hs => ⟨(fun e => by have := lt263 _ e; have := Sx_base hs; omega), (fun e => by have := lt264 _ e; have := Sx_base hs; omega), (fun e => by have := lt265 _ e; have := Sx_base hs; omega), (fun e => by have := lt266 _ e; have := Sx_base hs; omega), hs⟩)
   clear lt263 lt264 lt265 lt266
   clear g262 he
   refine At.rd f261 1 [[]] [(16, .slice A255 ((truL s ((g.ow.length : Nat) : Int)).length) c256)] [] (by kernel_rfl) trivial (fun act281 f280 => ?_)
   clear f261
   refine At.done rfl ?_
   refine t_n ?_
   refine wp_seq ?_
   refine At.start ?_
   refine At.rd f280 2 [[.cs ((t : List Int).map wV)], []] [(64, .int .i64 (((g.ow.length : Nat) : Int))), (63, .agg ((t : List Int).map wV).toArray)] [(((t : List Int).map wV).length = 4), (∀ (j : Nat) (v : Value), ((t : List Int).map wV)[j]? = some v → w259.cell? ((⟨w11.heap.size, 0, none⟩ : Addr).add j) = some v)] (by kernel_rfl) ⟨((List.length_map _).trans (by assumption)), bx241.whole, trivial⟩ (fun act283 f282 => ?_)
   clear f280
   refine At.call f282 13 #[.agg ((t : List Int).map wV).toArray, .int .i64 (((g.ow.length : Nat) : Int))] (some 65) (by kernel_rfl) (truths_any (s := t) (n := ((g.ow.length : Nat) : Int)) (by assumption) (by omega) (by omega)) ?_
   rintro e_ w288 ⟨A284, c285, rfl, he, ow286⟩
   have : (truL t ((g.ow.length : Nat) : Int)).length = (((g.ow.length : Nat) : Int) : Int).toNat := truL_len (by omega) (by omega)
   refine ⟨_, rfl, _, rfl, fun act289 f290 => ?_⟩
   clear f282
   have g291 := gr_ext he
   have lt292 := ow273.lt
   have lt293 := ow274.lt
   have lt294 := ow275.lt
   have lt295 := ow277.lt
   have lt296 := ow257.lt
   have szw288 := g291.size
   replace e236 := e236.gr g291 no_row
   replace r237 := r237.gr g291 (fun _ h => by cases h)
   replace r238 := r238.gr g291 (fun _ h => by cases h)
   replace bx239 := bx239.gr g291 (by simp)
   replace bx240 := bx240.gr g291 (by simp)
   replace bx241 := bx241.gr g291 (by simp)
   replace ow273 : OwnR w288 (Sx (w50.heap.size) [obk (A284), obk (A255), some (w147.heap.size), obk (A143), some (w77.heap.size), obk (A66), obk (A68)]) A64 c65 3 (g.ow : List Int) := ow273.grA g291 (fun _ _ h => by cases h) (fun k hk hs => ⟨(fun e => by have := ow286.ge _ e; omega), hs.1, hs.2.1, hs.2.2.1, hs.2.2.2.1, hs.2.2.2.2.1, hs.2.2.2.2.2.1, hs.2.2.2.2.2.2⟩)
   replace ow274 : OwnR w288 (Sx (w50.heap.size) [obk (A284), obk (A255), some (w147.heap.size), obk (A143), some (w77.heap.size), obk (A64), obk (A68)]) A66 c67 3 (g.pr : List Int) := ow274.grA g291 (fun _ _ h => by cases h) (fun k hk hs => ⟨(fun e => by have := ow286.ge _ e; omega), hs.1, hs.2.1, hs.2.2.1, hs.2.2.2.1, hs.2.2.2.2.1, hs.2.2.2.2.2.1, hs.2.2.2.2.2.2⟩)
   replace ow275 : OwnLL w288 (w50.heap.size) [obk (A284), obk (A255), some (w147.heap.size), obk (A143), some (w77.heap.size), obk (A64), obk (A66)] A68 c69 22 3 (g.mv : List (List Int)) := ow275.grA g291 (fun _ _ h => by cases h) (fun k hk hs => ⟨(fun e => by have := ow286.ge _ e; omega), hs.1, hs.2.1, hs.2.2.1, hs.2.2.2.1, hs.2.2.2.2.1, hs.2.2.2.2.2.1, hs.2.2.2.2.2.2⟩)
   replace bx245 := bx245.gr g291 (by simp)
   replace ow277 : OwnR w288 (Sx (w121.heap.size) [obk (A284), obk (A255), some (w147.heap.size), obk (A64), obk (A66), obk (A68)]) A143 c144 3 (ms : List Int) := ow277.grA g291 (fun _ _ h => by cases h) (fun k hk hs => ⟨(fun e => by have := ow286.ge _ e; omega), hs.1, hs.2.1, hs.2.2.1, hs.2.2.2.1, hs.2.2.2.2.1, hs.2.2.2.2.2⟩)
   replace bx247 := bx247.gr g291 (by simp)
   replace ow257 : OwnR w288 (Sx (w234.heap.size) [obk (A284), obk (A64), obk (A66), obk (A68), obk (A143)]) A255 c256 4 ((truL s ((g.ow.length : Nat) : Int)) : List Bool) := ow257.grA g291 (fun _ _ h => by cases h) (fun k hk hs => ⟨(fun e => by have := ow286.ge _ e; omega), hs.1, hs.2.1, hs.2.2.1, hs.2.2.2.1, hs.2.2.2.2⟩)
   replace ow286 : OwnR w288 (Sx (w259.heap.size) [obk (A64), obk (A66), obk (A68), obk (A143), obk (A255)]) A284 c285 4 ((truL t ((g.ow.length : Nat) : Int)) : List Bool) := ow286.imp (fun g _ hs => ⟨(fun e => by have := lt292 _ e; have := Sx_base hs; omega), (fun e => by have := lt293 _ e; have := Sx_base hs; omega), (fun e => by have := lt294 _ e; have := Sx_base hs; omega), (fun e => by have := lt295 _ e; have := Sx_base hs; omega), (fun e => by have := lt296 _ e; have := Sx_base hs; omega), hs⟩)
   clear lt292 lt293 lt294 lt295 lt296
   clear g291 he
   refine At.rd f290 1 [[]] [(17, .slice A284 ((truL t ((g.ow.length : Nat) : Int)).length) c285)] [] (by kernel_rfl) trivial (fun act312 f311 => ?_)
   clear f290
   refine At.done rfl ?_
   refine t_n ?_
   refine wp_seq ?_
   refine At.start ?_
   refine At.rd f311 4 [[.ld (.slice Ag0 g.ow.length cg0), .ld (.slice Ag1 g.pr.length cg1), .ld (.slice Ag2 g.mv.length cg2)], [], [], []] [(69, .slice A284 ((truL t ((g.ow.length : Nat) : Int)).length) c285), (68, .int .i64 (p)), (67, .slice A255 ((truL s ((g.ow.length : Nat) : Int)).length) c256), (66, .agg #[.slice Ag0 g.ow.length cg0, .slice Ag1 g.pr.length cg1, .slice Ag2 g.mv.length cg2])] [(w288.cell? ⟨w.heap.size, 0, none⟩ = some (.slice Ag0 g.ow.length cg0)), (w288.cell? ⟨w.heap.size, 1, none⟩ = some (.slice Ag1 g.pr.length cg1)), (w288.cell? ⟨w.heap.size, 2, none⟩ = some (.slice Ag2 g.mv.length cg2))] (by kernel_rfl) ⟨(bx239.cell (i := 0) rfl), (bx239.cell (i := 1) rfl), (bx239.cell (i := 2) rfl), trivial⟩ (fun act314 f313 => ?_)
   clear f311
   refine At.call f313 14 #[.agg #[.slice Ag0 g.ow.length cg0, .slice Ag1 g.pr.length cg1, .slice Ag2 g.mv.length cg2], .slice A255 ((truL s ((g.ow.length : Nat) : Int)).length) c256, .int .i64 (p), .slice A284 ((truL t ((g.ow.length : Nat) : Int)).length) c285] (some 70) (by kernel_rfl) (attractR_any (g := g) (li := (truL s ((g.ow.length : Nat) : Int))) (lu := (truL t ((g.ow.length : Nat) : Int))) (p := p) (r237.wide (Nat.zero_le _) (by omega)) ((ow257.rdR (by simp only [Enc.bytes]; omega)).wide (Nat.zero_le _) (by omega)) ((ow286.rdR (by simp only [Enc.bytes]; omega)).wide (Nat.zero_le _) (by omega)) hR (by omega) (by omega)) ?_
   rintro e_ w319 ⟨A315, c316, wa, rfl, he, ow317, hwl, hwa⟩
   refine ⟨_, rfl, _, rfl, fun act320 f321 => ?_⟩
   clear f313
   have g322 := gr_ext he
   have lt323 := ow273.lt
   have lt324 := ow274.lt
   have lt325 := ow275.lt
   have lt326 := ow277.lt
   have lt327 := ow257.lt
   have lt328 := ow286.lt
   have szw319 := g322.size
   replace e236 := e236.gr g322 no_row
   replace r237 := r237.gr g322 (fun _ h => by cases h)
   replace r238 := r238.gr g322 (fun _ h => by cases h)
   replace bx239 := bx239.gr g322 (by simp)
   replace bx240 := bx240.gr g322 (by simp)
   replace bx241 := bx241.gr g322 (by simp)
   replace ow273 : OwnR w319 (Sx (w50.heap.size) [obk (A315), obk (A284), obk (A255), some (w147.heap.size), obk (A143), some (w77.heap.size), obk (A66), obk (A68)]) A64 c65 3 (g.ow : List Int) := ow273.grA g322 (fun _ _ h => by cases h) (fun k hk hs => ⟨(fun e => by have := ow317.ge _ e; omega), hs.1, hs.2.1, hs.2.2.1, hs.2.2.2.1, hs.2.2.2.2.1, hs.2.2.2.2.2.1, hs.2.2.2.2.2.2.1, hs.2.2.2.2.2.2.2⟩)
   replace ow274 : OwnR w319 (Sx (w50.heap.size) [obk (A315), obk (A284), obk (A255), some (w147.heap.size), obk (A143), some (w77.heap.size), obk (A64), obk (A68)]) A66 c67 3 (g.pr : List Int) := ow274.grA g322 (fun _ _ h => by cases h) (fun k hk hs => ⟨(fun e => by have := ow317.ge _ e; omega), hs.1, hs.2.1, hs.2.2.1, hs.2.2.2.1, hs.2.2.2.2.1, hs.2.2.2.2.2.1, hs.2.2.2.2.2.2.1, hs.2.2.2.2.2.2.2⟩)
   replace ow275 : OwnLL w319 (w50.heap.size) [obk (A315), obk (A284), obk (A255), some (w147.heap.size), obk (A143), some (w77.heap.size), obk (A64), obk (A66)] A68 c69 22 3 (g.mv : List (List Int)) := ow275.grA g322 (fun _ _ h => by cases h) (fun k hk hs => ⟨(fun e => by have := ow317.ge _ e; omega), hs.1, hs.2.1, hs.2.2.1, hs.2.2.2.1, hs.2.2.2.2.1, hs.2.2.2.2.2.1, hs.2.2.2.2.2.2.1, hs.2.2.2.2.2.2.2⟩)
   replace bx245 := bx245.gr g322 (by simp)
   replace ow277 : OwnR w319 (Sx (w121.heap.size) [obk (A315), obk (A284), obk (A255), some (w147.heap.size), obk (A64), obk (A66), obk (A68)]) A143 c144 3 (ms : List Int) := ow277.grA g322 (fun _ _ h => by cases h) (fun k hk hs => ⟨(fun e => by have := ow317.ge _ e; omega), hs.1, hs.2.1, hs.2.2.1, hs.2.2.2.1, hs.2.2.2.2.1, hs.2.2.2.2.2.1, hs.2.2.2.2.2.2⟩)
   replace bx247 := bx247.gr g322 (by simp)
   replace ow257 : OwnR w319 (Sx (w234.heap.size) [obk (A315), obk (A284), obk (A64), obk (A66), obk (A68), obk (A143)]) A255 c256 4 ((truL s ((g.ow.length : Nat) : Int)) : List Bool) := ow257.grA g322 (fun _ _ h => by cases h) (fun k hk hs => ⟨(fun e => by have := ow317.ge _ e; omega), hs.1, hs.2.1, hs.2.2.1, hs.2.2.2.1, hs.2.2.2.2.1, hs.2.2.2.2.2⟩)
   replace ow286 : OwnR w319 (Sx (w259.heap.size) [obk (A315), obk (A64), obk (A66), obk (A68), obk (A143), obk (A255)]) A284 c285 4 ((truL t ((g.ow.length : Nat) : Int)) : List Bool) := ow286.grA g322 (fun _ _ h => by cases h) (fun k hk hs => ⟨(fun e => by have := ow317.ge _ e; omega), hs.1, hs.2.1, hs.2.2.1, hs.2.2.2.1, hs.2.2.2.2.1, hs.2.2.2.2.2⟩)
   replace ow317 : OwnR w319 (Sx (w288.heap.size) [obk (A64), obk (A66), obk (A68), obk (A143), obk (A255), obk (A284)]) A315 c316 4 (wa : List Bool) := ow317.imp (fun g _ hs => ⟨(fun e => by have := lt323 _ e; have := Sx_base hs; omega), (fun e => by have := lt324 _ e; have := Sx_base hs; omega), (fun e => by have := lt325 _ e; have := Sx_base hs; omega), (fun e => by have := lt326 _ e; have := Sx_base hs; omega), (fun e => by have := lt327 _ e; have := Sx_base hs; omega), (fun e => by have := lt328 _ e; have := Sx_base hs; omega), hs⟩)
   clear lt323 lt324 lt325 lt326 lt327 lt328
   clear g322 he
   refine At.rd f321 1 [[]] [(18, .slice A315 wa.length c316)] [] (by kernel_rfl) trivial (fun act345 f344 => ?_)
   clear f321
   refine At.done rfl ?_
   refine t_n ?_
   refine wp_seq ?_
   refine At.start ?_
   refine At.rd f344 6 [[.ld (.slice Ag0 g.ow.length cg0), .ld (.slice Ag1 g.pr.length cg1), .ld (.slice Ag2 g.mv.length cg2)], [], [], [], [], []] [(76, .slice A143 ms.length c144), (75, .slice A315 wa.length c316), (74, .slice A284 ((truL t ((g.ow.length : Nat) : Int)).length) c285), (73, .int .i64 (p)), (72, .slice A255 ((truL s ((g.ow.length : Nat) : Int)).length) c256), (71, .agg #[.slice Ag0 g.ow.length cg0, .slice Ag1 g.pr.length cg1, .slice Ag2 g.mv.length cg2])] [(w319.cell? ⟨w.heap.size, 0, none⟩ = some (.slice Ag0 g.ow.length cg0)), (w319.cell? ⟨w.heap.size, 1, none⟩ = some (.slice Ag1 g.pr.length cg1)), (w319.cell? ⟨w.heap.size, 2, none⟩ = some (.slice Ag2 g.mv.length cg2))] (by kernel_rfl) ⟨(bx239.cell (i := 0) rfl), (bx239.cell (i := 1) rfl), (bx239.cell (i := 2) rfl), trivial⟩ (fun act347 f346 => ?_)
   clear f344
   refine At.call f346 15 #[.agg #[.slice Ag0 g.ow.length cg0, .slice Ag1 g.pr.length cg1, .slice Ag2 g.mv.length cg2], .slice A255 ((truL s ((g.ow.length : Nat) : Int)).length) c256, .int .i64 (p), .slice A284 ((truL t ((g.ow.length : Nat) : Int)).length) c285, .slice A315 wa.length c316, .slice A143 ms.length c144] (some 77) (by kernel_rfl) (forces_any (g := g) (li := (truL s ((g.ow.length : Nat) : Int))) (lu := (truL t ((g.ow.length : Nat) : Int))) (la := wa) (lm := ms) (p := p) (r237.wide (Nat.zero_le _) (by omega)) ((ow257.rdR (by simp only [Enc.bytes]; omega)).wide (Nat.zero_le _) (by omega)) ((ow286.rdR (by simp only [Enc.bytes]; omega)).wide (Nat.zero_le _) (by omega)) ((ow317.rdR (by simp only [Enc.bytes]; omega)).wide (Nat.zero_le _) (by omega)) (ow277.rdI0 (by first | omega | (simp only [List.length_cons, List.length_nil]; omega) | (simp; done) | (simp; omega))) hR (by omega) (by omega) (by omega) (sets_mov hR hp01 hat hwa)) ?_
   rintro e_ w348 ⟨rfl, he⟩
   refine ⟨_, rfl, _, rfl, fun act349 f350 => ?_⟩
   clear f346
   have g351 := gr_ext he
   have szw348 := g351.size
   replace e236 := e236.gr g351 no_row
   replace r237 := r237.gr g351 (fun _ h => by cases h)
   replace r238 := r238.gr g351 (fun _ h => by cases h)
   replace bx239 := bx239.gr g351 (by simp)
   replace bx240 := bx240.gr g351 (by simp)
   replace bx241 := bx241.gr g351 (by simp)
   replace ow273 := ow273.gr g351 (fun _ _ h => by cases h)
   replace ow274 := ow274.gr g351 (fun _ _ h => by cases h)
   replace ow275 := ow275.gr g351 (fun _ _ h => by cases h)
   replace bx245 := bx245.gr g351 (by simp)
   replace ow277 := ow277.gr g351 (fun _ _ h => by cases h)
   replace bx247 := bx247.gr g351 (by simp)
   replace ow257 := ow257.gr g351 (fun _ _ h => by cases h)
   replace ow286 := ow286.gr g351 (fun _ _ h => by cases h)
   replace ow317 := ow317.gr g351 (fun _ _ h => by cases h)
   clear g351 he
   refine At.rd f350 1 [[]] [(19, .bool true)] [] (by kernel_rfl) trivial (fun act368 f367 => ?_)
   clear f350
   refine At.done rfl ?_
   refine t_n ?_
   have f369 := f367.sub (r := [(19, .bool true), (18, .slice A315 wa.length c316), (14, .slice A143 ms.length c144), (13, .pointer (some ⟨w147.heap.size, 0, none⟩)), (12, .int .i64 (n)), (11, .pointer (some ⟨w77.heap.size, 0, none⟩)), (10, .bool (isR g)), (9, .bool true), (7, .pointer (some ⟨w11.heap.size, 0, none⟩)), (5, .pointer (some ⟨w1.heap.size, 0, none⟩)), (4, .pointer (some ⟨w.heap.size, 0, none⟩)), (2, .int .i64 (p))]) ⟨rfl, rfl, rfl, rfl, rfl, rfl, rfl, rfl, rfl, rfl, rfl, rfl, trivial⟩
   clear f367
   refine wp_seq ?_
   refine wp_seq ?_
   obtain ⟨Cs370, hCs371⟩ : ∃ c : List (Addr × Value), c = ([] : List (Addr × Value)) ++ blkC (w147.heap.size) ((ss : List Int).map wV) := ⟨_, rfl⟩
   have hS372 : HoldsC Cs370 w348 := by rw [hCs371]; exact (holdsA (show HoldsC [] w348 from trivial) (holds_blk bx247))
   refine AtH.start Cs370 8 #[false, false, false, false, false, false, false, false] (by kernel_rfl) rfl rfl (fun w374 hw375 => ?_)
   have g373 := gr_drew hw375
   have hS376 := hS372.gr g373
   have szw374 := g373.size
   replace e236 := e236.gr g373 no_row
   replace r237 := r237.gr g373 (fun _ h => by cases h)
   replace r238 := r238.gr g373 (fun _ h => by cases h)
   replace bx239 := bx239.gr g373 (by simp)
   replace bx240 := bx240.gr g373 (by simp)
   replace bx241 := bx241.gr g373 (by simp)
   replace ow273 := ow273.gr g373 (fun _ _ h => by cases h)
   replace ow274 := ow274.gr g373 (fun _ _ h => by cases h)
   replace ow275 := ow275.gr g373 (fun _ _ h => by cases h)
   replace bx245 := bx245.gr g373 (by simp)
   replace ow277 := ow277.gr g373 (fun _ _ h => by cases h)
   replace bx247 := bx247.gr g373 (by simp)
   replace ow257 := ow257.gr g373 (fun _ _ h => by cases h)
   replace ow286 := ow286.gr g373 (fun _ _ h => by cases h)
   replace ow317 := ow317.gr g373 (fun _ _ h => by cases h)
   clear g373 hw375 hS372
   refine AtH.rd (by kernel_rfl) (fun d v c a w h => by cases d <;> exact h) hS376 [0, 1] [[.cs ((ss : List Int).map wV)], []] [(79, .slice A315 wa.length c316), (78, .agg ((ss : List Int).map wV).toArray)] #[true, true, false, false, false, false, false, false] [(((ss : List Int).map wV).length = 4), (∀ (j : Nat) (v : Value), ((ss : List Int).map wV)[j]? = some v → ∃ j_ : Nat, Cs370[j_]? = some (((⟨w147.heap.size, 0, none⟩ : Addr).add j), v))] 6 f369 (by kernel_rfl) ⟨((List.length_map _).trans (by assumption)), (fun j v hv => List.getElem?_of_mem (by rw [hCs371]; exact List.mem_append.2 (.inr (blkC_in hv)))), trivial⟩ (fun act393 f392 => ?_)
   clear f369
   refine AtH.all [2] 5 (by kernel_rfl) (by simp) ⟨?_, trivial⟩
   refine OneH.call f392 16 #[.slice A315 wa.length c316] (some 80) #[true, true, true, false, false, false, false, false] (by kernel_rfl) (by kernel_rfl) (set12_any (lb := wa) ((ow317.rdR (by simp only [Enc.bytes]; omega)).wide (Nat.zero_le _) (by omega)) (by omega)) ?_
   rintro e_ w395 ⟨xx, rfl, he, hxo, hxb⟩
   have hxl := okLen hxo
   refine ⟨_, rfl, _, rfl, fun act396 f397 => ?_⟩
   clear f392
   have g398 := gr_ext he
   have hS394 := hS376.gr g398
   have szw395 := g398.size
   replace e236 := e236.gr g398 no_row
   replace r237 := r237.gr g398 (fun _ h => by cases h)
   replace r238 := r238.gr g398 (fun _ h => by cases h)
   replace bx239 := bx239.gr g398 (by simp)
   replace bx240 := bx240.gr g398 (by simp)
   replace bx241 := bx241.gr g398 (by simp)
   replace ow273 := ow273.gr g398 (fun _ _ h => by cases h)
   replace ow274 := ow274.gr g398 (fun _ _ h => by cases h)
   replace ow275 := ow275.gr g398 (fun _ _ h => by cases h)
   replace bx245 := bx245.gr g398 (by simp)
   replace ow277 := ow277.gr g398 (fun _ _ h => by cases h)
   replace bx247 := bx247.gr g398 (by simp)
   replace ow257 := ow257.gr g398 (fun _ _ h => by cases h)
   replace ow286 := ow286.gr g398 (fun _ _ h => by cases h)
   replace ow317 := ow317.gr g398 (fun _ _ h => by cases h)
   clear g398 he
   refine ⟨hS394, ?_⟩
   refine AtH.rd (by kernel_rfl) (fun d v c a w h => by cases d <;> exact h) hS394 [3] [[.cs [wV (gI ss 0), wV (gI ss 1), wV (gI ss 2), wV (gI ss 3)], .cs [wV (gI xx 0), wV (gI xx 1), wV (gI xx 2), wV (gI xx 3)], .as_ (.bool false)]] [(81, .bool false)] #[true, true, true, true, false, false, false, false] [(((ss : List Int).map wV).toArray = ([wV (gI ss 0), wV (gI ss 1), wV (gI ss 2), wV (gI ss 3)] : List Value).toArray), (((xx : List Int).map wV).toArray = ([wV (gI xx 0), wV (gI xx 1), wV (gI xx 2), wV (gI xx 3)] : List Value).toArray), ((.bool (!(((gI ss 0 : Int) == gI xx 0) && (((gI ss 1 : Int) == gI xx 1) && (((gI ss 2 : Int) == gI xx 2) && (((gI ss 3 : Int) == gI xx 3) && true))))) : Value) = .bool false)] 4 f397 (by kernel_rfl) ⟨(map4 (by assumption)), (map4 (by assumption)), (Eq.trans (b := (.bool (!(decide ((ss : List Int) = xx))) : Value)) (congrArg (fun b => Value.bool (!b)) (w4_eq (by assumption) (by assumption))) (congrArg Value.bool (by rw [sets_eq hR hp01 hat hwa hxo hxb]; simp))), trivial⟩ (fun act415 f414 => ?_)
   clear f397
   refine AtH.rd (by kernel_rfl) (fun d v c a w h => by cases d <;> exact h) hS394 [4] [[]] [(82, .bool false)] #[true, true, true, true, true, false, false, false] [] 3 f414 (by kernel_rfl) trivial (fun act417 f416 => ?_)
   clear f414
   refine AtH.rd (by kernel_rfl) (fun d v c a w h => by cases d <;> exact h) hS394 [5] [[]] [(83, .bool true)] #[true, true, true, true, true, true, false, false] [] 2 f416 (by kernel_rfl) trivial (fun act419 f418 => ?_)
   clear f416
   refine AtH.rd (by kernel_rfl) (fun d v c a w h => by cases d <;> exact h) hS394 [6] [[]] [(84, .bool false)] #[true, true, true, true, true, true, true, false] [] 1 f418 (by kernel_rfl) trivial (fun act421 f420 => ?_)
   clear f418
   refine AtH.rd (by kernel_rfl) (fun d v c a w h => by cases d <;> exact h) hS394 [7] [[]] [(85, .bool false)] #[true, true, true, true, true, true, true, true] [] 0 f420 (by kernel_rfl) trivial (fun act423 f422 => ?_)
   clear f420
   refine AtH.done (by kernel_rfl) ?_
   clear hS394
   refine t_n ?_
   clear bx247
   refine cond_F f422 rfl ?_
   refine wp_skip ?_
   refine t_n ?_
   refine wp_seq ?_
   refine At.start ?_
   refine At.rd f422 1 [[]] [(20, .int .i64 (0))] [] (by kernel_rfl) trivial (fun act425 f424 => ?_)
   clear f422
   refine At.done rfl ?_
   refine t_n ?_
   refine wp_block ?_
   have f429 := f424.as 14 (.slice A143 ms.length c144) (.slice A143 ((ms : List Int).length) c144) rfl (slice_len (by first | rfl | omega | (simp; done) | (simp; omega)))
   clear f424
   have f428 := f429.sub (r := [(20, .int .i64 (0)), (84, .bool false), (83, .bool true), (14, .slice A143 ((ms : List Int).length) c144), (12, .int .i64 (n)), (11, .pointer (some ⟨w77.heap.size, 0, none⟩)), (10, .bool (isR g)), (9, .bool true), (7, .pointer (some ⟨w11.heap.size, 0, none⟩)), (5, .pointer (some ⟨w1.heap.size, 0, none⟩)), (4, .pointer (some ⟨w.heap.size, 0, none⟩)), (2, .int .i64 (p))]) ⟨rfl, rfl, rfl, rfl, rfl, rfl, rfl, rfl, rfl, rfl, rfl, rfl, trivial⟩
   refine loop_g (fun (m_ : Nat) a_ w_ => ∃ (k : Int) (xs : List Int) (A_426 : Option Addr) (c_427 : Nat), m_ = ((ms.length : Int) - k).toNat ∧ (Frm 102 a_ [(20, .int .i64 (k)), (84, .bool false), (83, .bool true), (14, .slice A_426 xs.length c_427), (12, .int .i64 (n)), (11, .pointer (some ⟨w77.heap.size, 0, none⟩)), (10, .bool (isR g)), (9, .bool true), (7, .pointer (some ⟨w11.heap.size, 0, none⟩)), (5, .pointer (some ⟨w1.heap.size, 0, none⟩)), (4, .pointer (some ⟨w.heap.size, 0, none⟩)), (2, .int .i64 (p))]) ∧ (Ext w w_) ∧ (RdG w_ 0 w.heap.size Ag0 Ag1 Ag2 cg0 cg1 cg2 g) ∧ (RdT w_ 0 w.heap.size) ∧ (Bx w_ (w.heap.size) [.slice Ag0 g.ow.length cg0, .slice Ag1 g.pr.length cg1, .slice Ag2 g.mv.length cg2] 25) ∧ (Bx w_ (w1.heap.size) ((s : List Int).map wV) 28) ∧ (Bx w_ (w11.heap.size) ((t : List Int).map wV) 28) ∧ (OwnR w_ (Sx (w50.heap.size) [obk (A315), obk (A284), obk (A255), obk (A_426), some (w77.heap.size), obk (A66), obk (A68)]) A64 c65 3 (g.ow : List Int)) ∧ (OwnR w_ (Sx (w50.heap.size) [obk (A315), obk (A284), obk (A255), obk (A_426), some (w77.heap.size), obk (A64), obk (A68)]) A66 c67 3 (g.pr : List Int)) ∧ (OwnLL w_ (w50.heap.size) [obk (A315), obk (A284), obk (A255), obk (A_426), some (w77.heap.size), obk (A64), obk (A66)] A68 c69 22 3 (g.mv : List (List Int))) ∧ (Bx w_ (w77.heap.size) [.slice A64 g.ow.length c65, .slice A66 g.pr.length c67, .slice A68 g.mv.length c69] 25) ∧ (OwnR w_ (Sx (w121.heap.size) [obk (A315), obk (A284), obk (A255), obk (A64), obk (A66), obk (A68)]) A_426 c_427 3 (xs : List Int)) ∧ (OwnR w_ (Sx (w234.heap.size) [obk (A315), obk (A284), obk (A64), obk (A66), obk (A68), obk (A_426)]) A255 c256 4 ((truL s ((g.ow.length : Nat) : Int)) : List Bool)) ∧ (OwnR w_ (Sx (w259.heap.size) [obk (A315), obk (A64), obk (A66), obk (A68), obk (A_426), obk (A255)]) A284 c285 4 ((truL t ((g.ow.length : Nat) : Int)) : List Bool)) ∧ (OwnR w_ (Sx (w288.heap.size) [obk (A64), obk (A66), obk (A68), obk (A_426), obk (A255), obk (A284)]) A315 c316 4 (wa : List Bool)) ∧ (0 ≤ k) ∧ (k ≤ (ms.length : Int)) ∧ (xs.length = ms.length) ∧ (w50.heap.size ≤ w_.heap.size) ∧ (w121.heap.size ≤ w_.heap.size) ∧ (w234.heap.size ≤ w_.heap.size) ∧ (w259.heap.size ≤ w_.heap.size) ∧ (w288.heap.size ≤ w_.heap.size)) _ ⟨0, (ms : List Int), A143, c144, rfl, f428, e236, r237, r238, bx239, bx240, bx241, (ow273.imp (fun g _ hs => ⟨hs.1, hs.2.1, hs.2.2.1, hs.2.2.2.2.1, hs.2.2.2.2.2.1, hs.2.2.2.2.2.2.1, hs.2.2.2.2.2.2.2.1, hs.2.2.2.2.2.2.2.2⟩)), (ow274.imp (fun g _ hs => ⟨hs.1, hs.2.1, hs.2.2.1, hs.2.2.2.2.1, hs.2.2.2.2.2.1, hs.2.2.2.2.2.2.1, hs.2.2.2.2.2.2.2.1, hs.2.2.2.2.2.2.2.2⟩)), (ow275.imp (fun g _ hs => ⟨hs.1, hs.2.1, hs.2.2.1, hs.2.2.2.2.1, hs.2.2.2.2.2.1, hs.2.2.2.2.2.2.1, hs.2.2.2.2.2.2.2.1, hs.2.2.2.2.2.2.2.2⟩)), bx245, (ow277.imp (fun g _ hs => ⟨hs.1, hs.2.1, hs.2.2.1, hs.2.2.2.2.1, hs.2.2.2.2.2.1, hs.2.2.2.2.2.2.1, hs.2.2.2.2.2.2.2⟩)), ow257, ow286, ow317, (by omega), (by omega), rfl, (by omega), (by omega), (by omega), (by omega), (by omega)⟩ ?_
   clear f428 f429
   clear r237
   clear r238
   clear bx239
   clear bx240
   clear bx241
   clear ow273
   clear ow274
   clear ow275
   clear bx245
   clear ow277
   clear ow257
   clear ow286
   clear ow317
   clear e236
   intro m_ act430 w431 ⟨k, xs, A_426, c_427, hm433, f434, e432, r435, r436, bx437, bx438, bx439, ow440, ow441, r442, bx443, ow444, ow445, ow446, ow447, i448, i449, hxsl, i450, i451, i452, i453, i454⟩
   have szw431 := e432.size
   have := bx437.lt
   have := bx438.lt
   have := bx439.lt
   have := bx443.lt
   refine wp_seq ?_
   refine wp_seq ?_
   refine At.start ?_
   refine At.rd f434 4 [[], [], [], []] [(89, .bool (decide ((k : Int) < ((xs.length : Nat) : Int)))), (88, .int .i64 (((xs.length : Nat) : Int))), (87, .slice A_426 xs.length c_427), (86, .int .i64 (k))] [] (by kernel_rfl) trivial (fun act456 f455 => ?_)
   clear f434
   refine At.done rfl ?_
   refine t_n ?_
   refine cond_S f455 (t := decide ((k : Int) < ((xs.length : Nat) : Int))) rfl (fun h457 => ?_) (fun h457 => ?_)
   ·have q458 := of_decide_eq_true h457
    refine wp_skip ?_
    refine t_n ?_
    refine wp_seq ?_
    refine wp_block ?_
    refine At.start ?_
    obtain ⟨ad459, hA460, hb463, hc462, hc461⟩ := ow444.get (k) (by omega) (by omega) (sz := 1) rfl
    refine At.rd f455 3 [[], [], [.ad ad459]] [(94, .pointer (some (ad459.add ((k : Int).toNat * 1)))), (93, .int .i64 (k)), (92, .slice A_426 xs.length c_427)] [(A_426 = some ad459), (0 ≤ (k : Int)), ((k : Int) < (xs.length : Nat))] (by kernel_rfl) ⟨hA460, (by omega), (by omega), trivial⟩ (fun act465 f464 => ?_)
    clear f455
    refine At.act f464 (storeR (α := Int) (t := 3) (i := k) (ad := ad459) (v := .int .i64 (77)) (77) (by kernel_rfl) rfl rfl (by kernel_rfl) hA460 ow444 (by omega) (by omega)) ?_
    rintro d_ v_ w466 ⟨rfl, g467, ow468⟩
    refine ⟨_, rfl, fun act471 f470 => ?_⟩
    clear f464
    have hl469 : ((xs).set (k : Int).toNat 77).length = (xs).length := List.length_set
    have szw466 := g467.size
    replace e432 := e432.gr g467 (fun k hk => by have := ow444.ge k hk; omega)
    replace r435 := r435.gr g467 (fun k hk => by have := ow444.ge k hk; omega)
    replace r436 := r436.gr g467 (fun k hk => by have := ow444.ge k hk; omega)
    replace bx437 := bx437.gr g467 (fun e => by have := ow444.ge _ e; omega)
    replace bx438 := bx438.gr g467 (fun e => by have := ow444.ge _ e; omega)
    replace bx439 := bx439.gr g467 (fun e => by have := ow444.ge _ e; omega)
    replace ow440 := ow440.gr g467 (fun k hk => hk.2.2.2.1)
    replace ow441 := ow441.gr g467 (fun k hk => hk.2.2.2.1)
    have ow480 := r442.gr g467 (fun k hk => hk.2.2.2.1)
    clear r442
    replace bx443 := bx443.gr g467 (fun e => by have := ow444.ge _ e; omega)
    replace ow445 := ow445.gr g467 (fun k hk => hk.2.2.2.2.2.1)
    replace ow446 := ow446.gr g467 (fun k hk => hk.2.2.2.2.1)
    replace ow447 := ow447.gr g467 (fun k hk => hk.2.2.2.1)
    clear ow444 g467
    have f485 := f470.as 92 (.slice A_426 xs.length c_427) (.slice A_426 (((xs).set (k : Int).toNat 77 : List Int).length) c_427) rfl (slice_len (by first | rfl | omega | (simp; done) | (simp; omega)))
    clear f470
    have f486 := f485.as 87 (.slice A_426 xs.length c_427) (.slice A_426 (((xs).set (k : Int).toNat 77 : List Int).length) c_427) rfl (slice_len (by first | rfl | omega | (simp; done) | (simp; omega)))
    clear f485
    have f487 := f486.as 14 (.slice A_426 xs.length c_427) (.slice A_426 (((xs).set (k : Int).toNat 77 : List Int).length) c_427) rfl (slice_len (by first | rfl | omega | (simp; done) | (simp; omega)))
    clear f486
    refine At.done rfl ?_
    refine b_n ?_
    refine t_n ?_
    refine At.start ?_
    refine At.rd f487 3 [[], [.as_ (.int .i64 (k + 1))], []] [(20, .int .i64 (k + 1)), (91, .int .i64 (k + 1)), (90, .int .i64 (k))] [((.int .i64 (IntKind.i64.wrap (k + 1)) : Value) = .int .i64 (k + 1))] (by kernel_rfl) ⟨(w64 (by omega) (by omega)), trivial⟩ (fun act489 f488 => ?_)
    clear f487
    refine At.done rfl ?_
    refine t_n ?_
    have f490 := f488.sub (r := [(20, .int .i64 (k + 1)), (84, .bool false), (83, .bool true), (14, .slice A_426 (((xs).set (k : Int).toNat 77 : List Int).length) c_427), (12, .int .i64 (n)), (11, .pointer (some ⟨w77.heap.size, 0, none⟩)), (10, .bool (isR g)), (9, .bool true), (7, .pointer (some ⟨w11.heap.size, 0, none⟩)), (5, .pointer (some ⟨w1.heap.size, 0, none⟩)), (4, .pointer (some ⟨w.heap.size, 0, none⟩)), (2, .int .i64 (p))]) ⟨rfl, rfl, rfl, rfl, rfl, rfl, rfl, rfl, rfl, rfl, rfl, rfl, trivial⟩
    exact ⟨_, (by omega), (k + 1), ((xs).set (k : Int).toNat 77 : List Int), A_426, c_427, rfl, f490, e432, r435, r436, bx437, bx438, bx439, ow440, ow441, ow480, bx443, ow468, ow445, ow446, ow447, (by omega), (by omega), (by rw [List.length_set]; exact hxsl), (by omega), (by omega), (by omega), (by omega), (by omega)⟩
   ·have q491 := of_decide_eq_false h457
    refine wp_exit ?_
    refine t_e ?_
    refine t_e ?_
    refine b_e ?_
    refine b_n ?_
    refine t_n ?_
    refine At.start ?_
    refine At.rd f455 3 [[], [.as_ (.int .i64 (n + 1))], []] [(12, .int .i64 (n + 1)), (30, .int .i64 (n + 1)), (29, .int .i64 (n))] [((.int .i64 (IntKind.i64.wrap (n + 1)) : Value) = .int .i64 (n + 1))] (by kernel_rfl) ⟨(w64 (by omega) (by omega)), trivial⟩ (fun act493 f492 => ?_)
    clear f455
    refine At.done rfl ?_
    refine t_n ?_
    have f494 := f492.sub (r := [(12, .int .i64 (n + 1)), (11, .pointer (some ⟨w77.heap.size, 0, none⟩)), (10, .bool (isR g)), (9, .bool true), (7, .pointer (some ⟨w11.heap.size, 0, none⟩)), (5, .pointer (some ⟨w1.heap.size, 0, none⟩)), (4, .pointer (some ⟨w.heap.size, 0, none⟩)), (2, .int .i64 (p))]) ⟨rfl, rfl, rfl, rfl, rfl, rfl, rfl, rfl, trivial⟩
    exact ⟨_, (by omega), (n + 1), rfl, f494, e432, r435, r436, bx437, bx438, bx439, (ow440.imp (fun g _ hs => ⟨hs.2.2.2.2.1, hs.2.2.2.2.2.1, hs.2.2.2.2.2.2.1, hs.2.2.2.2.2.2.2⟩)), (ow441.imp (fun g _ hs => ⟨hs.2.2.2.2.1, hs.2.2.2.2.2.1, hs.2.2.2.2.2.2.1, hs.2.2.2.2.2.2.2⟩)), (r442.imp (fun g _ hs => ⟨hs.2.2.2.2.1, hs.2.2.2.2.2.1, hs.2.2.2.2.2.2.1, hs.2.2.2.2.2.2.2⟩)), bx443, (by omega), (by omega), (by omega)⟩
 ·have q495 := of_decide_eq_false h139
  refine wp_exit ?_
  refine t_e ?_
  refine t_e ?_
  refine b_e ?_
  refine t_n ?_
  clear bx128
  clear bx129
  refine wp_seq ?_
  refine At.start ?_
  refine At.rd f137 2 [[.ld (.slice A64 g.ow.length c65), .ld (.slice A66 g.pr.length c67), .ld (.slice A68 g.mv.length c69)], [.ld (.slice Ag0 g.ow.length cg0), .ld (.slice Ag1 g.pr.length cg1), .ld (.slice Ag2 g.mv.length cg2)]] [(96, .agg #[.slice Ag0 g.ow.length cg0, .slice Ag1 g.pr.length cg1, .slice Ag2 g.mv.length cg2]), (95, .agg #[.slice A64 g.ow.length c65, .slice A66 g.pr.length c67, .slice A68 g.mv.length c69])] [(w121.cell? ⟨w77.heap.size, 0, none⟩ = some (.slice A64 g.ow.length c65)), (w121.cell? ⟨w77.heap.size, 1, none⟩ = some (.slice A66 g.pr.length c67)), (w121.cell? ⟨w77.heap.size, 2, none⟩ = some (.slice A68 g.mv.length c69)), (w121.cell? ⟨w.heap.size, 0, none⟩ = some (.slice Ag0 g.ow.length cg0)), (w121.cell? ⟨w.heap.size, 1, none⟩ = some (.slice Ag1 g.pr.length cg1)), (w121.cell? ⟨w.heap.size, 2, none⟩ = some (.slice Ag2 g.mv.length cg2))] (by kernel_rfl) ⟨(bx133.cell (i := 0) rfl), (bx133.cell (i := 1) rfl), (bx133.cell (i := 2) rfl), (bx127.cell (i := 0) rfl), (bx127.cell (i := 1) rfl), (bx127.cell (i := 2) rfl), trivial⟩ (fun act497 f496 => ?_)
  clear f137
  refine At.call f496 17 #[.agg #[.slice A64 g.ow.length c65, .slice A66 g.pr.length c67, .slice A68 g.mv.length c69], .agg #[.slice Ag0 g.ow.length cg0, .slice Ag1 g.pr.length cg1, .slice Ag2 g.mv.length cg2]] (some 97) (by kernel_rfl) ((same_any (a := g) (b := g) (RdG.mk (G := g) (ow130.rdI0 (by first | omega | (simp only [List.length_cons, List.length_nil]; omega) | (simp; done) | (simp; omega))) (ow131.rdI0 (by first | omega | (simp only [List.length_cons, List.length_nil]; omega) | (simp; done) | (simp; omega))) (r132.rdII0 (by first | omega | (simp only [List.length_cons, List.length_nil]; omega) | (simp; done) | (simp; omega)) hip76) ow130.cap ow131.cap r132.cap) (r125.wide (Nat.zero_le _) (by omega))).mono (R' := fun e w' => e = .returned (.bool true) ∧ Ext _ w') (fun e_ w_ h_ => by rw [show (decide (g = g) : Bool) = true from decide_eq_true rfl] at h_; exact h_)) ?_
  rintro e_ w498 ⟨rfl, he⟩
  refine ⟨_, rfl, _, rfl, fun act499 f500 => ?_⟩
  clear f496
  have g501 := gr_ext he
  have szw498 := g501.size
  replace e122 := e122.gr g501 no_row
  replace r125 := r125.gr g501 (fun _ h => by cases h)
  replace r126 := r126.gr g501 (fun _ h => by cases h)
  replace bx127 := bx127.gr g501 (by simp)
  replace ow130 := ow130.gr g501 (fun _ _ h => by cases h)
  replace ow131 := ow131.gr g501 (fun _ _ h => by cases h)
  have ow508 := r132.gr g501 (fun _ _ h => by cases h)
  clear r132
  replace bx133 := bx133.gr g501 (by simp)
  clear g501 he
  refine At.rd f500 1 [[]] [(21, .bool true)] [] (by kernel_rfl) trivial (fun act511 f510 => ?_)
  clear f500
  refine At.done rfl ?_
  refine t_n ?_
  clear bx127
  clear bx133
  refine wp_seq ?_
  refine At.start ?_
  refine At.rd f510 5 [[], [], [], [], []] [(8, .bool true), (101, .bool true), (100, .bool true), (99, .bool true), (98, .bool true)] [] (by kernel_rfl) trivial (fun act513 f512 => ?_)
  clear f510
  refine At.done rfl ?_
  refine t_n ?_
  refine wp_ret ?_
  refine ret_ f512 [] [.bool true] [] (by kernel_rfl) trivial ?_
  exact ⟨rfl, e122⟩

end Go.Proofs.YtkpljmalbmcdfaaDoor
