/-
  A walk of a Go function, printed by a program of this repo. Conditions: what the theorems name.
-/
import Derived.Test.YtkkophhnliplhaaDoorWShown09
import Derived.Test.YtkkophhnliplhaaDoorPureHalf
set_option linter.unusedVariables false
set_option linter.unusedSimpArgs false
namespace Go.Proofs.YtkkophhnliplhaaDoor
open Go Go.RowKit

attribute [local irreducible] ofZ fromW wordsD ofD ofW lsD lenW lenN fullW withW lessW hasW hasD inW inD leastD putD onI tzI orS andS minusS orD andD minusD fullD emptyD
set_option maxHeartbeats 4000000 in
theorem halves09_any {Ag0 Ag1 Ag2 : Option Addr} {cg0 cg1 cg2 : Nat} {g : GameL} {s : List Int} {w : World} (rg : RdG w 0 w.heap.size Ag0 Ag1 Ag2 cg0 cg1 cg2 g) (hs : OkW s) (rT : RdT w 0 w.heap.size) :
    Calls Tryd.prog 9 #[.agg #[.slice Ag0 g.ow.length cg0, .slice Ag1 g.pr.length cg1, .slice Ag2 g.mv.length cg2], .agg ((s : List Int).map wV).toArray] w fun e w' => e = .returned (.bool true) ∧ Ext w w' := by
 have hlg0 := rg.ow.len
 have hlg1 := rg.pr.len
 have hlg2 := rg.mv.len
 have hkg0 := rg.k0
 have hkg1 := rg.k1
 have hkg2 := rg.k2
 have hls := hs.1
 refine enter_ (args := [.agg #[.slice Ag0 g.ow.length cg0, .slice Ag1 g.pr.length cg1, .slice Ag2 g.mv.length cg2], .agg ((s : List Int).map wV).toArray]) Tryd.func9 rfl Tryd.ntmps9 (Nat.le_of_ble_eq_true rfl) (fun act0 f0 => ?_)
 have e0 : Ext w w := Ext.refl w
 refine wp_seq ?_
 refine At.start ?_
 refine At.seq f0 1 [[]] [(2, .pointer (some ⟨w.heap.size, 0, none⟩))] (w.alloc (.cells #[.slice Ag0 g.ow.length cg0, .slice Ag1 g.pr.length cg1, .slice Ag2 g.mv.length cg2] 25 (0, 0))) [] (by kernel_rfl) trivial (fun act4 w1 hw2 f3 => ?_)
 clear f0
 have g5 := gr_alloc hw2
 have szw1 := g5.size
 replace e0 := e0.gr g5 no_row
 have r8 := rg.gr g5 (fun _ h => by cases h)
 clear rg
 have r9 := rT.gr g5 (fun _ h => by cases h)
 clear rT
 have bx10 : Bx w1 (w.heap.size) [.slice Ag0 g.ow.length cg0, .slice Ag1 g.pr.length cg1, .slice Ag2 g.mv.length cg2] 25 := Bx.new hw2
 have := bx10.lt
 clear g5 hw2
 refine At.seq f3 1 [[]] [(3, .pointer (some ⟨w1.heap.size, 0, none⟩))] (w1.alloc (.cells ((s : List Int).map wV).toArray 35 (0, 0))) [] (by kernel_rfl) trivial (fun act14 w11 hw12 f13 => ?_)
 clear f3
 have g15 := gr_alloc hw12
 have szw11 := g15.size
 replace e0 := e0.gr g15 no_row
 replace r8 := r8.gr g15 (fun _ h => by cases h)
 replace r9 := r9.gr g15 (fun _ h => by cases h)
 replace bx10 := bx10.gr g15 (by simp)
 have bx21 : Bx w11 (w1.heap.size) ((s : List Int).map wV) 35 := Bx.new hw12
 have := bx21.lt
 clear g15 hw12
 refine At.rd f13 1 [[]] [(4, .bool false)] [] (by kernel_rfl) trivial (fun act23 f22 => ?_)
 clear f13
 refine At.done rfl ?_
 refine t_n ?_
 refine wp_seq ?_
 refine At.start ?_
 refine At.call f22 12 #[] (some 17) (by kernel_rfl) (shown09_any (r9.wide (Nat.zero_le _) (by omega))) ?_
 rintro e_ w24 ⟨rfl, he⟩
 refine ⟨_, rfl, _, rfl, fun act25 f26 => ?_⟩
 clear f22
 have g27 := gr_ext he
 have szw24 := g27.size
 replace e0 := e0.gr g27 no_row
 replace r8 := r8.gr g27 (fun _ h => by cases h)
 replace r9 := r9.gr g27 (fun _ h => by cases h)
 replace bx10 := bx10.gr g27 (by simp)
 replace bx21 := bx21.gr g27 (by simp)
 clear g27 he
 refine At.rd f26 1 [[]] [(5, .bool true)] [] (by kernel_rfl) trivial (fun act34 f33 => ?_)
 clear f26
 refine At.done rfl ?_
 refine t_n ?_
 refine wp_seq ?_
 refine At.start ?_
 refine At.rd f33 1 [[.ld (.slice Ag0 g.ow.length cg0), .ld (.slice Ag1 g.pr.length cg1), .ld (.slice Ag2 g.mv.length cg2)]] [(18, .agg #[.slice Ag0 g.ow.length cg0, .slice Ag1 g.pr.length cg1, .slice Ag2 g.mv.length cg2])] [(w24.cell? ⟨w.heap.size, 0, none⟩ = some (.slice Ag0 g.ow.length cg0)), (w24.cell? ⟨w.heap.size, 1, none⟩ = some (.slice Ag1 g.pr.length cg1)), (w24.cell? ⟨w.heap.size, 2, none⟩ = some (.slice Ag2 g.mv.length cg2))] (by kernel_rfl) ⟨(bx10.cell (i := 0) rfl), (bx10.cell (i := 1) rfl), (bx10.cell (i := 2) rfl), trivial⟩ (fun act36 f35 => ?_)
 clear f33
 refine At.call f35 18 #[.agg #[.slice Ag0 g.ow.length cg0, .slice Ag1 g.pr.length cg1, .slice Ag2 g.mv.length cg2]] (some 19) (by kernel_rfl) (dualM_any (g := g) (r8.wide (Nat.zero_le _) (by omega))) ?_
 rintro e_ w52 ⟨A37, c38, A39, c40, A41, c42, rfl, he, ow43, ow44, ow45⟩
 have hip49 := dual_inner (inner_len (RdG.mv (r8.wide (Nat.zero_le _) (by omega))))
 have := dual_lens g
 have r50 : RdG w52 (w24.heap.size) w52.heap.size A37 A39 A41 c38 c40 c42 (dualG g) := ⟨(OwnR.rdR ow43 (by show _ * 8 ≤ _; omega)).rdI, (OwnR.rdR ow44 (by show _ * 8 ≤ _; omega)).rdI, OwnLLP.rdII ow45 (by omega) hip49, ow43.cap, ow44.cap, ow45.cap⟩
 clear ow43 ow44 ow45
 refine ⟨_, rfl, _, rfl, fun act53 f54 => ?_⟩
 clear f35
 have g55 := gr_ext he
 have szw52 := g55.size
 replace e0 := e0.gr g55 no_row
 replace r8 := r8.gr g55 (fun _ h => by cases h)
 replace r9 := r9.gr g55 (fun _ h => by cases h)
 replace bx10 := bx10.gr g55 (by simp)
 replace bx21 := bx21.gr g55 (by simp)
 clear g55 he
 refine At.seq f54 1 [[]] [(6, .pointer (some ⟨w52.heap.size, 0, none⟩))] (w52.alloc (.cells #[.slice none 0 0, .slice none 0 0, .slice none 0 0] 25 (0, 0))) [] (by kernel_rfl) trivial (fun act64 w61 hw62 f63 => ?_)
 clear f54
 have g65 := gr_alloc hw62
 have szw61 := g65.size
 replace e0 := e0.gr g65 no_row
 replace r8 := r8.gr g65 (fun _ h => by cases h)
 replace r9 := r9.gr g65 (fun _ h => by cases h)
 replace bx10 := bx10.gr g65 (by simp)
 replace bx21 := bx21.gr g65 (by simp)
 replace r50 := r50.gr g65 (fun _ h => by cases h)
 have bx73 : Bx w61 (w52.heap.size) [.slice none 0 0, .slice none 0 0, .slice none 0 0] 25 := Bx.new hw62
 have := bx73.lt
 clear g65 hw62
 refine At.store f63 (t := 25) (b := w52.heap.size) (off := 0) (v := .agg #[.slice A37 ((dualG g).ow.length) c38, .slice A39 ((dualG g).pr.length) c40, .slice A41 ((dualG g).mv.length) c42]) (by kernel_rfl) bx73 (by kernel_rfl) (fun act78 w74 g75 bx76 f77 => ?_)
 clear f63
 replace bx76 : Bx w74 (w52.heap.size) [.slice A37 ((dualG g).ow.length) c38, .slice A39 ((dualG g).pr.length) c40, .slice A41 ((dualG g).mv.length) c42] 25 := bx76
 have szw74 := g75.size
 replace e0 := e0.gr g75 (fun k h => by injection h; omega)
 replace r8 := r8.gr g75 (fun k h => by injection h; omega)
 replace r9 := r9.gr g75 (fun k h => by injection h; omega)
 replace bx10 := bx10.gr g75 (fun h => by injection h; omega)
 replace bx21 := bx21.gr g75 (fun h => by injection h; omega)
 replace r50 := r50.gr g75 (fun k h => by injection h; omega)
 clear bx73 g75
 refine At.done rfl ?_
 refine t_n ?_
 refine wp_seq ?_
 refine At.start ?_
 refine At.rd f77 2 [[.ld (.slice Ag0 g.ow.length cg0), .ld (.slice Ag1 g.pr.length cg1), .ld (.slice Ag2 g.mv.length cg2)], [.cs ((s : List Int).map wV)]] [(22, .agg ((s : List Int).map wV).toArray), (21, .agg #[.slice Ag0 g.ow.length cg0, .slice Ag1 g.pr.length cg1, .slice Ag2 g.mv.length cg2])] [(w74.cell? ⟨w.heap.size, 0, none⟩ = some (.slice Ag0 g.ow.length cg0)), (w74.cell? ⟨w.heap.size, 1, none⟩ = some (.slice Ag1 g.pr.length cg1)), (w74.cell? ⟨w.heap.size, 2, none⟩ = some (.slice Ag2 g.mv.length cg2)), (((s : List Int).map wV).length = 4), (∀ (j : Nat) (v : Value), ((s : List Int).map wV)[j]? = some v → w74.cell? ((⟨w1.heap.size, 0, none⟩ : Addr).add j) = some v)] (by kernel_rfl) ⟨(bx10.cell (i := 0) rfl), (bx10.cell (i := 1) rfl), (bx10.cell (i := 2) rfl), ((List.length_map _).trans (by assumption)), bx21.whole, trivial⟩ (fun act86 f85 => ?_)
 clear f77
 refine At.call f85 22 #[.agg #[.slice Ag0 g.ow.length cg0, .slice Ag1 g.pr.length cg1, .slice Ag2 g.mv.length cg2], .agg ((s : List Int).map wV).toArray] (some 23) (by kernel_rfl) (subM_any (g := g) (s := s) (r8.wide (Nat.zero_le _) (by omega)) (by assumption) (r9.wide (Nat.zero_le _) (by omega))) ?_
 rintro e_ w106 ⟨A87, c88, A89, c90, A91, c92, A93, c94, rfl, he, ow95, ow96, ow97, ow98⟩
 have hip103 := sub_inner g s
 have := sub_lens g (inT g s)
 have r104 : RdG w106 (w74.heap.size) w106.heap.size A87 A89 A91 c88 c90 c92 (subG g (inT g s)) := ⟨(OwnR.rdR ow95 (by show _ * 8 ≤ _; omega)).rdI, (OwnR.rdR ow96 (by show _ * 8 ≤ _; omega)).rdI, OwnLLP.rdII ow97 (by omega) hip103, ow95.cap, ow96.cap, ow97.cap⟩
 replace ow98 : OwnR w106 (Sx (w74.heap.size) []) A93 c94 3 ((subO g (inT g s)) : List Int) := ow98.imp (fun g _ hs => hs.2.2.2)
 clear ow95 ow96 ow97
 refine ⟨_, rfl, _, rfl, fun act107 f108 => ?_⟩
 clear f85
 have g109 := gr_ext he
 have szw106 := g109.size
 replace e0 := e0.gr g109 no_row
 replace r8 := r8.gr g109 (fun _ h => by cases h)
 replace r9 := r9.gr g109 (fun _ h => by cases h)
 replace bx10 := bx10.gr g109 (by simp)
 replace bx21 := bx21.gr g109 (by simp)
 replace r50 := r50.gr g109 (fun _ h => by cases h)
 replace bx76 := bx76.gr g109 (by simp)
 clear g109 he
 refine At.rd f108 4 [[], [], [], []] [(26, .bool (subB g (inT g s))), (25, .slice A93 ((subO g (inT g s)).length) c94), (24, .agg #[.slice A87 ((subG g (inT g s)).ow.length) c88, .slice A89 ((subG g (inT g s)).pr.length) c90, .slice A91 ((subG g (inT g s)).mv.length) c92]), (20, .tuple #[.agg #[.slice A87 ((subG g (inT g s)).ow.length) c88, .slice A89 ((subG g (inT g s)).pr.length) c90, .slice A91 ((subG g (inT g s)).mv.length) c92], .slice A93 ((subO g (inT g s)).length) c94, .bool (subB g (inT g s))])] [] (by kernel_rfl) trivial (fun act118 f117 => ?_)
 clear f108
 refine At.seq f117 1 [[]] [(7, .pointer (some ⟨w106.heap.size, 0, none⟩))] (w106.alloc (.cells #[.slice none 0 0, .slice none 0 0, .slice none 0 0] 25 (0, 0))) [] (by kernel_rfl) trivial (fun act122 w119 hw120 f121 => ?_)
 clear f117
 have g123 := gr_alloc hw120
 have szw119 := g123.size
 replace e0 := e0.gr g123 no_row
 replace r8 := r8.gr g123 (fun _ h => by cases h)
 replace r9 := r9.gr g123 (fun _ h => by cases h)
 replace bx10 := bx10.gr g123 (by simp)
 replace bx21 := bx21.gr g123 (by simp)
 replace r50 := r50.gr g123 (fun _ h => by cases h)
 replace bx76 := bx76.gr g123 (by simp)
 replace ow98 : OwnR w119 (Sx (w74.heap.size) [some (w106.heap.size)]) A93 c94 3 ((subO g (inT g s)) : List Int) := ow98.grA g123 (fun _ _ h => by cases h) (fun k hk hs => ⟨(fun e => by injection e; omega), hs⟩)
 replace r104 := r104.gr g123 (fun _ h => by cases h)
 have bx134 : Bx w119 (w106.heap.size) [.slice none 0 0, .slice none 0 0, .slice none 0 0] 25 := Bx.new hw120
 have := bx134.lt
 clear g123 hw120
 refine At.store f121 (t := 25) (b := w106.heap.size) (off := 0) (v := .agg #[.slice A87 ((subG g (inT g s)).ow.length) c88, .slice A89 ((subG g (inT g s)).pr.length) c90, .slice A91 ((subG g (inT g s)).mv.length) c92]) (by kernel_rfl) bx134 (by kernel_rfl) (fun act139 w135 g136 bx137 f138 => ?_)
 clear f121
 replace bx137 : Bx w135 (w106.heap.size) [.slice A87 ((subG g (inT g s)).ow.length) c88, .slice A89 ((subG g (inT g s)).pr.length) c90, .slice A91 ((subG g (inT g s)).mv.length) c92] 25 := bx137
 have szw135 := g136.size
 replace e0 := e0.gr g136 (fun k h => by injection h; omega)
 replace r8 := r8.gr g136 (fun k h => by injection h; omega)
 replace r9 := r9.gr g136 (fun k h => by injection h; omega)
 replace bx10 := bx10.gr g136 (fun h => by injection h; omega)
 replace bx21 := bx21.gr g136 (fun h => by injection h; omega)
 replace r50 := r50.gr g136 (fun k h => by injection h; omega)
 replace bx76 := bx76.gr g136 (fun h => by injection h; omega)
 replace ow98 := ow98.gr g136 (fun k hk => hk.1)
 replace r104 := r104.gr g136 (fun k h => by injection h; omega)
 clear bx134 g136
 refine At.rd f138 2 [[], []] [(9, .bool (subB g (inT g s))), (8, .slice A93 ((subO g (inT g s)).length) c94)] [] (by kernel_rfl) trivial (fun act150 f149 => ?_)
 clear f138
 refine At.done rfl ?_
 refine t_n ?_
 refine wp_seq ?_
 refine At.start ?_
 refine At.rd f149 2 [[.ld (.slice A37 ((dualG g).ow.length) c38), .ld (.slice A39 ((dualG g).pr.length) c40), .ld (.slice A41 ((dualG g).mv.length) c42)], [.cs ((s : List Int).map wV)]] [(29, .agg ((s : List Int).map wV).toArray), (28, .agg #[.slice A37 ((dualG g).ow.length) c38, .slice A39 ((dualG g).pr.length) c40, .slice A41 ((dualG g).mv.length) c42])] [(w135.cell? ⟨w52.heap.size, 0, none⟩ = some (.slice A37 ((dualG g).ow.length) c38)), (w135.cell? ⟨w52.heap.size, 1, none⟩ = some (.slice A39 ((dualG g).pr.length) c40)), (w135.cell? ⟨w52.heap.size, 2, none⟩ = some (.slice A41 ((dualG g).mv.length) c42)), (((s : List Int).map wV).length = 4), (∀ (j : Nat) (v : Value), ((s : List Int).map wV)[j]? = some v → w135.cell? ((⟨w1.heap.size, 0, none⟩ : Addr).add j) = some v)] (by kernel_rfl) ⟨(bx76.cell (i := 0) rfl), (bx76.cell (i := 1) rfl), (bx76.cell (i := 2) rfl), ((List.length_map _).trans (by assumption)), bx21.whole, trivial⟩ (fun act152 f151 => ?_)
 clear f149
 refine At.call f151 22 #[.agg #[.slice A37 ((dualG g).ow.length) c38, .slice A39 ((dualG g).pr.length) c40, .slice A41 ((dualG g).mv.length) c42], .agg ((s : List Int).map wV).toArray] (some 30) (by kernel_rfl) (subM_any (g := (dualG g)) (s := s) (r50.wide (Nat.zero_le _) (by omega)) (by assumption) (r9.wide (Nat.zero_le _) (by omega))) ?_
 rintro e_ w172 ⟨A153, c154, A155, c156, A157, c158, A159, c160, rfl, he, ow161, ow162, ow163, ow164⟩
 have hip169 := sub_inner (dualG g) s
 have := sub_lens (dualG g) (inT (dualG g) s)
 have r170 : RdG w172 (w135.heap.size) w172.heap.size A153 A155 A157 c154 c156 c158 (subG (dualG g) (inT (dualG g) s)) := ⟨(OwnR.rdR ow161 (by show _ * 8 ≤ _; omega)).rdI, (OwnR.rdR ow162 (by show _ * 8 ≤ _; omega)).rdI, OwnLLP.rdII ow163 (by omega) hip169, ow161.cap, ow162.cap, ow163.cap⟩
 replace ow164 : OwnR w172 (Sx (w135.heap.size) []) A159 c160 3 ((subO (dualG g) (inT (dualG g) s)) : List Int) := ow164.imp (fun g _ hs => hs.2.2.2)
 clear ow161 ow162 ow163
 refine ⟨_, rfl, _, rfl, fun act173 f174 => ?_⟩
 clear f151
 have g175 := gr_ext he
 have lt176 := ow98.lt
 have szw172 := g175.size
 replace e0 := e0.gr g175 no_row
 replace r8 := r8.gr g175 (fun _ h => by cases h)
 replace r9 := r9.gr g175 (fun _ h => by cases h)
 replace bx10 := bx10.gr g175 (by simp)
 replace bx21 := bx21.gr g175 (by simp)
 replace r50 := r50.gr g175 (fun _ h => by cases h)
 replace bx76 := bx76.gr g175 (by simp)
 replace ow98 : OwnR w172 (Sx (w74.heap.size) [obk (A159), some (w106.heap.size)]) A93 c94 3 ((subO g (inT g s)) : List Int) := ow98.grA g175 (fun _ _ h => by cases h) (fun k hk hs => ⟨(fun e => by have := ow164.ge _ e; omega), hs.1, hs.2⟩)
 replace r104 := r104.gr g175 (fun _ h => by cases h)
 replace bx137 := bx137.gr g175 (by simp)
 replace ow164 : OwnR w172 (Sx (w135.heap.size) [obk (A93)]) A159 c160 3 ((subO (dualG g) (inT (dualG g) s)) : List Int) := ow164.imp (fun g _ hs => ⟨(fun e => by have := lt176 _ e; have := Sx_base hs; omega), hs⟩)
 clear lt176
 clear g175 he
 refine At.rd f174 4 [[], [], [], []] [(33, .bool (subB (dualG g) (inT (dualG g) s))), (32, .slice A159 ((subO (dualG g) (inT (dualG g) s)).length) c160), (31, .agg #[.slice A153 ((subG (dualG g) (inT (dualG g) s)).ow.length) c154, .slice A155 ((subG (dualG g) (inT (dualG g) s)).pr.length) c156, .slice A157 ((subG (dualG g) (inT (dualG g) s)).mv.length) c158]), (27, .tuple #[.agg #[.slice A153 ((subG (dualG g) (inT (dualG g) s)).ow.length) c154, .slice A155 ((subG (dualG g) (inT (dualG g) s)).pr.length) c156, .slice A157 ((subG (dualG g) (inT (dualG g) s)).mv.length) c158], .slice A159 ((subO (dualG g) (inT (dualG g) s)).length) c160, .bool (subB (dualG g) (inT (dualG g) s))])] [] (by kernel_rfl) trivial (fun act189 f188 => ?_)
 clear f174
 refine At.seq f188 1 [[]] [(10, .pointer (some ⟨w172.heap.size, 0, none⟩))] (w172.alloc (.cells #[.slice none 0 0, .slice none 0 0, .slice none 0 0] 25 (0, 0))) [] (by kernel_rfl) trivial (fun act193 w190 hw191 f192 => ?_)
 clear f188
 have g194 := gr_alloc hw191
 have szw190 := g194.size
 replace e0 := e0.gr g194 no_row
 replace r8 := r8.gr g194 (fun _ h => by cases h)
 replace r9 := r9.gr g194 (fun _ h => by cases h)
 replace bx10 := bx10.gr g194 (by simp)
 replace bx21 := bx21.gr g194 (by simp)
 replace r50 := r50.gr g194 (fun _ h => by cases h)
 replace bx76 := bx76.gr g194 (by simp)
 replace ow98 : OwnR w190 (Sx (w74.heap.size) [some (w172.heap.size), obk (A159), some (w106.heap.size)]) A93 c94 3 ((subO g (inT g s)) : List Int) := ow98.grA g194 (fun _ _ h => by cases h) (fun k hk hs => ⟨(fun e => by injection e; omega), hs.1, hs.2.1, hs.2.2⟩)
 replace r104 := r104.gr g194 (fun _ h => by cases h)
 replace bx137 := bx137.gr g194 (by simp)
 replace ow164 : OwnR w190 (Sx (w135.heap.size) [some (w172.heap.size), obk (A93)]) A159 c160 3 ((subO (dualG g) (inT (dualG g) s)) : List Int) := ow164.grA g194 (fun _ _ h => by cases h) (fun k hk hs => ⟨(fun e => by injection e; omega), hs.1, hs.2⟩)
 replace r170 := r170.gr g194 (fun _ h => by cases h)
 have bx208 : Bx w190 (w172.heap.size) [.slice none 0 0, .slice none 0 0, .slice none 0 0] 25 := Bx.new hw191
 have := bx208.lt
 clear g194 hw191
 refine At.store f192 (t := 25) (b := w172.heap.size) (off := 0) (v := .agg #[.slice A153 ((subG (dualG g) (inT (dualG g) s)).ow.length) c154, .slice A155 ((subG (dualG g) (inT (dualG g) s)).pr.length) c156, .slice A157 ((subG (dualG g) (inT (dualG g) s)).mv.length) c158]) (by kernel_rfl) bx208 (by kernel_rfl) (fun act213 w209 g210 bx211 f212 => ?_)
 clear f192
 replace bx211 : Bx w209 (w172.heap.size) [.slice A153 ((subG (dualG g) (inT (dualG g) s)).ow.length) c154, .slice A155 ((subG (dualG g) (inT (dualG g) s)).pr.length) c156, .slice A157 ((subG (dualG g) (inT (dualG g) s)).mv.length) c158] 25 := bx211
 have szw209 := g210.size
 replace e0 := e0.gr g210 (fun k h => by injection h; omega)
 replace r8 := r8.gr g210 (fun k h => by injection h; omega)
 replace r9 := r9.gr g210 (fun k h => by injection h; omega)
 replace bx10 := bx10.gr g210 (fun h => by injection h; omega)
 replace bx21 := bx21.gr g210 (fun h => by injection h; omega)
 replace r50 := r50.gr g210 (fun k h => by injection h; omega)
 replace bx76 := bx76.gr g210 (fun h => by injection h; omega)
 replace ow98 := ow98.gr g210 (fun k hk => hk.1)
 replace r104 := r104.gr g210 (fun k h => by injection h; omega)
 replace bx137 := bx137.gr g210 (fun h => by injection h; omega)
 replace ow164 := ow164.gr g210 (fun k hk => hk.1)
 replace r170 := r170.gr g210 (fun k h => by injection h; omega)
 clear bx208 g210
 refine At.rd f212 2 [[], []] [(12, .bool (subB (dualG g) (inT (dualG g) s))), (11, .slice A159 ((subO (dualG g) (inT (dualG g) s)).length) c160)] [] (by kernel_rfl) trivial (fun act227 f226 => ?_)
 clear f212
 refine At.done rfl ?_
 refine t_n ?_
 refine wp_seq ?_
 refine wp_seq ?_
 refine At.start ?_
 refine At.rd f226 8 [[], [], [], [], [.ld (.slice A37 ((dualG g).ow.length) c38)], [], [], []] [(41, .bool (((((dualG g).ow.length : Nat) : Int) : Int) == 0)), (40, .bool (((((dualG g).ow.length : Nat) : Int) : Int) == 0)), (39, .int .i64 ((((dualG g).ow.length : Nat) : Int))), (38, .slice A37 ((dualG g).ow.length) c38), (37, .pointer (some ⟨w52.heap.size, 0, none⟩)), (36, .bool false), (35, .bool false), (34, .bool true)] [(w209.cell? ⟨w52.heap.size, 0, none⟩ = some (.slice A37 ((dualG g).ow.length) c38))] (by kernel_rfl) ⟨(bx76.cell (i := 0) rfl), trivial⟩ (fun act229 f228 => ?_)
 clear f226
 refine At.done rfl ?_
 refine t_n ?_
 have f230 := f228.sub (r := [(41, .bool (((((dualG g).ow.length : Nat) : Int) : Int) == 0)), (12, .bool (subB (dualG g) (inT (dualG g) s))), (11, .slice A159 ((subO (dualG g) (inT (dualG g) s)).length) c160), (10, .pointer (some ⟨w172.heap.size, 0, none⟩)), (9, .bool (subB g (inT g s))), (8, .slice A93 ((subO g (inT g s)).length) c94), (7, .pointer (some ⟨w106.heap.size, 0, none⟩)), (5, .bool true), (4, .bool false)]) ⟨rfl, rfl, rfl, rfl, rfl, rfl, rfl, rfl, rfl, trivial⟩
 clear f228
 refine cond_S f230 (t := ((((dualG g).ow.length : Nat) : Int) : Int) == 0) rfl (fun h231 => ?_) (fun h231 => ?_)
 ·have q232 := eq_of_beq h231
  refine wp_seq ?_
  have hz_ := sub_nil (I := inT (dualG g) s) (dual_nil (g := g) (by omega))
  refine At.start ?_
  refine At.rd f230 6 [[], [], [], [.as_ (.bool true)], [], []] [(4, .bool true), (46, .bool true), (45, .bool true), (44, .bool (subB (dualG g) (inT (dualG g) s))), (43, .bool true), (42, .bool true)] [((.bool (!(subB (dualG g) (inT (dualG g) s))) : Value) = .bool true)] (by kernel_rfl) ⟨(congrArg Value.bool (by rw [hz_]; rfl)), trivial⟩ (fun act234 f233 => ?_)
  clear f230
  refine At.done rfl ?_
  refine t_n ?_
  refine wp_ret ?_
  refine t_r ?_
  refine ret_ f233 [] [.bool true] [] (by kernel_rfl) trivial ?_
  exact ⟨rfl, e0⟩
 ·have q235 := ne_of_beq_false h231
  refine wp_skip ?_
  refine t_n ?_
  refine wp_seq ?_
  have hDS := dual_some (g := g) (by omega)
  have hH := half_t (s := s) hDS.1 hDS.2
  have hla_ := hH.la
  have hlb_ := hH.lb
  have hby := (dual_t hDS.1 hDS.2).by_
  refine At.start ?_
  refine At.rd f230 4 [[], [.ld (.slice A87 ((subG g (inT g s)).ow.length) c88)], [], []] [(13, .int .i64 ((((subG g (inT g s)).ow.length : Nat) : Int))), (49, .int .i64 ((((subG g (inT g s)).ow.length : Nat) : Int))), (48, .slice A87 ((subG g (inT g s)).ow.length) c88), (47, .pointer (some ⟨w106.heap.size, 0, none⟩))] [(w209.cell? ⟨w106.heap.size, 0, none⟩ = some (.slice A87 ((subG g (inT g s)).ow.length) c88))] (by kernel_rfl) ⟨(bx137.cell (i := 0) rfl), trivial⟩ (fun act237 f236 => ?_)
  clear f230
  refine At.done rfl ?_
  refine t_n ?_
  refine wp_seq ?_
  refine wp_seq ?_
  refine At.start ?_
  refine At.rd f236 38 [[], [], [.as_ (.bool false)], [], [], [.ld (.slice A153 ((subG (dualG g) (inT (dualG g) s)).ow.length) c154)], [], [], [.as_ (.bool false)], [], [], [], [.ld (.slice A89 ((subG g (inT g s)).pr.length) c90)], [], [], [.as_ (.bool false)], [], [], [], [.ld (.slice A155 ((subG (dualG g) (inT (dualG g) s)).pr.length) c156)], [], [], [.as_ (.bool false)], [], [], [], [.ld (.slice A91 ((subG g (inT g s)).mv.length) c92)], [], [], [.as_ (.bool false)], [], [], [], [.ld (.slice A157 ((subG (dualG g) (inT (dualG g) s)).mv.length) c158)], [], [], [.as_ (.bool false)], []] [(87, .bool false), (86, .bool false), (85, .int .i64 ((((subG g (inT g s)).ow.length : Nat) : Int))), (84, .int .i64 ((((subG (dualG g) (inT (dualG g) s)).mv.length : Nat) : Int))), (83, .slice A157 ((subG (dualG g) (inT (dualG g) s)).mv.length) c158), (82, .pointer (some ⟨w172.heap.size, 2, none⟩)), (81, .bool false), (80, .bool false), (79, .bool false), (78, .int .i64 ((((subG g (inT g s)).ow.length : Nat) : Int))), (77, .int .i64 ((((subG g (inT g s)).mv.length : Nat) : Int))), (76, .slice A91 ((subG g (inT g s)).mv.length) c92), (75, .pointer (some ⟨w106.heap.size, 2, none⟩)), (74, .bool false), (73, .bool false), (72, .bool false), (71, .int .i64 ((((subG g (inT g s)).ow.length : Nat) : Int))), (70, .int .i64 ((((subG (dualG g) (inT (dualG g) s)).pr.length : Nat) : Int))), (69, .slice A155 ((subG (dualG g) (inT (dualG g) s)).pr.length) c156), (68, .pointer (some ⟨w172.heap.size, 1, none⟩)), (67, .bool false), (66, .bool false), (65, .bool false), (64, .int .i64 ((((subG g (inT g s)).ow.length : Nat) : Int))), (63, .int .i64 ((((subG g (inT g s)).pr.length : Nat) : Int))), (62, .slice A89 ((subG g (inT g s)).pr.length) c90), (61, .pointer (some ⟨w106.heap.size, 1, none⟩)), (60, .bool false), (59, .bool false), (58, .bool false), (57, .int .i64 ((((subG g (inT g s)).ow.length : Nat) : Int))), (56, .int .i64 ((((subG (dualG g) (inT (dualG g) s)).ow.length : Nat) : Int))), (55, .slice A153 ((subG (dualG g) (inT (dualG g) s)).ow.length) c154), (54, .pointer (some ⟨w172.heap.size, 0, none⟩)), (53, .bool false), (52, .bool false), (51, .bool (subB (dualG g) (inT (dualG g) s))), (50, .bool (subB g (inT g s)))] [((.bool (!((subB g (inT g s)) == (subB (dualG g) (inT (dualG g) s)))) : Value) = .bool false), (w209.cell? ⟨w172.heap.size, 0, none⟩ = some (.slice A153 ((subG (dualG g) (inT (dualG g) s)).ow.length) c154)), ((.bool (((((subG (dualG g) (inT (dualG g) s)).ow.length : Nat) : Int) : Int) != (((subG g (inT g s)).ow.length : Nat) : Int)) : Value) = .bool false), (w209.cell? ⟨w106.heap.size, 1, none⟩ = some (.slice A89 ((subG g (inT g s)).pr.length) c90)), ((.bool (((((subG g (inT g s)).pr.length : Nat) : Int) : Int) != (((subG g (inT g s)).ow.length : Nat) : Int)) : Value) = .bool false), (w209.cell? ⟨w172.heap.size, 1, none⟩ = some (.slice A155 ((subG (dualG g) (inT (dualG g) s)).pr.length) c156)), ((.bool (((((subG (dualG g) (inT (dualG g) s)).pr.length : Nat) : Int) : Int) != (((subG g (inT g s)).ow.length : Nat) : Int)) : Value) = .bool false), (w209.cell? ⟨w106.heap.size, 2, none⟩ = some (.slice A91 ((subG g (inT g s)).mv.length) c92)), ((.bool (((((subG g (inT g s)).mv.length : Nat) : Int) : Int) != (((subG g (inT g s)).ow.length : Nat) : Int)) : Value) = .bool false), (w209.cell? ⟨w172.heap.size, 2, none⟩ = some (.slice A157 ((subG (dualG g) (inT (dualG g) s)).mv.length) c158)), ((.bool (((((subG (dualG g) (inT (dualG g) s)).mv.length : Nat) : Int) : Int) != (((subG g (inT g s)).ow.length : Nat) : Int)) : Value) = .bool false)] (by kernel_rfl) ⟨(congrArg Value.bool (nbb hH.b.symm)), (bx211.cell (i := 0) rfl), (congrArg Value.bool (bneF (by omega))), (bx137.cell (i := 1) rfl), (congrArg Value.bool (bneF (by omega))), (bx211.cell (i := 1) rfl), (congrArg Value.bool (bneF (by omega))), (bx137.cell (i := 2) rfl), (congrArg Value.bool (bneF (by omega))), (bx211.cell (i := 2) rfl), (congrArg Value.bool (bneF (by omega))), trivial⟩ (fun act239 f238 => ?_)
  clear f236
  refine At.done rfl ?_
  refine t_n ?_
  have f240 := f238.sub (r := [(87, .bool false), (13, .int .i64 ((((subG g (inT g s)).ow.length : Nat) : Int))), (11, .slice A159 ((subO (dualG g) (inT (dualG g) s)).length) c160), (10, .pointer (some ⟨w172.heap.size, 0, none⟩)), (9, .bool (subB g (inT g s))), (8, .slice A93 ((subO g (inT g s)).length) c94), (7, .pointer (some ⟨w106.heap.size, 0, none⟩)), (4, .bool false)]) ⟨rfl, rfl, rfl, rfl, rfl, rfl, rfl, rfl, trivial⟩
  clear f238
  refine cond_F f240 rfl ?_
  refine wp_skip ?_
  refine t_n ?_
  refine wp_seq ?_
  refine wp_seq ?_
  refine At.start ?_
  refine At.rd f240 1 [[]] [(14, .int .i64 (0))] [] (by kernel_rfl) trivial (fun act242 f241 => ?_)
  clear f240
  refine At.done rfl ?_
  refine t_n ?_
  refine wp_block ?_
  have f243 := f241.sub (r := [(14, .int .i64 (0)), (13, .int .i64 ((((subG g (inT g s)).ow.length : Nat) : Int))), (11, .slice A159 ((subO (dualG g) (inT (dualG g) s)).length) c160), (10, .pointer (some ⟨w172.heap.size, 0, none⟩)), (9, .bool (subB g (inT g s))), (8, .slice A93 ((subO g (inT g s)).length) c94), (7, .pointer (some ⟨w106.heap.size, 0, none⟩))]) ⟨rfl, rfl, rfl, rfl, rfl, rfl, rfl, trivial⟩
  refine loop_g (fun (m_ : Nat) a_ w_ => ∃ (i : Int), m_ = (((subG g (inT g s)).ow.length : Int) - i).toNat ∧ (Frm 167 a_ [(14, .int .i64 (i)), (13, .int .i64 ((((subG g (inT g s)).ow.length : Nat) : Int))), (11, .slice A159 ((subO (dualG g) (inT (dualG g) s)).length) c160), (10, .pointer (some ⟨w172.heap.size, 0, none⟩)), (9, .bool (subB g (inT g s))), (8, .slice A93 ((subO g (inT g s)).length) c94), (7, .pointer (some ⟨w106.heap.size, 0, none⟩))]) ∧ (Ext w w_) ∧ (RdG w_ 0 w.heap.size Ag0 Ag1 Ag2 cg0 cg1 cg2 g) ∧ (RdT w_ 0 w.heap.size) ∧ (Bx w_ (w.heap.size) [.slice Ag0 g.ow.length cg0, .slice Ag1 g.pr.length cg1, .slice Ag2 g.mv.length cg2] 25) ∧ (Bx w_ (w1.heap.size) ((s : List Int).map wV) 35) ∧ (RdG w_ (w24.heap.size) w52.heap.size A37 A39 A41 c38 c40 c42 (dualG g)) ∧ (Bx w_ (w52.heap.size) [.slice A37 ((dualG g).ow.length) c38, .slice A39 ((dualG g).pr.length) c40, .slice A41 ((dualG g).mv.length) c42] 25) ∧ (OwnR w_ (Sx (w74.heap.size) [some (w172.heap.size), obk (A159), some (w106.heap.size)]) A93 c94 3 ((subO g (inT g s)) : List Int)) ∧ (RdG w_ (w74.heap.size) w106.heap.size A87 A89 A91 c88 c90 c92 (subG g (inT g s))) ∧ (Bx w_ (w106.heap.size) [.slice A87 ((subG g (inT g s)).ow.length) c88, .slice A89 ((subG g (inT g s)).pr.length) c90, .slice A91 ((subG g (inT g s)).mv.length) c92] 25) ∧ (OwnR w_ (Sx (w135.heap.size) [some (w172.heap.size), obk (A93)]) A159 c160 3 ((subO (dualG g) (inT (dualG g) s)) : List Int)) ∧ (RdG w_ (w135.heap.size) w172.heap.size A153 A155 A157 c154 c156 c158 (subG (dualG g) (inT (dualG g) s))) ∧ (Bx w_ (w172.heap.size) [.slice A153 ((subG (dualG g) (inT (dualG g) s)).ow.length) c154, .slice A155 ((subG (dualG g) (inT (dualG g) s)).pr.length) c156, .slice A157 ((subG (dualG g) (inT (dualG g) s)).mv.length) c158] 25) ∧ (0 ≤ i) ∧ (i ≤ ((subG g (inT g s)).ow.length : Int)) ∧ (w74.heap.size ≤ w_.heap.size) ∧ (w135.heap.size ≤ w_.heap.size)) _ ⟨0, rfl, f243, e0, r8, r9, bx10, bx21, r50, bx76, ow98, r104, bx137, ow164, r170, bx211, (by omega), (by omega), (by omega), (by omega)⟩ ?_
  clear f243 f241
  clear r8
  clear r9
  clear bx10
  clear bx21
  clear r50
  clear bx76
  clear ow98
  clear r104
  clear bx137
  clear ow164
  clear r170
  clear bx211
  clear e0
  intro m_ act244 w245 ⟨i, hm247, f248, e246, r249, r250, bx251, bx252, r253, bx254, ow255, r256, bx257, ow258, r259, bx260, i261, i262, i263, i264⟩
  have szw245 := e246.size
  have := bx251.lt
  have := bx252.lt
  have := bx254.lt
  have := bx257.lt
  have := bx260.lt
  refine wp_seq ?_
  refine wp_seq ?_
  refine At.start ?_
  refine At.rd f248 3 [[], [], []] [(90, .bool (decide ((i : Int) < (((subG g (inT g s)).ow.length : Nat) : Int)))), (89, .int .i64 ((((subG g (inT g s)).ow.length : Nat) : Int))), (88, .int .i64 (i))] [] (by kernel_rfl) trivial (fun act266 f265 => ?_)
  clear f248
  refine At.done rfl ?_
  refine t_n ?_
  refine cond_S f265 (t := decide ((i : Int) < (((subG g (inT g s)).ow.length : Nat) : Int))) rfl (fun h267 => ?_) (fun h267 => ?_)
  ·have q268 := of_decide_eq_true h267
   refine wp_skip ?_
   refine t_n ?_
   refine wp_seq ?_
   refine wp_block ?_
   refine wp_seq ?_
   have he_ := hH.e i (by omega) (by omega)
   have he0_ := hH.e 0 (by omega) (by omega)
   obtain ⟨ad269, hA270, _, _, hc271⟩ := RdI.get r259.pr (i) (by omega) (by omega)
   obtain ⟨ad272, hA273, _, _, hc274⟩ := RdI.get r256.pr (i) (by omega) (by omega)
   refine drawn_ro f265 (by kernel_rfl) (by kernel_rfl) [[], [.ld (.slice A155 ((subG (dualG g) (inT (dualG g) s)).pr.length) c156)], [], [.ad ad269], [.ld (.int .i64 (gI ((subG (dualG g) (inT (dualG g) s)).pr) (i)))], [], [.ld (.slice A89 ((subG g (inT g s)).pr.length) c90)], [], [.ad ad272], [.ld (.int .i64 (gI ((subG g (inT g s)).pr) (i)))], [.as_ (.int .i64 ((gI ((subG (dualG g) (inT (dualG g) s)).pr) (i)) - (gI ((subG g (inT g s)).pr) (i))))], []] [(15, .int .i64 ((gI ((subG (dualG g) (inT (dualG g) s)).pr) (i)) - (gI ((subG g (inT g s)).pr) (i)))), (103, .int .i64 ((gI ((subG (dualG g) (inT (dualG g) s)).pr) (i)) - (gI ((subG g (inT g s)).pr) (i)))), (102, .int .i64 (gI ((subG g (inT g s)).pr) (i))), (101, .pointer (some (ad272.add ((i : Int).toNat * 1)))), (100, .int .i64 (i)), (99, .slice A89 ((subG g (inT g s)).pr.length) c90), (98, .pointer (some ⟨w106.heap.size, 1, none⟩)), (97, .int .i64 (gI ((subG (dualG g) (inT (dualG g) s)).pr) (i))), (96, .pointer (some (ad269.add ((i : Int).toNat * 1)))), (95, .int .i64 (i)), (94, .slice A155 ((subG (dualG g) (inT (dualG g) s)).pr.length) c156), (93, .pointer (some ⟨w172.heap.size, 1, none⟩))] [(w245.cell? ⟨w172.heap.size, 1, none⟩ = some (.slice A155 ((subG (dualG g) (inT (dualG g) s)).pr.length) c156)), (A155 = some ad269), (0 ≤ (i : Int)), ((i : Int) < ((subG (dualG g) (inT (dualG g) s)).pr.length : Nat)), (w245.cell? (ad269.add ((i : Int).toNat * 1)) = some (.int .i64 (gI ((subG (dualG g) (inT (dualG g) s)).pr) (i)))), (w245.cell? ⟨w106.heap.size, 1, none⟩ = some (.slice A89 ((subG g (inT g s)).pr.length) c90)), (A89 = some ad272), (0 ≤ (i : Int)), ((i : Int) < ((subG g (inT g s)).pr.length : Nat)), (w245.cell? (ad272.add ((i : Int).toNat * 1)) = some (.int .i64 (gI ((subG g (inT g s)).pr) (i)))), ((.int .i64 (IntKind.i64.wrap ((gI ((subG (dualG g) (inT (dualG g) s)).pr) (i)) - (gI ((subG g (inT g s)).pr) (i)))) : Value) = .int .i64 ((gI ((subG (dualG g) (inT (dualG g) s)).pr) (i)) - (gI ((subG g (inT g s)).pr) (i))))] (by kernel_rfl) ⟨(bx260.cell (i := 1) rfl), hA270, (by omega), (by omega), hc271, (bx257.cell (i := 1) rfl), hA273, (by omega), (by omega), hc274, (w64 (by omega) (by omega)), trivial⟩ (fun act276 w277 hw278 f275 => ?_)
   clear f265
   have g279 := gr_drew hw278
   have szw277 := g279.size
   replace e246 := e246.gr g279 no_row
   replace r249 := r249.gr g279 (fun _ h => by cases h)
   replace r250 := r250.gr g279 (fun _ h => by cases h)
   replace bx251 := bx251.gr g279 (by simp)
   replace bx252 := bx252.gr g279 (by simp)
   replace r253 := r253.gr g279 (fun _ h => by cases h)
   replace bx254 := bx254.gr g279 (by simp)
   replace ow255 := ow255.gr g279 (fun _ _ h => by cases h)
   replace r256 := r256.gr g279 (fun _ h => by cases h)
   replace bx257 := bx257.gr g279 (by simp)
   replace ow258 := ow258.gr g279 (fun _ _ h => by cases h)
   replace r259 := r259.gr g279 (fun _ h => by cases h)
   replace bx260 := bx260.gr g279 (by simp)
   clear g279 hw278
   refine t_n ?_
   refine wp_seq ?_
   obtain ⟨ad293, R296, C297, hA294, _, _, hc295, hC298, r299⟩ := RdII.get r256.mv (i) (by omega) (by omega)
   have hl300 := r299.len
   obtain ⟨ad302, R305, C306, hA303, _, _, hc304, hC307, r308⟩ := RdII.get r259.mv (i) (by omega) (by omega)
   have hl309 := r308.len
   obtain ⟨Cs311, hCs312⟩ : ∃ c : List (Addr × Value), c = [(⟨w106.heap.size, 2, none⟩, (.slice A91 ((subG g (inT g s)).mv.length) c92)), ((ad293.add ((i : Int).toNat * 1)), (.slice R296 ((gL ((subG g (inT g s)).mv) (i)).length) C297)), (⟨w172.heap.size, 2, none⟩, (.slice A157 ((subG (dualG g) (inT (dualG g) s)).mv.length) c158)), ((ad302.add ((i : Int).toNat * 1)), (.slice R305 ((gL ((subG (dualG g) (inT (dualG g) s)).mv) (i)).length) C306))] := ⟨_, rfl⟩
   have hS313 : HoldsC Cs311 w277 := by rw [hCs312]; exact ⟨(bx257.cell (i := 2) rfl), hc295, (bx260.cell (i := 2) rfl), hc304, trivial⟩
   refine AtH.start Cs311 12 #[false, false, false, false, false, false, false, false, false, false, false, false] (by kernel_rfl) rfl rfl (fun w315 hw316 => ?_)
   have g314 := gr_drew hw316
   have hS317 := hS313.gr g314
   have szw315 := g314.size
   replace e246 := e246.gr g314 no_row
   replace r249 := r249.gr g314 (fun _ h => by cases h)
   replace r250 := r250.gr g314 (fun _ h => by cases h)
   replace bx251 := bx251.gr g314 (by simp)
   replace bx252 := bx252.gr g314 (by simp)
   replace r253 := r253.gr g314 (fun _ h => by cases h)
   replace bx254 := bx254.gr g314 (by simp)
   replace ow255 := ow255.gr g314 (fun _ _ h => by cases h)
   replace r256 := r256.gr g314 (fun _ h => by cases h)
   replace bx257 := bx257.gr g314 (by simp)
   replace ow258 := ow258.gr g314 (fun _ _ h => by cases h)
   replace r259 := r259.gr g314 (fun _ h => by cases h)
   replace bx260 := bx260.gr g314 (by simp)
   replace r299 := r299.gr g314 (fun _ h => by cases h)
   replace r308 := r308.gr g314 (fun _ h => by cases h)
   clear g314 hw316 hS313
   refine AtH.rd (by kernel_rfl) (fun d v c a w h => by cases d <;> exact h) hS317 [0, 1, 2, 3, 4, 5, 6, 7, 8, 9] [[], [.ld (.slice A91 ((subG g (inT g s)).mv.length) c92)], [], [.ad ad293], [.ld (.slice R296 ((gL ((subG g (inT g s)).mv) (i)).length) C297)], [], [.ld (.slice A157 ((subG (dualG g) (inT (dualG g) s)).mv.length) c158)], [], [.ad ad302], [.ld (.slice R305 ((gL ((subG (dualG g) (inT (dualG g) s)).mv) (i)).length) C306)]] [(113, .slice R305 ((gL ((subG (dualG g) (inT (dualG g) s)).mv) (i)).length) C306), (112, .pointer (some (ad302.add ((i : Int).toNat * 1)))), (111, .int .i64 (i)), (110, .slice A157 ((subG (dualG g) (inT (dualG g) s)).mv.length) c158), (109, .pointer (some ⟨w172.heap.size, 2, none⟩)), (108, .slice R296 ((gL ((subG g (inT g s)).mv) (i)).length) C297), (107, .pointer (some (ad293.add ((i : Int).toNat * 1)))), (106, .int .i64 (i)), (105, .slice A91 ((subG g (inT g s)).mv.length) c92), (104, .pointer (some ⟨w106.heap.size, 2, none⟩))] #[true, true, true, true, true, true, true, true, true, true, false, false] [(∃ j_ : Nat, Cs311[j_]? = some (⟨w106.heap.size, 2, none⟩, (.slice A91 ((subG g (inT g s)).mv.length) c92))), (A91 = some ad293), (0 ≤ (i : Int)), ((i : Int) < ((subG g (inT g s)).mv.length : Nat)), (∃ j_ : Nat, Cs311[j_]? = some ((ad293.add ((i : Int).toNat * 1)), (.slice R296 ((gL ((subG g (inT g s)).mv) (i)).length) C297))), (∃ j_ : Nat, Cs311[j_]? = some (⟨w172.heap.size, 2, none⟩, (.slice A157 ((subG (dualG g) (inT (dualG g) s)).mv.length) c158))), (A157 = some ad302), (0 ≤ (i : Int)), ((i : Int) < ((subG (dualG g) (inT (dualG g) s)).mv.length : Nat)), (∃ j_ : Nat, Cs311[j_]? = some ((ad302.add ((i : Int).toNat * 1)), (.slice R305 ((gL ((subG (dualG g) (inT (dualG g) s)).mv) (i)).length) C306)))] 2 f275 (by kernel_rfl) ⟨⟨0, by rw [hCs312]; rfl⟩, hA294, (by omega), (by omega), ⟨1, by rw [hCs312]; rfl⟩, ⟨2, by rw [hCs312]; rfl⟩, hA303, (by omega), (by omega), ⟨3, by rw [hCs312]; rfl⟩, trivial⟩ (fun act334 f333 => ?_)
   clear f275
   refine AtH.all [10] 1 (by kernel_rfl) (by simp) ⟨?_, trivial⟩
   refine OneH.call f333 24 #[.slice R296 ((gL ((subG g (inT g s)).mv) (i)).length) C297, .slice R305 ((gL ((subG (dualG g) (inT (dualG g) s)).mv) (i)).length) C306] (some 114) #[true, true, true, true, true, true, true, true, true, true, true, false] (by kernel_rfl) (by kernel_rfl) ((sameInts_any (la := gL ((subG g (inT g s)).mv) (i)) (lb := gL ((subG (dualG g) (inT (dualG g) s)).mv) (i)) (r299.wide (Nat.zero_le _) (by omega)) (r308.wide (Nat.zero_le _) (by omega))).mono (R' := fun e w' => e = .returned (.bool true) ∧ Ext _ w') (fun e_ w_ h_ => by rw [show (decide (gL ((subG g (inT g s)).mv) (i) = gL ((subG (dualG g) (inT (dualG g) s)).mv) (i)) : Bool) = true from decide_eq_true (by rw [hH.mv])] at h_; exact h_)) ?_
   rintro e_ w336 ⟨rfl, he⟩
   refine ⟨_, rfl, _, rfl, fun act337 f338 => ?_⟩
   clear f333
   have g339 := gr_ext he
   have hS335 := hS317.gr g339
   have szw336 := g339.size
   replace e246 := e246.gr g339 no_row
   replace r249 := r249.gr g339 (fun _ h => by cases h)
   replace r250 := r250.gr g339 (fun _ h => by cases h)
   replace bx251 := bx251.gr g339 (by simp)
   replace bx252 := bx252.gr g339 (by simp)
   replace r253 := r253.gr g339 (fun _ h => by cases h)
   replace bx254 := bx254.gr g339 (by simp)
   replace ow255 := ow255.gr g339 (fun _ _ h => by cases h)
   replace r256 := r256.gr g339 (fun _ h => by cases h)
   replace bx257 := bx257.gr g339 (by simp)
   replace ow258 := ow258.gr g339 (fun _ _ h => by cases h)
   replace r259 := r259.gr g339 (fun _ h => by cases h)
   replace bx260 := bx260.gr g339 (by simp)
   replace r299 := r299.gr g339 (fun _ h => by cases h)
   replace r308 := r308.gr g339 (fun _ h => by cases h)
   clear g339 he
   refine ⟨hS335, ?_⟩
   refine AtH.rd (by kernel_rfl) (fun d v c a w h => by cases d <;> exact h) hS335 [11] [[]] [(16, .bool true)] #[true, true, true, true, true, true, true, true, true, true, true, true] [] 0 f338 (by kernel_rfl) trivial (fun act356 f355 => ?_)
   clear f338
   refine AtH.done (by kernel_rfl) ?_
   clear hS335
   refine t_n ?_
   have f357 := f355.sub (r := [(16, .bool true), (15, .int .i64 ((gI ((subG (dualG g) (inT (dualG g) s)).pr) (i)) - (gI ((subG g (inT g s)).pr) (i)))), (14, .int .i64 (i)), (13, .int .i64 ((((subG g (inT g s)).ow.length : Nat) : Int))), (11, .slice A159 ((subO (dualG g) (inT (dualG g) s)).length) c160), (10, .pointer (some ⟨w172.heap.size, 0, none⟩)), (9, .bool (subB g (inT g s))), (8, .slice A93 ((subO g (inT g s)).length) c94), (7, .pointer (some ⟨w106.heap.size, 0, none⟩))]) ⟨rfl, rfl, rfl, rfl, rfl, rfl, rfl, rfl, rfl, trivial⟩
   clear f355
   refine wp_seq ?_
   obtain ⟨ad358, hA359, _, _, hc360⟩ := RdI.get r259.ow (i) (by omega) (by omega)
   obtain ⟨ad361, hA362, _, _, hc363⟩ := RdI.get r256.ow (i) (by omega) (by omega)
   obtain ⟨ad364, hA365, _, _, hc366⟩ := RdI.get r259.pr (0) (by omega) (by omega)
   obtain ⟨ad367, hA368, _, _, hc369⟩ := RdI.get r256.pr (0) (by omega) (by omega)
   rcases Bool.eq_false_or_eq_true (((gI ((subG (dualG g) (inT (dualG g) s)).pr) (i)) - (gI ((subG g (inT g s)).pr) (i)) : Int) != 1) with h370 | h370
   ·have q371 := bne_iff_ne.1 h370
    refine drawn_ro f357 (by kernel_rfl) (by kernel_rfl) [[], [.ld (.slice A153 ((subG (dualG g) (inT (dualG g) s)).ow.length) c154)], [], [.ad ad358], [.ld (.int .i64 (gI ((subG (dualG g) (inT (dualG g) s)).ow) (i)))], [], [.ld (.slice A87 ((subG g (inT g s)).ow.length) c88)], [], [.ad ad361], [.ld (.int .i64 (gI ((subG g (inT g s)).ow) (i)))], [.as_ (.int .i64 (1 - (gI ((subG g (inT g s)).ow) (i))))], [.as_ (.bool false)], [], [], [], [.ld (.slice A155 ((subG (dualG g) (inT (dualG g) s)).pr.length) c156)], [.ad ad364], [.ld (.int .i64 (gI ((subG (dualG g) (inT (dualG g) s)).pr) (0)))], [], [.ld (.slice A89 ((subG g (inT g s)).pr.length) c90)], [.ad ad367], [.ld (.int .i64 (gI ((subG g (inT g s)).pr) (0)))], [.as_ (.int .i64 ((gI ((subG (dualG g) (inT (dualG g) s)).pr) (0)) - (gI ((subG g (inT g s)).pr) (0))))], [.as_ (.bool false)], [], [], [], [], [.as_ (.bool true)], [], [.as_ (.bool false)], [], [], [], [], [], []] [(151, .bool false), (150, .bool false), (149, .bool true), (148, .bool false), (147, .bool false), (146, .bool false), (145, .bool false), (144, .int .i64 ((gI ((subG (dualG g) (inT (dualG g) s)).pr) (i)) - (gI ((subG g (inT g s)).pr) (i)))), (143, .bool true), (142, .bool (((gI ((subG (dualG g) (inT (dualG g) s)).pr) (i)) - (gI ((subG g (inT g s)).pr) (i)) : Int) != 1)), (141, .int .i64 ((gI ((subG (dualG g) (inT (dualG g) s)).pr) (i)) - (gI ((subG g (inT g s)).pr) (i)))), (140, .bool false), (139, .bool false), (138, .bool false), (137, .int .i64 ((gI ((subG (dualG g) (inT (dualG g) s)).pr) (0)) - (gI ((subG g (inT g s)).pr) (0)))), (136, .int .i64 (gI ((subG g (inT g s)).pr) (0))), (135, .pointer (some (ad367.add ((0 : Int).toNat * 1)))), (134, .slice A89 ((subG g (inT g s)).pr.length) c90), (133, .pointer (some ⟨w106.heap.size, 1, none⟩)), (132, .int .i64 (gI ((subG (dualG g) (inT (dualG g) s)).pr) (0))), (131, .pointer (some (ad364.add ((0 : Int).toNat * 1)))), (130, .slice A155 ((subG (dualG g) (inT (dualG g) s)).pr.length) c156), (129, .pointer (some ⟨w172.heap.size, 1, none⟩)), (128, .int .i64 ((gI ((subG (dualG g) (inT (dualG g) s)).pr) (i)) - (gI ((subG g (inT g s)).pr) (i)))), (127, .bool false), (126, .bool false), (125, .int .i64 (1 - (gI ((subG g (inT g s)).ow) (i)))), (124, .int .i64 (gI ((subG g (inT g s)).ow) (i))), (123, .pointer (some (ad361.add ((i : Int).toNat * 1)))), (122, .int .i64 (i)), (121, .slice A87 ((subG g (inT g s)).ow.length) c88), (120, .pointer (some ⟨w106.heap.size, 0, none⟩)), (119, .int .i64 (gI ((subG (dualG g) (inT (dualG g) s)).ow) (i))), (118, .pointer (some (ad358.add ((i : Int).toNat * 1)))), (117, .int .i64 (i)), (116, .slice A153 ((subG (dualG g) (inT (dualG g) s)).ow.length) c154), (115, .pointer (some ⟨w172.heap.size, 0, none⟩))] [(w336.cell? ⟨w172.heap.size, 0, none⟩ = some (.slice A153 ((subG (dualG g) (inT (dualG g) s)).ow.length) c154)), (A153 = some ad358), (0 ≤ (i : Int)), ((i : Int) < ((subG (dualG g) (inT (dualG g) s)).ow.length : Nat)), (w336.cell? (ad358.add ((i : Int).toNat * 1)) = some (.int .i64 (gI ((subG (dualG g) (inT (dualG g) s)).ow) (i)))), (w336.cell? ⟨w106.heap.size, 0, none⟩ = some (.slice A87 ((subG g (inT g s)).ow.length) c88)), (A87 = some ad361), (0 ≤ (i : Int)), ((i : Int) < ((subG g (inT g s)).ow.length : Nat)), (w336.cell? (ad361.add ((i : Int).toNat * 1)) = some (.int .i64 (gI ((subG g (inT g s)).ow) (i)))), ((.int .i64 (IntKind.i64.wrap (1 - (gI ((subG g (inT g s)).ow) (i)))) : Value) = .int .i64 (1 - (gI ((subG g (inT g s)).ow) (i)))), ((.bool ((gI ((subG (dualG g) (inT (dualG g) s)).ow) (i) : Int) != (1 - (gI ((subG g (inT g s)).ow) (i)))) : Value) = .bool false), (w336.cell? ⟨w172.heap.size, 1, none⟩ = some (.slice A155 ((subG (dualG g) (inT (dualG g) s)).pr.length) c156)), (A155 = some ad364), (0 ≤ (0 : Int)), ((0 : Int) < ((subG (dualG g) (inT (dualG g) s)).pr.length : Nat)), (w336.cell? (ad364.add ((0 : Int).toNat * 1)) = some (.int .i64 (gI ((subG (dualG g) (inT (dualG g) s)).pr) (0)))), (w336.cell? ⟨w106.heap.size, 1, none⟩ = some (.slice A89 ((subG g (inT g s)).pr.length) c90)), (A89 = some ad367), (0 ≤ (0 : Int)), ((0 : Int) < ((subG g (inT g s)).pr.length : Nat)), (w336.cell? (ad367.add ((0 : Int).toNat * 1)) = some (.int .i64 (gI ((subG g (inT g s)).pr) (0)))), ((.int .i64 (IntKind.i64.wrap ((gI ((subG (dualG g) (inT (dualG g) s)).pr) (0)) - (gI ((subG g (inT g s)).pr) (0)))) : Value) = .int .i64 ((gI ((subG (dualG g) (inT (dualG g) s)).pr) (0)) - (gI ((subG g (inT g s)).pr) (0)))), ((.bool (((gI ((subG (dualG g) (inT (dualG g) s)).pr) (i)) - (gI ((subG g (inT g s)).pr) (i)) : Int) != ((gI ((subG (dualG g) (inT (dualG g) s)).pr) (0)) - (gI ((subG g (inT g s)).pr) (0)))) : Value) = .bool false), ((.bool (((gI ((subG (dualG g) (inT (dualG g) s)).pr) (i)) - (gI ((subG g (inT g s)).pr) (i)) : Int) != 1) : Value) = .bool true), ((.bool (((gI ((subG (dualG g) (inT (dualG g) s)).pr) (i)) - (gI ((subG g (inT g s)).pr) (i)) : Int) != (-1)) : Value) = .bool false)] (by kernel_rfl) ⟨(bx260.cell (i := 0) rfl), hA359, (by omega), (by omega), hc360, (bx257.cell (i := 0) rfl), hA362, (by omega), (by omega), hc363, (w64 (by omega) (by omega)), (congrArg Value.bool (bneF (by omega))), (bx260.cell (i := 1) rfl), hA365, (by omega), (by omega), hc366, (bx257.cell (i := 1) rfl), hA368, (by omega), (by omega), hc369, (w64 (by omega) (by omega)), (congrArg Value.bool (bneF (by omega))), (congrArg Value.bool h370), (congrArg Value.bool (bneF (by omega))), trivial⟩ (fun act373 w374 hw375 f372 => ?_)
    clear f357
    have g376 := gr_drew hw375
    have szw374 := g376.size
    replace e246 := e246.gr g376 no_row
    replace r249 := r249.gr g376 (fun _ h => by cases h)
    replace r250 := r250.gr g376 (fun _ h => by cases h)
    replace bx251 := bx251.gr g376 (by simp)
    replace bx252 := bx252.gr g376 (by simp)
    replace r253 := r253.gr g376 (fun _ h => by cases h)
    replace bx254 := bx254.gr g376 (by simp)
    replace ow255 := ow255.gr g376 (fun _ _ h => by cases h)
    replace r256 := r256.gr g376 (fun _ h => by cases h)
    replace bx257 := bx257.gr g376 (by simp)
    replace ow258 := ow258.gr g376 (fun _ _ h => by cases h)
    replace r259 := r259.gr g376 (fun _ h => by cases h)
    replace bx260 := bx260.gr g376 (by simp)
    replace r299 := r299.gr g376 (fun _ h => by cases h)
    replace r308 := r308.gr g376 (fun _ h => by cases h)
    clear g376 hw375
    refine t_n ?_
    refine cond_F f372 rfl ?_
    refine wp_skip ?_
    refine b_n ?_
    refine t_n ?_
    refine At.start ?_
    refine At.rd f372 3 [[], [.as_ (.int .i64 (i + 1))], []] [(14, .int .i64 (i + 1)), (92, .int .i64 (i + 1)), (91, .int .i64 (i))] [((.int .i64 (IntKind.i64.wrap (i + 1)) : Value) = .int .i64 (i + 1))] (by kernel_rfl) ⟨(w64 (by omega) (by omega)), trivial⟩ (fun act393 f392 => ?_)
    clear f372
    refine At.done rfl ?_
    refine t_n ?_
    have f394 := f392.sub (r := [(14, .int .i64 (i + 1)), (13, .int .i64 ((((subG g (inT g s)).ow.length : Nat) : Int))), (11, .slice A159 ((subO (dualG g) (inT (dualG g) s)).length) c160), (10, .pointer (some ⟨w172.heap.size, 0, none⟩)), (9, .bool (subB g (inT g s))), (8, .slice A93 ((subO g (inT g s)).length) c94), (7, .pointer (some ⟨w106.heap.size, 0, none⟩))]) ⟨rfl, rfl, rfl, rfl, rfl, rfl, rfl, trivial⟩
    exact ⟨_, (by omega), (i + 1), rfl, f394, e246, r249, r250, bx251, bx252, r253, bx254, ow255, r256, bx257, ow258, r259, bx260, (by omega), (by omega), (by omega), (by omega)⟩
   ·have q395 := bne_eq_false_iff_eq.1 h370
    refine drawn_ro f357 (by kernel_rfl) (by kernel_rfl) [[], [.ld (.slice A153 ((subG (dualG g) (inT (dualG g) s)).ow.length) c154)], [], [.ad ad358], [.ld (.int .i64 (gI ((subG (dualG g) (inT (dualG g) s)).ow) (i)))], [], [.ld (.slice A87 ((subG g (inT g s)).ow.length) c88)], [], [.ad ad361], [.ld (.int .i64 (gI ((subG g (inT g s)).ow) (i)))], [.as_ (.int .i64 (1 - (gI ((subG g (inT g s)).ow) (i))))], [.as_ (.bool false)], [], [], [], [.ld (.slice A155 ((subG (dualG g) (inT (dualG g) s)).pr.length) c156)], [.ad ad364], [.ld (.int .i64 (gI ((subG (dualG g) (inT (dualG g) s)).pr) (0)))], [], [.ld (.slice A89 ((subG g (inT g s)).pr.length) c90)], [.ad ad367], [.ld (.int .i64 (gI ((subG g (inT g s)).pr) (0)))], [.as_ (.int .i64 ((gI ((subG (dualG g) (inT (dualG g) s)).pr) (0)) - (gI ((subG g (inT g s)).pr) (0))))], [.as_ (.bool false)], [], [], [], [], [.as_ (.bool false)], [], [], [], [], [], [], [], []] [(151, .bool false), (150, .bool false), (149, .bool true), (148, .bool false), (147, .bool false), (146, .bool false), (145, undef), (144, undef), (143, .bool false), (142, .bool (((gI ((subG (dualG g) (inT (dualG g) s)).pr) (i)) - (gI ((subG g (inT g s)).pr) (i)) : Int) != 1)), (141, .int .i64 ((gI ((subG (dualG g) (inT (dualG g) s)).pr) (i)) - (gI ((subG g (inT g s)).pr) (i)))), (140, .bool false), (139, .bool false), (138, .bool false), (137, .int .i64 ((gI ((subG (dualG g) (inT (dualG g) s)).pr) (0)) - (gI ((subG g (inT g s)).pr) (0)))), (136, .int .i64 (gI ((subG g (inT g s)).pr) (0))), (135, .pointer (some (ad367.add ((0 : Int).toNat * 1)))), (134, .slice A89 ((subG g (inT g s)).pr.length) c90), (133, .pointer (some ⟨w106.heap.size, 1, none⟩)), (132, .int .i64 (gI ((subG (dualG g) (inT (dualG g) s)).pr) (0))), (131, .pointer (some (ad364.add ((0 : Int).toNat * 1)))), (130, .slice A155 ((subG (dualG g) (inT (dualG g) s)).pr.length) c156), (129, .pointer (some ⟨w172.heap.size, 1, none⟩)), (128, .int .i64 ((gI ((subG (dualG g) (inT (dualG g) s)).pr) (i)) - (gI ((subG g (inT g s)).pr) (i)))), (127, .bool false), (126, .bool false), (125, .int .i64 (1 - (gI ((subG g (inT g s)).ow) (i)))), (124, .int .i64 (gI ((subG g (inT g s)).ow) (i))), (123, .pointer (some (ad361.add ((i : Int).toNat * 1)))), (122, .int .i64 (i)), (121, .slice A87 ((subG g (inT g s)).ow.length) c88), (120, .pointer (some ⟨w106.heap.size, 0, none⟩)), (119, .int .i64 (gI ((subG (dualG g) (inT (dualG g) s)).ow) (i))), (118, .pointer (some (ad358.add ((i : Int).toNat * 1)))), (117, .int .i64 (i)), (116, .slice A153 ((subG (dualG g) (inT (dualG g) s)).ow.length) c154), (115, .pointer (some ⟨w172.heap.size, 0, none⟩))] [(w336.cell? ⟨w172.heap.size, 0, none⟩ = some (.slice A153 ((subG (dualG g) (inT (dualG g) s)).ow.length) c154)), (A153 = some ad358), (0 ≤ (i : Int)), ((i : Int) < ((subG (dualG g) (inT (dualG g) s)).ow.length : Nat)), (w336.cell? (ad358.add ((i : Int).toNat * 1)) = some (.int .i64 (gI ((subG (dualG g) (inT (dualG g) s)).ow) (i)))), (w336.cell? ⟨w106.heap.size, 0, none⟩ = some (.slice A87 ((subG g (inT g s)).ow.length) c88)), (A87 = some ad361), (0 ≤ (i : Int)), ((i : Int) < ((subG g (inT g s)).ow.length : Nat)), (w336.cell? (ad361.add ((i : Int).toNat * 1)) = some (.int .i64 (gI ((subG g (inT g s)).ow) (i)))), ((.int .i64 (IntKind.i64.wrap (1 - (gI ((subG g (inT g s)).ow) (i)))) : Value) = .int .i64 (1 - (gI ((subG g (inT g s)).ow) (i)))), ((.bool ((gI ((subG (dualG g) (inT (dualG g) s)).ow) (i) : Int) != (1 - (gI ((subG g (inT g s)).ow) (i)))) : Value) = .bool false), (w336.cell? ⟨w172.heap.size, 1, none⟩ = some (.slice A155 ((subG (dualG g) (inT (dualG g) s)).pr.length) c156)), (A155 = some ad364), (0 ≤ (0 : Int)), ((0 : Int) < ((subG (dualG g) (inT (dualG g) s)).pr.length : Nat)), (w336.cell? (ad364.add ((0 : Int).toNat * 1)) = some (.int .i64 (gI ((subG (dualG g) (inT (dualG g) s)).pr) (0)))), (w336.cell? ⟨w106.heap.size, 1, none⟩ = some (.slice A89 ((subG g (inT g s)).pr.length) c90)), (A89 = some ad367), (0 ≤ (0 : Int)), ((0 : Int) < ((subG g (inT g s)).pr.length : Nat)), (w336.cell? (ad367.add ((0 : Int).toNat * 1)) = some (.int .i64 (gI ((subG g (inT g s)).pr) (0)))), ((.int .i64 (IntKind.i64.wrap ((gI ((subG (dualG g) (inT (dualG g) s)).pr) (0)) - (gI ((subG g (inT g s)).pr) (0)))) : Value) = .int .i64 ((gI ((subG (dualG g) (inT (dualG g) s)).pr) (0)) - (gI ((subG g (inT g s)).pr) (0)))), ((.bool (((gI ((subG (dualG g) (inT (dualG g) s)).pr) (i)) - (gI ((subG g (inT g s)).pr) (i)) : Int) != ((gI ((subG (dualG g) (inT (dualG g) s)).pr) (0)) - (gI ((subG g (inT g s)).pr) (0)))) : Value) = .bool false), ((.bool (((gI ((subG (dualG g) (inT (dualG g) s)).pr) (i)) - (gI ((subG g (inT g s)).pr) (i)) : Int) != 1) : Value) = .bool false)] (by kernel_rfl) ⟨(bx260.cell (i := 0) rfl), hA359, (by omega), (by omega), hc360, (bx257.cell (i := 0) rfl), hA362, (by omega), (by omega), hc363, (w64 (by omega) (by omega)), (congrArg Value.bool (bneF (by omega))), (bx260.cell (i := 1) rfl), hA365, (by omega), (by omega), hc366, (bx257.cell (i := 1) rfl), hA368, (by omega), (by omega), hc369, (w64 (by omega) (by omega)), (congrArg Value.bool (bneF (by omega))), (congrArg Value.bool h370), trivial⟩ (fun act397 w398 hw399 f396 => ?_)
    clear f357
    have g400 := gr_drew hw399
    have szw398 := g400.size
    replace e246 := e246.gr g400 no_row
    replace r249 := r249.gr g400 (fun _ h => by cases h)
    replace r250 := r250.gr g400 (fun _ h => by cases h)
    replace bx251 := bx251.gr g400 (by simp)
    replace bx252 := bx252.gr g400 (by simp)
    replace r253 := r253.gr g400 (fun _ h => by cases h)
    replace bx254 := bx254.gr g400 (by simp)
    replace ow255 := ow255.gr g400 (fun _ _ h => by cases h)
    replace r256 := r256.gr g400 (fun _ h => by cases h)
    replace bx257 := bx257.gr g400 (by simp)
    replace ow258 := ow258.gr g400 (fun _ _ h => by cases h)
    replace r259 := r259.gr g400 (fun _ h => by cases h)
    replace bx260 := bx260.gr g400 (by simp)
    replace r299 := r299.gr g400 (fun _ h => by cases h)
    replace r308 := r308.gr g400 (fun _ h => by cases h)
    clear g400 hw399
    refine t_n ?_
    refine cond_F f396 rfl ?_
    refine wp_skip ?_
    refine b_n ?_
    refine t_n ?_
    refine At.start ?_
    refine At.rd f396 3 [[], [.as_ (.int .i64 (i + 1))], []] [(14, .int .i64 (i + 1)), (92, .int .i64 (i + 1)), (91, .int .i64 (i))] [((.int .i64 (IntKind.i64.wrap (i + 1)) : Value) = .int .i64 (i + 1))] (by kernel_rfl) ⟨(w64 (by omega) (by omega)), trivial⟩ (fun act417 f416 => ?_)
    clear f396
    refine At.done rfl ?_
    refine t_n ?_
    have f418 := f416.sub (r := [(14, .int .i64 (i + 1)), (13, .int .i64 ((((subG g (inT g s)).ow.length : Nat) : Int))), (11, .slice A159 ((subO (dualG g) (inT (dualG g) s)).length) c160), (10, .pointer (some ⟨w172.heap.size, 0, none⟩)), (9, .bool (subB g (inT g s))), (8, .slice A93 ((subO g (inT g s)).length) c94), (7, .pointer (some ⟨w106.heap.size, 0, none⟩))]) ⟨rfl, rfl, rfl, rfl, rfl, rfl, rfl, trivial⟩
    exact ⟨_, (by omega), (i + 1), rfl, f418, e246, r249, r250, bx251, bx252, r253, bx254, ow255, r256, bx257, ow258, r259, bx260, (by omega), (by omega), (by omega), (by omega)⟩
  ·have q419 := of_decide_eq_false h267
   refine wp_exit ?_
   refine t_e ?_
   refine t_e ?_
   refine b_e ?_
   refine t_n ?_
   refine wp_seq ?_
   refine At.start ?_
   refine At.rd f265 2 [[], []] [(153, .slice A159 ((subO (dualG g) (inT (dualG g) s)).length) c160), (152, .slice A93 ((subO g (inT g s)).length) c94)] [] (by kernel_rfl) trivial (fun act421 f420 => ?_)
   clear f265
   refine At.call f420 24 #[.slice A93 ((subO g (inT g s)).length) c94, .slice A159 ((subO (dualG g) (inT (dualG g) s)).length) c160] (some 154) (by kernel_rfl) ((sameInts_any (la := (subO g (inT g s))) (lb := (subO (dualG g) (inT (dualG g) s))) (ow255.rdI0 (by first | omega | (simp only [List.length_cons, List.length_nil]; omega) | (simp; done) | (simp; omega))) (ow258.rdI0 (by first | omega | (simp only [List.length_cons, List.length_nil]; omega) | (simp; done) | (simp; omega)))).mono (R' := fun e w' => e = .returned (.bool true) ∧ Ext _ w') (fun e_ w_ h_ => by rw [show (decide ((subO g (inT g s)) = (subO (dualG g) (inT (dualG g) s))) : Bool) = true from decide_eq_true hH.o.symm] at h_; exact h_)) ?_
   rintro e_ w422 ⟨rfl, he⟩
   refine ⟨_, rfl, _, rfl, fun act423 f424 => ?_⟩
   clear f420
   have g425 := gr_ext he
   have szw422 := g425.size
   replace e246 := e246.gr g425 no_row
   replace r249 := r249.gr g425 (fun _ h => by cases h)
   replace r250 := r250.gr g425 (fun _ h => by cases h)
   replace bx251 := bx251.gr g425 (by simp)
   replace bx252 := bx252.gr g425 (by simp)
   replace r253 := r253.gr g425 (fun _ h => by cases h)
   replace bx254 := bx254.gr g425 (by simp)
   replace ow255 := ow255.gr g425 (fun _ _ h => by cases h)
   replace r256 := r256.gr g425 (fun _ h => by cases h)
   replace bx257 := bx257.gr g425 (by simp)
   replace ow258 := ow258.gr g425 (fun _ _ h => by cases h)
   replace r259 := r259.gr g425 (fun _ h => by cases h)
   replace bx260 := bx260.gr g425 (by simp)
   clear g425 he
   refine At.rd f424 13 [[], [], [], [], [.as_ (.bool true)], [], [], [], [], [], [.as_ (.bool true)], [], []] [(4, .bool true), (166, .bool true), (165, .bool true), (164, .bool (subB g (inT g s))), (163, .bool (decide (((((subG g (inT g s)).ow.length : Nat) : Int) : Int) > 0))), (162, .int .i64 ((((subG g (inT g s)).ow.length : Nat) : Int))), (161, .bool true), (160, .bool true), (159, .bool true), (158, .int .i64 ((((subG g (inT g s)).ow.length : Nat) : Int))), (157, .int .i64 ((((subO g (inT g s)).length : Nat) : Int))), (156, .slice A93 ((subO g (inT g s)).length) c94), (155, .bool true)] [((.bool (((((subO g (inT g s)).length : Nat) : Int) : Int) == (((subG g (inT g s)).ow.length : Nat) : Int)) : Value) = .bool true), ((.bool ((decide (((((subG g (inT g s)).ow.length : Nat) : Int) : Int) > 0)) == (subB g (inT g s))) : Value) = .bool true)] (by kernel_rfl) ⟨(congrArg Value.bool (beqT (by omega))), (congrArg Value.bool (bbT hH.ok)), trivial⟩ (fun act440 f439 => ?_)
   clear f424
   refine At.done rfl ?_
   refine t_n ?_
   have f441 := f439.sub (r := [(4, .bool true)]) ⟨rfl, trivial⟩
   clear f439
   refine wp_ret ?_
   refine ret_ f441 [] [.bool true] [] (by kernel_rfl) trivial ?_
   exact ⟨rfl, e246⟩

end Go.Proofs.YtkkophhnliplhaaDoor
