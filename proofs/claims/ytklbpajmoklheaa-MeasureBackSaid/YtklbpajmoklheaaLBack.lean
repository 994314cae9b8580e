/-
  A walk of a Go function, printed by a program of this repo. Conditions: what the theorems name.
-/
import Derived.Test.YtklbpajmoklheaaWShown
import Derived.Test.YtklbpajmoklheaaWTuples
import Derived.Test.YtklbpajmoklheaaPureBack
set_option linter.unusedVariables false
set_option linter.unusedSimpArgs false
namespace Go.Proofs.Ytklbpajmoklheaa
open Go Go.RowKit

set_option maxHeartbeats 4000000 in
theorem back_any {ta tb tc : Tup} {w : World} :
    Calls Try.prog 10 #[tupV ta, tupV tb, tupV tc] w fun e w' => e = .returned (.bool true) ∧ Ext w w' := by
  refine enter_ (args := [tupV ta, tupV tb, tupV tc]) Try.func10 rfl Try.ntmps10 (Nat.le_of_ble_eq_true rfl) (fun act0 f0 => ?_)
  have e0 := Ext.refl w
  refine wp_seq ?_
  refine At.start ?_
  refine At.seq f0 1 [[]] [(3, .pointer (some ⟨w.heap.size, 0, none⟩))] (w.alloc (.cells ((tupC ta)).toArray 40 (0, 0))) [] (by kernel_rfl) trivial (fun act4 w1 hw2 f3 => ?_)
  clear f0
  have g5 := gr_alloc hw2
  have szw1 := g5.size
  have e7 := e0.gr g5 no_row
  clear e0
  have bx8 : Bx w1 (w.heap.size) (tupC ta) 40 := Bx.new hw2
  have := bx8.lt
  clear g5 hw2
  refine At.seq f3 1 [[]] [(4, .pointer (some ⟨w1.heap.size, 0, none⟩))] (w1.alloc (.cells ((tupC tb)).toArray 40 (0, 0))) [] (by kernel_rfl) trivial (fun act12 w9 hw10 f11 => ?_)
  clear f3
  have g13 := gr_alloc hw10
  have szw9 := g13.size
  have e15 := e7.gr g13 no_row
  clear e7
  have bx16 := bx8.gr g13 (by simp)
  clear bx8
  have bx17 : Bx w9 (w1.heap.size) (tupC tb) 40 := Bx.new hw10
  have := bx17.lt
  clear g13 hw10
  refine At.seq f11 1 [[]] [(5, .pointer (some ⟨w9.heap.size, 0, none⟩))] (w9.alloc (.cells ((tupC tc)).toArray 40 (0, 0))) [] (by kernel_rfl) trivial (fun act21 w18 hw19 f20 => ?_)
  clear f11
  have g22 := gr_alloc hw19
  have szw18 := g22.size
  have e24 := e15.gr g22 no_row
  clear e15
  have bx25 := bx16.gr g22 (by simp)
  clear bx16
  have bx26 := bx17.gr g22 (by simp)
  clear bx17
  have bx27 : Bx w18 (w9.heap.size) (tupC tc) 40 := Bx.new hw19
  have := bx27.lt
  clear g22 hw19
  refine At.rd f20 1 [[]] [(6, .bool false)] [] (by kernel_rfl) trivial (fun act29 f28 => ?_)
  clear f20
  refine At.done rfl ?_
  refine t_n ?_
  have f30 := f28.sub (r := [(6, .bool false), (5, .pointer (some ⟨w9.heap.size, 0, none⟩)), (4, .pointer (some ⟨w1.heap.size, 0, none⟩)), (3, .pointer (some ⟨w.heap.size, 0, none⟩))]) ⟨rfl, rfl, rfl, rfl, trivial⟩
  clear f28
  refine wp_seq ?_
  refine At.start ?_
  refine At.call f30 22 #[] (some 15) (by kernel_rfl) (shown_any) ?_
  rintro e_ w31 ⟨rfl, he⟩
  refine ⟨_, rfl, _, rfl, fun act32 f33 => ?_⟩
  clear f30
  have g34 := gr_ext he
  have szw31 := g34.size
  have e35 := e24.gr g34 no_row
  clear e24
  have bx36 := bx25.gr g34 (by simp)
  clear bx25
  have bx37 := bx26.gr g34 (by simp)
  clear bx26
  have bx38 := bx27.gr g34 (by simp)
  clear bx27
  clear g34 he
  refine At.rd f33 1 [[]] [(7, .bool true)] [] (by kernel_rfl) trivial (fun act40 f39 => ?_)
  clear f33
  refine At.done rfl ?_
  refine t_n ?_
  have f41 := f39.sub (r := [(7, .bool true), (6, .bool false), (5, .pointer (some ⟨w9.heap.size, 0, none⟩)), (4, .pointer (some ⟨w1.heap.size, 0, none⟩)), (3, .pointer (some ⟨w.heap.size, 0, none⟩))]) ⟨rfl, rfl, rfl, rfl, rfl, trivial⟩
  clear f39
  refine wp_seq ?_
  refine At.start ?_
  refine At.rd f41 3 [[.ld (.bool (ta.top)), .ld (.int .i64 (ta.c0)), .ld (.int .i64 (ta.c1)), .ld (.int .i64 (ta.c2)), .ld (.int .i64 (ta.c3))], [.ld (.bool (tb.top)), .ld (.int .i64 (tb.c0)), .ld (.int .i64 (tb.c1)), .ld (.int .i64 (tb.c2)), .ld (.int .i64 (tb.c3))], [.ld (.bool (tc.top)), .ld (.int .i64 (tc.c0)), .ld (.int .i64 (tc.c1)), .ld (.int .i64 (tc.c2)), .ld (.int .i64 (tc.c3))]] [(18, tupV tc), (17, tupV tb), (16, tupV ta)] [(w31.cell? ⟨w.heap.size, 0, none⟩ = some (.bool (ta.top))), (w31.cell? ⟨w.heap.size, 1, none⟩ = some (.int .i64 (ta.c0))), (w31.cell? ⟨w.heap.size, 2, none⟩ = some (.int .i64 (ta.c1))), (w31.cell? ⟨w.heap.size, 3, none⟩ = some (.int .i64 (ta.c2))), (w31.cell? ⟨w.heap.size, 4, none⟩ = some (.int .i64 (ta.c3))), (w31.cell? ⟨w1.heap.size, 0, none⟩ = some (.bool (tb.top))), (w31.cell? ⟨w1.heap.size, 1, none⟩ = some (.int .i64 (tb.c0))), (w31.cell? ⟨w1.heap.size, 2, none⟩ = some (.int .i64 (tb.c1))), (w31.cell? ⟨w1.heap.size, 3, none⟩ = some (.int .i64 (tb.c2))), (w31.cell? ⟨w1.heap.size, 4, none⟩ = some (.int .i64 (tb.c3))), (w31.cell? ⟨w9.heap.size, 0, none⟩ = some (.bool (tc.top))), (w31.cell? ⟨w9.heap.size, 1, none⟩ = some (.int .i64 (tc.c0))), (w31.cell? ⟨w9.heap.size, 2, none⟩ = some (.int .i64 (tc.c1))), (w31.cell? ⟨w9.heap.size, 3, none⟩ = some (.int .i64 (tc.c2))), (w31.cell? ⟨w9.heap.size, 4, none⟩ = some (.int .i64 (tc.c3)))] (by kernel_rfl) ⟨(bx36.cell (i := 0) rfl), (bx36.cell (i := 1) rfl), (bx36.cell (i := 2) rfl), (bx36.cell (i := 3) rfl), (bx36.cell (i := 4) rfl), (bx37.cell (i := 0) rfl), (bx37.cell (i := 1) rfl), (bx37.cell (i := 2) rfl), (bx37.cell (i := 3) rfl), (bx37.cell (i := 4) rfl), (bx38.cell (i := 0) rfl), (bx38.cell (i := 1) rfl), (bx38.cell (i := 2) rfl), (bx38.cell (i := 3) rfl), (bx38.cell (i := 4) rfl), trivial⟩ (fun act43 f42 => ?_)
  clear f41
  refine At.seq f42 1 [[]] [(19, .slice (some ⟨w31.heap.size, 0, none⟩) 3 3)] (w31.alloc (.cells #[.bool (ta.top), .int .i64 (ta.c0), .int .i64 (ta.c1), .int .i64 (ta.c2), .int .i64 (ta.c3), .bool (tb.top), .int .i64 (tb.c0), .int .i64 (tb.c1), .int .i64 (tb.c2), .int .i64 (tb.c3), .bool (tc.top), .int .i64 (tc.c0), .int .i64 (tc.c1), .int .i64 (tc.c2), .int .i64 (tc.c3)] 40 (0, 0))) [] (by kernel_rfl) trivial (fun act47 w44 hw45 f46 => ?_)
  clear f42
  have g48 := gr_alloc hw45
  have szw44 := g48.size
  have e51 := e35.gr g48 no_row
  clear e35
  have bx52 := bx36.gr g48 (by simp)
  clear bx36
  have bx53 := bx37.gr g48 (by simp)
  clear bx37
  have bx54 := bx38.gr g48 (by simp)
  clear bx38
  have bx50 : Bx w44 (w31.heap.size) [.bool (ta.top), .int .i64 (ta.c0), .int .i64 (ta.c1), .int .i64 (ta.c2), .int .i64 (ta.c3), .bool (tb.top), .int .i64 (tb.c0), .int .i64 (tb.c1), .int .i64 (tb.c2), .int .i64 (tb.c3), .bool (tc.top), .int .i64 (tc.c0), .int .i64 (tc.c1), .int .i64 (tc.c2), .int .i64 (tc.c3)] 40 := Bx.new hw45
  have := bx50.lt
  clear g48 hw45
  refine At.call f46 26 #[.slice (some ⟨w31.heap.size, 0, none⟩) 3 3] (some 20) (by kernel_rfl) (tuples_any (ls := ([ta, tb, tc] : List Tup)) (Bx.rdR (l := ([ta, tb, tc] : List Tup)) bx50 rfl (Nat.le_of_ble_eq_true rfl))) ?_
  rintro e_ w59 ⟨A55, c56, rfl, he, ow57⟩
  have : (([ta, tb, tc] : List Tup)).length = 3 := rfl
  refine ⟨_, rfl, _, rfl, fun act60 f61 => ?_⟩
  clear f46
  have g62 := gr_ext he
  have szw59 := g62.size
  have e63 := e51.gr g62 no_row
  clear e51
  have bx64 := bx52.gr g62 (by simp)
  clear bx52
  have bx65 := bx53.gr g62 (by simp)
  clear bx53
  have bx66 := bx54.gr g62 (by simp)
  clear bx54
  have bx67 := bx50.gr g62 (by simp)
  clear bx50
  clear g62 he
  refine At.rd f61 1 [[]] [(8, .slice A55 ((([ta, tb, tc] : List Tup)).length) c56)] [] (by kernel_rfl) trivial (fun act69 f68 => ?_)
  clear f61
  refine At.done rfl ?_
  refine t_n ?_
  have f70 := f68.sub (r := [(8, .slice A55 ((([ta, tb, tc] : List Tup)).length) c56), (7, .bool true), (6, .bool false), (4, .pointer (some ⟨w1.heap.size, 0, none⟩)), (3, .pointer (some ⟨w.heap.size, 0, none⟩))]) ⟨rfl, rfl, rfl, rfl, rfl, trivial⟩
  clear f68
  refine wp_seq ?_
  obtain ⟨ad71, hA72, hb75, hc74, hc73⟩ := ow57.get (0) (by omega) (by omega) (sz := 5) rfl
  obtain ⟨ad76, hA77, hb80, hc79, hc78⟩ := ow57.get (1) (by omega) (by omega) (sz := 5) rfl
  obtain ⟨Cs81, hCs82⟩ : ∃ c : List (Addr × Value), c = [((ad71.add ((0 : Int).toNat * 5)), (.bool (ta.top))), (((ad71.add ((0 : Int).toNat * 5)).add 1), (.int .i64 (ta.c0))), (((ad71.add ((0 : Int).toNat * 5)).add 2), (.int .i64 (ta.c1))), (((ad71.add ((0 : Int).toNat * 5)).add 3), (.int .i64 (ta.c2))), (((ad71.add ((0 : Int).toNat * 5)).add 4), (.int .i64 (ta.c3))), ((ad76.add ((1 : Int).toNat * 5)), (.bool (tb.top))), (((ad76.add ((1 : Int).toNat * 5)).add 1), (.int .i64 (tb.c0))), (((ad76.add ((1 : Int).toNat * 5)).add 2), (.int .i64 (tb.c1))), (((ad76.add ((1 : Int).toNat * 5)).add 3), (.int .i64 (tb.c2))), (((ad76.add ((1 : Int).toNat * 5)).add 4), (.int .i64 (tb.c3)))] := ⟨_, rfl⟩
  have hS83 : HoldsC Cs81 w59 := by rw [hCs82]; exact ⟨hc74, (hc73 1 _ rfl), (hc73 2 _ rfl), (hc73 3 _ rfl), (hc73 4 _ rfl), hc79, (hc78 1 _ rfl), (hc78 2 _ rfl), (hc78 3 _ rfl), (hc78 4 _ rfl), trivial⟩
  refine AtH.start Cs81 8 #[false, false, false, false, false, false, false, false] (by kernel_rfl) rfl rfl (fun w85 hw86 => ?_)
  have g84 := gr_drew hw86
  have hS87 := hS83.gr g84
  have szw85 := g84.size
  have e88 := e63.gr g84 no_row
  clear e63
  have bx89 := bx64.gr g84 (by simp)
  clear bx64
  have bx90 := bx65.gr g84 (by simp)
  clear bx65
  have bx91 := bx66.gr g84 (by simp)
  clear bx66
  have bx92 := bx67.gr g84 (by simp)
  clear bx67
  have ow93 := ow57.gr g84 (fun _ _ h => by cases h)
  clear ow57
  clear g84 hw86 hS83
  refine AtH.rd (by kernel_rfl) (fun d v c a w h => by cases d <;> exact h) hS87 [0, 1, 2, 3, 4, 5] [[], [.ad ad71], [.ld (.bool (ta.top)), .ld (.int .i64 (ta.c0)), .ld (.int .i64 (ta.c1)), .ld (.int .i64 (ta.c2)), .ld (.int .i64 (ta.c3))], [], [.ad ad76], [.ld (.bool (tb.top)), .ld (.int .i64 (tb.c0)), .ld (.int .i64 (tb.c1)), .ld (.int .i64 (tb.c2)), .ld (.int .i64 (tb.c3))]] [(26, tupV tb), (25, .pointer (some (ad76.add ((1 : Int).toNat * 5)))), (24, .slice A55 ((([ta, tb, tc] : List Tup)).length) c56), (23, tupV ta), (22, .pointer (some (ad71.add ((0 : Int).toNat * 5)))), (21, .slice A55 ((([ta, tb, tc] : List Tup)).length) c56)] #[true, true, true, true, true, true, false, false] [(A55 = some ad71), (0 ≤ (0 : Int)), ((0 : Int) < ((([ta, tb, tc] : List Tup)).length : Nat)), (∃ j_ : Nat, Cs81[j_]? = some ((ad71.add ((0 : Int).toNat * 5)), (.bool (ta.top)))), (∃ j_ : Nat, Cs81[j_]? = some (((ad71.add ((0 : Int).toNat * 5)).add 1), (.int .i64 (ta.c0)))), (∃ j_ : Nat, Cs81[j_]? = some (((ad71.add ((0 : Int).toNat * 5)).add 2), (.int .i64 (ta.c1)))), (∃ j_ : Nat, Cs81[j_]? = some (((ad71.add ((0 : Int).toNat * 5)).add 3), (.int .i64 (ta.c2)))), (∃ j_ : Nat, Cs81[j_]? = some (((ad71.add ((0 : Int).toNat * 5)).add 4), (.int .i64 (ta.c3)))), (A55 = some ad76), (0 ≤ (1 : Int)), ((1 : Int) < ((([ta, tb, tc] : List Tup)).length : Nat)), (∃ j_ : Nat, Cs81[j_]? = some ((ad76.add ((1 : Int).toNat * 5)), (.bool (tb.top)))), (∃ j_ : Nat, Cs81[j_]? = some (((ad76.add ((1 : Int).toNat * 5)).add 1), (.int .i64 (tb.c0)))), (∃ j_ : Nat, Cs81[j_]? = some (((ad76.add ((1 : Int).toNat * 5)).add 2), (.int .i64 (tb.c1)))), (∃ j_ : Nat, Cs81[j_]? = some (((ad76.add ((1 : Int).toNat * 5)).add 3), (.int .i64 (tb.c2)))), (∃ j_ : Nat, Cs81[j_]? = some (((ad76.add ((1 : Int).toNat * 5)).add 4), (.int .i64 (tb.c3))))] 2 f70 (by kernel_rfl) ⟨hA72, (by omega), (by omega), ⟨0, by rw [hCs82]; rfl⟩, ⟨1, by rw [hCs82]; rfl⟩, ⟨2, by rw [hCs82]; rfl⟩, ⟨3, by rw [hCs82]; rfl⟩, ⟨4, by rw [hCs82]; rfl⟩, hA77, (by omega), (by omega), ⟨5, by rw [hCs82]; rfl⟩, ⟨6, by rw [hCs82]; rfl⟩, ⟨7, by rw [hCs82]; rfl⟩, ⟨8, by rw [hCs82]; rfl⟩, ⟨9, by rw [hCs82]; rfl⟩, trivial⟩ (fun act95 f94 => ?_)
  clear f70
  refine AtH.all [6] 1 (by kernel_rfl) (by simp) ⟨?_, trivial⟩
  refine OneH.call f94 23 #[tupV ta, tupV tb, .int .i64 (0)] (some 27) #[true, true, true, true, true, true, true, false] (by kernel_rfl) (by kernel_rfl) (cmpM_any (a := ta) (b := tb) (p := 0)) ?_
  rintro e_ w97 ⟨rfl, he⟩
  have := cmp_rng ta tb 0
  refine ⟨_, rfl, _, rfl, fun act98 f99 => ?_⟩
  clear f94
  have g100 := gr_ext he
  have hS96 := hS87.gr g100
  have szw97 := g100.size
  have e101 := e88.gr g100 no_row
  clear e88
  have bx102 := bx89.gr g100 (by simp)
  clear bx89
  have bx103 := bx90.gr g100 (by simp)
  clear bx90
  have bx104 := bx91.gr g100 (by simp)
  clear bx91
  have bx105 := bx92.gr g100 (by simp)
  clear bx92
  have ow106 := ow93.gr g100 (fun _ _ h => by cases h)
  clear ow93
  clear g100 he
  refine ⟨hS96, ?_⟩
  refine AtH.rd (by kernel_rfl) (fun d v c a w h => by cases d <;> exact h) hS96 [7] [[]] [(9, .int .i64 (cmpT ta tb 0))] #[true, true, true, true, true, true, true, true] [] 0 f99 (by kernel_rfl) trivial (fun act108 f107 => ?_)
  clear f99
  refine AtH.done (by kernel_rfl) ?_
  clear hS96
  refine t_n ?_
  have f109 := f107.sub (r := [(9, .int .i64 (cmpT ta tb 0)), (8, .slice A55 ((([ta, tb, tc] : List Tup)).length) c56), (7, .bool true), (6, .bool false), (4, .pointer (some ⟨w1.heap.size, 0, none⟩)), (3, .pointer (some ⟨w.heap.size, 0, none⟩))]) ⟨rfl, rfl, rfl, rfl, rfl, rfl, trivial⟩
  clear f107
  refine wp_seq ?_
  obtain ⟨ad110, hA111, hb114, hc113, hc112⟩ := ow106.get (1) (by omega) (by omega) (sz := 5) rfl
  obtain ⟨ad115, hA116, hb119, hc118, hc117⟩ := ow106.get (2) (by omega) (by omega) (sz := 5) rfl
  obtain ⟨Cs120, hCs121⟩ : ∃ c : List (Addr × Value), c = [((ad110.add ((1 : Int).toNat * 5)), (.bool (tb.top))), (((ad110.add ((1 : Int).toNat * 5)).add 1), (.int .i64 (tb.c0))), (((ad110.add ((1 : Int).toNat * 5)).add 2), (.int .i64 (tb.c1))), (((ad110.add ((1 : Int).toNat * 5)).add 3), (.int .i64 (tb.c2))), (((ad110.add ((1 : Int).toNat * 5)).add 4), (.int .i64 (tb.c3))), ((ad115.add ((2 : Int).toNat * 5)), (.bool (tc.top))), (((ad115.add ((2 : Int).toNat * 5)).add 1), (.int .i64 (tc.c0))), (((ad115.add ((2 : Int).toNat * 5)).add 2), (.int .i64 (tc.c1))), (((ad115.add ((2 : Int).toNat * 5)).add 3), (.int .i64 (tc.c2))), (((ad115.add ((2 : Int).toNat * 5)).add 4), (.int .i64 (tc.c3)))] := ⟨_, rfl⟩
  have hS122 : HoldsC Cs120 w97 := by rw [hCs121]; exact ⟨hc113, (hc112 1 _ rfl), (hc112 2 _ rfl), (hc112 3 _ rfl), (hc112 4 _ rfl), hc118, (hc117 1 _ rfl), (hc117 2 _ rfl), (hc117 3 _ rfl), (hc117 4 _ rfl), trivial⟩
  refine AtH.start Cs120 8 #[false, false, false, false, false, false, false, false] (by kernel_rfl) rfl rfl (fun w124 hw125 => ?_)
  have g123 := gr_drew hw125
  have hS126 := hS122.gr g123
  have szw124 := g123.size
  have e127 := e101.gr g123 no_row
  clear e101
  have bx128 := bx102.gr g123 (by simp)
  clear bx102
  have bx129 := bx103.gr g123 (by simp)
  clear bx103
  have bx130 := bx104.gr g123 (by simp)
  clear bx104
  have bx131 := bx105.gr g123 (by simp)
  clear bx105
  have ow132 := ow106.gr g123 (fun _ _ h => by cases h)
  clear ow106
  clear g123 hw125 hS122
  refine AtH.rd (by kernel_rfl) (fun d v c a w h => by cases d <;> exact h) hS126 [0, 1, 2, 3, 4, 5] [[], [.ad ad110], [.ld (.bool (tb.top)), .ld (.int .i64 (tb.c0)), .ld (.int .i64 (tb.c1)), .ld (.int .i64 (tb.c2)), .ld (.int .i64 (tb.c3))], [], [.ad ad115], [.ld (.bool (tc.top)), .ld (.int .i64 (tc.c0)), .ld (.int .i64 (tc.c1)), .ld (.int .i64 (tc.c2)), .ld (.int .i64 (tc.c3))]] [(33, tupV tc), (32, .pointer (some (ad115.add ((2 : Int).toNat * 5)))), (31, .slice A55 ((([ta, tb, tc] : List Tup)).length) c56), (30, tupV tb), (29, .pointer (some (ad110.add ((1 : Int).toNat * 5)))), (28, .slice A55 ((([ta, tb, tc] : List Tup)).length) c56)] #[true, true, true, true, true, true, false, false] [(A55 = some ad110), (0 ≤ (1 : Int)), ((1 : Int) < ((([ta, tb, tc] : List Tup)).length : Nat)), (∃ j_ : Nat, Cs120[j_]? = some ((ad110.add ((1 : Int).toNat * 5)), (.bool (tb.top)))), (∃ j_ : Nat, Cs120[j_]? = some (((ad110.add ((1 : Int).toNat * 5)).add 1), (.int .i64 (tb.c0)))), (∃ j_ : Nat, Cs120[j_]? = some (((ad110.add ((1 : Int).toNat * 5)).add 2), (.int .i64 (tb.c1)))), (∃ j_ : Nat, Cs120[j_]? = some (((ad110.add ((1 : Int).toNat * 5)).add 3), (.int .i64 (tb.c2)))), (∃ j_ : Nat, Cs120[j_]? = some (((ad110.add ((1 : Int).toNat * 5)).add 4), (.int .i64 (tb.c3)))), (A55 = some ad115), (0 ≤ (2 : Int)), ((2 : Int) < ((([ta, tb, tc] : List Tup)).length : Nat)), (∃ j_ : Nat, Cs120[j_]? = some ((ad115.add ((2 : Int).toNat * 5)), (.bool (tc.top)))), (∃ j_ : Nat, Cs120[j_]? = some (((ad115.add ((2 : Int).toNat * 5)).add 1), (.int .i64 (tc.c0)))), (∃ j_ : Nat, Cs120[j_]? = some (((ad115.add ((2 : Int).toNat * 5)).add 2), (.int .i64 (tc.c1)))), (∃ j_ : Nat, Cs120[j_]? = some (((ad115.add ((2 : Int).toNat * 5)).add 3), (.int .i64 (tc.c2)))), (∃ j_ : Nat, Cs120[j_]? = some (((ad115.add ((2 : Int).toNat * 5)).add 4), (.int .i64 (tc.c3))))] 2 f109 (by kernel_rfl) ⟨hA111, (by omega), (by omega), ⟨0, by rw [hCs121]; rfl⟩, ⟨1, by rw [hCs121]; rfl⟩, ⟨2, by rw [hCs121]; rfl⟩, ⟨3, by rw [hCs121]; rfl⟩, ⟨4, by rw [hCs121]; rfl⟩, hA116, (by omega), (by omega), ⟨5, by rw [hCs121]; rfl⟩, ⟨6, by rw [hCs121]; rfl⟩, ⟨7, by rw [hCs121]; rfl⟩, ⟨8, by rw [hCs121]; rfl⟩, ⟨9, by rw [hCs121]; rfl⟩, trivial⟩ (fun act134 f133 => ?_)
  clear f109
  refine AtH.all [6] 1 (by kernel_rfl) (by simp) ⟨?_, trivial⟩
  refine OneH.call f133 23 #[tupV tb, tupV tc, .int .i64 (0)] (some 34) #[true, true, true, true, true, true, true, false] (by kernel_rfl) (by kernel_rfl) (cmpM_any (a := tb) (b := tc) (p := 0)) ?_
  rintro e_ w136 ⟨rfl, he⟩
  have := cmp_rng tb tc 0
  refine ⟨_, rfl, _, rfl, fun act137 f138 => ?_⟩
  clear f133
  have g139 := gr_ext he
  have hS135 := hS126.gr g139
  have szw136 := g139.size
  have e140 := e127.gr g139 no_row
  clear e127
  have bx141 := bx128.gr g139 (by simp)
  clear bx128
  have bx142 := bx129.gr g139 (by simp)
  clear bx129
  have bx143 := bx130.gr g139 (by simp)
  clear bx130
  have bx144 := bx131.gr g139 (by simp)
  clear bx131
  have ow145 := ow132.gr g139 (fun _ _ h => by cases h)
  clear ow132
  clear g139 he
  refine ⟨hS135, ?_⟩
  refine AtH.rd (by kernel_rfl) (fun d v c a w h => by cases d <;> exact h) hS135 [7] [[]] [(10, .int .i64 (cmpT tb tc 0))] #[true, true, true, true, true, true, true, true] [] 0 f138 (by kernel_rfl) trivial (fun act147 f146 => ?_)
  clear f138
  refine AtH.done (by kernel_rfl) ?_
  clear hS135
  refine t_n ?_
  have f148 := f146.sub (r := [(10, .int .i64 (cmpT tb tc 0)), (9, .int .i64 (cmpT ta tb 0)), (8, .slice A55 ((([ta, tb, tc] : List Tup)).length) c56), (7, .bool true), (6, .bool false), (4, .pointer (some ⟨w1.heap.size, 0, none⟩)), (3, .pointer (some ⟨w.heap.size, 0, none⟩))]) ⟨rfl, rfl, rfl, rfl, rfl, rfl, rfl, trivial⟩
  clear f146
  refine wp_seq ?_
  obtain ⟨ad149, hA150, hb153, hc152, hc151⟩ := ow145.get (0) (by omega) (by omega) (sz := 5) rfl
  obtain ⟨ad154, hA155, hb158, hc157, hc156⟩ := ow145.get (2) (by omega) (by omega) (sz := 5) rfl
  obtain ⟨Cs159, hCs160⟩ : ∃ c : List (Addr × Value), c = [((ad149.add ((0 : Int).toNat * 5)), (.bool (ta.top))), (((ad149.add ((0 : Int).toNat * 5)).add 1), (.int .i64 (ta.c0))), (((ad149.add ((0 : Int).toNat * 5)).add 2), (.int .i64 (ta.c1))), (((ad149.add ((0 : Int).toNat * 5)).add 3), (.int .i64 (ta.c2))), (((ad149.add ((0 : Int).toNat * 5)).add 4), (.int .i64 (ta.c3))), ((ad154.add ((2 : Int).toNat * 5)), (.bool (tc.top))), (((ad154.add ((2 : Int).toNat * 5)).add 1), (.int .i64 (tc.c0))), (((ad154.add ((2 : Int).toNat * 5)).add 2), (.int .i64 (tc.c1))), (((ad154.add ((2 : Int).toNat * 5)).add 3), (.int .i64 (tc.c2))), (((ad154.add ((2 : Int).toNat * 5)).add 4), (.int .i64 (tc.c3)))] := ⟨_, rfl⟩
  have hS161 : HoldsC Cs159 w136 := by rw [hCs160]; exact ⟨hc152, (hc151 1 _ rfl), (hc151 2 _ rfl), (hc151 3 _ rfl), (hc151 4 _ rfl), hc157, (hc156 1 _ rfl), (hc156 2 _ rfl), (hc156 3 _ rfl), (hc156 4 _ rfl), trivial⟩
  refine AtH.start Cs159 8 #[false, false, false, false, false, false, false, false] (by kernel_rfl) rfl rfl (fun w163 hw164 => ?_)
  have g162 := gr_drew hw164
  have hS165 := hS161.gr g162
  have szw163 := g162.size
  have e166 := e140.gr g162 no_row
  clear e140
  have bx167 := bx141.gr g162 (by simp)
  clear bx141
  have bx168 := bx142.gr g162 (by simp)
  clear bx142
  have bx169 := bx143.gr g162 (by simp)
  clear bx143
  have bx170 := bx144.gr g162 (by simp)
  clear bx144
  have ow171 := ow145.gr g162 (fun _ _ h => by cases h)
  clear ow145
  clear g162 hw164 hS161
  refine AtH.rd (by kernel_rfl) (fun d v c a w h => by cases d <;> exact h) hS165 [0, 1, 2, 3, 4, 5] [[], [.ad ad149], [.ld (.bool (ta.top)), .ld (.int .i64 (ta.c0)), .ld (.int .i64 (ta.c1)), .ld (.int .i64 (ta.c2)), .ld (.int .i64 (ta.c3))], [], [.ad ad154], [.ld (.bool (tc.top)), .ld (.int .i64 (tc.c0)), .ld (.int .i64 (tc.c1)), .ld (.int .i64 (tc.c2)), .ld (.int .i64 (tc.c3))]] [(40, tupV tc), (39, .pointer (some (ad154.add ((2 : Int).toNat * 5)))), (38, .slice A55 ((([ta, tb, tc] : List Tup)).length) c56), (37, tupV ta), (36, .pointer (some (ad149.add ((0 : Int).toNat * 5)))), (35, .slice A55 ((([ta, tb, tc] : List Tup)).length) c56)] #[true, true, true, true, true, true, false, false] [(A55 = some ad149), (0 ≤ (0 : Int)), ((0 : Int) < ((([ta, tb, tc] : List Tup)).length : Nat)), (∃ j_ : Nat, Cs159[j_]? = some ((ad149.add ((0 : Int).toNat * 5)), (.bool (ta.top)))), (∃ j_ : Nat, Cs159[j_]? = some (((ad149.add ((0 : Int).toNat * 5)).add 1), (.int .i64 (ta.c0)))), (∃ j_ : Nat, Cs159[j_]? = some (((ad149.add ((0 : Int).toNat * 5)).add 2), (.int .i64 (ta.c1)))), (∃ j_ : Nat, Cs159[j_]? = some (((ad149.add ((0 : Int).toNat * 5)).add 3), (.int .i64 (ta.c2)))), (∃ j_ : Nat, Cs159[j_]? = some (((ad149.add ((0 : Int).toNat * 5)).add 4), (.int .i64 (ta.c3)))), (A55 = some ad154), (0 ≤ (2 : Int)), ((2 : Int) < ((([ta, tb, tc] : List Tup)).length : Nat)), (∃ j_ : Nat, Cs159[j_]? = some ((ad154.add ((2 : Int).toNat * 5)), (.bool (tc.top)))), (∃ j_ : Nat, Cs159[j_]? = some (((ad154.add ((2 : Int).toNat * 5)).add 1), (.int .i64 (tc.c0)))), (∃ j_ : Nat, Cs159[j_]? = some (((ad154.add ((2 : Int).toNat * 5)).add 2), (.int .i64 (tc.c1)))), (∃ j_ : Nat, Cs159[j_]? = some (((ad154.add ((2 : Int).toNat * 5)).add 3), (.int .i64 (tc.c2)))), (∃ j_ : Nat, Cs159[j_]? = some (((ad154.add ((2 : Int).toNat * 5)).add 4), (.int .i64 (tc.c3))))] 2 f148 (by kernel_rfl) ⟨hA150, (by omega), (by omega), ⟨0, by rw [hCs160]; rfl⟩, ⟨1, by rw [hCs160]; rfl⟩, ⟨2, by rw [hCs160]; rfl⟩, ⟨3, by rw [hCs160]; rfl⟩, ⟨4, by rw [hCs160]; rfl⟩, hA155, (by omega), (by omega), ⟨5, by rw [hCs160]; rfl⟩, ⟨6, by rw [hCs160]; rfl⟩, ⟨7, by rw [hCs160]; rfl⟩, ⟨8, by rw [hCs160]; rfl⟩, ⟨9, by rw [hCs160]; rfl⟩, trivial⟩ (fun act173 f172 => ?_)
  clear f148
  refine AtH.all [6] 1 (by kernel_rfl) (by simp) ⟨?_, trivial⟩
  refine OneH.call f172 23 #[tupV ta, tupV tc, .int .i64 (0)] (some 41) #[true, true, true, true, true, true, true, false] (by kernel_rfl) (by kernel_rfl) (cmpM_any (a := ta) (b := tc) (p := 0)) ?_
  rintro e_ w175 ⟨rfl, he⟩
  have := cmp_rng ta tc 0
  refine ⟨_, rfl, _, rfl, fun act176 f177 => ?_⟩
  clear f172
  have g178 := gr_ext he
  have hS174 := hS165.gr g178
  have szw175 := g178.size
  have e179 := e166.gr g178 no_row
  clear e166
  have bx180 := bx167.gr g178 (by simp)
  clear bx167
  have bx181 := bx168.gr g178 (by simp)
  clear bx168
  have bx182 := bx169.gr g178 (by simp)
  clear bx169
  have bx183 := bx170.gr g178 (by simp)
  clear bx170
  have ow184 := ow171.gr g178 (fun _ _ h => by cases h)
  clear ow171
  clear g178 he
  refine ⟨hS174, ?_⟩
  refine AtH.rd (by kernel_rfl) (fun d v c a w h => by cases d <;> exact h) hS174 [7] [[]] [(11, .int .i64 (cmpT ta tc 0))] #[true, true, true, true, true, true, true, true] [] 0 f177 (by kernel_rfl) trivial (fun act186 f185 => ?_)
  clear f177
  refine AtH.done (by kernel_rfl) ?_
  clear hS174
  refine t_n ?_
  have f187 := f185.sub (r := [(11, .int .i64 (cmpT ta tc 0)), (10, .int .i64 (cmpT tb tc 0)), (9, .int .i64 (cmpT ta tb 0)), (8, .slice A55 ((([ta, tb, tc] : List Tup)).length) c56), (7, .bool true), (6, .bool false), (4, .pointer (some ⟨w1.heap.size, 0, none⟩)), (3, .pointer (some ⟨w.heap.size, 0, none⟩))]) ⟨rfl, rfl, rfl, rfl, rfl, rfl, rfl, rfl, trivial⟩
  clear f185
  refine wp_seq (cut (fun a_ w_ => (Frm 133 a_ [(8, .slice A55 ((([ta, tb, tc] : List Tup)).length) c56), (4, .pointer (some ⟨w1.heap.size, 0, none⟩)), (3, .pointer (some ⟨w.heap.size, 0, none⟩))]) ∧ (Ext w w_) ∧ (Bx w_ (w.heap.size) (tupC ta) 40) ∧ (Bx w_ (w1.heap.size) (tupC tb) 40) ∧ (Bx w_ (w9.heap.size) (tupC tc) 40) ∧ (Bx w_ (w31.heap.size) [.bool (ta.top), .int .i64 (ta.c0), .int .i64 (ta.c1), .int .i64 (ta.c2), .int .i64 (ta.c3), .bool (tb.top), .int .i64 (tb.c0), .int .i64 (tb.c1), .int .i64 (tb.c2), .int .i64 (tb.c3), .bool (tc.top), .int .i64 (tc.c0), .int .i64 (tc.c1), .int .i64 (tc.c2), .int .i64 (tc.c3)] 40) ∧ (OwnR w_ (Sx (w44.heap.size) []) A55 c56 41 (([ta, tb, tc] : List Tup) : List Tup)) ∧ (w175.heap.size ≤ w_.heap.size)) ?_ ?_)
  · refine wp_seq ?_
    have hbk := cmp_back ta tb tc
    obtain ⟨ad188, hA189, hb192, hc191, hc190⟩ := ow184.get (1) (by omega) (by omega) (sz := 5) rfl
    obtain ⟨ad193, hA194, hb197, hc196, hc195⟩ := ow184.get (0) (by omega) (by omega) (sz := 5) rfl
    obtain ⟨Cs198, hCs199⟩ : ∃ c : List (Addr × Value), c = [((ad188.add ((1 : Int).toNat * 5)), (.bool (tb.top))), (((ad188.add ((1 : Int).toNat * 5)).add 1), (.int .i64 (tb.c0))), (((ad188.add ((1 : Int).toNat * 5)).add 2), (.int .i64 (tb.c1))), (((ad188.add ((1 : Int).toNat * 5)).add 3), (.int .i64 (tb.c2))), (((ad188.add ((1 : Int).toNat * 5)).add 4), (.int .i64 (tb.c3))), ((ad193.add ((0 : Int).toNat * 5)), (.bool (ta.top))), (((ad193.add ((0 : Int).toNat * 5)).add 1), (.int .i64 (ta.c0))), (((ad193.add ((0 : Int).toNat * 5)).add 2), (.int .i64 (ta.c1))), (((ad193.add ((0 : Int).toNat * 5)).add 3), (.int .i64 (ta.c2))), (((ad193.add ((0 : Int).toNat * 5)).add 4), (.int .i64 (ta.c3)))] := ⟨_, rfl⟩
    have hS200 : HoldsC Cs198 w175 := by rw [hCs199]; exact ⟨hc191, (hc190 1 _ rfl), (hc190 2 _ rfl), (hc190 3 _ rfl), (hc190 4 _ rfl), hc196, (hc195 1 _ rfl), (hc195 2 _ rfl), (hc195 3 _ rfl), (hc195 4 _ rfl), trivial⟩
    refine AtH.start Cs198 50 #[false, false, false, false, false, false, false, false, false, false, false, false, false, false, false, false, false, false, false, false, false, false, false, false, false, false, false, false, false, false, false, false, false, false, false, false, false, false, false, false, false, false, false, false, false, false, false, false, false, false] (by kernel_rfl) rfl rfl (fun w202 hw203 => ?_)
    have g201 := gr_drew hw203
    have hS204 := hS200.gr g201
    have szw202 := g201.size
    have e205 := e179.gr g201 no_row
    clear e179
    have bx206 := bx180.gr g201 (by simp)
    clear bx180
    have bx207 := bx181.gr g201 (by simp)
    clear bx181
    have bx208 := bx182.gr g201 (by simp)
    clear bx182
    have bx209 := bx183.gr g201 (by simp)
    clear bx183
    have ow210 := ow184.gr g201 (fun _ _ h => by cases h)
    clear ow184
    clear g201 hw203 hS200
    refine AtH.rd (by kernel_rfl) (fun d v c a w h => by cases d <;> exact h) hS204 [0, 1, 2, 3, 4, 5, 6, 7, 8, 9] [[], [], [], [], [], [.ad ad188], [.ld (.bool (tb.top)), .ld (.int .i64 (tb.c0)), .ld (.int .i64 (tb.c1)), .ld (.int .i64 (tb.c2)), .ld (.int .i64 (tb.c3))], [], [.ad ad193], [.ld (.bool (ta.top)), .ld (.int .i64 (ta.c0)), .ld (.int .i64 (ta.c1)), .ld (.int .i64 (ta.c2)), .ld (.int .i64 (ta.c3))]] [(51, tupV ta), (50, .pointer (some (ad193.add ((0 : Int).toNat * 5)))), (49, .slice A55 ((([ta, tb, tc] : List Tup)).length) c56), (48, tupV tb), (47, .pointer (some (ad188.add ((1 : Int).toNat * 5)))), (46, .slice A55 ((([ta, tb, tc] : List Tup)).length) c56), (45, .int .i64 (cmpT ta tb 0)), (44, .bool false), (43, .bool false), (42, .bool true)] #[true, true, true, true, true, true, true, true, true, true, false, false, false, false, false, false, false, false, false, false, false, false, false, false, false, false, false, false, false, false, false, false, false, false, false, false, false, false, false, false, false, false, false, false, false, false, false, false, false, false] [(A55 = some ad188), (0 ≤ (1 : Int)), ((1 : Int) < ((([ta, tb, tc] : List Tup)).length : Nat)), (∃ j_ : Nat, Cs198[j_]? = some ((ad188.add ((1 : Int).toNat * 5)), (.bool (tb.top)))), (∃ j_ : Nat, Cs198[j_]? = some (((ad188.add ((1 : Int).toNat * 5)).add 1), (.int .i64 (tb.c0)))), (∃ j_ : Nat, Cs198[j_]? = some (((ad188.add ((1 : Int).toNat * 5)).add 2), (.int .i64 (tb.c1)))), (∃ j_ : Nat, Cs198[j_]? = some (((ad188.add ((1 : Int).toNat * 5)).add 3), (.int .i64 (tb.c2)))), (∃ j_ : Nat, Cs198[j_]? = some (((ad188.add ((1 : Int).toNat * 5)).add 4), (.int .i64 (tb.c3)))), (A55 = some ad193), (0 ≤ (0 : Int)), ((0 : Int) < ((([ta, tb, tc] : List Tup)).length : Nat)), (∃ j_ : Nat, Cs198[j_]? = some ((ad193.add ((0 : Int).toNat * 5)), (.bool (ta.top)))), (∃ j_ : Nat, Cs198[j_]? = some (((ad193.add ((0 : Int).toNat * 5)).add 1), (.int .i64 (ta.c0)))), (∃ j_ : Nat, Cs198[j_]? = some (((ad193.add ((0 : Int).toNat * 5)).add 2), (.int .i64 (ta.c1)))), (∃ j_ : Nat, Cs198[j_]? = some (((ad193.add ((0 : Int).toNat * 5)).add 3), (.int .i64 (ta.c2)))), (∃ j_ : Nat, Cs198[j_]? = some (((ad193.add ((0 : Int).toNat * 5)).add 4), (.int .i64 (ta.c3))))] 40 f187 (by kernel_rfl) ⟨hA189, (by omega), (by omega), ⟨0, by rw [hCs199]; rfl⟩, ⟨1, by rw [hCs199]; rfl⟩, ⟨2, by rw [hCs199]; rfl⟩, ⟨3, by rw [hCs199]; rfl⟩, ⟨4, by rw [hCs199]; rfl⟩, hA194, (by omega), (by omega), ⟨5, by rw [hCs199]; rfl⟩, ⟨6, by rw [hCs199]; rfl⟩, ⟨7, by rw [hCs199]; rfl⟩, ⟨8, by rw [hCs199]; rfl⟩, ⟨9, by rw [hCs199]; rfl⟩, trivial⟩ (fun act212 f211 => ?_)
    clear f187
    refine AtH.all [10] 39 (by kernel_rfl) (by simp) ⟨?_, trivial⟩
    refine OneH.call f211 23 #[tupV tb, tupV ta, .int .i64 (0)] (some 52) #[true, true, true, true, true, true, true, true, true, true, true, false, false, false, false, false, false, false, false, false, false, false, false, false, false, false, false, false, false, false, false, false, false, false, false, false, false, false, false, false, false, false, false, false, false, false, false, false, false, false] (by kernel_rfl) (by kernel_rfl) (cmpM_any (a := tb) (b := ta) (p := 0)) ?_
    rintro e_ w214 ⟨rfl, he⟩
    have := cmp_rng tb ta 0
    refine ⟨_, rfl, _, rfl, fun act215 f216 => ?_⟩
    clear f211
    have g217 := gr_ext he
    have hS213 := hS204.gr g217
    have szw214 := g217.size
    have e218 := e205.gr g217 no_row
    clear e205
    have bx219 := bx206.gr g217 (by simp)
    clear bx206
    have bx220 := bx207.gr g217 (by simp)
    clear bx207
    have bx221 := bx208.gr g217 (by simp)
    clear bx208
    have bx222 := bx209.gr g217 (by simp)
    clear bx209
    have ow223 := ow210.gr g217 (fun _ _ h => by cases h)
    clear ow210
    clear g217 he
    refine ⟨hS213, ?_⟩
    refine AtH.rd (by kernel_rfl) (fun d v c a w h => by cases d <;> exact h) hS213 [11] [[.as_ (.int .i64 (-(cmpT tb ta 0)))]] [(53, .int .i64 (-(cmpT tb ta 0)))] #[true, true, true, true, true, true, true, true, true, true, true, true, false, false, false, false, false, false, false, false, false, false, false, false, false, false, false, false, false, false, false, false, false, false, false, false, false, false, false, false, false, false, false, false, false, false, false, false, false, false] [((.int .i64 (IntKind.i64.wrap (0 - (cmpT tb ta 0))) : Value) = .int .i64 (-(cmpT tb ta 0)))] 38 f216 (by kernel_rfl) ⟨(w64e (by omega) (by omega) (by omega)), trivial⟩ (fun act225 f224 => ?_)
    clear f216
    refine AtH.rd (by kernel_rfl) (fun d v c a w h => by cases d <;> exact h) hS213 [12] [[]] [(54, .bool ((cmpT ta tb 0 : Int) != (-(cmpT tb ta 0))))] #[true, true, true, true, true, true, true, true, true, true, true, true, true, false, false, false, false, false, false, false, false, false, false, false, false, false, false, false, false, false, false, false, false, false, false, false, false, false, false, false, false, false, false, false, false, false, false, false, false, false] [] 37 f224 (by kernel_rfl) trivial (fun act227 f226 => ?_)
    clear f224
    refine AtH.rd (by kernel_rfl) (fun d v c a w h => by cases d <;> exact h) hS213 [13] [[]] [(55, .bool ((cmpT ta tb 0 : Int) != (-(cmpT tb ta 0))))] #[true, true, true, true, true, true, true, true, true, true, true, true, true, true, false, false, false, false, false, false, false, false, false, false, false, false, false, false, false, false, false, false, false, false, false, false, false, false, false, false, false, false, false, false, false, false, false, false, false, false] [] 36 f226 (by kernel_rfl) trivial (fun act229 f228 => ?_)
    clear f226
    rcases Bool.eq_false_or_eq_true ((cmpT ta tb 0 : Int) != (-(cmpT tb ta 0))) with h230 | h230
    · have q231 := bne_iff_ne.1 h230
      exfalso
      omega
    · have q232 := bne_eq_false_iff_eq.1 h230
      refine AtH.rd (by kernel_rfl) (fun d v c a w h => by cases d <;> exact h) hS213 [14] [[.as_ (.bool false)]] [(56, .bool false)] #[true, true, true, true, true, true, true, true, true, true, true, true, true, true, true, false, false, false, false, false, false, false, false, false, false, false, false, false, false, false, false, false, false, false, false, false, false, false, false, false, false, false, false, false, false, false, false, false, false, false] [((.bool ((cmpT ta tb 0 : Int) != (-(cmpT tb ta 0))) : Value) = .bool false)] 35 f228 (by kernel_rfl) ⟨(congrArg Value.bool h230), trivial⟩ (fun act234 f233 => ?_)
      clear f228
      refine AtH.rd (by kernel_rfl) (fun d v c a w h => by cases d <;> exact h) hS213 [15] [[]] [(57, .int .i64 (cmpT ta tb 0))] #[true, true, true, true, true, true, true, true, true, true, true, true, true, true, true, true, false, false, false, false, false, false, false, false, false, false, false, false, false, false, false, false, false, false, false, false, false, false, false, false, false, false, false, false, false, false, false, false, false, false] [] 34 f233 (by kernel_rfl) trivial (fun act236 f235 => ?_)
      clear f233
      refine AtH.rd (by kernel_rfl) (fun d v c a w h => by cases d <;> exact h) hS213 [16] [[]] [(58, .bool (decide ((cmpT ta tb 0 : Int) ≤ 0)))] #[true, true, true, true, true, true, true, true, true, true, true, true, true, true, true, true, true, false, false, false, false, false, false, false, false, false, false, false, false, false, false, false, false, false, false, false, false, false, false, false, false, false, false, false, false, false, false, false, false, false] [] 33 f235 (by kernel_rfl) trivial (fun act238 f237 => ?_)
      clear f235
      rcases Bool.eq_false_or_eq_true (decide ((cmpT ta tb 0 : Int) ≤ 0)) with h239 | h239
      · have q240 := of_decide_eq_true h239
        refine AtH.rd (by kernel_rfl) (fun d v c a w h => by cases d <;> exact h) hS213 [17] [[.as_ (.bool true)]] [(59, .bool true)] #[true, true, true, true, true, true, true, true, true, true, true, true, true, true, true, true, true, true, false, false, false, false, false, false, false, false, false, false, false, false, false, false, false, false, false, false, false, false, false, false, false, false, false, false, false, false, false, false, false, false] [((.bool (decide ((cmpT ta tb 0 : Int) ≤ 0)) : Value) = .bool true)] 32 f237 (by kernel_rfl) ⟨(congrArg Value.bool h239), trivial⟩ (fun act242 f241 => ?_)
        clear f237
        refine AtH.rd (by kernel_rfl) (fun d v c a w h => by cases d <;> exact h) hS213 [18] [[]] [(60, .int .i64 (cmpT tb tc 0))] #[true, true, true, true, true, true, true, true, true, true, true, true, true, true, true, true, true, true, true, false, false, false, false, false, false, false, false, false, false, false, false, false, false, false, false, false, false, false, false, false, false, false, false, false, false, false, false, false, false, false] [] 31 f241 (by kernel_rfl) trivial (fun act244 f243 => ?_)
        clear f241
        refine AtH.rd (by kernel_rfl) (fun d v c a w h => by cases d <;> exact h) hS213 [19] [[]] [(61, .bool (decide ((cmpT tb tc 0 : Int) ≤ 0)))] #[true, true, true, true, true, true, true, true, true, true, true, true, true, true, true, true, true, true, true, true, false, false, false, false, false, false, false, false, false, false, false, false, false, false, false, false, false, false, false, false, false, false, false, false, false, false, false, false, false, false] [] 30 f243 (by kernel_rfl) trivial (fun act246 f245 => ?_)
        clear f243
        refine AtH.rd (by kernel_rfl) (fun d v c a w h => by cases d <;> exact h) hS213 [20] [[]] [(62, .bool (decide ((cmpT tb tc 0 : Int) ≤ 0)))] #[true, true, true, true, true, true, true, true, true, true, true, true, true, true, true, true, true, true, true, true, true, false, false, false, false, false, false, false, false, false, false, false, false, false, false, false, false, false, false, false, false, false, false, false, false, false, false, false, false, false] [] 29 f245 (by kernel_rfl) trivial (fun act248 f247 => ?_)
        clear f245
        rcases Bool.eq_false_or_eq_true (decide ((cmpT tb tc 0 : Int) ≤ 0)) with h249 | h249
        · have q250 := of_decide_eq_true h249
          refine AtH.rd (by kernel_rfl) (fun d v c a w h => by cases d <;> exact h) hS213 [21] [[.as_ (.bool true)]] [(63, .bool true)] #[true, true, true, true, true, true, true, true, true, true, true, true, true, true, true, true, true, true, true, true, true, true, false, false, false, false, false, false, false, false, false, false, false, false, false, false, false, false, false, false, false, false, false, false, false, false, false, false, false, false] [((.bool (decide ((cmpT tb tc 0 : Int) ≤ 0)) : Value) = .bool true)] 28 f247 (by kernel_rfl) ⟨(congrArg Value.bool h249), trivial⟩ (fun act252 f251 => ?_)
          clear f247
          refine AtH.rd (by kernel_rfl) (fun d v c a w h => by cases d <;> exact h) hS213 [22] [[]] [(64, .int .i64 (cmpT ta tc 0))] #[true, true, true, true, true, true, true, true, true, true, true, true, true, true, true, true, true, true, true, true, true, true, true, false, false, false, false, false, false, false, false, false, false, false, false, false, false, false, false, false, false, false, false, false, false, false, false, false, false, false] [] 27 f251 (by kernel_rfl) trivial (fun act254 f253 => ?_)
          clear f251
          refine AtH.rd (by kernel_rfl) (fun d v c a w h => by cases d <;> exact h) hS213 [23] [[]] [(65, .bool (decide ((cmpT ta tc 0 : Int) > 0)))] #[true, true, true, true, true, true, true, true, true, true, true, true, true, true, true, true, true, true, true, true, true, true, true, true, false, false, false, false, false, false, false, false, false, false, false, false, false, false, false, false, false, false, false, false, false, false, false, false, false, false] [] 26 f253 (by kernel_rfl) trivial (fun act256 f255 => ?_)
          clear f253
          refine AtH.rd (by kernel_rfl) (fun d v c a w h => by cases d <;> exact h) hS213 [24] [[]] [(66, .bool (decide ((cmpT ta tc 0 : Int) > 0)))] #[true, true, true, true, true, true, true, true, true, true, true, true, true, true, true, true, true, true, true, true, true, true, true, true, true, false, false, false, false, false, false, false, false, false, false, false, false, false, false, false, false, false, false, false, false, false, false, false, false, false] [] 25 f255 (by kernel_rfl) trivial (fun act258 f257 => ?_)
          clear f255
          refine AtH.rd (by kernel_rfl) (fun d v c a w h => by cases d <;> exact h) hS213 [25] [[]] [(67, .bool (decide ((cmpT ta tc 0 : Int) > 0)))] #[true, true, true, true, true, true, true, true, true, true, true, true, true, true, true, true, true, true, true, true, true, true, true, true, true, true, false, false, false, false, false, false, false, false, false, false, false, false, false, false, false, false, false, false, false, false, false, false, false, false] [] 24 f257 (by kernel_rfl) trivial (fun act260 f259 => ?_)
          clear f257
          rcases Bool.eq_false_or_eq_true (decide ((cmpT ta tc 0 : Int) > 0)) with h261 | h261
          · have q262 := of_decide_eq_true h261
            exfalso
            omega
          · have q263 := of_decide_eq_false h261
            refine AtH.rd (by kernel_rfl) (fun d v c a w h => by cases d <;> exact h) hS213 [26] [[.as_ (.bool false)]] [(68, .bool false)] #[true, true, true, true, true, true, true, true, true, true, true, true, true, true, true, true, true, true, true, true, true, true, true, true, true, true, true, false, false, false, false, false, false, false, false, false, false, false, false, false, false, false, false, false, false, false, false, false, false, false] [((.bool (decide ((cmpT ta tc 0 : Int) > 0)) : Value) = .bool false)] 23 f259 (by kernel_rfl) ⟨(congrArg Value.bool h261), trivial⟩ (fun act265 f264 => ?_)
            clear f259
            refine AtH.rd (by kernel_rfl) (fun d v c a w h => by cases d <;> exact h) hS213 [27] [[]] [(69, .int .i64 (cmpT ta tb 0))] #[true, true, true, true, true, true, true, true, true, true, true, true, true, true, true, true, true, true, true, true, true, true, true, true, true, true, true, true, false, false, false, false, false, false, false, false, false, false, false, false, false, false, false, false, false, false, false, false, false, false] [] 22 f264 (by kernel_rfl) trivial (fun act267 f266 => ?_)
            clear f264
            refine AtH.rd (by kernel_rfl) (fun d v c a w h => by cases d <;> exact h) hS213 [28] [[]] [(70, .bool (decide ((cmpT ta tb 0 : Int) ≥ 0)))] #[true, true, true, true, true, true, true, true, true, true, true, true, true, true, true, true, true, true, true, true, true, true, true, true, true, true, true, true, true, false, false, false, false, false, false, false, false, false, false, false, false, false, false, false, false, false, false, false, false, false] [] 21 f266 (by kernel_rfl) trivial (fun act269 f268 => ?_)
            clear f266
            rcases Bool.eq_false_or_eq_true (decide ((cmpT ta tb 0 : Int) ≥ 0)) with h270 | h270
            · have q271 := of_decide_eq_true h270
              refine AtH.rd (by kernel_rfl) (fun d v c a w h => by cases d <;> exact h) hS213 [29] [[.as_ (.bool true)]] [(71, .bool true)] #[true, true, true, true, true, true, true, true, true, true, true, true, true, true, true, true, true, true, true, true, true, true, true, true, true, true, true, true, true, true, false, false, false, false, false, false, false, false, false, false, false, false, false, false, false, false, false, false, false, false] [((.bool (decide ((cmpT ta tb 0 : Int) ≥ 0)) : Value) = .bool true)] 20 f268 (by kernel_rfl) ⟨(congrArg Value.bool h270), trivial⟩ (fun act273 f272 => ?_)
              clear f268
              refine AtH.rd (by kernel_rfl) (fun d v c a w h => by cases d <;> exact h) hS213 [30] [[]] [(72, .int .i64 (cmpT tb tc 0))] #[true, true, true, true, true, true, true, true, true, true, true, true, true, true, true, true, true, true, true, true, true, true, true, true, true, true, true, true, true, true, true, false, false, false, false, false, false, false, false, false, false, false, false, false, false, false, false, false, false, false] [] 19 f272 (by kernel_rfl) trivial (fun act275 f274 => ?_)
              clear f272
              refine AtH.rd (by kernel_rfl) (fun d v c a w h => by cases d <;> exact h) hS213 [31] [[]] [(73, .bool (decide ((cmpT tb tc 0 : Int) ≥ 0)))] #[true, true, true, true, true, true, true, true, true, true, true, true, true, true, true, true, true, true, true, true, true, true, true, true, true, true, true, true, true, true, true, true, false, false, false, false, false, false, false, false, false, false, false, false, false, false, false, false, false, false] [] 18 f274 (by kernel_rfl) trivial (fun act277 f276 => ?_)
              clear f274
              refine AtH.rd (by kernel_rfl) (fun d v c a w h => by cases d <;> exact h) hS213 [32] [[]] [(74, .bool (decide ((cmpT tb tc 0 : Int) ≥ 0)))] #[true, true, true, true, true, true, true, true, true, true, true, true, true, true, true, true, true, true, true, true, true, true, true, true, true, true, true, true, true, true, true, true, true, false, false, false, false, false, false, false, false, false, false, false, false, false, false, false, false, false] [] 17 f276 (by kernel_rfl) trivial (fun act279 f278 => ?_)
              clear f276
              rcases Bool.eq_false_or_eq_true (decide ((cmpT tb tc 0 : Int) ≥ 0)) with h280 | h280
              · have q281 := of_decide_eq_true h280
                refine AtH.rd (by kernel_rfl) (fun d v c a w h => by cases d <;> exact h) hS213 [33] [[.as_ (.bool true)]] [(75, .bool true)] #[true, true, true, true, true, true, true, true, true, true, true, true, true, true, true, true, true, true, true, true, true, true, true, true, true, true, true, true, true, true, true, true, true, true, false, false, false, false, false, false, false, false, false, false, false, false, false, false, false, false] [((.bool (decide ((cmpT tb tc 0 : Int) ≥ 0)) : Value) = .bool true)] 16 f278 (by kernel_rfl) ⟨(congrArg Value.bool h280), trivial⟩ (fun act283 f282 => ?_)
                clear f278
                refine AtH.rd (by kernel_rfl) (fun d v c a w h => by cases d <;> exact h) hS213 [34] [[]] [(76, .int .i64 (cmpT ta tc 0))] #[true, true, true, true, true, true, true, true, true, true, true, true, true, true, true, true, true, true, true, true, true, true, true, true, true, true, true, true, true, true, true, true, true, true, true, false, false, false, false, false, false, false, false, false, false, false, false, false, false, false] [] 15 f282 (by kernel_rfl) trivial (fun act285 f284 => ?_)
                clear f282
                refine AtH.rd (by kernel_rfl) (fun d v c a w h => by cases d <;> exact h) hS213 [35] [[]] [(77, .bool (decide ((cmpT ta tc 0 : Int) < 0)))] #[true, true, true, true, true, true, true, true, true, true, true, true, true, true, true, true, true, true, true, true, true, true, true, true, true, true, true, true, true, true, true, true, true, true, true, true, false, false, false, false, false, false, false, false, false, false, false, false, false, false] [] 14 f284 (by kernel_rfl) trivial (fun act287 f286 => ?_)
                clear f284
                refine AtH.rd (by kernel_rfl) (fun d v c a w h => by cases d <;> exact h) hS213 [36] [[]] [(78, .bool (decide ((cmpT ta tc 0 : Int) < 0)))] #[true, true, true, true, true, true, true, true, true, true, true, true, true, true, true, true, true, true, true, true, true, true, true, true, true, true, true, true, true, true, true, true, true, true, true, true, true, false, false, false, false, false, false, false, false, false, false, false, false, false] [] 13 f286 (by kernel_rfl) trivial (fun act289 f288 => ?_)
                clear f286
                refine AtH.rd (by kernel_rfl) (fun d v c a w h => by cases d <;> exact h) hS213 [37] [[]] [(79, .bool (decide ((cmpT ta tc 0 : Int) < 0)))] #[true, true, true, true, true, true, true, true, true, true, true, true, true, true, true, true, true, true, true, true, true, true, true, true, true, true, true, true, true, true, true, true, true, true, true, true, true, true, false, false, false, false, false, false, false, false, false, false, false, false] [] 12 f288 (by kernel_rfl) trivial (fun act291 f290 => ?_)
                clear f288
                rcases Bool.eq_false_or_eq_true (decide ((cmpT ta tc 0 : Int) < 0)) with h292 | h292
                · have q293 := of_decide_eq_true h292
                  exfalso
                  omega
                · have q294 := of_decide_eq_false h292
                  refine AtH.rd (by kernel_rfl) (fun d v c a w h => by cases d <;> exact h) hS213 [38] [[.as_ (.bool false)]] [(80, .bool false)] #[true, true, true, true, true, true, true, true, true, true, true, true, true, true, true, true, true, true, true, true, true, true, true, true, true, true, true, true, true, true, true, true, true, true, true, true, true, true, true, false, false, false, false, false, false, false, false, false, false, false] [((.bool (decide ((cmpT ta tc 0 : Int) < 0)) : Value) = .bool false)] 11 f290 (by kernel_rfl) ⟨(congrArg Value.bool h292), trivial⟩ (fun act296 f295 => ?_)
                  clear f290
                  refine AtH.rd (by kernel_rfl) (fun d v c a w h => by cases d <;> exact h) hS213 [39] [[]] [(81, .int .i64 (cmpT ta tb 0))] #[true, true, true, true, true, true, true, true, true, true, true, true, true, true, true, true, true, true, true, true, true, true, true, true, true, true, true, true, true, true, true, true, true, true, true, true, true, true, true, true, false, false, false, false, false, false, false, false, false, false] [] 10 f295 (by kernel_rfl) trivial (fun act298 f297 => ?_)
                  clear f295
                  refine AtH.rd (by kernel_rfl) (fun d v c a w h => by cases d <;> exact h) hS213 [40] [[]] [(82, .bool ((cmpT ta tb 0 : Int) == 0))] #[true, true, true, true, true, true, true, true, true, true, true, true, true, true, true, true, true, true, true, true, true, true, true, true, true, true, true, true, true, true, true, true, true, true, true, true, true, true, true, true, true, false, false, false, false, false, false, false, false, false] [] 9 f297 (by kernel_rfl) trivial (fun act300 f299 => ?_)
                  clear f297
                  rcases Bool.eq_false_or_eq_true ((cmpT ta tb 0 : Int) == 0) with h301 | h301
                  · have q302 := eq_of_beq h301
                    refine AtH.rd (by kernel_rfl) (fun d v c a w h => by cases d <;> exact h) hS213 [41] [[.as_ (.bool true)]] [(83, .bool true)] #[true, true, true, true, true, true, true, true, true, true, true, true, true, true, true, true, true, true, true, true, true, true, true, true, true, true, true, true, true, true, true, true, true, true, true, true, true, true, true, true, true, true, false, false, false, false, false, false, false, false] [((.bool ((cmpT ta tb 0 : Int) == 0) : Value) = .bool true)] 8 f299 (by kernel_rfl) ⟨(congrArg Value.bool h301), trivial⟩ (fun act304 f303 => ?_)
                    clear f299
                    refine AtH.rd (by kernel_rfl) (fun d v c a w h => by cases d <;> exact h) hS213 [42] [[]] [(84, .int .i64 (cmpT tb tc 0))] #[true, true, true, true, true, true, true, true, true, true, true, true, true, true, true, true, true, true, true, true, true, true, true, true, true, true, true, true, true, true, true, true, true, true, true, true, true, true, true, true, true, true, true, false, false, false, false, false, false, false] [] 7 f303 (by kernel_rfl) trivial (fun act306 f305 => ?_)
                    clear f303
                    refine AtH.rd (by kernel_rfl) (fun d v c a w h => by cases d <;> exact h) hS213 [43] [[]] [(85, .bool ((cmpT tb tc 0 : Int) == 0))] #[true, true, true, true, true, true, true, true, true, true, true, true, true, true, true, true, true, true, true, true, true, true, true, true, true, true, true, true, true, true, true, true, true, true, true, true, true, true, true, true, true, true, true, true, false, false, false, false, false, false] [] 6 f305 (by kernel_rfl) trivial (fun act308 f307 => ?_)
                    clear f305
                    refine AtH.rd (by kernel_rfl) (fun d v c a w h => by cases d <;> exact h) hS213 [44] [[]] [(86, .bool ((cmpT tb tc 0 : Int) == 0))] #[true, true, true, true, true, true, true, true, true, true, true, true, true, true, true, true, true, true, true, true, true, true, true, true, true, true, true, true, true, true, true, true, true, true, true, true, true, true, true, true, true, true, true, true, true, false, false, false, false, false] [] 5 f307 (by kernel_rfl) trivial (fun act310 f309 => ?_)
                    clear f307
                    rcases Bool.eq_false_or_eq_true ((cmpT tb tc 0 : Int) == 0) with h311 | h311
                    · have q312 := eq_of_beq h311
                      refine AtH.rd (by kernel_rfl) (fun d v c a w h => by cases d <;> exact h) hS213 [45] [[.as_ (.bool true)]] [(87, .bool true)] #[true, true, true, true, true, true, true, true, true, true, true, true, true, true, true, true, true, true, true, true, true, true, true, true, true, true, true, true, true, true, true, true, true, true, true, true, true, true, true, true, true, true, true, true, true, true, false, false, false, false] [((.bool ((cmpT tb tc 0 : Int) == 0) : Value) = .bool true)] 4 f309 (by kernel_rfl) ⟨(congrArg Value.bool h311), trivial⟩ (fun act314 f313 => ?_)
                      clear f309
                      refine AtH.rd (by kernel_rfl) (fun d v c a w h => by cases d <;> exact h) hS213 [46] [[]] [(88, .int .i64 (cmpT ta tc 0))] #[true, true, true, true, true, true, true, true, true, true, true, true, true, true, true, true, true, true, true, true, true, true, true, true, true, true, true, true, true, true, true, true, true, true, true, true, true, true, true, true, true, true, true, true, true, true, true, false, false, false] [] 3 f313 (by kernel_rfl) trivial (fun act316 f315 => ?_)
                      clear f313
                      refine AtH.rd (by kernel_rfl) (fun d v c a w h => by cases d <;> exact h) hS213 [47] [[]] [(89, .bool ((cmpT ta tc 0 : Int) != 0))] #[true, true, true, true, true, true, true, true, true, true, true, true, true, true, true, true, true, true, true, true, true, true, true, true, true, true, true, true, true, true, true, true, true, true, true, true, true, true, true, true, true, true, true, true, true, true, true, true, false, false] [] 2 f315 (by kernel_rfl) trivial (fun act318 f317 => ?_)
                      clear f315
                      refine AtH.rd (by kernel_rfl) (fun d v c a w h => by cases d <;> exact h) hS213 [48] [[]] [(90, .bool ((cmpT ta tc 0 : Int) != 0))] #[true, true, true, true, true, true, true, true, true, true, true, true, true, true, true, true, true, true, true, true, true, true, true, true, true, true, true, true, true, true, true, true, true, true, true, true, true, true, true, true, true, true, true, true, true, true, true, true, true, false] [] 1 f317 (by kernel_rfl) trivial (fun act320 f319 => ?_)
                      clear f317
                      refine AtH.rd (by kernel_rfl) (fun d v c a w h => by cases d <;> exact h) hS213 [49] [[]] [(91, .bool ((cmpT ta tc 0 : Int) != 0))] #[true, true, true, true, true, true, true, true, true, true, true, true, true, true, true, true, true, true, true, true, true, true, true, true, true, true, true, true, true, true, true, true, true, true, true, true, true, true, true, true, true, true, true, true, true, true, true, true, true, true] [] 0 f319 (by kernel_rfl) trivial (fun act322 f321 => ?_)
                      clear f319
                      refine AtH.done (by kernel_rfl) ?_
                      clear hS213
                      refine t_n ?_
                      have f323 := f321.sub (r := [(91, .bool ((cmpT ta tc 0 : Int) != 0)), (8, .slice A55 ((([ta, tb, tc] : List Tup)).length) c56), (6, .bool false), (4, .pointer (some ⟨w1.heap.size, 0, none⟩)), (3, .pointer (some ⟨w.heap.size, 0, none⟩))]) ⟨rfl, rfl, rfl, rfl, rfl, trivial⟩
                      clear f321
                      refine cond_S f323 (t := (cmpT ta tc 0 : Int) != 0) rfl (fun h324 => ?_) (fun h324 => ?_)
                      · have q325 := bne_iff_ne.1 h324
                        exfalso
                        omega
                      · have q326 := bne_eq_false_iff_eq.1 h324
                        refine wp_skip ?_
                        refine t_n ?_
                        have f327 := f323.sub (r := [(8, .slice A55 ((([ta, tb, tc] : List Tup)).length) c56), (4, .pointer (some ⟨w1.heap.size, 0, none⟩)), (3, .pointer (some ⟨w.heap.size, 0, none⟩))]) ⟨rfl, rfl, rfl, trivial⟩
                        exact ⟨f327, e218, bx219, bx220, bx221, bx222, ow223, (by omega)⟩
                    · have q328 := ne_of_beq_false h311
                      exfalso
                      omega
                  · have q329 := ne_of_beq_false h301
                    exfalso
                    omega
              · have q330 := of_decide_eq_false h280
                refine AtH.rd (by kernel_rfl) (fun d v c a w h => by cases d <;> exact h) hS213 [33] [[.as_ (.bool false)]] [(75, .bool false)] #[true, true, true, true, true, true, true, true, true, true, true, true, true, true, true, true, true, true, true, true, true, true, true, true, true, true, true, true, true, true, true, true, true, true, false, false, false, false, false, false, false, false, false, false, false, false, false, false, false, false] [((.bool (decide ((cmpT tb tc 0 : Int) ≥ 0)) : Value) = .bool false)] 16 f278 (by kernel_rfl) ⟨(congrArg Value.bool h280), trivial⟩ (fun act332 f331 => ?_)
                clear f278
                refine AtH.rd (by kernel_rfl) (fun d v c a w h => by cases d <;> exact h) hS213 [34] [[]] [(76, undef)] #[true, true, true, true, true, true, true, true, true, true, true, true, true, true, true, true, true, true, true, true, true, true, true, true, true, true, true, true, true, true, true, true, true, true, true, false, false, false, false, false, false, false, false, false, false, false, false, false, false, false] [] 15 f331 (by kernel_rfl) trivial (fun act334 f333 => ?_)
                clear f331
                refine AtH.rd (by kernel_rfl) (fun d v c a w h => by cases d <;> exact h) hS213 [35] [[]] [(77, undef)] #[true, true, true, true, true, true, true, true, true, true, true, true, true, true, true, true, true, true, true, true, true, true, true, true, true, true, true, true, true, true, true, true, true, true, true, true, false, false, false, false, false, false, false, false, false, false, false, false, false, false] [] 14 f333 (by kernel_rfl) trivial (fun act336 f335 => ?_)
                clear f333
                refine AtH.rd (by kernel_rfl) (fun d v c a w h => by cases d <;> exact h) hS213 [36] [[]] [(78, .bool false)] #[true, true, true, true, true, true, true, true, true, true, true, true, true, true, true, true, true, true, true, true, true, true, true, true, true, true, true, true, true, true, true, true, true, true, true, true, true, false, false, false, false, false, false, false, false, false, false, false, false, false] [] 13 f335 (by kernel_rfl) trivial (fun act338 f337 => ?_)
                clear f335
                refine AtH.rd (by kernel_rfl) (fun d v c a w h => by cases d <;> exact h) hS213 [37] [[]] [(79, .bool false)] #[true, true, true, true, true, true, true, true, true, true, true, true, true, true, true, true, true, true, true, true, true, true, true, true, true, true, true, true, true, true, true, true, true, true, true, true, true, true, false, false, false, false, false, false, false, false, false, false, false, false] [] 12 f337 (by kernel_rfl) trivial (fun act340 f339 => ?_)
                clear f337
                refine AtH.rd (by kernel_rfl) (fun d v c a w h => by cases d <;> exact h) hS213 [38] [[]] [(80, .bool false)] #[true, true, true, true, true, true, true, true, true, true, true, true, true, true, true, true, true, true, true, true, true, true, true, true, true, true, true, true, true, true, true, true, true, true, true, true, true, true, true, false, false, false, false, false, false, false, false, false, false, false] [] 11 f339 (by kernel_rfl) trivial (fun act342 f341 => ?_)
                clear f339
                refine AtH.rd (by kernel_rfl) (fun d v c a w h => by cases d <;> exact h) hS213 [39] [[]] [(81, .int .i64 (cmpT ta tb 0))] #[true, true, true, true, true, true, true, true, true, true, true, true, true, true, true, true, true, true, true, true, true, true, true, true, true, true, true, true, true, true, true, true, true, true, true, true, true, true, true, true, false, false, false, false, false, false, false, false, false, false] [] 10 f341 (by kernel_rfl) trivial (fun act344 f343 => ?_)
                clear f341
                refine AtH.rd (by kernel_rfl) (fun d v c a w h => by cases d <;> exact h) hS213 [40] [[]] [(82, .bool ((cmpT ta tb 0 : Int) == 0))] #[true, true, true, true, true, true, true, true, true, true, true, true, true, true, true, true, true, true, true, true, true, true, true, true, true, true, true, true, true, true, true, true, true, true, true, true, true, true, true, true, true, false, false, false, false, false, false, false, false, false] [] 9 f343 (by kernel_rfl) trivial (fun act346 f345 => ?_)
                clear f343
                rcases Bool.eq_false_or_eq_true ((cmpT ta tb 0 : Int) == 0) with h347 | h347
                · have q348 := eq_of_beq h347
                  refine AtH.rd (by kernel_rfl) (fun d v c a w h => by cases d <;> exact h) hS213 [41] [[.as_ (.bool true)]] [(83, .bool true)] #[true, true, true, true, true, true, true, true, true, true, true, true, true, true, true, true, true, true, true, true, true, true, true, true, true, true, true, true, true, true, true, true, true, true, true, true, true, true, true, true, true, true, false, false, false, false, false, false, false, false] [((.bool ((cmpT ta tb 0 : Int) == 0) : Value) = .bool true)] 8 f345 (by kernel_rfl) ⟨(congrArg Value.bool h347), trivial⟩ (fun act350 f349 => ?_)
                  clear f345
                  refine AtH.rd (by kernel_rfl) (fun d v c a w h => by cases d <;> exact h) hS213 [42] [[]] [(84, .int .i64 (cmpT tb tc 0))] #[true, true, true, true, true, true, true, true, true, true, true, true, true, true, true, true, true, true, true, true, true, true, true, true, true, true, true, true, true, true, true, true, true, true, true, true, true, true, true, true, true, true, true, false, false, false, false, false, false, false] [] 7 f349 (by kernel_rfl) trivial (fun act352 f351 => ?_)
                  clear f349
                  refine AtH.rd (by kernel_rfl) (fun d v c a w h => by cases d <;> exact h) hS213 [43] [[]] [(85, .bool ((cmpT tb tc 0 : Int) == 0))] #[true, true, true, true, true, true, true, true, true, true, true, true, true, true, true, true, true, true, true, true, true, true, true, true, true, true, true, true, true, true, true, true, true, true, true, true, true, true, true, true, true, true, true, true, false, false, false, false, false, false] [] 6 f351 (by kernel_rfl) trivial (fun act354 f353 => ?_)
                  clear f351
                  refine AtH.rd (by kernel_rfl) (fun d v c a w h => by cases d <;> exact h) hS213 [44] [[]] [(86, .bool ((cmpT tb tc 0 : Int) == 0))] #[true, true, true, true, true, true, true, true, true, true, true, true, true, true, true, true, true, true, true, true, true, true, true, true, true, true, true, true, true, true, true, true, true, true, true, true, true, true, true, true, true, true, true, true, true, false, false, false, false, false] [] 5 f353 (by kernel_rfl) trivial (fun act356 f355 => ?_)
                  clear f353
                  rcases Bool.eq_false_or_eq_true ((cmpT tb tc 0 : Int) == 0) with h357 | h357
                  · have q358 := eq_of_beq h357
                    exfalso
                    omega
                  · have q359 := ne_of_beq_false h357
                    refine AtH.rd (by kernel_rfl) (fun d v c a w h => by cases d <;> exact h) hS213 [45] [[.as_ (.bool false)]] [(87, .bool false)] #[true, true, true, true, true, true, true, true, true, true, true, true, true, true, true, true, true, true, true, true, true, true, true, true, true, true, true, true, true, true, true, true, true, true, true, true, true, true, true, true, true, true, true, true, true, true, false, false, false, false] [((.bool ((cmpT tb tc 0 : Int) == 0) : Value) = .bool false)] 4 f355 (by kernel_rfl) ⟨(congrArg Value.bool h357), trivial⟩ (fun act361 f360 => ?_)
                    clear f355
                    refine AtH.rd (by kernel_rfl) (fun d v c a w h => by cases d <;> exact h) hS213 [46] [[]] [(88, undef)] #[true, true, true, true, true, true, true, true, true, true, true, true, true, true, true, true, true, true, true, true, true, true, true, true, true, true, true, true, true, true, true, true, true, true, true, true, true, true, true, true, true, true, true, true, true, true, true, false, false, false] [] 3 f360 (by kernel_rfl) trivial (fun act363 f362 => ?_)
                    clear f360
                    refine AtH.rd (by kernel_rfl) (fun d v c a w h => by cases d <;> exact h) hS213 [47] [[]] [(89, undef)] #[true, true, true, true, true, true, true, true, true, true, true, true, true, true, true, true, true, true, true, true, true, true, true, true, true, true, true, true, true, true, true, true, true, true, true, true, true, true, true, true, true, true, true, true, true, true, true, true, false, false] [] 2 f362 (by kernel_rfl) trivial (fun act365 f364 => ?_)
                    clear f362
                    refine AtH.rd (by kernel_rfl) (fun d v c a w h => by cases d <;> exact h) hS213 [48] [[]] [(90, .bool false)] #[true, true, true, true, true, true, true, true, true, true, true, true, true, true, true, true, true, true, true, true, true, true, true, true, true, true, true, true, true, true, true, true, true, true, true, true, true, true, true, true, true, true, true, true, true, true, true, true, true, false] [] 1 f364 (by kernel_rfl) trivial (fun act367 f366 => ?_)
                    clear f364
                    refine AtH.rd (by kernel_rfl) (fun d v c a w h => by cases d <;> exact h) hS213 [49] [[]] [(91, .bool false)] #[true, true, true, true, true, true, true, true, true, true, true, true, true, true, true, true, true, true, true, true, true, true, true, true, true, true, true, true, true, true, true, true, true, true, true, true, true, true, true, true, true, true, true, true, true, true, true, true, true, true] [] 0 f366 (by kernel_rfl) trivial (fun act369 f368 => ?_)
                    clear f366
                    refine AtH.done (by kernel_rfl) ?_
                    clear hS213
                    refine t_n ?_
                    have f370 := f368.sub (r := [(91, .bool false), (8, .slice A55 ((([ta, tb, tc] : List Tup)).length) c56), (6, .bool false), (4, .pointer (some ⟨w1.heap.size, 0, none⟩)), (3, .pointer (some ⟨w.heap.size, 0, none⟩))]) ⟨rfl, rfl, rfl, rfl, rfl, trivial⟩
                    clear f368
                    refine cond_F f370 rfl ?_
                    refine wp_skip ?_
                    refine t_n ?_
                    have f371 := f370.sub (r := [(8, .slice A55 ((([ta, tb, tc] : List Tup)).length) c56), (4, .pointer (some ⟨w1.heap.size, 0, none⟩)), (3, .pointer (some ⟨w.heap.size, 0, none⟩))]) ⟨rfl, rfl, rfl, trivial⟩
                    exact ⟨f371, e218, bx219, bx220, bx221, bx222, ow223, (by omega)⟩
                · have q372 := ne_of_beq_false h347
                  exfalso
                  omega
            · have q373 := of_decide_eq_false h270
              refine AtH.rd (by kernel_rfl) (fun d v c a w h => by cases d <;> exact h) hS213 [29] [[.as_ (.bool false)]] [(71, .bool false)] #[true, true, true, true, true, true, true, true, true, true, true, true, true, true, true, true, true, true, true, true, true, true, true, true, true, true, true, true, true, true, false, false, false, false, false, false, false, false, false, false, false, false, false, false, false, false, false, false, false, false] [((.bool (decide ((cmpT ta tb 0 : Int) ≥ 0)) : Value) = .bool false)] 20 f268 (by kernel_rfl) ⟨(congrArg Value.bool h270), trivial⟩ (fun act375 f374 => ?_)
              clear f268
              refine AtH.rd (by kernel_rfl) (fun d v c a w h => by cases d <;> exact h) hS213 [30] [[]] [(72, undef)] #[true, true, true, true, true, true, true, true, true, true, true, true, true, true, true, true, true, true, true, true, true, true, true, true, true, true, true, true, true, true, true, false, false, false, false, false, false, false, false, false, false, false, false, false, false, false, false, false, false, false] [] 19 f374 (by kernel_rfl) trivial (fun act377 f376 => ?_)
              clear f374
              refine AtH.rd (by kernel_rfl) (fun d v c a w h => by cases d <;> exact h) hS213 [31] [[]] [(73, undef)] #[true, true, true, true, true, true, true, true, true, true, true, true, true, true, true, true, true, true, true, true, true, true, true, true, true, true, true, true, true, true, true, true, false, false, false, false, false, false, false, false, false, false, false, false, false, false, false, false, false, false] [] 18 f376 (by kernel_rfl) trivial (fun act379 f378 => ?_)
              clear f376
              refine AtH.rd (by kernel_rfl) (fun d v c a w h => by cases d <;> exact h) hS213 [32] [[]] [(74, .bool false)] #[true, true, true, true, true, true, true, true, true, true, true, true, true, true, true, true, true, true, true, true, true, true, true, true, true, true, true, true, true, true, true, true, true, false, false, false, false, false, false, false, false, false, false, false, false, false, false, false, false, false] [] 17 f378 (by kernel_rfl) trivial (fun act381 f380 => ?_)
              clear f378
              refine AtH.rd (by kernel_rfl) (fun d v c a w h => by cases d <;> exact h) hS213 [33] [[]] [(75, .bool false)] #[true, true, true, true, true, true, true, true, true, true, true, true, true, true, true, true, true, true, true, true, true, true, true, true, true, true, true, true, true, true, true, true, true, true, false, false, false, false, false, false, false, false, false, false, false, false, false, false, false, false] [] 16 f380 (by kernel_rfl) trivial (fun act383 f382 => ?_)
              clear f380
              refine AtH.rd (by kernel_rfl) (fun d v c a w h => by cases d <;> exact h) hS213 [34] [[]] [(76, undef)] #[true, true, true, true, true, true, true, true, true, true, true, true, true, true, true, true, true, true, true, true, true, true, true, true, true, true, true, true, true, true, true, true, true, true, true, false, false, false, false, false, false, false, false, false, false, false, false, false, false, false] [] 15 f382 (by kernel_rfl) trivial (fun act385 f384 => ?_)
              clear f382
              refine AtH.rd (by kernel_rfl) (fun d v c a w h => by cases d <;> exact h) hS213 [35] [[]] [(77, undef)] #[true, true, true, true, true, true, true, true, true, true, true, true, true, true, true, true, true, true, true, true, true, true, true, true, true, true, true, true, true, true, true, true, true, true, true, true, false, false, false, false, false, false, false, false, false, false, false, false, false, false] [] 14 f384 (by kernel_rfl) trivial (fun act387 f386 => ?_)
              clear f384
              refine AtH.rd (by kernel_rfl) (fun d v c a w h => by cases d <;> exact h) hS213 [36] [[]] [(78, .bool false)] #[true, true, true, true, true, true, true, true, true, true, true, true, true, true, true, true, true, true, true, true, true, true, true, true, true, true, true, true, true, true, true, true, true, true, true, true, true, false, false, false, false, false, false, false, false, false, false, false, false, false] [] 13 f386 (by kernel_rfl) trivial (fun act389 f388 => ?_)
              clear f386
              refine AtH.rd (by kernel_rfl) (fun d v c a w h => by cases d <;> exact h) hS213 [37] [[]] [(79, .bool false)] #[true, true, true, true, true, true, true, true, true, true, true, true, true, true, true, true, true, true, true, true, true, true, true, true, true, true, true, true, true, true, true, true, true, true, true, true, true, true, false, false, false, false, false, false, false, false, false, false, false, false] [] 12 f388 (by kernel_rfl) trivial (fun act391 f390 => ?_)
              clear f388
              refine AtH.rd (by kernel_rfl) (fun d v c a w h => by cases d <;> exact h) hS213 [38] [[]] [(80, .bool false)] #[true, true, true, true, true, true, true, true, true, true, true, true, true, true, true, true, true, true, true, true, true, true, true, true, true, true, true, true, true, true, true, true, true, true, true, true, true, true, true, false, false, false, false, false, false, false, false, false, false, false] [] 11 f390 (by kernel_rfl) trivial (fun act393 f392 => ?_)
              clear f390
              refine AtH.rd (by kernel_rfl) (fun d v c a w h => by cases d <;> exact h) hS213 [39] [[]] [(81, .int .i64 (cmpT ta tb 0))] #[true, true, true, true, true, true, true, true, true, true, true, true, true, true, true, true, true, true, true, true, true, true, true, true, true, true, true, true, true, true, true, true, true, true, true, true, true, true, true, true, false, false, false, false, false, false, false, false, false, false] [] 10 f392 (by kernel_rfl) trivial (fun act395 f394 => ?_)
              clear f392
              refine AtH.rd (by kernel_rfl) (fun d v c a w h => by cases d <;> exact h) hS213 [40] [[]] [(82, .bool ((cmpT ta tb 0 : Int) == 0))] #[true, true, true, true, true, true, true, true, true, true, true, true, true, true, true, true, true, true, true, true, true, true, true, true, true, true, true, true, true, true, true, true, true, true, true, true, true, true, true, true, true, false, false, false, false, false, false, false, false, false] [] 9 f394 (by kernel_rfl) trivial (fun act397 f396 => ?_)
              clear f394
              rcases Bool.eq_false_or_eq_true ((cmpT ta tb 0 : Int) == 0) with h398 | h398
              · have q399 := eq_of_beq h398
                exfalso
                omega
              · have q400 := ne_of_beq_false h398
                refine AtH.rd (by kernel_rfl) (fun d v c a w h => by cases d <;> exact h) hS213 [41] [[.as_ (.bool false)]] [(83, .bool false)] #[true, true, true, true, true, true, true, true, true, true, true, true, true, true, true, true, true, true, true, true, true, true, true, true, true, true, true, true, true, true, true, true, true, true, true, true, true, true, true, true, true, true, false, false, false, false, false, false, false, false] [((.bool ((cmpT ta tb 0 : Int) == 0) : Value) = .bool false)] 8 f396 (by kernel_rfl) ⟨(congrArg Value.bool h398), trivial⟩ (fun act402 f401 => ?_)
                clear f396
                refine AtH.rd (by kernel_rfl) (fun d v c a w h => by cases d <;> exact h) hS213 [42] [[]] [(84, undef)] #[true, true, true, true, true, true, true, true, true, true, true, true, true, true, true, true, true, true, true, true, true, true, true, true, true, true, true, true, true, true, true, true, true, true, true, true, true, true, true, true, true, true, true, false, false, false, false, false, false, false] [] 7 f401 (by kernel_rfl) trivial (fun act404 f403 => ?_)
                clear f401
                refine AtH.rd (by kernel_rfl) (fun d v c a w h => by cases d <;> exact h) hS213 [43] [[]] [(85, undef)] #[true, true, true, true, true, true, true, true, true, true, true, true, true, true, true, true, true, true, true, true, true, true, true, true, true, true, true, true, true, true, true, true, true, true, true, true, true, true, true, true, true, true, true, true, false, false, false, false, false, false] [] 6 f403 (by kernel_rfl) trivial (fun act406 f405 => ?_)
                clear f403
                refine AtH.rd (by kernel_rfl) (fun d v c a w h => by cases d <;> exact h) hS213 [44] [[]] [(86, .bool false)] #[true, true, true, true, true, true, true, true, true, true, true, true, true, true, true, true, true, true, true, true, true, true, true, true, true, true, true, true, true, true, true, true, true, true, true, true, true, true, true, true, true, true, true, true, true, false, false, false, false, false] [] 5 f405 (by kernel_rfl) trivial (fun act408 f407 => ?_)
                clear f405
                refine AtH.rd (by kernel_rfl) (fun d v c a w h => by cases d <;> exact h) hS213 [45] [[]] [(87, .bool false)] #[true, true, true, true, true, true, true, true, true, true, true, true, true, true, true, true, true, true, true, true, true, true, true, true, true, true, true, true, true, true, true, true, true, true, true, true, true, true, true, true, true, true, true, true, true, true, false, false, false, false] [] 4 f407 (by kernel_rfl) trivial (fun act410 f409 => ?_)
                clear f407
                refine AtH.rd (by kernel_rfl) (fun d v c a w h => by cases d <;> exact h) hS213 [46] [[]] [(88, undef)] #[true, true, true, true, true, true, true, true, true, true, true, true, true, true, true, true, true, true, true, true, true, true, true, true, true, true, true, true, true, true, true, true, true, true, true, true, true, true, true, true, true, true, true, true, true, true, true, false, false, false] [] 3 f409 (by kernel_rfl) trivial (fun act412 f411 => ?_)
                clear f409
                refine AtH.rd (by kernel_rfl) (fun d v c a w h => by cases d <;> exact h) hS213 [47] [[]] [(89, undef)] #[true, true, true, true, true, true, true, true, true, true, true, true, true, true, true, true, true, true, true, true, true, true, true, true, true, true, true, true, true, true, true, true, true, true, true, true, true, true, true, true, true, true, true, true, true, true, true, true, false, false] [] 2 f411 (by kernel_rfl) trivial (fun act414 f413 => ?_)
                clear f411
                refine AtH.rd (by kernel_rfl) (fun d v c a w h => by cases d <;> exact h) hS213 [48] [[]] [(90, .bool false)] #[true, true, true, true, true, true, true, true, true, true, true, true, true, true, true, true, true, true, true, true, true, true, true, true, true, true, true, true, true, true, true, true, true, true, true, true, true, true, true, true, true, true, true, true, true, true, true, true, true, false] [] 1 f413 (by kernel_rfl) trivial (fun act416 f415 => ?_)
                clear f413
                refine AtH.rd (by kernel_rfl) (fun d v c a w h => by cases d <;> exact h) hS213 [49] [[]] [(91, .bool false)] #[true, true, true, true, true, true, true, true, true, true, true, true, true, true, true, true, true, true, true, true, true, true, true, true, true, true, true, true, true, true, true, true, true, true, true, true, true, true, true, true, true, true, true, true, true, true, true, true, true, true] [] 0 f415 (by kernel_rfl) trivial (fun act418 f417 => ?_)
                clear f415
                refine AtH.done (by kernel_rfl) ?_
                clear hS213
                refine t_n ?_
                have f419 := f417.sub (r := [(91, .bool false), (8, .slice A55 ((([ta, tb, tc] : List Tup)).length) c56), (6, .bool false), (4, .pointer (some ⟨w1.heap.size, 0, none⟩)), (3, .pointer (some ⟨w.heap.size, 0, none⟩))]) ⟨rfl, rfl, rfl, rfl, rfl, trivial⟩
                clear f417
                refine cond_F f419 rfl ?_
                refine wp_skip ?_
                refine t_n ?_
                have f420 := f419.sub (r := [(8, .slice A55 ((([ta, tb, tc] : List Tup)).length) c56), (4, .pointer (some ⟨w1.heap.size, 0, none⟩)), (3, .pointer (some ⟨w.heap.size, 0, none⟩))]) ⟨rfl, rfl, rfl, trivial⟩
                exact ⟨f420, e218, bx219, bx220, bx221, bx222, ow223, (by omega)⟩
        · have q421 := of_decide_eq_false h249
          refine AtH.rd (by kernel_rfl) (fun d v c a w h => by cases d <;> exact h) hS213 [21] [[.as_ (.bool false)]] [(63, .bool false)] #[true, true, true, true, true, true, true, true, true, true, true, true, true, true, true, true, true, true, true, true, true, true, false, false, false, false, false, false, false, false, false, false, false, false, false, false, false, false, false, false, false, false, false, false, false, false, false, false, false, false] [((.bool (decide ((cmpT tb tc 0 : Int) ≤ 0)) : Value) = .bool false)] 28 f247 (by kernel_rfl) ⟨(congrArg Value.bool h249), trivial⟩ (fun act423 f422 => ?_)
          clear f247
          refine AtH.rd (by kernel_rfl) (fun d v c a w h => by cases d <;> exact h) hS213 [22] [[]] [(64, undef)] #[true, true, true, true, true, true, true, true, true, true, true, true, true, true, true, true, true, true, true, true, true, true, true, false, false, false, false, false, false, false, false, false, false, false, false, false, false, false, false, false, false, false, false, false, false, false, false, false, false, false] [] 27 f422 (by kernel_rfl) trivial (fun act425 f424 => ?_)
          clear f422
          refine AtH.rd (by kernel_rfl) (fun d v c a w h => by cases d <;> exact h) hS213 [23] [[]] [(65, undef)] #[true, true, true, true, true, true, true, true, true, true, true, true, true, true, true, true, true, true, true, true, true, true, true, true, false, false, false, false, false, false, false, false, false, false, false, false, false, false, false, false, false, false, false, false, false, false, false, false, false, false] [] 26 f424 (by kernel_rfl) trivial (fun act427 f426 => ?_)
          clear f424
          refine AtH.rd (by kernel_rfl) (fun d v c a w h => by cases d <;> exact h) hS213 [24] [[]] [(66, .bool false)] #[true, true, true, true, true, true, true, true, true, true, true, true, true, true, true, true, true, true, true, true, true, true, true, true, true, false, false, false, false, false, false, false, false, false, false, false, false, false, false, false, false, false, false, false, false, false, false, false, false, false] [] 25 f426 (by kernel_rfl) trivial (fun act429 f428 => ?_)
          clear f426
          refine AtH.rd (by kernel_rfl) (fun d v c a w h => by cases d <;> exact h) hS213 [25] [[]] [(67, .bool false)] #[true, true, true, true, true, true, true, true, true, true, true, true, true, true, true, true, true, true, true, true, true, true, true, true, true, true, false, false, false, false, false, false, false, false, false, false, false, false, false, false, false, false, false, false, false, false, false, false, false, false] [] 24 f428 (by kernel_rfl) trivial (fun act431 f430 => ?_)
          clear f428
          refine AtH.rd (by kernel_rfl) (fun d v c a w h => by cases d <;> exact h) hS213 [26] [[]] [(68, .bool false)] #[true, true, true, true, true, true, true, true, true, true, true, true, true, true, true, true, true, true, true, true, true, true, true, true, true, true, true, false, false, false, false, false, false, false, false, false, false, false, false, false, false, false, false, false, false, false, false, false, false, false] [] 23 f430 (by kernel_rfl) trivial (fun act433 f432 => ?_)
          clear f430
          refine AtH.rd (by kernel_rfl) (fun d v c a w h => by cases d <;> exact h) hS213 [27] [[]] [(69, .int .i64 (cmpT ta tb 0))] #[true, true, true, true, true, true, true, true, true, true, true, true, true, true, true, true, true, true, true, true, true, true, true, true, true, true, true, true, false, false, false, false, false, false, false, false, false, false, false, false, false, false, false, false, false, false, false, false, false, false] [] 22 f432 (by kernel_rfl) trivial (fun act435 f434 => ?_)
          clear f432
          refine AtH.rd (by kernel_rfl) (fun d v c a w h => by cases d <;> exact h) hS213 [28] [[]] [(70, .bool (decide ((cmpT ta tb 0 : Int) ≥ 0)))] #[true, true, true, true, true, true, true, true, true, true, true, true, true, true, true, true, true, true, true, true, true, true, true, true, true, true, true, true, true, false, false, false, false, false, false, false, false, false, false, false, false, false, false, false, false, false, false, false, false, false] [] 21 f434 (by kernel_rfl) trivial (fun act437 f436 => ?_)
          clear f434
          rcases Bool.eq_false_or_eq_true (decide ((cmpT ta tb 0 : Int) ≥ 0)) with h438 | h438
          · have q439 := of_decide_eq_true h438
            refine AtH.rd (by kernel_rfl) (fun d v c a w h => by cases d <;> exact h) hS213 [29] [[.as_ (.bool true)]] [(71, .bool true)] #[true, true, true, true, true, true, true, true, true, true, true, true, true, true, true, true, true, true, true, true, true, true, true, true, true, true, true, true, true, true, false, false, false, false, false, false, false, false, false, false, false, false, false, false, false, false, false, false, false, false] [((.bool (decide ((cmpT ta tb 0 : Int) ≥ 0)) : Value) = .bool true)] 20 f436 (by kernel_rfl) ⟨(congrArg Value.bool h438), trivial⟩ (fun act441 f440 => ?_)
            clear f436
            refine AtH.rd (by kernel_rfl) (fun d v c a w h => by cases d <;> exact h) hS213 [30] [[]] [(72, .int .i64 (cmpT tb tc 0))] #[true, true, true, true, true, true, true, true, true, true, true, true, true, true, true, true, true, true, true, true, true, true, true, true, true, true, true, true, true, true, true, false, false, false, false, false, false, false, false, false, false, false, false, false, false, false, false, false, false, false] [] 19 f440 (by kernel_rfl) trivial (fun act443 f442 => ?_)
            clear f440
            refine AtH.rd (by kernel_rfl) (fun d v c a w h => by cases d <;> exact h) hS213 [31] [[]] [(73, .bool (decide ((cmpT tb tc 0 : Int) ≥ 0)))] #[true, true, true, true, true, true, true, true, true, true, true, true, true, true, true, true, true, true, true, true, true, true, true, true, true, true, true, true, true, true, true, true, false, false, false, false, false, false, false, false, false, false, false, false, false, false, false, false, false, false] [] 18 f442 (by kernel_rfl) trivial (fun act445 f444 => ?_)
            clear f442
            refine AtH.rd (by kernel_rfl) (fun d v c a w h => by cases d <;> exact h) hS213 [32] [[]] [(74, .bool (decide ((cmpT tb tc 0 : Int) ≥ 0)))] #[true, true, true, true, true, true, true, true, true, true, true, true, true, true, true, true, true, true, true, true, true, true, true, true, true, true, true, true, true, true, true, true, true, false, false, false, false, false, false, false, false, false, false, false, false, false, false, false, false, false] [] 17 f444 (by kernel_rfl) trivial (fun act447 f446 => ?_)
            clear f444
            rcases Bool.eq_false_or_eq_true (decide ((cmpT tb tc 0 : Int) ≥ 0)) with h448 | h448
            · have q449 := of_decide_eq_true h448
              refine AtH.rd (by kernel_rfl) (fun d v c a w h => by cases d <;> exact h) hS213 [33] [[.as_ (.bool true)]] [(75, .bool true)] #[true, true, true, true, true, true, true, true, true, true, true, true, true, true, true, true, true, true, true, true, true, true, true, true, true, true, true, true, true, true, true, true, true, true, false, false, false, false, false, false, false, false, false, false, false, false, false, false, false, false] [((.bool (decide ((cmpT tb tc 0 : Int) ≥ 0)) : Value) = .bool true)] 16 f446 (by kernel_rfl) ⟨(congrArg Value.bool h448), trivial⟩ (fun act451 f450 => ?_)
              clear f446
              refine AtH.rd (by kernel_rfl) (fun d v c a w h => by cases d <;> exact h) hS213 [34] [[]] [(76, .int .i64 (cmpT ta tc 0))] #[true, true, true, true, true, true, true, true, true, true, true, true, true, true, true, true, true, true, true, true, true, true, true, true, true, true, true, true, true, true, true, true, true, true, true, false, false, false, false, false, false, false, false, false, false, false, false, false, false, false] [] 15 f450 (by kernel_rfl) trivial (fun act453 f452 => ?_)
              clear f450
              refine AtH.rd (by kernel_rfl) (fun d v c a w h => by cases d <;> exact h) hS213 [35] [[]] [(77, .bool (decide ((cmpT ta tc 0 : Int) < 0)))] #[true, true, true, true, true, true, true, true, true, true, true, true, true, true, true, true, true, true, true, true, true, true, true, true, true, true, true, true, true, true, true, true, true, true, true, true, false, false, false, false, false, false, false, false, false, false, false, false, false, false] [] 14 f452 (by kernel_rfl) trivial (fun act455 f454 => ?_)
              clear f452
              refine AtH.rd (by kernel_rfl) (fun d v c a w h => by cases d <;> exact h) hS213 [36] [[]] [(78, .bool (decide ((cmpT ta tc 0 : Int) < 0)))] #[true, true, true, true, true, true, true, true, true, true, true, true, true, true, true, true, true, true, true, true, true, true, true, true, true, true, true, true, true, true, true, true, true, true, true, true, true, false, false, false, false, false, false, false, false, false, false, false, false, false] [] 13 f454 (by kernel_rfl) trivial (fun act457 f456 => ?_)
              clear f454
              refine AtH.rd (by kernel_rfl) (fun d v c a w h => by cases d <;> exact h) hS213 [37] [[]] [(79, .bool (decide ((cmpT ta tc 0 : Int) < 0)))] #[true, true, true, true, true, true, true, true, true, true, true, true, true, true, true, true, true, true, true, true, true, true, true, true, true, true, true, true, true, true, true, true, true, true, true, true, true, true, false, false, false, false, false, false, false, false, false, false, false, false] [] 12 f456 (by kernel_rfl) trivial (fun act459 f458 => ?_)
              clear f456
              rcases Bool.eq_false_or_eq_true (decide ((cmpT ta tc 0 : Int) < 0)) with h460 | h460
              · have q461 := of_decide_eq_true h460
                exfalso
                omega
              · have q462 := of_decide_eq_false h460
                refine AtH.rd (by kernel_rfl) (fun d v c a w h => by cases d <;> exact h) hS213 [38] [[.as_ (.bool false)]] [(80, .bool false)] #[true, true, true, true, true, true, true, true, true, true, true, true, true, true, true, true, true, true, true, true, true, true, true, true, true, true, true, true, true, true, true, true, true, true, true, true, true, true, true, false, false, false, false, false, false, false, false, false, false, false] [((.bool (decide ((cmpT ta tc 0 : Int) < 0)) : Value) = .bool false)] 11 f458 (by kernel_rfl) ⟨(congrArg Value.bool h460), trivial⟩ (fun act464 f463 => ?_)
                clear f458
                refine AtH.rd (by kernel_rfl) (fun d v c a w h => by cases d <;> exact h) hS213 [39] [[]] [(81, .int .i64 (cmpT ta tb 0))] #[true, true, true, true, true, true, true, true, true, true, true, true, true, true, true, true, true, true, true, true, true, true, true, true, true, true, true, true, true, true, true, true, true, true, true, true, true, true, true, true, false, false, false, false, false, false, false, false, false, false] [] 10 f463 (by kernel_rfl) trivial (fun act466 f465 => ?_)
                clear f463
                refine AtH.rd (by kernel_rfl) (fun d v c a w h => by cases d <;> exact h) hS213 [40] [[]] [(82, .bool ((cmpT ta tb 0 : Int) == 0))] #[true, true, true, true, true, true, true, true, true, true, true, true, true, true, true, true, true, true, true, true, true, true, true, true, true, true, true, true, true, true, true, true, true, true, true, true, true, true, true, true, true, false, false, false, false, false, false, false, false, false] [] 9 f465 (by kernel_rfl) trivial (fun act468 f467 => ?_)
                clear f465
                rcases Bool.eq_false_or_eq_true ((cmpT ta tb 0 : Int) == 0) with h469 | h469
                · have q470 := eq_of_beq h469
                  refine AtH.rd (by kernel_rfl) (fun d v c a w h => by cases d <;> exact h) hS213 [41] [[.as_ (.bool true)]] [(83, .bool true)] #[true, true, true, true, true, true, true, true, true, true, true, true, true, true, true, true, true, true, true, true, true, true, true, true, true, true, true, true, true, true, true, true, true, true, true, true, true, true, true, true, true, true, false, false, false, false, false, false, false, false] [((.bool ((cmpT ta tb 0 : Int) == 0) : Value) = .bool true)] 8 f467 (by kernel_rfl) ⟨(congrArg Value.bool h469), trivial⟩ (fun act472 f471 => ?_)
                  clear f467
                  refine AtH.rd (by kernel_rfl) (fun d v c a w h => by cases d <;> exact h) hS213 [42] [[]] [(84, .int .i64 (cmpT tb tc 0))] #[true, true, true, true, true, true, true, true, true, true, true, true, true, true, true, true, true, true, true, true, true, true, true, true, true, true, true, true, true, true, true, true, true, true, true, true, true, true, true, true, true, true, true, false, false, false, false, false, false, false] [] 7 f471 (by kernel_rfl) trivial (fun act474 f473 => ?_)
                  clear f471
                  refine AtH.rd (by kernel_rfl) (fun d v c a w h => by cases d <;> exact h) hS213 [43] [[]] [(85, .bool ((cmpT tb tc 0 : Int) == 0))] #[true, true, true, true, true, true, true, true, true, true, true, true, true, true, true, true, true, true, true, true, true, true, true, true, true, true, true, true, true, true, true, true, true, true, true, true, true, true, true, true, true, true, true, true, false, false, false, false, false, false] [] 6 f473 (by kernel_rfl) trivial (fun act476 f475 => ?_)
                  clear f473
                  refine AtH.rd (by kernel_rfl) (fun d v c a w h => by cases d <;> exact h) hS213 [44] [[]] [(86, .bool ((cmpT tb tc 0 : Int) == 0))] #[true, true, true, true, true, true, true, true, true, true, true, true, true, true, true, true, true, true, true, true, true, true, true, true, true, true, true, true, true, true, true, true, true, true, true, true, true, true, true, true, true, true, true, true, true, false, false, false, false, false] [] 5 f475 (by kernel_rfl) trivial (fun act478 f477 => ?_)
                  clear f475
                  rcases Bool.eq_false_or_eq_true ((cmpT tb tc 0 : Int) == 0) with h479 | h479
                  · have q480 := eq_of_beq h479
                    exfalso
                    omega
                  · have q481 := ne_of_beq_false h479
                    refine AtH.rd (by kernel_rfl) (fun d v c a w h => by cases d <;> exact h) hS213 [45] [[.as_ (.bool false)]] [(87, .bool false)] #[true, true, true, true, true, true, true, true, true, true, true, true, true, true, true, true, true, true, true, true, true, true, true, true, true, true, true, true, true, true, true, true, true, true, true, true, true, true, true, true, true, true, true, true, true, true, false, false, false, false] [((.bool ((cmpT tb tc 0 : Int) == 0) : Value) = .bool false)] 4 f477 (by kernel_rfl) ⟨(congrArg Value.bool h479), trivial⟩ (fun act483 f482 => ?_)
                    clear f477
                    refine AtH.rd (by kernel_rfl) (fun d v c a w h => by cases d <;> exact h) hS213 [46] [[]] [(88, undef)] #[true, true, true, true, true, true, true, true, true, true, true, true, true, true, true, true, true, true, true, true, true, true, true, true, true, true, true, true, true, true, true, true, true, true, true, true, true, true, true, true, true, true, true, true, true, true, true, false, false, false] [] 3 f482 (by kernel_rfl) trivial (fun act485 f484 => ?_)
                    clear f482
                    refine AtH.rd (by kernel_rfl) (fun d v c a w h => by cases d <;> exact h) hS213 [47] [[]] [(89, undef)] #[true, true, true, true, true, true, true, true, true, true, true, true, true, true, true, true, true, true, true, true, true, true, true, true, true, true, true, true, true, true, true, true, true, true, true, true, true, true, true, true, true, true, true, true, true, true, true, true, false, false] [] 2 f484 (by kernel_rfl) trivial (fun act487 f486 => ?_)
                    clear f484
                    refine AtH.rd (by kernel_rfl) (fun d v c a w h => by cases d <;> exact h) hS213 [48] [[]] [(90, .bool false)] #[true, true, true, true, true, true, true, true, true, true, true, true, true, true, true, true, true, true, true, true, true, true, true, true, true, true, true, true, true, true, true, true, true, true, true, true, true, true, true, true, true, true, true, true, true, true, true, true, true, false] [] 1 f486 (by kernel_rfl) trivial (fun act489 f488 => ?_)
                    clear f486
                    refine AtH.rd (by kernel_rfl) (fun d v c a w h => by cases d <;> exact h) hS213 [49] [[]] [(91, .bool false)] #[true, true, true, true, true, true, true, true, true, true, true, true, true, true, true, true, true, true, true, true, true, true, true, true, true, true, true, true, true, true, true, true, true, true, true, true, true, true, true, true, true, true, true, true, true, true, true, true, true, true] [] 0 f488 (by kernel_rfl) trivial (fun act491 f490 => ?_)
                    clear f488
                    refine AtH.done (by kernel_rfl) ?_
                    clear hS213
                    refine t_n ?_
                    have f492 := f490.sub (r := [(91, .bool false), (8, .slice A55 ((([ta, tb, tc] : List Tup)).length) c56), (6, .bool false), (4, .pointer (some ⟨w1.heap.size, 0, none⟩)), (3, .pointer (some ⟨w.heap.size, 0, none⟩))]) ⟨rfl, rfl, rfl, rfl, rfl, trivial⟩
                    clear f490
                    refine cond_F f492 rfl ?_
                    refine wp_skip ?_
                    refine t_n ?_
                    have f493 := f492.sub (r := [(8, .slice A55 ((([ta, tb, tc] : List Tup)).length) c56), (4, .pointer (some ⟨w1.heap.size, 0, none⟩)), (3, .pointer (some ⟨w.heap.size, 0, none⟩))]) ⟨rfl, rfl, rfl, trivial⟩
                    exact ⟨f493, e218, bx219, bx220, bx221, bx222, ow223, (by omega)⟩
                · have q494 := ne_of_beq_false h469
                  exfalso
                  omega
            · have q495 := of_decide_eq_false h448
              exfalso
              omega
          · have q496 := of_decide_eq_false h438
            refine AtH.rd (by kernel_rfl) (fun d v c a w h => by cases d <;> exact h) hS213 [29] [[.as_ (.bool false)]] [(71, .bool false)] #[true, true, true, true, true, true, true, true, true, true, true, true, true, true, true, true, true, true, true, true, true, true, true, true, true, true, true, true, true, true, false, false, false, false, false, false, false, false, false, false, false, false, false, false, false, false, false, false, false, false] [((.bool (decide ((cmpT ta tb 0 : Int) ≥ 0)) : Value) = .bool false)] 20 f436 (by kernel_rfl) ⟨(congrArg Value.bool h438), trivial⟩ (fun act498 f497 => ?_)
            clear f436
            refine AtH.rd (by kernel_rfl) (fun d v c a w h => by cases d <;> exact h) hS213 [30] [[]] [(72, undef)] #[true, true, true, true, true, true, true, true, true, true, true, true, true, true, true, true, true, true, true, true, true, true, true, true, true, true, true, true, true, true, true, false, false, false, false, false, false, false, false, false, false, false, false, false, false, false, false, false, false, false] [] 19 f497 (by kernel_rfl) trivial (fun act500 f499 => ?_)
            clear f497
            refine AtH.rd (by kernel_rfl) (fun d v c a w h => by cases d <;> exact h) hS213 [31] [[]] [(73, undef)] #[true, true, true, true, true, true, true, true, true, true, true, true, true, true, true, true, true, true, true, true, true, true, true, true, true, true, true, true, true, true, true, true, false, false, false, false, false, false, false, false, false, false, false, false, false, false, false, false, false, false] [] 18 f499 (by kernel_rfl) trivial (fun act502 f501 => ?_)
            clear f499
            refine AtH.rd (by kernel_rfl) (fun d v c a w h => by cases d <;> exact h) hS213 [32] [[]] [(74, .bool false)] #[true, true, true, true, true, true, true, true, true, true, true, true, true, true, true, true, true, true, true, true, true, true, true, true, true, true, true, true, true, true, true, true, true, false, false, false, false, false, false, false, false, false, false, false, false, false, false, false, false, false] [] 17 f501 (by kernel_rfl) trivial (fun act504 f503 => ?_)
            clear f501
            refine AtH.rd (by kernel_rfl) (fun d v c a w h => by cases d <;> exact h) hS213 [33] [[]] [(75, .bool false)] #[true, true, true, true, true, true, true, true, true, true, true, true, true, true, true, true, true, true, true, true, true, true, true, true, true, true, true, true, true, true, true, true, true, true, false, false, false, false, false, false, false, false, false, false, false, false, false, false, false, false] [] 16 f503 (by kernel_rfl) trivial (fun act506 f505 => ?_)
            clear f503
            refine AtH.rd (by kernel_rfl) (fun d v c a w h => by cases d <;> exact h) hS213 [34] [[]] [(76, undef)] #[true, true, true, true, true, true, true, true, true, true, true, true, true, true, true, true, true, true, true, true, true, true, true, true, true, true, true, true, true, true, true, true, true, true, true, false, false, false, false, false, false, false, false, false, false, false, false, false, false, false] [] 15 f505 (by kernel_rfl) trivial (fun act508 f507 => ?_)
            clear f505
            refine AtH.rd (by kernel_rfl) (fun d v c a w h => by cases d <;> exact h) hS213 [35] [[]] [(77, undef)] #[true, true, true, true, true, true, true, true, true, true, true, true, true, true, true, true, true, true, true, true, true, true, true, true, true, true, true, true, true, true, true, true, true, true, true, true, false, false, false, false, false, false, false, false, false, false, false, false, false, false] [] 14 f507 (by kernel_rfl) trivial (fun act510 f509 => ?_)
            clear f507
            refine AtH.rd (by kernel_rfl) (fun d v c a w h => by cases d <;> exact h) hS213 [36] [[]] [(78, .bool false)] #[true, true, true, true, true, true, true, true, true, true, true, true, true, true, true, true, true, true, true, true, true, true, true, true, true, true, true, true, true, true, true, true, true, true, true, true, true, false, false, false, false, false, false, false, false, false, false, false, false, false] [] 13 f509 (by kernel_rfl) trivial (fun act512 f511 => ?_)
            clear f509
            refine AtH.rd (by kernel_rfl) (fun d v c a w h => by cases d <;> exact h) hS213 [37] [[]] [(79, .bool false)] #[true, true, true, true, true, true, true, true, true, true, true, true, true, true, true, true, true, true, true, true, true, true, true, true, true, true, true, true, true, true, true, true, true, true, true, true, true, true, false, false, false, false, false, false, false, false, false, false, false, false] [] 12 f511 (by kernel_rfl) trivial (fun act514 f513 => ?_)
            clear f511
            refine AtH.rd (by kernel_rfl) (fun d v c a w h => by cases d <;> exact h) hS213 [38] [[]] [(80, .bool false)] #[true, true, true, true, true, true, true, true, true, true, true, true, true, true, true, true, true, true, true, true, true, true, true, true, true, true, true, true, true, true, true, true, true, true, true, true, true, true, true, false, false, false, false, false, false, false, false, false, false, false] [] 11 f513 (by kernel_rfl) trivial (fun act516 f515 => ?_)
            clear f513
            refine AtH.rd (by kernel_rfl) (fun d v c a w h => by cases d <;> exact h) hS213 [39] [[]] [(81, .int .i64 (cmpT ta tb 0))] #[true, true, true, true, true, true, true, true, true, true, true, true, true, true, true, true, true, true, true, true, true, true, true, true, true, true, true, true, true, true, true, true, true, true, true, true, true, true, true, true, false, false, false, false, false, false, false, false, false, false] [] 10 f515 (by kernel_rfl) trivial (fun act518 f517 => ?_)
            clear f515
            refine AtH.rd (by kernel_rfl) (fun d v c a w h => by cases d <;> exact h) hS213 [40] [[]] [(82, .bool ((cmpT ta tb 0 : Int) == 0))] #[true, true, true, true, true, true, true, true, true, true, true, true, true, true, true, true, true, true, true, true, true, true, true, true, true, true, true, true, true, true, true, true, true, true, true, true, true, true, true, true, true, false, false, false, false, false, false, false, false, false] [] 9 f517 (by kernel_rfl) trivial (fun act520 f519 => ?_)
            clear f517
            rcases Bool.eq_false_or_eq_true ((cmpT ta tb 0 : Int) == 0) with h521 | h521
            · have q522 := eq_of_beq h521
              exfalso
              omega
            · have q523 := ne_of_beq_false h521
              refine AtH.rd (by kernel_rfl) (fun d v c a w h => by cases d <;> exact h) hS213 [41] [[.as_ (.bool false)]] [(83, .bool false)] #[true, true, true, true, true, true, true, true, true, true, true, true, true, true, true, true, true, true, true, true, true, true, true, true, true, true, true, true, true, true, true, true, true, true, true, true, true, true, true, true, true, true, false, false, false, false, false, false, false, false] [((.bool ((cmpT ta tb 0 : Int) == 0) : Value) = .bool false)] 8 f519 (by kernel_rfl) ⟨(congrArg Value.bool h521), trivial⟩ (fun act525 f524 => ?_)
              clear f519
              refine AtH.rd (by kernel_rfl) (fun d v c a w h => by cases d <;> exact h) hS213 [42] [[]] [(84, undef)] #[true, true, true, true, true, true, true, true, true, true, true, true, true, true, true, true, true, true, true, true, true, true, true, true, true, true, true, true, true, true, true, true, true, true, true, true, true, true, true, true, true, true, true, false, false, false, false, false, false, false] [] 7 f524 (by kernel_rfl) trivial (fun act527 f526 => ?_)
              clear f524
              refine AtH.rd (by kernel_rfl) (fun d v c a w h => by cases d <;> exact h) hS213 [43] [[]] [(85, undef)] #[true, true, true, true, true, true, true, true, true, true, true, true, true, true, true, true, true, true, true, true, true, true, true, true, true, true, true, true, true, true, true, true, true, true, true, true, true, true, true, true, true, true, true, true, false, false, false, false, false, false] [] 6 f526 (by kernel_rfl) trivial (fun act529 f528 => ?_)
              clear f526
              refine AtH.rd (by kernel_rfl) (fun d v c a w h => by cases d <;> exact h) hS213 [44] [[]] [(86, .bool false)] #[true, true, true, true, true, true, true, true, true, true, true, true, true, true, true, true, true, true, true, true, true, true, true, true, true, true, true, true, true, true, true, true, true, true, true, true, true, true, true, true, true, true, true, true, true, false, false, false, false, false] [] 5 f528 (by kernel_rfl) trivial (fun act531 f530 => ?_)
              clear f528
              refine AtH.rd (by kernel_rfl) (fun d v c a w h => by cases d <;> exact h) hS213 [45] [[]] [(87, .bool false)] #[true, true, true, true, true, true, true, true, true, true, true, true, true, true, true, true, true, true, true, true, true, true, true, true, true, true, true, true, true, true, true, true, true, true, true, true, true, true, true, true, true, true, true, true, true, true, false, false, false, false] [] 4 f530 (by kernel_rfl) trivial (fun act533 f532 => ?_)
              clear f530
              refine AtH.rd (by kernel_rfl) (fun d v c a w h => by cases d <;> exact h) hS213 [46] [[]] [(88, undef)] #[true, true, true, true, true, true, true, true, true, true, true, true, true, true, true, true, true, true, true, true, true, true, true, true, true, true, true, true, true, true, true, true, true, true, true, true, true, true, true, true, true, true, true, true, true, true, true, false, false, false] [] 3 f532 (by kernel_rfl) trivial (fun act535 f534 => ?_)
              clear f532
              refine AtH.rd (by kernel_rfl) (fun d v c a w h => by cases d <;> exact h) hS213 [47] [[]] [(89, undef)] #[true, true, true, true, true, true, true, true, true, true, true, true, true, true, true, true, true, true, true, true, true, true, true, true, true, true, true, true, true, true, true, true, true, true, true, true, true, true, true, true, true, true, true, true, true, true, true, true, false, false] [] 2 f534 (by kernel_rfl) trivial (fun act537 f536 => ?_)
              clear f534
              refine AtH.rd (by kernel_rfl) (fun d v c a w h => by cases d <;> exact h) hS213 [48] [[]] [(90, .bool false)] #[true, true, true, true, true, true, true, true, true, true, true, true, true, true, true, true, true, true, true, true, true, true, true, true, true, true, true, true, true, true, true, true, true, true, true, true, true, true, true, true, true, true, true, true, true, true, true, true, true, false] [] 1 f536 (by kernel_rfl) trivial (fun act539 f538 => ?_)
              clear f536
              refine AtH.rd (by kernel_rfl) (fun d v c a w h => by cases d <;> exact h) hS213 [49] [[]] [(91, .bool false)] #[true, true, true, true, true, true, true, true, true, true, true, true, true, true, true, true, true, true, true, true, true, true, true, true, true, true, true, true, true, true, true, true, true, true, true, true, true, true, true, true, true, true, true, true, true, true, true, true, true, true] [] 0 f538 (by kernel_rfl) trivial (fun act541 f540 => ?_)
              clear f538
              refine AtH.done (by kernel_rfl) ?_
              clear hS213
              refine t_n ?_
              have f542 := f540.sub (r := [(91, .bool false), (8, .slice A55 ((([ta, tb, tc] : List Tup)).length) c56), (6, .bool false), (4, .pointer (some ⟨w1.heap.size, 0, none⟩)), (3, .pointer (some ⟨w.heap.size, 0, none⟩))]) ⟨rfl, rfl, rfl, rfl, rfl, trivial⟩
              clear f540
              refine cond_F f542 rfl ?_
              refine wp_skip ?_
              refine t_n ?_
              have f543 := f542.sub (r := [(8, .slice A55 ((([ta, tb, tc] : List Tup)).length) c56), (4, .pointer (some ⟨w1.heap.size, 0, none⟩)), (3, .pointer (some ⟨w.heap.size, 0, none⟩))]) ⟨rfl, rfl, rfl, trivial⟩
              exact ⟨f543, e218, bx219, bx220, bx221, bx222, ow223, (by omega)⟩
      · have q544 := of_decide_eq_false h239
        refine AtH.rd (by kernel_rfl) (fun d v c a w h => by cases d <;> exact h) hS213 [17] [[.as_ (.bool false)]] [(59, .bool false)] #[true, true, true, true, true, true, true, true, true, true, true, true, true, true, true, true, true, true, false, false, false, false, false, false, false, false, false, false, false, false, false, false, false, false, false, false, false, false, false, false, false, false, false, false, false, false, false, false, false, false] [((.bool (decide ((cmpT ta tb 0 : Int) ≤ 0)) : Value) = .bool false)] 32 f237 (by kernel_rfl) ⟨(congrArg Value.bool h239), trivial⟩ (fun act546 f545 => ?_)
        clear f237
        refine AtH.rd (by kernel_rfl) (fun d v c a w h => by cases d <;> exact h) hS213 [18] [[]] [(60, undef)] #[true, true, true, true, true, true, true, true, true, true, true, true, true, true, true, true, true, true, true, false, false, false, false, false, false, false, false, false, false, false, false, false, false, false, false, false, false, false, false, false, false, false, false, false, false, false, false, false, false, false] [] 31 f545 (by kernel_rfl) trivial (fun act548 f547 => ?_)
        clear f545
        refine AtH.rd (by kernel_rfl) (fun d v c a w h => by cases d <;> exact h) hS213 [19] [[]] [(61, undef)] #[true, true, true, true, true, true, true, true, true, true, true, true, true, true, true, true, true, true, true, true, false, false, false, false, false, false, false, false, false, false, false, false, false, false, false, false, false, false, false, false, false, false, false, false, false, false, false, false, false, false] [] 30 f547 (by kernel_rfl) trivial (fun act550 f549 => ?_)
        clear f547
        refine AtH.rd (by kernel_rfl) (fun d v c a w h => by cases d <;> exact h) hS213 [20] [[]] [(62, .bool false)] #[true, true, true, true, true, true, true, true, true, true, true, true, true, true, true, true, true, true, true, true, true, false, false, false, false, false, false, false, false, false, false, false, false, false, false, false, false, false, false, false, false, false, false, false, false, false, false, false, false, false] [] 29 f549 (by kernel_rfl) trivial (fun act552 f551 => ?_)
        clear f549
        refine AtH.rd (by kernel_rfl) (fun d v c a w h => by cases d <;> exact h) hS213 [21] [[]] [(63, .bool false)] #[true, true, true, true, true, true, true, true, true, true, true, true, true, true, true, true, true, true, true, true, true, true, false, false, false, false, false, false, false, false, false, false, false, false, false, false, false, false, false, false, false, false, false, false, false, false, false, false, false, false] [] 28 f551 (by kernel_rfl) trivial (fun act554 f553 => ?_)
        clear f551
        refine AtH.rd (by kernel_rfl) (fun d v c a w h => by cases d <;> exact h) hS213 [22] [[]] [(64, undef)] #[true, true, true, true, true, true, true, true, true, true, true, true, true, true, true, true, true, true, true, true, true, true, true, false, false, false, false, false, false, false, false, false, false, false, false, false, false, false, false, false, false, false, false, false, false, false, false, false, false, false] [] 27 f553 (by kernel_rfl) trivial (fun act556 f555 => ?_)
        clear f553
        refine AtH.rd (by kernel_rfl) (fun d v c a w h => by cases d <;> exact h) hS213 [23] [[]] [(65, undef)] #[true, true, true, true, true, true, true, true, true, true, true, true, true, true, true, true, true, true, true, true, true, true, true, true, false, false, false, false, false, false, false, false, false, false, false, false, false, false, false, false, false, false, false, false, false, false, false, false, false, false] [] 26 f555 (by kernel_rfl) trivial (fun act558 f557 => ?_)
        clear f555
        refine AtH.rd (by kernel_rfl) (fun d v c a w h => by cases d <;> exact h) hS213 [24] [[]] [(66, .bool false)] #[true, true, true, true, true, true, true, true, true, true, true, true, true, true, true, true, true, true, true, true, true, true, true, true, true, false, false, false, false, false, false, false, false, false, false, false, false, false, false, false, false, false, false, false, false, false, false, false, false, false] [] 25 f557 (by kernel_rfl) trivial (fun act560 f559 => ?_)
        clear f557
        refine AtH.rd (by kernel_rfl) (fun d v c a w h => by cases d <;> exact h) hS213 [25] [[]] [(67, .bool false)] #[true, true, true, true, true, true, true, true, true, true, true, true, true, true, true, true, true, true, true, true, true, true, true, true, true, true, false, false, false, false, false, false, false, false, false, false, false, false, false, false, false, false, false, false, false, false, false, false, false, false] [] 24 f559 (by kernel_rfl) trivial (fun act562 f561 => ?_)
        clear f559
        refine AtH.rd (by kernel_rfl) (fun d v c a w h => by cases d <;> exact h) hS213 [26] [[]] [(68, .bool false)] #[true, true, true, true, true, true, true, true, true, true, true, true, true, true, true, true, true, true, true, true, true, true, true, true, true, true, true, false, false, false, false, false, false, false, false, false, false, false, false, false, false, false, false, false, false, false, false, false, false, false] [] 23 f561 (by kernel_rfl) trivial (fun act564 f563 => ?_)
        clear f561
        refine AtH.rd (by kernel_rfl) (fun d v c a w h => by cases d <;> exact h) hS213 [27] [[]] [(69, .int .i64 (cmpT ta tb 0))] #[true, true, true, true, true, true, true, true, true, true, true, true, true, true, true, true, true, true, true, true, true, true, true, true, true, true, true, true, false, false, false, false, false, false, false, false, false, false, false, false, false, false, false, false, false, false, false, false, false, false] [] 22 f563 (by kernel_rfl) trivial (fun act566 f565 => ?_)
        clear f563
        refine AtH.rd (by kernel_rfl) (fun d v c a w h => by cases d <;> exact h) hS213 [28] [[]] [(70, .bool (decide ((cmpT ta tb 0 : Int) ≥ 0)))] #[true, true, true, true, true, true, true, true, true, true, true, true, true, true, true, true, true, true, true, true, true, true, true, true, true, true, true, true, true, false, false, false, false, false, false, false, false, false, false, false, false, false, false, false, false, false, false, false, false, false] [] 21 f565 (by kernel_rfl) trivial (fun act568 f567 => ?_)
        clear f565
        rcases Bool.eq_false_or_eq_true (decide ((cmpT ta tb 0 : Int) ≥ 0)) with h569 | h569
        · have q570 := of_decide_eq_true h569
          refine AtH.rd (by kernel_rfl) (fun d v c a w h => by cases d <;> exact h) hS213 [29] [[.as_ (.bool true)]] [(71, .bool true)] #[true, true, true, true, true, true, true, true, true, true, true, true, true, true, true, true, true, true, true, true, true, true, true, true, true, true, true, true, true, true, false, false, false, false, false, false, false, false, false, false, false, false, false, false, false, false, false, false, false, false] [((.bool (decide ((cmpT ta tb 0 : Int) ≥ 0)) : Value) = .bool true)] 20 f567 (by kernel_rfl) ⟨(congrArg Value.bool h569), trivial⟩ (fun act572 f571 => ?_)
          clear f567
          refine AtH.rd (by kernel_rfl) (fun d v c a w h => by cases d <;> exact h) hS213 [30] [[]] [(72, .int .i64 (cmpT tb tc 0))] #[true, true, true, true, true, true, true, true, true, true, true, true, true, true, true, true, true, true, true, true, true, true, true, true, true, true, true, true, true, true, true, false, false, false, false, false, false, false, false, false, false, false, false, false, false, false, false, false, false, false] [] 19 f571 (by kernel_rfl) trivial (fun act574 f573 => ?_)
          clear f571
          refine AtH.rd (by kernel_rfl) (fun d v c a w h => by cases d <;> exact h) hS213 [31] [[]] [(73, .bool (decide ((cmpT tb tc 0 : Int) ≥ 0)))] #[true, true, true, true, true, true, true, true, true, true, true, true, true, true, true, true, true, true, true, true, true, true, true, true, true, true, true, true, true, true, true, true, false, false, false, false, false, false, false, false, false, false, false, false, false, false, false, false, false, false] [] 18 f573 (by kernel_rfl) trivial (fun act576 f575 => ?_)
          clear f573
          refine AtH.rd (by kernel_rfl) (fun d v c a w h => by cases d <;> exact h) hS213 [32] [[]] [(74, .bool (decide ((cmpT tb tc 0 : Int) ≥ 0)))] #[true, true, true, true, true, true, true, true, true, true, true, true, true, true, true, true, true, true, true, true, true, true, true, true, true, true, true, true, true, true, true, true, true, false, false, false, false, false, false, false, false, false, false, false, false, false, false, false, false, false] [] 17 f575 (by kernel_rfl) trivial (fun act578 f577 => ?_)
          clear f575
          rcases Bool.eq_false_or_eq_true (decide ((cmpT tb tc 0 : Int) ≥ 0)) with h579 | h579
          · have q580 := of_decide_eq_true h579
            refine AtH.rd (by kernel_rfl) (fun d v c a w h => by cases d <;> exact h) hS213 [33] [[.as_ (.bool true)]] [(75, .bool true)] #[true, true, true, true, true, true, true, true, true, true, true, true, true, true, true, true, true, true, true, true, true, true, true, true, true, true, true, true, true, true, true, true, true, true, false, false, false, false, false, false, false, false, false, false, false, false, false, false, false, false] [((.bool (decide ((cmpT tb tc 0 : Int) ≥ 0)) : Value) = .bool true)] 16 f577 (by kernel_rfl) ⟨(congrArg Value.bool h579), trivial⟩ (fun act582 f581 => ?_)
            clear f577
            refine AtH.rd (by kernel_rfl) (fun d v c a w h => by cases d <;> exact h) hS213 [34] [[]] [(76, .int .i64 (cmpT ta tc 0))] #[true, true, true, true, true, true, true, true, true, true, true, true, true, true, true, true, true, true, true, true, true, true, true, true, true, true, true, true, true, true, true, true, true, true, true, false, false, false, false, false, false, false, false, false, false, false, false, false, false, false] [] 15 f581 (by kernel_rfl) trivial (fun act584 f583 => ?_)
            clear f581
            refine AtH.rd (by kernel_rfl) (fun d v c a w h => by cases d <;> exact h) hS213 [35] [[]] [(77, .bool (decide ((cmpT ta tc 0 : Int) < 0)))] #[true, true, true, true, true, true, true, true, true, true, true, true, true, true, true, true, true, true, true, true, true, true, true, true, true, true, true, true, true, true, true, true, true, true, true, true, false, false, false, false, false, false, false, false, false, false, false, false, false, false] [] 14 f583 (by kernel_rfl) trivial (fun act586 f585 => ?_)
            clear f583
            refine AtH.rd (by kernel_rfl) (fun d v c a w h => by cases d <;> exact h) hS213 [36] [[]] [(78, .bool (decide ((cmpT ta tc 0 : Int) < 0)))] #[true, true, true, true, true, true, true, true, true, true, true, true, true, true, true, true, true, true, true, true, true, true, true, true, true, true, true, true, true, true, true, true, true, true, true, true, true, false, false, false, false, false, false, false, false, false, false, false, false, false] [] 13 f585 (by kernel_rfl) trivial (fun act588 f587 => ?_)
            clear f585
            refine AtH.rd (by kernel_rfl) (fun d v c a w h => by cases d <;> exact h) hS213 [37] [[]] [(79, .bool (decide ((cmpT ta tc 0 : Int) < 0)))] #[true, true, true, true, true, true, true, true, true, true, true, true, true, true, true, true, true, true, true, true, true, true, true, true, true, true, true, true, true, true, true, true, true, true, true, true, true, true, false, false, false, false, false, false, false, false, false, false, false, false] [] 12 f587 (by kernel_rfl) trivial (fun act590 f589 => ?_)
            clear f587
            rcases Bool.eq_false_or_eq_true (decide ((cmpT ta tc 0 : Int) < 0)) with h591 | h591
            · have q592 := of_decide_eq_true h591
              exfalso
              omega
            · have q593 := of_decide_eq_false h591
              refine AtH.rd (by kernel_rfl) (fun d v c a w h => by cases d <;> exact h) hS213 [38] [[.as_ (.bool false)]] [(80, .bool false)] #[true, true, true, true, true, true, true, true, true, true, true, true, true, true, true, true, true, true, true, true, true, true, true, true, true, true, true, true, true, true, true, true, true, true, true, true, true, true, true, false, false, false, false, false, false, false, false, false, false, false] [((.bool (decide ((cmpT ta tc 0 : Int) < 0)) : Value) = .bool false)] 11 f589 (by kernel_rfl) ⟨(congrArg Value.bool h591), trivial⟩ (fun act595 f594 => ?_)
              clear f589
              refine AtH.rd (by kernel_rfl) (fun d v c a w h => by cases d <;> exact h) hS213 [39] [[]] [(81, .int .i64 (cmpT ta tb 0))] #[true, true, true, true, true, true, true, true, true, true, true, true, true, true, true, true, true, true, true, true, true, true, true, true, true, true, true, true, true, true, true, true, true, true, true, true, true, true, true, true, false, false, false, false, false, false, false, false, false, false] [] 10 f594 (by kernel_rfl) trivial (fun act597 f596 => ?_)
              clear f594
              refine AtH.rd (by kernel_rfl) (fun d v c a w h => by cases d <;> exact h) hS213 [40] [[]] [(82, .bool ((cmpT ta tb 0 : Int) == 0))] #[true, true, true, true, true, true, true, true, true, true, true, true, true, true, true, true, true, true, true, true, true, true, true, true, true, true, true, true, true, true, true, true, true, true, true, true, true, true, true, true, true, false, false, false, false, false, false, false, false, false] [] 9 f596 (by kernel_rfl) trivial (fun act599 f598 => ?_)
              clear f596
              rcases Bool.eq_false_or_eq_true ((cmpT ta tb 0 : Int) == 0) with h600 | h600
              · have q601 := eq_of_beq h600
                exfalso
                omega
              · have q602 := ne_of_beq_false h600
                refine AtH.rd (by kernel_rfl) (fun d v c a w h => by cases d <;> exact h) hS213 [41] [[.as_ (.bool false)]] [(83, .bool false)] #[true, true, true, true, true, true, true, true, true, true, true, true, true, true, true, true, true, true, true, true, true, true, true, true, true, true, true, true, true, true, true, true, true, true, true, true, true, true, true, true, true, true, false, false, false, false, false, false, false, false] [((.bool ((cmpT ta tb 0 : Int) == 0) : Value) = .bool false)] 8 f598 (by kernel_rfl) ⟨(congrArg Value.bool h600), trivial⟩ (fun act604 f603 => ?_)
                clear f598
                refine AtH.rd (by kernel_rfl) (fun d v c a w h => by cases d <;> exact h) hS213 [42] [[]] [(84, undef)] #[true, true, true, true, true, true, true, true, true, true, true, true, true, true, true, true, true, true, true, true, true, true, true, true, true, true, true, true, true, true, true, true, true, true, true, true, true, true, true, true, true, true, true, false, false, false, false, false, false, false] [] 7 f603 (by kernel_rfl) trivial (fun act606 f605 => ?_)
                clear f603
                refine AtH.rd (by kernel_rfl) (fun d v c a w h => by cases d <;> exact h) hS213 [43] [[]] [(85, undef)] #[true, true, true, true, true, true, true, true, true, true, true, true, true, true, true, true, true, true, true, true, true, true, true, true, true, true, true, true, true, true, true, true, true, true, true, true, true, true, true, true, true, true, true, true, false, false, false, false, false, false] [] 6 f605 (by kernel_rfl) trivial (fun act608 f607 => ?_)
                clear f605
                refine AtH.rd (by kernel_rfl) (fun d v c a w h => by cases d <;> exact h) hS213 [44] [[]] [(86, .bool false)] #[true, true, true, true, true, true, true, true, true, true, true, true, true, true, true, true, true, true, true, true, true, true, true, true, true, true, true, true, true, true, true, true, true, true, true, true, true, true, true, true, true, true, true, true, true, false, false, false, false, false] [] 5 f607 (by kernel_rfl) trivial (fun act610 f609 => ?_)
                clear f607
                refine AtH.rd (by kernel_rfl) (fun d v c a w h => by cases d <;> exact h) hS213 [45] [[]] [(87, .bool false)] #[true, true, true, true, true, true, true, true, true, true, true, true, true, true, true, true, true, true, true, true, true, true, true, true, true, true, true, true, true, true, true, true, true, true, true, true, true, true, true, true, true, true, true, true, true, true, false, false, false, false] [] 4 f609 (by kernel_rfl) trivial (fun act612 f611 => ?_)
                clear f609
                refine AtH.rd (by kernel_rfl) (fun d v c a w h => by cases d <;> exact h) hS213 [46] [[]] [(88, undef)] #[true, true, true, true, true, true, true, true, true, true, true, true, true, true, true, true, true, true, true, true, true, true, true, true, true, true, true, true, true, true, true, true, true, true, true, true, true, true, true, true, true, true, true, true, true, true, true, false, false, false] [] 3 f611 (by kernel_rfl) trivial (fun act614 f613 => ?_)
                clear f611
                refine AtH.rd (by kernel_rfl) (fun d v c a w h => by cases d <;> exact h) hS213 [47] [[]] [(89, undef)] #[true, true, true, true, true, true, true, true, true, true, true, true, true, true, true, true, true, true, true, true, true, true, true, true, true, true, true, true, true, true, true, true, true, true, true, true, true, true, true, true, true, true, true, true, true, true, true, true, false, false] [] 2 f613 (by kernel_rfl) trivial (fun act616 f615 => ?_)
                clear f613
                refine AtH.rd (by kernel_rfl) (fun d v c a w h => by cases d <;> exact h) hS213 [48] [[]] [(90, .bool false)] #[true, true, true, true, true, true, true, true, true, true, true, true, true, true, true, true, true, true, true, true, true, true, true, true, true, true, true, true, true, true, true, true, true, true, true, true, true, true, true, true, true, true, true, true, true, true, true, true, true, false] [] 1 f615 (by kernel_rfl) trivial (fun act618 f617 => ?_)
                clear f615
                refine AtH.rd (by kernel_rfl) (fun d v c a w h => by cases d <;> exact h) hS213 [49] [[]] [(91, .bool false)] #[true, true, true, true, true, true, true, true, true, true, true, true, true, true, true, true, true, true, true, true, true, true, true, true, true, true, true, true, true, true, true, true, true, true, true, true, true, true, true, true, true, true, true, true, true, true, true, true, true, true] [] 0 f617 (by kernel_rfl) trivial (fun act620 f619 => ?_)
                clear f617
                refine AtH.done (by kernel_rfl) ?_
                clear hS213
                refine t_n ?_
                have f621 := f619.sub (r := [(91, .bool false), (8, .slice A55 ((([ta, tb, tc] : List Tup)).length) c56), (6, .bool false), (4, .pointer (some ⟨w1.heap.size, 0, none⟩)), (3, .pointer (some ⟨w.heap.size, 0, none⟩))]) ⟨rfl, rfl, rfl, rfl, rfl, trivial⟩
                clear f619
                refine cond_F f621 rfl ?_
                refine wp_skip ?_
                refine t_n ?_
                have f622 := f621.sub (r := [(8, .slice A55 ((([ta, tb, tc] : List Tup)).length) c56), (4, .pointer (some ⟨w1.heap.size, 0, none⟩)), (3, .pointer (some ⟨w.heap.size, 0, none⟩))]) ⟨rfl, rfl, rfl, trivial⟩
                exact ⟨f622, e218, bx219, bx220, bx221, bx222, ow223, (by omega)⟩
          · have q623 := of_decide_eq_false h579
            refine AtH.rd (by kernel_rfl) (fun d v c a w h => by cases d <;> exact h) hS213 [33] [[.as_ (.bool false)]] [(75, .bool false)] #[true, true, true, true, true, true, true, true, true, true, true, true, true, true, true, true, true, true, true, true, true, true, true, true, true, true, true, true, true, true, true, true, true, true, false, false, false, false, false, false, false, false, false, false, false, false, false, false, false, false] [((.bool (decide ((cmpT tb tc 0 : Int) ≥ 0)) : Value) = .bool false)] 16 f577 (by kernel_rfl) ⟨(congrArg Value.bool h579), trivial⟩ (fun act625 f624 => ?_)
            clear f577
            refine AtH.rd (by kernel_rfl) (fun d v c a w h => by cases d <;> exact h) hS213 [34] [[]] [(76, undef)] #[true, true, true, true, true, true, true, true, true, true, true, true, true, true, true, true, true, true, true, true, true, true, true, true, true, true, true, true, true, true, true, true, true, true, true, false, false, false, false, false, false, false, false, false, false, false, false, false, false, false] [] 15 f624 (by kernel_rfl) trivial (fun act627 f626 => ?_)
            clear f624
            refine AtH.rd (by kernel_rfl) (fun d v c a w h => by cases d <;> exact h) hS213 [35] [[]] [(77, undef)] #[true, true, true, true, true, true, true, true, true, true, true, true, true, true, true, true, true, true, true, true, true, true, true, true, true, true, true, true, true, true, true, true, true, true, true, true, false, false, false, false, false, false, false, false, false, false, false, false, false, false] [] 14 f626 (by kernel_rfl) trivial (fun act629 f628 => ?_)
            clear f626
            refine AtH.rd (by kernel_rfl) (fun d v c a w h => by cases d <;> exact h) hS213 [36] [[]] [(78, .bool false)] #[true, true, true, true, true, true, true, true, true, true, true, true, true, true, true, true, true, true, true, true, true, true, true, true, true, true, true, true, true, true, true, true, true, true, true, true, true, false, false, false, false, false, false, false, false, false, false, false, false, false] [] 13 f628 (by kernel_rfl) trivial (fun act631 f630 => ?_)
            clear f628
            refine AtH.rd (by kernel_rfl) (fun d v c a w h => by cases d <;> exact h) hS213 [37] [[]] [(79, .bool false)] #[true, true, true, true, true, true, true, true, true, true, true, true, true, true, true, true, true, true, true, true, true, true, true, true, true, true, true, true, true, true, true, true, true, true, true, true, true, true, false, false, false, false, false, false, false, false, false, false, false, false] [] 12 f630 (by kernel_rfl) trivial (fun act633 f632 => ?_)
            clear f630
            refine AtH.rd (by kernel_rfl) (fun d v c a w h => by cases d <;> exact h) hS213 [38] [[]] [(80, .bool false)] #[true, true, true, true, true, true, true, true, true, true, true, true, true, true, true, true, true, true, true, true, true, true, true, true, true, true, true, true, true, true, true, true, true, true, true, true, true, true, true, false, false, false, false, false, false, false, false, false, false, false] [] 11 f632 (by kernel_rfl) trivial (fun act635 f634 => ?_)
            clear f632
            refine AtH.rd (by kernel_rfl) (fun d v c a w h => by cases d <;> exact h) hS213 [39] [[]] [(81, .int .i64 (cmpT ta tb 0))] #[true, true, true, true, true, true, true, true, true, true, true, true, true, true, true, true, true, true, true, true, true, true, true, true, true, true, true, true, true, true, true, true, true, true, true, true, true, true, true, true, false, false, false, false, false, false, false, false, false, false] [] 10 f634 (by kernel_rfl) trivial (fun act637 f636 => ?_)
            clear f634
            refine AtH.rd (by kernel_rfl) (fun d v c a w h => by cases d <;> exact h) hS213 [40] [[]] [(82, .bool ((cmpT ta tb 0 : Int) == 0))] #[true, true, true, true, true, true, true, true, true, true, true, true, true, true, true, true, true, true, true, true, true, true, true, true, true, true, true, true, true, true, true, true, true, true, true, true, true, true, true, true, true, false, false, false, false, false, false, false, false, false] [] 9 f636 (by kernel_rfl) trivial (fun act639 f638 => ?_)
            clear f636
            rcases Bool.eq_false_or_eq_true ((cmpT ta tb 0 : Int) == 0) with h640 | h640
            · have q641 := eq_of_beq h640
              exfalso
              omega
            · have q642 := ne_of_beq_false h640
              refine AtH.rd (by kernel_rfl) (fun d v c a w h => by cases d <;> exact h) hS213 [41] [[.as_ (.bool false)]] [(83, .bool false)] #[true, true, true, true, true, true, true, true, true, true, true, true, true, true, true, true, true, true, true, true, true, true, true, true, true, true, true, true, true, true, true, true, true, true, true, true, true, true, true, true, true, true, false, false, false, false, false, false, false, false] [((.bool ((cmpT ta tb 0 : Int) == 0) : Value) = .bool false)] 8 f638 (by kernel_rfl) ⟨(congrArg Value.bool h640), trivial⟩ (fun act644 f643 => ?_)
              clear f638
              refine AtH.rd (by kernel_rfl) (fun d v c a w h => by cases d <;> exact h) hS213 [42] [[]] [(84, undef)] #[true, true, true, true, true, true, true, true, true, true, true, true, true, true, true, true, true, true, true, true, true, true, true, true, true, true, true, true, true, true, true, true, true, true, true, true, true, true, true, true, true, true, true, false, false, false, false, false, false, false] [] 7 f643 (by kernel_rfl) trivial (fun act646 f645 => ?_)
              clear f643
              refine AtH.rd (by kernel_rfl) (fun d v c a w h => by cases d <;> exact h) hS213 [43] [[]] [(85, undef)] #[true, true, true, true, true, true, true, true, true, true, true, true, true, true, true, true, true, true, true, true, true, true, true, true, true, true, true, true, true, true, true, true, true, true, true, true, true, true, true, true, true, true, true, true, false, false, false, false, false, false] [] 6 f645 (by kernel_rfl) trivial (fun act648 f647 => ?_)
              clear f645
              refine AtH.rd (by kernel_rfl) (fun d v c a w h => by cases d <;> exact h) hS213 [44] [[]] [(86, .bool false)] #[true, true, true, true, true, true, true, true, true, true, true, true, true, true, true, true, true, true, true, true, true, true, true, true, true, true, true, true, true, true, true, true, true, true, true, true, true, true, true, true, true, true, true, true, true, false, false, false, false, false] [] 5 f647 (by kernel_rfl) trivial (fun act650 f649 => ?_)
              clear f647
              refine AtH.rd (by kernel_rfl) (fun d v c a w h => by cases d <;> exact h) hS213 [45] [[]] [(87, .bool false)] #[true, true, true, true, true, true, true, true, true, true, true, true, true, true, true, true, true, true, true, true, true, true, true, true, true, true, true, true, true, true, true, true, true, true, true, true, true, true, true, true, true, true, true, true, true, true, false, false, false, false] [] 4 f649 (by kernel_rfl) trivial (fun act652 f651 => ?_)
              clear f649
              refine AtH.rd (by kernel_rfl) (fun d v c a w h => by cases d <;> exact h) hS213 [46] [[]] [(88, undef)] #[true, true, true, true, true, true, true, true, true, true, true, true, true, true, true, true, true, true, true, true, true, true, true, true, true, true, true, true, true, true, true, true, true, true, true, true, true, true, true, true, true, true, true, true, true, true, true, false, false, false] [] 3 f651 (by kernel_rfl) trivial (fun act654 f653 => ?_)
              clear f651
              refine AtH.rd (by kernel_rfl) (fun d v c a w h => by cases d <;> exact h) hS213 [47] [[]] [(89, undef)] #[true, true, true, true, true, true, true, true, true, true, true, true, true, true, true, true, true, true, true, true, true, true, true, true, true, true, true, true, true, true, true, true, true, true, true, true, true, true, true, true, true, true, true, true, true, true, true, true, false, false] [] 2 f653 (by kernel_rfl) trivial (fun act656 f655 => ?_)
              clear f653
              refine AtH.rd (by kernel_rfl) (fun d v c a w h => by cases d <;> exact h) hS213 [48] [[]] [(90, .bool false)] #[true, true, true, true, true, true, true, true, true, true, true, true, true, true, true, true, true, true, true, true, true, true, true, true, true, true, true, true, true, true, true, true, true, true, true, true, true, true, true, true, true, true, true, true, true, true, true, true, true, false] [] 1 f655 (by kernel_rfl) trivial (fun act658 f657 => ?_)
              clear f655
              refine AtH.rd (by kernel_rfl) (fun d v c a w h => by cases d <;> exact h) hS213 [49] [[]] [(91, .bool false)] #[true, true, true, true, true, true, true, true, true, true, true, true, true, true, true, true, true, true, true, true, true, true, true, true, true, true, true, true, true, true, true, true, true, true, true, true, true, true, true, true, true, true, true, true, true, true, true, true, true, true] [] 0 f657 (by kernel_rfl) trivial (fun act660 f659 => ?_)
              clear f657
              refine AtH.done (by kernel_rfl) ?_
              clear hS213
              refine t_n ?_
              have f661 := f659.sub (r := [(91, .bool false), (8, .slice A55 ((([ta, tb, tc] : List Tup)).length) c56), (6, .bool false), (4, .pointer (some ⟨w1.heap.size, 0, none⟩)), (3, .pointer (some ⟨w.heap.size, 0, none⟩))]) ⟨rfl, rfl, rfl, rfl, rfl, trivial⟩
              clear f659
              refine cond_F f661 rfl ?_
              refine wp_skip ?_
              refine t_n ?_
              have f662 := f661.sub (r := [(8, .slice A55 ((([ta, tb, tc] : List Tup)).length) c56), (4, .pointer (some ⟨w1.heap.size, 0, none⟩)), (3, .pointer (some ⟨w.heap.size, 0, none⟩))]) ⟨rfl, rfl, rfl, trivial⟩
              exact ⟨f662, e218, bx219, bx220, bx221, bx222, ow223, (by omega)⟩
        · have q663 := of_decide_eq_false h569
          exfalso
          omega
  · clear bx180
    clear bx181
    clear bx182
    clear bx183
    clear ow184
    clear f187 e179
    intro act664 w665 ⟨f666, e667, bx668, bx669, bx670, bx671, r672, i673⟩
    have szw665 := e667.size
    have := bx668.lt
    have := bx669.lt
    have := bx670.lt
    have := bx671.lt
    refine wp_seq ?_
    refine wp_seq ?_
    refine At.start ?_
    refine At.rd f666 1 [[]] [(12, .int .i64 (0))] [] (by kernel_rfl) trivial (fun act675 f674 => ?_)
    clear f666
    refine At.done rfl ?_
    refine t_n ?_
    refine wp_block ?_
    have f676 := f674.sub (r := [(12, .int .i64 (0)), (8, .slice A55 ((([ta, tb, tc] : List Tup)).length) c56), (4, .pointer (some ⟨w1.heap.size, 0, none⟩)), (3, .pointer (some ⟨w.heap.size, 0, none⟩))]) ⟨rfl, rfl, rfl, rfl, trivial⟩
    refine loop_g (fun (m_ : Nat) a_ w_ => ∃ (p : Int), m_ = (9 - p).toNat ∧ (Frm 133 a_ [(12, .int .i64 (p)), (8, .slice A55 ((([ta, tb, tc] : List Tup)).length) c56), (4, .pointer (some ⟨w1.heap.size, 0, none⟩)), (3, .pointer (some ⟨w.heap.size, 0, none⟩))]) ∧ (Ext w w_) ∧ (Bx w_ (w.heap.size) (tupC ta) 40) ∧ (Bx w_ (w1.heap.size) (tupC tb) 40) ∧ (Bx w_ (w9.heap.size) (tupC tc) 40) ∧ (Bx w_ (w31.heap.size) [.bool (ta.top), .int .i64 (ta.c0), .int .i64 (ta.c1), .int .i64 (ta.c2), .int .i64 (ta.c3), .bool (tb.top), .int .i64 (tb.c0), .int .i64 (tb.c1), .int .i64 (tb.c2), .int .i64 (tb.c3), .bool (tc.top), .int .i64 (tc.c0), .int .i64 (tc.c1), .int .i64 (tc.c2), .int .i64 (tc.c3)] 40) ∧ (OwnR w_ (Sx (w44.heap.size) []) A55 c56 41 (([ta, tb, tc] : List Tup) : List Tup)) ∧ (0 ≤ p) ∧ (p ≤ 9) ∧ (w44.heap.size ≤ w_.heap.size)) _ ⟨0, rfl, f676, e667, bx668, bx669, bx670, bx671, r672, (by omega), (by omega), (by omega)⟩ ?_
    clear f676 f674
    clear bx668
    clear bx669
    clear bx670
    clear bx671
    clear r672
    clear e667
    intro m_ act677 w678 ⟨p, hm680, f681, e679, bx682, bx683, bx684, bx685, ow686, i687, i688, i689⟩
    have szw678 := e679.size
    have := bx682.lt
    have := bx683.lt
    have := bx684.lt
    have := bx685.lt
    refine wp_seq ?_
    refine wp_seq ?_
    refine At.start ?_
    refine At.rd f681 2 [[], []] [(93, .bool (decide ((p : Int) < 9))), (92, .int .i64 (p))] [] (by kernel_rfl) trivial (fun act691 f690 => ?_)
    clear f681
    refine At.done rfl ?_
    refine t_n ?_
    have f692 := f690.sub (r := [(93, .bool (decide ((p : Int) < 9))), (12, .int .i64 (p)), (8, .slice A55 ((([ta, tb, tc] : List Tup)).length) c56), (4, .pointer (some ⟨w1.heap.size, 0, none⟩)), (3, .pointer (some ⟨w.heap.size, 0, none⟩))]) ⟨rfl, rfl, rfl, rfl, rfl, trivial⟩
    clear f690
    refine cond_S f692 (t := decide ((p : Int) < 9)) rfl (fun h693 => ?_) (fun h693 => ?_)
    · have q694 := of_decide_eq_true h693
      refine wp_skip ?_
      refine t_n ?_
      have f695 := f692.sub (r := [(12, .int .i64 (p)), (8, .slice A55 ((([ta, tb, tc] : List Tup)).length) c56), (4, .pointer (some ⟨w1.heap.size, 0, none⟩)), (3, .pointer (some ⟨w.heap.size, 0, none⟩))]) ⟨rfl, rfl, rfl, rfl, trivial⟩
      clear f692
      refine wp_seq ?_
      refine wp_block ?_
      refine wp_seq ?_
      obtain ⟨ad696, hA697, hb700, hc699, hc698⟩ := ow686.get (0) (by omega) (by omega) (sz := 5) rfl
      obtain ⟨ad701, hA702, hb705, hc704, hc703⟩ := ow686.get (1) (by omega) (by omega) (sz := 5) rfl
      obtain ⟨Cs706, hCs707⟩ : ∃ c : List (Addr × Value), c = [((ad696.add ((0 : Int).toNat * 5)), (.bool (ta.top))), (((ad696.add ((0 : Int).toNat * 5)).add 1), (.int .i64 (ta.c0))), (((ad696.add ((0 : Int).toNat * 5)).add 2), (.int .i64 (ta.c1))), (((ad696.add ((0 : Int).toNat * 5)).add 3), (.int .i64 (ta.c2))), (((ad696.add ((0 : Int).toNat * 5)).add 4), (.int .i64 (ta.c3))), ((ad701.add ((1 : Int).toNat * 5)), (.bool (tb.top))), (((ad701.add ((1 : Int).toNat * 5)).add 1), (.int .i64 (tb.c0))), (((ad701.add ((1 : Int).toNat * 5)).add 2), (.int .i64 (tb.c1))), (((ad701.add ((1 : Int).toNat * 5)).add 3), (.int .i64 (tb.c2))), (((ad701.add ((1 : Int).toNat * 5)).add 4), (.int .i64 (tb.c3)))] := ⟨_, rfl⟩
      have hS708 : HoldsC Cs706 w678 := by rw [hCs707]; exact ⟨hc699, (hc698 1 _ rfl), (hc698 2 _ rfl), (hc698 3 _ rfl), (hc698 4 _ rfl), hc704, (hc703 1 _ rfl), (hc703 2 _ rfl), (hc703 3 _ rfl), (hc703 4 _ rfl), trivial⟩
      refine AtH.start Cs706 9 #[false, false, false, false, false, false, false, false, false] (by kernel_rfl) rfl rfl (fun w710 hw711 => ?_)
      have g709 := gr_drew hw711
      have hS712 := hS708.gr g709
      have szw710 := g709.size
      have e713 := e679.gr g709 no_row
      clear e679
      have bx714 := bx682.gr g709 (by simp)
      clear bx682
      have bx715 := bx683.gr g709 (by simp)
      clear bx683
      have bx716 := bx684.gr g709 (by simp)
      clear bx684
      have bx717 := bx685.gr g709 (by simp)
      clear bx685
      have ow718 := ow686.gr g709 (fun _ _ h => by cases h)
      clear ow686
      clear g709 hw711 hS708
      refine AtH.rd (by kernel_rfl) (fun d v c a w h => by cases d <;> exact h) hS712 [0, 1, 2, 3, 4, 5, 6] [[], [.ad ad696], [.ld (.bool (ta.top)), .ld (.int .i64 (ta.c0)), .ld (.int .i64 (ta.c1)), .ld (.int .i64 (ta.c2)), .ld (.int .i64 (ta.c3))], [], [.ad ad701], [.ld (.bool (tb.top)), .ld (.int .i64 (tb.c0)), .ld (.int .i64 (tb.c1)), .ld (.int .i64 (tb.c2)), .ld (.int .i64 (tb.c3))], []] [(102, .int .i64 (p)), (101, tupV tb), (100, .pointer (some (ad701.add ((1 : Int).toNat * 5)))), (99, .slice A55 ((([ta, tb, tc] : List Tup)).length) c56), (98, tupV ta), (97, .pointer (some (ad696.add ((0 : Int).toNat * 5)))), (96, .slice A55 ((([ta, tb, tc] : List Tup)).length) c56)] #[true, true, true, true, true, true, true, false, false] [(A55 = some ad696), (0 ≤ (0 : Int)), ((0 : Int) < ((([ta, tb, tc] : List Tup)).length : Nat)), (∃ j_ : Nat, Cs706[j_]? = some ((ad696.add ((0 : Int).toNat * 5)), (.bool (ta.top)))), (∃ j_ : Nat, Cs706[j_]? = some (((ad696.add ((0 : Int).toNat * 5)).add 1), (.int .i64 (ta.c0)))), (∃ j_ : Nat, Cs706[j_]? = some (((ad696.add ((0 : Int).toNat * 5)).add 2), (.int .i64 (ta.c1)))), (∃ j_ : Nat, Cs706[j_]? = some (((ad696.add ((0 : Int).toNat * 5)).add 3), (.int .i64 (ta.c2)))), (∃ j_ : Nat, Cs706[j_]? = some (((ad696.add ((0 : Int).toNat * 5)).add 4), (.int .i64 (ta.c3)))), (A55 = some ad701), (0 ≤ (1 : Int)), ((1 : Int) < ((([ta, tb, tc] : List Tup)).length : Nat)), (∃ j_ : Nat, Cs706[j_]? = some ((ad701.add ((1 : Int).toNat * 5)), (.bool (tb.top)))), (∃ j_ : Nat, Cs706[j_]? = some (((ad701.add ((1 : Int).toNat * 5)).add 1), (.int .i64 (tb.c0)))), (∃ j_ : Nat, Cs706[j_]? = some (((ad701.add ((1 : Int).toNat * 5)).add 2), (.int .i64 (tb.c1)))), (∃ j_ : Nat, Cs706[j_]? = some (((ad701.add ((1 : Int).toNat * 5)).add 3), (.int .i64 (tb.c2)))), (∃ j_ : Nat, Cs706[j_]? = some (((ad701.add ((1 : Int).toNat * 5)).add 4), (.int .i64 (tb.c3))))] 2 f695 (by kernel_rfl) ⟨hA697, (by omega), (by omega), ⟨0, by rw [hCs707]; rfl⟩, ⟨1, by rw [hCs707]; rfl⟩, ⟨2, by rw [hCs707]; rfl⟩, ⟨3, by rw [hCs707]; rfl⟩, ⟨4, by rw [hCs707]; rfl⟩, hA702, (by omega), (by omega), ⟨5, by rw [hCs707]; rfl⟩, ⟨6, by rw [hCs707]; rfl⟩, ⟨7, by rw [hCs707]; rfl⟩, ⟨8, by rw [hCs707]; rfl⟩, ⟨9, by rw [hCs707]; rfl⟩, trivial⟩ (fun act720 f719 => ?_)
      clear f695
      refine AtH.all [7] 1 (by kernel_rfl) (by simp) ⟨?_, trivial⟩
      refine OneH.call f719 23 #[tupV ta, tupV tb, .int .i64 (p)] (some 103) #[true, true, true, true, true, true, true, true, false] (by kernel_rfl) (by kernel_rfl) (cmpM_any (a := ta) (b := tb) (p := p)) ?_
      rintro e_ w722 ⟨rfl, he⟩
      have := cmp_rng ta tb p
      refine ⟨_, rfl, _, rfl, fun act723 f724 => ?_⟩
      clear f719
      have g725 := gr_ext he
      have hS721 := hS712.gr g725
      have szw722 := g725.size
      have e726 := e713.gr g725 no_row
      clear e713
      have bx727 := bx714.gr g725 (by simp)
      clear bx714
      have bx728 := bx715.gr g725 (by simp)
      clear bx715
      have bx729 := bx716.gr g725 (by simp)
      clear bx716
      have bx730 := bx717.gr g725 (by simp)
      clear bx717
      have ow731 := ow718.gr g725 (fun _ _ h => by cases h)
      clear ow718
      clear g725 he
      refine ⟨hS721, ?_⟩
      refine AtH.rd (by kernel_rfl) (fun d v c a w h => by cases d <;> exact h) hS721 [8] [[]] [(13, .int .i64 (cmpT ta tb p))] #[true, true, true, true, true, true, true, true, true] [] 0 f724 (by kernel_rfl) trivial (fun act733 f732 => ?_)
      clear f724
      refine AtH.done (by kernel_rfl) ?_
      clear hS721
      refine t_n ?_
      have f734 := f732.sub (r := [(13, .int .i64 (cmpT ta tb p)), (12, .int .i64 (p)), (8, .slice A55 ((([ta, tb, tc] : List Tup)).length) c56), (4, .pointer (some ⟨w1.heap.size, 0, none⟩)), (3, .pointer (some ⟨w.heap.size, 0, none⟩))]) ⟨rfl, rfl, rfl, rfl, rfl, trivial⟩
      clear f732
      refine wp_seq ?_
      obtain ⟨ad735, hA736, hb739, hc738, hc737⟩ := ow731.get (0) (by omega) (by omega) (sz := 5) rfl
      obtain ⟨ad740, hA741, hb744, hc743, hc742⟩ := ow731.get (1) (by omega) (by omega) (sz := 5) rfl
      obtain ⟨Cs745, hCs746⟩ : ∃ c : List (Addr × Value), c = [((ad735.add ((0 : Int).toNat * 5)), (.bool (ta.top))), (((ad735.add ((0 : Int).toNat * 5)).add 1), (.int .i64 (ta.c0))), (((ad735.add ((0 : Int).toNat * 5)).add 2), (.int .i64 (ta.c1))), (((ad735.add ((0 : Int).toNat * 5)).add 3), (.int .i64 (ta.c2))), (((ad735.add ((0 : Int).toNat * 5)).add 4), (.int .i64 (ta.c3))), ((ad740.add ((1 : Int).toNat * 5)), (.bool (tb.top))), (((ad740.add ((1 : Int).toNat * 5)).add 1), (.int .i64 (tb.c0))), (((ad740.add ((1 : Int).toNat * 5)).add 2), (.int .i64 (tb.c1))), (((ad740.add ((1 : Int).toNat * 5)).add 3), (.int .i64 (tb.c2))), (((ad740.add ((1 : Int).toNat * 5)).add 4), (.int .i64 (tb.c3)))] := ⟨_, rfl⟩
      have hS747 : HoldsC Cs745 w722 := by rw [hCs746]; exact ⟨hc738, (hc737 1 _ rfl), (hc737 2 _ rfl), (hc737 3 _ rfl), (hc737 4 _ rfl), hc743, (hc742 1 _ rfl), (hc742 2 _ rfl), (hc742 3 _ rfl), (hc742 4 _ rfl), trivial⟩
      refine AtH.start Cs745 10 #[false, false, false, false, false, false, false, false, false, false] (by kernel_rfl) rfl rfl (fun w749 hw750 => ?_)
      have g748 := gr_drew hw750
      have hS751 := hS747.gr g748
      have szw749 := g748.size
      have e752 := e726.gr g748 no_row
      clear e726
      have bx753 := bx727.gr g748 (by simp)
      clear bx727
      have bx754 := bx728.gr g748 (by simp)
      clear bx728
      have bx755 := bx729.gr g748 (by simp)
      clear bx729
      have bx756 := bx730.gr g748 (by simp)
      clear bx730
      have ow757 := ow731.gr g748 (fun _ _ h => by cases h)
      clear ow731
      clear g748 hw750 hS747
      refine AtH.rd (by kernel_rfl) (fun d v c a w h => by cases d <;> exact h) hS751 [0, 1, 2, 3, 4, 5, 6, 7] [[], [.ad ad735], [.ld (.bool (ta.top)), .ld (.int .i64 (ta.c0)), .ld (.int .i64 (ta.c1)), .ld (.int .i64 (ta.c2)), .ld (.int .i64 (ta.c3))], [], [.ad ad740], [.ld (.bool (tb.top)), .ld (.int .i64 (tb.c0)), .ld (.int .i64 (tb.c1)), .ld (.int .i64 (tb.c2)), .ld (.int .i64 (tb.c3))], [], [.as_ (.int .i64 (p + 1))]] [(111, .int .i64 (p + 1)), (110, .int .i64 (p)), (109, tupV tb), (108, .pointer (some (ad740.add ((1 : Int).toNat * 5)))), (107, .slice A55 ((([ta, tb, tc] : List Tup)).length) c56), (106, tupV ta), (105, .pointer (some (ad735.add ((0 : Int).toNat * 5)))), (104, .slice A55 ((([ta, tb, tc] : List Tup)).length) c56)] #[true, true, true, true, true, true, true, true, false, false] [(A55 = some ad735), (0 ≤ (0 : Int)), ((0 : Int) < ((([ta, tb, tc] : List Tup)).length : Nat)), (∃ j_ : Nat, Cs745[j_]? = some ((ad735.add ((0 : Int).toNat * 5)), (.bool (ta.top)))), (∃ j_ : Nat, Cs745[j_]? = some (((ad735.add ((0 : Int).toNat * 5)).add 1), (.int .i64 (ta.c0)))), (∃ j_ : Nat, Cs745[j_]? = some (((ad735.add ((0 : Int).toNat * 5)).add 2), (.int .i64 (ta.c1)))), (∃ j_ : Nat, Cs745[j_]? = some (((ad735.add ((0 : Int).toNat * 5)).add 3), (.int .i64 (ta.c2)))), (∃ j_ : Nat, Cs745[j_]? = some (((ad735.add ((0 : Int).toNat * 5)).add 4), (.int .i64 (ta.c3)))), (A55 = some ad740), (0 ≤ (1 : Int)), ((1 : Int) < ((([ta, tb, tc] : List Tup)).length : Nat)), (∃ j_ : Nat, Cs745[j_]? = some ((ad740.add ((1 : Int).toNat * 5)), (.bool (tb.top)))), (∃ j_ : Nat, Cs745[j_]? = some (((ad740.add ((1 : Int).toNat * 5)).add 1), (.int .i64 (tb.c0)))), (∃ j_ : Nat, Cs745[j_]? = some (((ad740.add ((1 : Int).toNat * 5)).add 2), (.int .i64 (tb.c1)))), (∃ j_ : Nat, Cs745[j_]? = some (((ad740.add ((1 : Int).toNat * 5)).add 3), (.int .i64 (tb.c2)))), (∃ j_ : Nat, Cs745[j_]? = some (((ad740.add ((1 : Int).toNat * 5)).add 4), (.int .i64 (tb.c3)))), ((.int .i64 (IntKind.i64.wrap (p + 1)) : Value) = .int .i64 (p + 1))] 2 f734 (by kernel_rfl) ⟨hA736, (by omega), (by omega), ⟨0, by rw [hCs746]; rfl⟩, ⟨1, by rw [hCs746]; rfl⟩, ⟨2, by rw [hCs746]; rfl⟩, ⟨3, by rw [hCs746]; rfl⟩, ⟨4, by rw [hCs746]; rfl⟩, hA741, (by omega), (by omega), ⟨5, by rw [hCs746]; rfl⟩, ⟨6, by rw [hCs746]; rfl⟩, ⟨7, by rw [hCs746]; rfl⟩, ⟨8, by rw [hCs746]; rfl⟩, ⟨9, by rw [hCs746]; rfl⟩, (w64 (by omega) (by omega)), trivial⟩ (fun act759 f758 => ?_)
      clear f734
      refine AtH.all [8] 1 (by kernel_rfl) (by simp) ⟨?_, trivial⟩
      refine OneH.call f758 23 #[tupV ta, tupV tb, .int .i64 (p + 1)] (some 112) #[true, true, true, true, true, true, true, true, true, false] (by kernel_rfl) (by kernel_rfl) (cmpM_any (a := ta) (b := tb) (p := p + 1)) ?_
      rintro e_ w761 ⟨rfl, he⟩
      have := cmp_rng ta tb (p + 1)
      refine ⟨_, rfl, _, rfl, fun act762 f763 => ?_⟩
      clear f758
      have g764 := gr_ext he
      have hS760 := hS751.gr g764
      have szw761 := g764.size
      have e765 := e752.gr g764 no_row
      clear e752
      have bx766 := bx753.gr g764 (by simp)
      clear bx753
      have bx767 := bx754.gr g764 (by simp)
      clear bx754
      have bx768 := bx755.gr g764 (by simp)
      clear bx755
      have bx769 := bx756.gr g764 (by simp)
      clear bx756
      have ow770 := ow757.gr g764 (fun _ _ h => by cases h)
      clear ow757
      clear g764 he
      refine ⟨hS760, ?_⟩
      refine AtH.rd (by kernel_rfl) (fun d v c a w h => by cases d <;> exact h) hS760 [9] [[]] [(14, .int .i64 (cmpT ta tb (p + 1)))] #[true, true, true, true, true, true, true, true, true, true] [] 0 f763 (by kernel_rfl) trivial (fun act772 f771 => ?_)
      clear f763
      refine AtH.done (by kernel_rfl) ?_
      clear hS760
      refine t_n ?_
      have f773 := f771.sub (r := [(14, .int .i64 (cmpT ta tb (p + 1))), (13, .int .i64 (cmpT ta tb p)), (12, .int .i64 (p)), (8, .slice A55 ((([ta, tb, tc] : List Tup)).length) c56), (4, .pointer (some ⟨w1.heap.size, 0, none⟩)), (3, .pointer (some ⟨w.heap.size, 0, none⟩))]) ⟨rfl, rfl, rfl, rfl, rfl, rfl, trivial⟩
      clear f771
      refine wp_seq ?_
      have hst := cmp_step ta tb p
      refine At.start ?_
      rcases Bool.eq_false_or_eq_true ((cmpT ta tb (p + 1) : Int) != 0) with h774 | h774
      · have q775 := bne_iff_ne.1 h774
        rcases Bool.eq_false_or_eq_true ((cmpT ta tb p : Int) != (cmpT ta tb (p + 1))) with h776 | h776
        · have q777 := bne_iff_ne.1 h776
          refine At.rd f773 20 [[], [], [.as_ (.bool true)], [], [], [], [], [.as_ (.bool true)], [], [], [], [], [], [], [], [], [], [], [], []] [(132, .bool true), (131, undef), (130, undef), (129, undef), (128, undef), (127, undef), (126, undef), (125, undef), (124, undef), (123, undef), (122, undef), (121, undef), (120, .bool true), (119, .bool ((cmpT ta tb p : Int) != (cmpT ta tb (p + 1)))), (118, .bool ((cmpT ta tb p : Int) != (cmpT ta tb (p + 1)))), (117, .int .i64 (cmpT ta tb (p + 1))), (116, .int .i64 (cmpT ta tb p)), (115, .bool true), (114, .bool ((cmpT ta tb (p + 1) : Int) != 0)), (113, .int .i64 (cmpT ta tb (p + 1)))] [((.bool ((cmpT ta tb (p + 1) : Int) != 0) : Value) = .bool true), ((.bool ((cmpT ta tb p : Int) != (cmpT ta tb (p + 1))) : Value) = .bool true)] (by kernel_rfl) ⟨(congrArg Value.bool h774), (congrArg Value.bool h776), trivial⟩ (fun act779 f778 => ?_)
          clear f773
          refine At.done rfl ?_
          refine t_n ?_
          have f780 := f778.sub (r := [(132, .bool true), (118, .bool ((cmpT ta tb p : Int) != (cmpT ta tb (p + 1)))), (117, .int .i64 (cmpT ta tb (p + 1))), (116, .int .i64 (cmpT ta tb p)), (12, .int .i64 (p)), (8, .slice A55 ((([ta, tb, tc] : List Tup)).length) c56), (4, .pointer (some ⟨w1.heap.size, 0, none⟩)), (3, .pointer (some ⟨w.heap.size, 0, none⟩))]) ⟨rfl, rfl, rfl, rfl, rfl, rfl, rfl, rfl, trivial⟩
          clear f778
          refine cond_T f780 rfl ?_
          refine wp_seq ?_
          refine At.start ?_
          refine At.rd f780 1 [[]] [(6, .bool false)] [] (by kernel_rfl) trivial (fun act782 f781 => ?_)
          clear f780
          refine At.done rfl ?_
          refine t_n ?_
          have f783 := f781.sub (r := [(6, .bool false), (118, .bool ((cmpT ta tb p : Int) != (cmpT ta tb (p + 1)))), (117, .int .i64 (cmpT ta tb (p + 1))), (116, .int .i64 (cmpT ta tb p)), (12, .int .i64 (p)), (8, .slice A55 ((([ta, tb, tc] : List Tup)).length) c56), (4, .pointer (some ⟨w1.heap.size, 0, none⟩)), (3, .pointer (some ⟨w.heap.size, 0, none⟩))]) ⟨rfl, rfl, rfl, rfl, rfl, rfl, rfl, rfl, trivial⟩
          clear f781
          refine wp_ret ?_
          refine b_r ?_
          refine t_r ?_
          refine t_r ?_
          refine b_r ?_
          refine t_r ?_
          refine ret_ f783 [] [.bool false] [] (by kernel_rfl) trivial ?_
          exfalso; first | omega | (have := cmp_tf (p := p) (a := ta) (b := tb) (by assumption) (by assumption); omega)
        · have q784 := bne_eq_false_iff_eq.1 h776
          rcases Bool.eq_false_or_eq_true (ta.top) with h785 | h785
          · rcases Bool.eq_false_or_eq_true (!tb.top) with h787 | h787
            · have q788 : (tb.top) = false := by first | exact Eq.mp (Bool.not_eq_true' _) h787 | exact Eq.mp (Bool.not_eq_false' _) h787 | simpa using h787
              refine At.rd f773 20 [[], [], [.as_ (.bool true)], [], [], [], [], [.as_ (.bool false)], [], [.ld (.bool (ta.top))], [.as_ (.bool true)], [], [.ld (.bool (tb.top))], [], [], [.as_ (.bool true)], [], [], [], []] [(132, .bool ((cmpT ta tb p : Int) != 1)), (131, .bool ((cmpT ta tb p : Int) != 1)), (130, .bool ((cmpT ta tb p : Int) != 1)), (129, .int .i64 (cmpT ta tb p)), (128, .bool true), (127, .bool (!tb.top)), (126, .bool (!tb.top)), (125, .bool (tb.top)), (124, .pointer (some ⟨w1.heap.size, 0, none⟩)), (123, .bool true), (122, .bool (ta.top)), (121, .pointer (some ⟨w.heap.size, 0, none⟩)), (120, .bool false), (119, .bool ((cmpT ta tb p : Int) != (cmpT ta tb (p + 1)))), (118, .bool ((cmpT ta tb p : Int) != (cmpT ta tb (p + 1)))), (117, .int .i64 (cmpT ta tb (p + 1))), (116, .int .i64 (cmpT ta tb p)), (115, .bool true), (114, .bool ((cmpT ta tb (p + 1) : Int) != 0)), (113, .int .i64 (cmpT ta tb (p + 1)))] [((.bool ((cmpT ta tb (p + 1) : Int) != 0) : Value) = .bool true), ((.bool ((cmpT ta tb p : Int) != (cmpT ta tb (p + 1))) : Value) = .bool false), (w761.cell? ⟨w.heap.size, 0, none⟩ = some (.bool (ta.top))), ((.bool (ta.top) : Value) = .bool true), (w761.cell? ⟨w1.heap.size, 0, none⟩ = some (.bool (tb.top))), ((.bool (!tb.top) : Value) = .bool true)] (by kernel_rfl) ⟨(congrArg Value.bool h774), (congrArg Value.bool h776), (bx766.cell (i := 0) rfl), (congrArg Value.bool h785), (bx767.cell (i := 0) rfl), (congrArg Value.bool h787), trivial⟩ (fun act791 f790 => ?_)
              clear f773
              refine At.done rfl ?_
              refine t_n ?_
              have f792 := f790.sub (r := [(132, .bool ((cmpT ta tb p : Int) != 1)), (131, .bool ((cmpT ta tb p : Int) != 1)), (130, .bool ((cmpT ta tb p : Int) != 1)), (129, .int .i64 (cmpT ta tb p)), (128, .bool true), (127, .bool (!tb.top)), (126, .bool (!tb.top)), (125, .bool (tb.top)), (124, .pointer (some ⟨w1.heap.size, 0, none⟩)), (123, .bool true), (122, .bool (ta.top)), (121, .pointer (some ⟨w.heap.size, 0, none⟩)), (118, .bool ((cmpT ta tb p : Int) != (cmpT ta tb (p + 1)))), (117, .int .i64 (cmpT ta tb (p + 1))), (116, .int .i64 (cmpT ta tb p)), (12, .int .i64 (p)), (8, .slice A55 ((([ta, tb, tc] : List Tup)).length) c56), (4, .pointer (some ⟨w1.heap.size, 0, none⟩)), (3, .pointer (some ⟨w.heap.size, 0, none⟩))]) ⟨rfl, rfl, rfl, rfl, rfl, rfl, rfl, rfl, rfl, rfl, rfl, rfl, rfl, rfl, rfl, rfl, rfl, rfl, rfl, trivial⟩
              clear f790
              refine cond_S f792 (t := (cmpT ta tb p : Int) != 1) rfl (fun h793 => ?_) (fun h793 => ?_)
              · have q794 := bne_iff_ne.1 h793
                refine wp_seq ?_
                refine At.start ?_
                refine At.rd f792 1 [[]] [(6, .bool false)] [] (by kernel_rfl) trivial (fun act796 f795 => ?_)
                clear f792
                refine At.done rfl ?_
                refine t_n ?_
                have f797 := f795.sub (r := [(6, .bool false), (131, .bool ((cmpT ta tb p : Int) != 1)), (130, .bool ((cmpT ta tb p : Int) != 1)), (129, .int .i64 (cmpT ta tb p)), (128, .bool true), (127, .bool (!tb.top)), (126, .bool (!tb.top)), (125, .bool (tb.top)), (124, .pointer (some ⟨w1.heap.size, 0, none⟩)), (123, .bool true), (122, .bool (ta.top)), (121, .pointer (some ⟨w.heap.size, 0, none⟩)), (118, .bool ((cmpT ta tb p : Int) != (cmpT ta tb (p + 1)))), (117, .int .i64 (cmpT ta tb (p + 1))), (116, .int .i64 (cmpT ta tb p)), (12, .int .i64 (p)), (8, .slice A55 ((([ta, tb, tc] : List Tup)).length) c56), (4, .pointer (some ⟨w1.heap.size, 0, none⟩)), (3, .pointer (some ⟨w.heap.size, 0, none⟩))]) ⟨rfl, rfl, rfl, rfl, rfl, rfl, rfl, rfl, rfl, rfl, rfl, rfl, rfl, rfl, rfl, rfl, rfl, rfl, rfl, trivial⟩
                clear f795
                refine wp_ret ?_
                refine b_r ?_
                refine t_r ?_
                refine t_r ?_
                refine b_r ?_
                refine t_r ?_
                refine ret_ f797 [] [.bool false] [] (by kernel_rfl) trivial ?_
                exfalso; first | omega | (have := cmp_tf (p := p) (a := ta) (b := tb) (by assumption) (by assumption); omega)
              · have q798 := bne_eq_false_iff_eq.1 h793
                refine wp_skip ?_
                refine b_n ?_
                refine t_n ?_
                have f799 := f792.sub (r := [(131, .bool ((cmpT ta tb p : Int) != 1)), (130, .bool ((cmpT ta tb p : Int) != 1)), (129, .int .i64 (cmpT ta tb p)), (128, .bool true), (127, .bool (!tb.top)), (126, .bool (!tb.top)), (125, .bool (tb.top)), (124, .pointer (some ⟨w1.heap.size, 0, none⟩)), (123, .bool true), (122, .bool (ta.top)), (121, .pointer (some ⟨w.heap.size, 0, none⟩)), (118, .bool ((cmpT ta tb p : Int) != (cmpT ta tb (p + 1)))), (117, .int .i64 (cmpT ta tb (p + 1))), (116, .int .i64 (cmpT ta tb p)), (12, .int .i64 (p)), (8, .slice A55 ((([ta, tb, tc] : List Tup)).length) c56), (4, .pointer (some ⟨w1.heap.size, 0, none⟩)), (3, .pointer (some ⟨w.heap.size, 0, none⟩))]) ⟨rfl, rfl, rfl, rfl, rfl, rfl, rfl, rfl, rfl, rfl, rfl, rfl, rfl, rfl, rfl, rfl, rfl, rfl, trivial⟩
                clear f792
                refine At.start ?_
                refine At.rd f799 3 [[], [.as_ (.int .i64 (p + 1))], []] [(12, .int .i64 (p + 1)), (95, .int .i64 (p + 1)), (94, .int .i64 (p))] [((.int .i64 (IntKind.i64.wrap (p + 1)) : Value) = .int .i64 (p + 1))] (by kernel_rfl) ⟨(w64 (by omega) (by omega)), trivial⟩ (fun act801 f800 => ?_)
                clear f799
                refine At.done rfl ?_
                refine t_n ?_
                have f802 := f800.sub (r := [(12, .int .i64 (p + 1)), (8, .slice A55 ((([ta, tb, tc] : List Tup)).length) c56), (4, .pointer (some ⟨w1.heap.size, 0, none⟩)), (3, .pointer (some ⟨w.heap.size, 0, none⟩))]) ⟨rfl, rfl, rfl, rfl, trivial⟩
                exact ⟨_, (by omega), (p + 1), rfl, f802, e765, bx766, bx767, bx768, bx769, ow770, (by omega), (by omega), (by omega)⟩
            · have q803 : (tb.top) = true := by first | exact Eq.mp (Bool.not_eq_true' _) h787 | exact Eq.mp (Bool.not_eq_false' _) h787 | simpa using h787
              refine At.rd f773 20 [[], [], [.as_ (.bool true)], [], [], [], [], [.as_ (.bool false)], [], [.ld (.bool (ta.top))], [.as_ (.bool true)], [], [.ld (.bool (tb.top))], [], [], [.as_ (.bool false)], [], [], [], []] [(132, .bool false), (131, .bool false), (130, undef), (129, undef), (128, .bool false), (127, .bool (!tb.top)), (126, .bool (!tb.top)), (125, .bool (tb.top)), (124, .pointer (some ⟨w1.heap.size, 0, none⟩)), (123, .bool true), (122, .bool (ta.top)), (121, .pointer (some ⟨w.heap.size, 0, none⟩)), (120, .bool false), (119, .bool ((cmpT ta tb p : Int) != (cmpT ta tb (p + 1)))), (118, .bool ((cmpT ta tb p : Int) != (cmpT ta tb (p + 1)))), (117, .int .i64 (cmpT ta tb (p + 1))), (116, .int .i64 (cmpT ta tb p)), (115, .bool true), (114, .bool ((cmpT ta tb (p + 1) : Int) != 0)), (113, .int .i64 (cmpT ta tb (p + 1)))] [((.bool ((cmpT ta tb (p + 1) : Int) != 0) : Value) = .bool true), ((.bool ((cmpT ta tb p : Int) != (cmpT ta tb (p + 1))) : Value) = .bool false), (w761.cell? ⟨w.heap.size, 0, none⟩ = some (.bool (ta.top))), ((.bool (ta.top) : Value) = .bool true), (w761.cell? ⟨w1.heap.size, 0, none⟩ = some (.bool (tb.top))), ((.bool (!tb.top) : Value) = .bool false)] (by kernel_rfl) ⟨(congrArg Value.bool h774), (congrArg Value.bool h776), (bx766.cell (i := 0) rfl), (congrArg Value.bool h785), (bx767.cell (i := 0) rfl), (congrArg Value.bool h787), trivial⟩ (fun act806 f805 => ?_)
              clear f773
              refine At.done rfl ?_
              refine t_n ?_
              have f807 := f805.sub (r := [(132, .bool false), (131, .bool false), (128, .bool false), (127, .bool (!tb.top)), (126, .bool (!tb.top)), (125, .bool (tb.top)), (124, .pointer (some ⟨w1.heap.size, 0, none⟩)), (123, .bool true), (122, .bool (ta.top)), (121, .pointer (some ⟨w.heap.size, 0, none⟩)), (118, .bool ((cmpT ta tb p : Int) != (cmpT ta tb (p + 1)))), (117, .int .i64 (cmpT ta tb (p + 1))), (116, .int .i64 (cmpT ta tb p)), (12, .int .i64 (p)), (8, .slice A55 ((([ta, tb, tc] : List Tup)).length) c56), (4, .pointer (some ⟨w1.heap.size, 0, none⟩)), (3, .pointer (some ⟨w.heap.size, 0, none⟩))]) ⟨rfl, rfl, rfl, rfl, rfl, rfl, rfl, rfl, rfl, rfl, rfl, rfl, rfl, rfl, rfl, rfl, rfl, trivial⟩
              clear f805
              refine cond_F f807 rfl ?_
              refine wp_skip ?_
              refine b_n ?_
              refine t_n ?_
              have f808 := f807.sub (r := [(131, .bool false), (128, .bool false), (127, .bool (!tb.top)), (126, .bool (!tb.top)), (125, .bool (tb.top)), (124, .pointer (some ⟨w1.heap.size, 0, none⟩)), (123, .bool true), (122, .bool (ta.top)), (121, .pointer (some ⟨w.heap.size, 0, none⟩)), (118, .bool ((cmpT ta tb p : Int) != (cmpT ta tb (p + 1)))), (117, .int .i64 (cmpT ta tb (p + 1))), (116, .int .i64 (cmpT ta tb p)), (12, .int .i64 (p)), (8, .slice A55 ((([ta, tb, tc] : List Tup)).length) c56), (4, .pointer (some ⟨w1.heap.size, 0, none⟩)), (3, .pointer (some ⟨w.heap.size, 0, none⟩))]) ⟨rfl, rfl, rfl, rfl, rfl, rfl, rfl, rfl, rfl, rfl, rfl, rfl, rfl, rfl, rfl, rfl, trivial⟩
              clear f807
              refine At.start ?_
              refine At.rd f808 3 [[], [.as_ (.int .i64 (p + 1))], []] [(12, .int .i64 (p + 1)), (95, .int .i64 (p + 1)), (94, .int .i64 (p))] [((.int .i64 (IntKind.i64.wrap (p + 1)) : Value) = .int .i64 (p + 1))] (by kernel_rfl) ⟨(w64 (by omega) (by omega)), trivial⟩ (fun act810 f809 => ?_)
              clear f808
              refine At.done rfl ?_
              refine t_n ?_
              have f811 := f809.sub (r := [(12, .int .i64 (p + 1)), (8, .slice A55 ((([ta, tb, tc] : List Tup)).length) c56), (4, .pointer (some ⟨w1.heap.size, 0, none⟩)), (3, .pointer (some ⟨w.heap.size, 0, none⟩))]) ⟨rfl, rfl, rfl, rfl, trivial⟩
              exact ⟨_, (by omega), (p + 1), rfl, f811, e765, bx766, bx767, bx768, bx769, ow770, (by omega), (by omega), (by omega)⟩
          · refine At.rd f773 20 [[], [], [.as_ (.bool true)], [], [], [], [], [.as_ (.bool false)], [], [.ld (.bool (ta.top))], [.as_ (.bool false)], [], [], [], [], [], [], [], [], []] [(132, .bool false), (131, .bool false), (130, undef), (129, undef), (128, .bool false), (127, .bool false), (126, undef), (125, undef), (124, undef), (123, .bool false), (122, .bool (ta.top)), (121, .pointer (some ⟨w.heap.size, 0, none⟩)), (120, .bool false), (119, .bool ((cmpT ta tb p : Int) != (cmpT ta tb (p + 1)))), (118, .bool ((cmpT ta tb p : Int) != (cmpT ta tb (p + 1)))), (117, .int .i64 (cmpT ta tb (p + 1))), (116, .int .i64 (cmpT ta tb p)), (115, .bool true), (114, .bool ((cmpT ta tb (p + 1) : Int) != 0)), (113, .int .i64 (cmpT ta tb (p + 1)))] [((.bool ((cmpT ta tb (p + 1) : Int) != 0) : Value) = .bool true), ((.bool ((cmpT ta tb p : Int) != (cmpT ta tb (p + 1))) : Value) = .bool false), (w761.cell? ⟨w.heap.size, 0, none⟩ = some (.bool (ta.top))), ((.bool (ta.top) : Value) = .bool false)] (by kernel_rfl) ⟨(congrArg Value.bool h774), (congrArg Value.bool h776), (bx766.cell (i := 0) rfl), (congrArg Value.bool h785), trivial⟩ (fun act814 f813 => ?_)
            clear f773
            refine At.done rfl ?_
            refine t_n ?_
            have f815 := f813.sub (r := [(132, .bool false), (131, .bool false), (128, .bool false), (127, .bool false), (123, .bool false), (122, .bool (ta.top)), (121, .pointer (some ⟨w.heap.size, 0, none⟩)), (118, .bool ((cmpT ta tb p : Int) != (cmpT ta tb (p + 1)))), (117, .int .i64 (cmpT ta tb (p + 1))), (116, .int .i64 (cmpT ta tb p)), (12, .int .i64 (p)), (8, .slice A55 ((([ta, tb, tc] : List Tup)).length) c56), (4, .pointer (some ⟨w1.heap.size, 0, none⟩)), (3, .pointer (some ⟨w.heap.size, 0, none⟩))]) ⟨rfl, rfl, rfl, rfl, rfl, rfl, rfl, rfl, rfl, rfl, rfl, rfl, rfl, rfl, trivial⟩
            clear f813
            refine cond_F f815 rfl ?_
            refine wp_skip ?_
            refine b_n ?_
            refine t_n ?_
            have f816 := f815.sub (r := [(131, .bool false), (128, .bool false), (127, .bool false), (123, .bool false), (122, .bool (ta.top)), (121, .pointer (some ⟨w.heap.size, 0, none⟩)), (118, .bool ((cmpT ta tb p : Int) != (cmpT ta tb (p + 1)))), (117, .int .i64 (cmpT ta tb (p + 1))), (116, .int .i64 (cmpT ta tb p)), (12, .int .i64 (p)), (8, .slice A55 ((([ta, tb, tc] : List Tup)).length) c56), (4, .pointer (some ⟨w1.heap.size, 0, none⟩)), (3, .pointer (some ⟨w.heap.size, 0, none⟩))]) ⟨rfl, rfl, rfl, rfl, rfl, rfl, rfl, rfl, rfl, rfl, rfl, rfl, rfl, trivial⟩
            clear f815
            refine At.start ?_
            refine At.rd f816 3 [[], [.as_ (.int .i64 (p + 1))], []] [(12, .int .i64 (p + 1)), (95, .int .i64 (p + 1)), (94, .int .i64 (p))] [((.int .i64 (IntKind.i64.wrap (p + 1)) : Value) = .int .i64 (p + 1))] (by kernel_rfl) ⟨(w64 (by omega) (by omega)), trivial⟩ (fun act818 f817 => ?_)
            clear f816
            refine At.done rfl ?_
            refine t_n ?_
            have f819 := f817.sub (r := [(12, .int .i64 (p + 1)), (8, .slice A55 ((([ta, tb, tc] : List Tup)).length) c56), (4, .pointer (some ⟨w1.heap.size, 0, none⟩)), (3, .pointer (some ⟨w.heap.size, 0, none⟩))]) ⟨rfl, rfl, rfl, rfl, trivial⟩
            exact ⟨_, (by omega), (p + 1), rfl, f819, e765, bx766, bx767, bx768, bx769, ow770, (by omega), (by omega), (by omega)⟩
      · have q820 := bne_eq_false_iff_eq.1 h774
        rcases Bool.eq_false_or_eq_true (ta.top) with h821 | h821
        · rcases Bool.eq_false_or_eq_true (!tb.top) with h823 | h823
          · have q824 : (tb.top) = false := by first | exact Eq.mp (Bool.not_eq_true' _) h823 | exact Eq.mp (Bool.not_eq_false' _) h823 | simpa using h823
            refine At.rd f773 20 [[], [], [.as_ (.bool false)], [], [], [], [], [], [], [.ld (.bool (ta.top))], [.as_ (.bool true)], [], [.ld (.bool (tb.top))], [], [], [.as_ (.bool true)], [], [], [], []] [(132, .bool ((cmpT ta tb p : Int) != 1)), (131, .bool ((cmpT ta tb p : Int) != 1)), (130, .bool ((cmpT ta tb p : Int) != 1)), (129, .int .i64 (cmpT ta tb p)), (128, .bool true), (127, .bool (!tb.top)), (126, .bool (!tb.top)), (125, .bool (tb.top)), (124, .pointer (some ⟨w1.heap.size, 0, none⟩)), (123, .bool true), (122, .bool (ta.top)), (121, .pointer (some ⟨w.heap.size, 0, none⟩)), (120, .bool false), (119, .bool false), (118, undef), (117, undef), (116, undef), (115, .bool false), (114, .bool ((cmpT ta tb (p + 1) : Int) != 0)), (113, .int .i64 (cmpT ta tb (p + 1)))] [((.bool ((cmpT ta tb (p + 1) : Int) != 0) : Value) = .bool false), (w761.cell? ⟨w.heap.size, 0, none⟩ = some (.bool (ta.top))), ((.bool (ta.top) : Value) = .bool true), (w761.cell? ⟨w1.heap.size, 0, none⟩ = some (.bool (tb.top))), ((.bool (!tb.top) : Value) = .bool true)] (by kernel_rfl) ⟨(congrArg Value.bool h774), (bx766.cell (i := 0) rfl), (congrArg Value.bool h821), (bx767.cell (i := 0) rfl), (congrArg Value.bool h823), trivial⟩ (fun act827 f826 => ?_)
            clear f773
            refine At.done rfl ?_
            refine t_n ?_
            have f828 := f826.sub (r := [(132, .bool ((cmpT ta tb p : Int) != 1)), (131, .bool ((cmpT ta tb p : Int) != 1)), (130, .bool ((cmpT ta tb p : Int) != 1)), (129, .int .i64 (cmpT ta tb p)), (128, .bool true), (127, .bool (!tb.top)), (126, .bool (!tb.top)), (125, .bool (tb.top)), (124, .pointer (some ⟨w1.heap.size, 0, none⟩)), (123, .bool true), (122, .bool (ta.top)), (121, .pointer (some ⟨w.heap.size, 0, none⟩)), (12, .int .i64 (p)), (8, .slice A55 ((([ta, tb, tc] : List Tup)).length) c56), (4, .pointer (some ⟨w1.heap.size, 0, none⟩)), (3, .pointer (some ⟨w.heap.size, 0, none⟩))]) ⟨rfl, rfl, rfl, rfl, rfl, rfl, rfl, rfl, rfl, rfl, rfl, rfl, rfl, rfl, rfl, rfl, trivial⟩
            clear f826
            refine cond_S f828 (t := (cmpT ta tb p : Int) != 1) rfl (fun h829 => ?_) (fun h829 => ?_)
            · have q830 := bne_iff_ne.1 h829
              refine wp_seq ?_
              refine At.start ?_
              refine At.rd f828 1 [[]] [(6, .bool false)] [] (by kernel_rfl) trivial (fun act832 f831 => ?_)
              clear f828
              refine At.done rfl ?_
              refine t_n ?_
              have f833 := f831.sub (r := [(6, .bool false), (131, .bool ((cmpT ta tb p : Int) != 1)), (130, .bool ((cmpT ta tb p : Int) != 1)), (129, .int .i64 (cmpT ta tb p)), (128, .bool true), (127, .bool (!tb.top)), (126, .bool (!tb.top)), (125, .bool (tb.top)), (124, .pointer (some ⟨w1.heap.size, 0, none⟩)), (123, .bool true), (122, .bool (ta.top)), (121, .pointer (some ⟨w.heap.size, 0, none⟩)), (12, .int .i64 (p)), (8, .slice A55 ((([ta, tb, tc] : List Tup)).length) c56), (4, .pointer (some ⟨w1.heap.size, 0, none⟩)), (3, .pointer (some ⟨w.heap.size, 0, none⟩))]) ⟨rfl, rfl, rfl, rfl, rfl, rfl, rfl, rfl, rfl, rfl, rfl, rfl, rfl, rfl, rfl, rfl, trivial⟩
              clear f831
              refine wp_ret ?_
              refine b_r ?_
              refine t_r ?_
              refine t_r ?_
              refine b_r ?_
              refine t_r ?_
              refine ret_ f833 [] [.bool false] [] (by kernel_rfl) trivial ?_
              exfalso; first | omega | (have := cmp_tf (p := p) (a := ta) (b := tb) (by assumption) (by assumption); omega)
            · have q834 := bne_eq_false_iff_eq.1 h829
              refine wp_skip ?_
              refine b_n ?_
              refine t_n ?_
              have f835 := f828.sub (r := [(131, .bool ((cmpT ta tb p : Int) != 1)), (130, .bool ((cmpT ta tb p : Int) != 1)), (129, .int .i64 (cmpT ta tb p)), (128, .bool true), (127, .bool (!tb.top)), (126, .bool (!tb.top)), (125, .bool (tb.top)), (124, .pointer (some ⟨w1.heap.size, 0, none⟩)), (123, .bool true), (122, .bool (ta.top)), (121, .pointer (some ⟨w.heap.size, 0, none⟩)), (12, .int .i64 (p)), (8, .slice A55 ((([ta, tb, tc] : List Tup)).length) c56), (4, .pointer (some ⟨w1.heap.size, 0, none⟩)), (3, .pointer (some ⟨w.heap.size, 0, none⟩))]) ⟨rfl, rfl, rfl, rfl, rfl, rfl, rfl, rfl, rfl, rfl, rfl, rfl, rfl, rfl, rfl, trivial⟩
              clear f828
              refine At.start ?_
              refine At.rd f835 3 [[], [.as_ (.int .i64 (p + 1))], []] [(12, .int .i64 (p + 1)), (95, .int .i64 (p + 1)), (94, .int .i64 (p))] [((.int .i64 (IntKind.i64.wrap (p + 1)) : Value) = .int .i64 (p + 1))] (by kernel_rfl) ⟨(w64 (by omega) (by omega)), trivial⟩ (fun act837 f836 => ?_)
              clear f835
              refine At.done rfl ?_
              refine t_n ?_
              have f838 := f836.sub (r := [(12, .int .i64 (p + 1)), (8, .slice A55 ((([ta, tb, tc] : List Tup)).length) c56), (4, .pointer (some ⟨w1.heap.size, 0, none⟩)), (3, .pointer (some ⟨w.heap.size, 0, none⟩))]) ⟨rfl, rfl, rfl, rfl, trivial⟩
              exact ⟨_, (by omega), (p + 1), rfl, f838, e765, bx766, bx767, bx768, bx769, ow770, (by omega), (by omega), (by omega)⟩
          · have q839 : (tb.top) = true := by first | exact Eq.mp (Bool.not_eq_true' _) h823 | exact Eq.mp (Bool.not_eq_false' _) h823 | simpa using h823
            refine At.rd f773 20 [[], [], [.as_ (.bool false)], [], [], [], [], [], [], [.ld (.bool (ta.top))], [.as_ (.bool true)], [], [.ld (.bool (tb.top))], [], [], [.as_ (.bool false)], [], [], [], []] [(132, .bool false), (131, .bool false), (130, undef), (129, undef), (128, .bool false), (127, .bool (!tb.top)), (126, .bool (!tb.top)), (125, .bool (tb.top)), (124, .pointer (some ⟨w1.heap.size, 0, none⟩)), (123, .bool true), (122, .bool (ta.top)), (121, .pointer (some ⟨w.heap.size, 0, none⟩)), (120, .bool false), (119, .bool false), (118, undef), (117, undef), (116, undef), (115, .bool false), (114, .bool ((cmpT ta tb (p + 1) : Int) != 0)), (113, .int .i64 (cmpT ta tb (p + 1)))] [((.bool ((cmpT ta tb (p + 1) : Int) != 0) : Value) = .bool false), (w761.cell? ⟨w.heap.size, 0, none⟩ = some (.bool (ta.top))), ((.bool (ta.top) : Value) = .bool true), (w761.cell? ⟨w1.heap.size, 0, none⟩ = some (.bool (tb.top))), ((.bool (!tb.top) : Value) = .bool false)] (by kernel_rfl) ⟨(congrArg Value.bool h774), (bx766.cell (i := 0) rfl), (congrArg Value.bool h821), (bx767.cell (i := 0) rfl), (congrArg Value.bool h823), trivial⟩ (fun act842 f841 => ?_)
            clear f773
            refine At.done rfl ?_
            refine t_n ?_
            have f843 := f841.sub (r := [(132, .bool false), (131, .bool false), (128, .bool false), (127, .bool (!tb.top)), (126, .bool (!tb.top)), (125, .bool (tb.top)), (124, .pointer (some ⟨w1.heap.size, 0, none⟩)), (123, .bool true), (122, .bool (ta.top)), (121, .pointer (some ⟨w.heap.size, 0, none⟩)), (12, .int .i64 (p)), (8, .slice A55 ((([ta, tb, tc] : List Tup)).length) c56), (4, .pointer (some ⟨w1.heap.size, 0, none⟩)), (3, .pointer (some ⟨w.heap.size, 0, none⟩))]) ⟨rfl, rfl, rfl, rfl, rfl, rfl, rfl, rfl, rfl, rfl, rfl, rfl, rfl, rfl, trivial⟩
            clear f841
            refine cond_F f843 rfl ?_
            refine wp_skip ?_
            refine b_n ?_
            refine t_n ?_
            have f844 := f843.sub (r := [(131, .bool false), (128, .bool false), (127, .bool (!tb.top)), (126, .bool (!tb.top)), (125, .bool (tb.top)), (124, .pointer (some ⟨w1.heap.size, 0, none⟩)), (123, .bool true), (122, .bool (ta.top)), (121, .pointer (some ⟨w.heap.size, 0, none⟩)), (12, .int .i64 (p)), (8, .slice A55 ((([ta, tb, tc] : List Tup)).length) c56), (4, .pointer (some ⟨w1.heap.size, 0, none⟩)), (3, .pointer (some ⟨w.heap.size, 0, none⟩))]) ⟨rfl, rfl, rfl, rfl, rfl, rfl, rfl, rfl, rfl, rfl, rfl, rfl, rfl, trivial⟩
            clear f843
            refine At.start ?_
            refine At.rd f844 3 [[], [.as_ (.int .i64 (p + 1))], []] [(12, .int .i64 (p + 1)), (95, .int .i64 (p + 1)), (94, .int .i64 (p))] [((.int .i64 (IntKind.i64.wrap (p + 1)) : Value) = .int .i64 (p + 1))] (by kernel_rfl) ⟨(w64 (by omega) (by omega)), trivial⟩ (fun act846 f845 => ?_)
            clear f844
            refine At.done rfl ?_
            refine t_n ?_
            have f847 := f845.sub (r := [(12, .int .i64 (p + 1)), (8, .slice A55 ((([ta, tb, tc] : List Tup)).length) c56), (4, .pointer (some ⟨w1.heap.size, 0, none⟩)), (3, .pointer (some ⟨w.heap.size, 0, none⟩))]) ⟨rfl, rfl, rfl, rfl, trivial⟩
            exact ⟨_, (by omega), (p + 1), rfl, f847, e765, bx766, bx767, bx768, bx769, ow770, (by omega), (by omega), (by omega)⟩
        · refine At.rd f773 20 [[], [], [.as_ (.bool false)], [], [], [], [], [], [], [.ld (.bool (ta.top))], [.as_ (.bool false)], [], [], [], [], [], [], [], [], []] [(132, .bool false), (131, .bool false), (130, undef), (129, undef), (128, .bool false), (127, .bool false), (126, undef), (125, undef), (124, undef), (123, .bool false), (122, .bool (ta.top)), (121, .pointer (some ⟨w.heap.size, 0, none⟩)), (120, .bool false), (119, .bool false), (118, undef), (117, undef), (116, undef), (115, .bool false), (114, .bool ((cmpT ta tb (p + 1) : Int) != 0)), (113, .int .i64 (cmpT ta tb (p + 1)))] [((.bool ((cmpT ta tb (p + 1) : Int) != 0) : Value) = .bool false), (w761.cell? ⟨w.heap.size, 0, none⟩ = some (.bool (ta.top))), ((.bool (ta.top) : Value) = .bool false)] (by kernel_rfl) ⟨(congrArg Value.bool h774), (bx766.cell (i := 0) rfl), (congrArg Value.bool h821), trivial⟩ (fun act850 f849 => ?_)
          clear f773
          refine At.done rfl ?_
          refine t_n ?_
          have f851 := f849.sub (r := [(132, .bool false), (131, .bool false), (128, .bool false), (127, .bool false), (123, .bool false), (122, .bool (ta.top)), (121, .pointer (some ⟨w.heap.size, 0, none⟩)), (12, .int .i64 (p)), (8, .slice A55 ((([ta, tb, tc] : List Tup)).length) c56), (4, .pointer (some ⟨w1.heap.size, 0, none⟩)), (3, .pointer (some ⟨w.heap.size, 0, none⟩))]) ⟨rfl, rfl, rfl, rfl, rfl, rfl, rfl, rfl, rfl, rfl, rfl, trivial⟩
          clear f849
          refine cond_F f851 rfl ?_
          refine wp_skip ?_
          refine b_n ?_
          refine t_n ?_
          have f852 := f851.sub (r := [(131, .bool false), (128, .bool false), (127, .bool false), (123, .bool false), (122, .bool (ta.top)), (121, .pointer (some ⟨w.heap.size, 0, none⟩)), (12, .int .i64 (p)), (8, .slice A55 ((([ta, tb, tc] : List Tup)).length) c56), (4, .pointer (some ⟨w1.heap.size, 0, none⟩)), (3, .pointer (some ⟨w.heap.size, 0, none⟩))]) ⟨rfl, rfl, rfl, rfl, rfl, rfl, rfl, rfl, rfl, rfl, trivial⟩
          clear f851
          refine At.start ?_
          refine At.rd f852 3 [[], [.as_ (.int .i64 (p + 1))], []] [(12, .int .i64 (p + 1)), (95, .int .i64 (p + 1)), (94, .int .i64 (p))] [((.int .i64 (IntKind.i64.wrap (p + 1)) : Value) = .int .i64 (p + 1))] (by kernel_rfl) ⟨(w64 (by omega) (by omega)), trivial⟩ (fun act854 f853 => ?_)
          clear f852
          refine At.done rfl ?_
          refine t_n ?_
          have f855 := f853.sub (r := [(12, .int .i64 (p + 1)), (8, .slice A55 ((([ta, tb, tc] : List Tup)).length) c56), (4, .pointer (some ⟨w1.heap.size, 0, none⟩)), (3, .pointer (some ⟨w.heap.size, 0, none⟩))]) ⟨rfl, rfl, rfl, rfl, trivial⟩
          exact ⟨_, (by omega), (p + 1), rfl, f855, e765, bx766, bx767, bx768, bx769, ow770, (by omega), (by omega), (by omega)⟩
    · have q856 := of_decide_eq_false h693
      refine wp_exit ?_
      refine t_e ?_
      refine t_e ?_
      refine b_e ?_
      refine t_n ?_
      have f857 := f692.sub (r := []) trivial
      clear f692
      refine wp_seq ?_
      refine At.start ?_
      refine At.rd f857 1 [[]] [(6, .bool true)] [] (by kernel_rfl) trivial (fun act859 f858 => ?_)
      clear f857
      refine At.done rfl ?_
      refine t_n ?_
      refine wp_ret ?_
      refine ret_ f858 [] [.bool true] [] (by kernel_rfl) trivial ?_
      exact ⟨rfl, e679⟩

end Go.Proofs.Ytklbpajmoklheaa
