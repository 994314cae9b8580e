/-
  A walk of a Go function, printed by a program of this repo. Conditions: what the theorems name.
-/
import Derived.Test.YtklbpajmoklheaaWShown
set_option linter.unusedVariables false
set_option linter.unusedSimpArgs false
namespace Go.Proofs.Ytklbpajmoklheaa
open Go Go.RowKit

set_option maxHeartbeats 4000000 in
theorem compares_any {a b : Tup} {p : Int} {w : World} :
    Calls Try.prog 6 #[tupV a, tupV b, .int .i64 (p)] w fun e w' => e = .returned (.bool true) ∧ Ext w w' := by
  refine enter_ (args := [tupV a, tupV b, .int .i64 (p)]) Try.func6 rfl Try.ntmps6 (Nat.le_of_ble_eq_true rfl) (fun act0 f0 => ?_)
  have e0 := Ext.refl w
  refine wp_seq ?_
  refine At.start ?_
  refine At.seq f0 1 [[]] [(3, .pointer (some ⟨w.heap.size, 0, none⟩))] (w.alloc (.cells ((tupC a)).toArray 40 (0, 0))) [] (by kernel_rfl) trivial (fun act4 w1 hw2 f3 => ?_)
  clear f0
  have g5 := gr_alloc hw2
  have szw1 := g5.size
  have e7 := e0.gr g5 no_row
  clear e0
  have bx8 : Bx w1 (w.heap.size) (tupC a) 40 := Bx.new hw2
  have := bx8.lt
  clear g5 hw2
  refine At.seq f3 1 [[]] [(4, .pointer (some ⟨w1.heap.size, 0, none⟩))] (w1.alloc (.cells ((tupC b)).toArray 40 (0, 0))) [] (by kernel_rfl) trivial (fun act12 w9 hw10 f11 => ?_)
  clear f3
  have g13 := gr_alloc hw10
  have szw9 := g13.size
  have e15 := e7.gr g13 no_row
  clear e7
  have bx16 := bx8.gr g13 (by simp)
  clear bx8
  have bx17 : Bx w9 (w1.heap.size) (tupC b) 40 := Bx.new hw10
  have := bx17.lt
  clear g13 hw10
  refine At.rd f11 1 [[]] [(6, .bool false)] [] (by kernel_rfl) trivial (fun act19 f18 => ?_)
  clear f11
  refine At.done rfl ?_
  refine t_n ?_
  have f20 := f18.sub (r := [(4, .pointer (some ⟨w1.heap.size, 0, none⟩)), (3, .pointer (some ⟨w.heap.size, 0, none⟩)), (2, .int .i64 (p))]) ⟨rfl, rfl, rfl, trivial⟩
  clear f18
  refine wp_seq ?_
  refine At.start ?_
  refine At.call f20 22 #[] (some 10) (by kernel_rfl) (shown_any) ?_
  rintro e_ w21 ⟨rfl, he⟩
  refine ⟨_, rfl, _, rfl, fun act22 f23 => ?_⟩
  clear f20
  have g24 := gr_ext he
  have szw21 := g24.size
  have e25 := e15.gr g24 no_row
  clear e15
  have bx26 := bx16.gr g24 (by simp)
  clear bx16
  have bx27 := bx17.gr g24 (by simp)
  clear bx17
  clear g24 he
  refine At.rd f23 1 [[]] [(7, .bool true)] [] (by kernel_rfl) trivial (fun act29 f28 => ?_)
  clear f23
  refine At.done rfl ?_
  refine t_n ?_
  have f30 := f28.sub (r := [(7, .bool true), (4, .pointer (some ⟨w1.heap.size, 0, none⟩)), (3, .pointer (some ⟨w.heap.size, 0, none⟩)), (2, .int .i64 (p))]) ⟨rfl, rfl, rfl, rfl, trivial⟩
  clear f28
  refine wp_seq ?_
  refine At.start ?_
  refine At.rd f30 5 [[], [.ld (.bool (a.top))], [], [.ld (.int .i64 (a.c0)), .ld (.int .i64 (a.c1)), .ld (.int .i64 (a.c2)), .ld (.int .i64 (a.c3))], []] [(15, tupV a), (14, .agg #[.int .i64 (a.c0), .int .i64 (a.c1), .int .i64 (a.c2), .int .i64 (a.c3)]), (13, .pointer (some ⟨w.heap.size, 1, none⟩)), (12, .bool (a.top)), (11, .pointer (some ⟨w.heap.size, 0, none⟩))] [(w21.cell? ⟨w.heap.size, 0, none⟩ = some (.bool (a.top))), (w21.cell? ⟨w.heap.size, 1, none⟩ = some (.int .i64 (a.c0))), (w21.cell? ⟨w.heap.size, 2, none⟩ = some (.int .i64 (a.c1))), (w21.cell? ⟨w.heap.size, 3, none⟩ = some (.int .i64 (a.c2))), (w21.cell? ⟨w.heap.size, 4, none⟩ = some (.int .i64 (a.c3)))] (by kernel_rfl) ⟨(bx26.cell (i := 0) rfl), (bx26.cell (i := 1) rfl), (bx26.cell (i := 2) rfl), (bx26.cell (i := 3) rfl), (bx26.cell (i := 4) rfl), trivial⟩ (fun act32 f31 => ?_)
  clear f30
  refine At.seq f31 1 [[]] [(8, .pointer (some ⟨w21.heap.size, 0, none⟩))] (w21.alloc (.cells #[.bool false, .int .i64 (0), .int .i64 (0), .int .i64 (0), .int .i64 (0)] 41 (0, 0))) [] (by kernel_rfl) trivial (fun act36 w33 hw34 f35 => ?_)
  clear f31
  have g37 := gr_alloc hw34
  have szw33 := g37.size
  have e39 := e25.gr g37 no_row
  clear e25
  have bx40 := bx26.gr g37 (by simp)
  clear bx26
  have bx41 := bx27.gr g37 (by simp)
  clear bx27
  have bx42 : Bx w33 (w21.heap.size) [.bool false, .int .i64 (0), .int .i64 (0), .int .i64 (0), .int .i64 (0)] 41 := Bx.new hw34
  have := bx42.lt
  clear g37 hw34
  refine At.store f35 (t := 41) (b := w21.heap.size) (off := 0) (v := tupV a) (by kernel_rfl) bx42 (by kernel_rfl) (fun act47 w43 g44 bx45 f46 => ?_)
  clear f35
  replace bx45 : Bx w43 (w21.heap.size) (tupC a) 41 := bx45
  have szw43 := g44.size
  have e48 := e39.gr g44 (fun k h => by injection h; omega)
  clear e39
  have bx49 := bx40.gr g44 (fun h => by injection h; omega)
  clear bx40
  have bx50 := bx41.gr g44 (fun h => by injection h; omega)
  clear bx41
  clear bx42 g44
  refine At.done rfl ?_
  refine t_n ?_
  have f51 := f46.sub (r := [(8, .pointer (some ⟨w21.heap.size, 0, none⟩)), (7, .bool true), (4, .pointer (some ⟨w1.heap.size, 0, none⟩)), (3, .pointer (some ⟨w.heap.size, 0, none⟩)), (2, .int .i64 (p))]) ⟨rfl, rfl, rfl, rfl, rfl, trivial⟩
  clear f46
  refine wp_seq ?_
  refine At.start ?_
  refine At.rd f51 5 [[], [.ld (.bool (b.top))], [], [.ld (.int .i64 (b.c0)), .ld (.int .i64 (b.c1)), .ld (.int .i64 (b.c2)), .ld (.int .i64 (b.c3))], []] [(20, tupV b), (19, .agg #[.int .i64 (b.c0), .int .i64 (b.c1), .int .i64 (b.c2), .int .i64 (b.c3)]), (18, .pointer (some ⟨w1.heap.size, 1, none⟩)), (17, .bool (b.top)), (16, .pointer (some ⟨w1.heap.size, 0, none⟩))] [(w43.cell? ⟨w1.heap.size, 0, none⟩ = some (.bool (b.top))), (w43.cell? ⟨w1.heap.size, 1, none⟩ = some (.int .i64 (b.c0))), (w43.cell? ⟨w1.heap.size, 2, none⟩ = some (.int .i64 (b.c1))), (w43.cell? ⟨w1.heap.size, 3, none⟩ = some (.int .i64 (b.c2))), (w43.cell? ⟨w1.heap.size, 4, none⟩ = some (.int .i64 (b.c3)))] (by kernel_rfl) ⟨(bx50.cell (i := 0) rfl), (bx50.cell (i := 1) rfl), (bx50.cell (i := 2) rfl), (bx50.cell (i := 3) rfl), (bx50.cell (i := 4) rfl), trivial⟩ (fun act53 f52 => ?_)
  clear f51
  refine At.seq f52 1 [[]] [(9, .pointer (some ⟨w43.heap.size, 0, none⟩))] (w43.alloc (.cells #[.bool false, .int .i64 (0), .int .i64 (0), .int .i64 (0), .int .i64 (0)] 41 (0, 0))) [] (by kernel_rfl) trivial (fun act57 w54 hw55 f56 => ?_)
  clear f52
  have g58 := gr_alloc hw55
  have szw54 := g58.size
  have e60 := e48.gr g58 no_row
  clear e48
  have bx61 := bx49.gr g58 (by simp)
  clear bx49
  have bx62 := bx50.gr g58 (by simp)
  clear bx50
  have bx63 := bx45.gr g58 (by simp)
  clear bx45
  have bx64 : Bx w54 (w43.heap.size) [.bool false, .int .i64 (0), .int .i64 (0), .int .i64 (0), .int .i64 (0)] 41 := Bx.new hw55
  have := bx64.lt
  clear g58 hw55
  refine At.store f56 (t := 41) (b := w43.heap.size) (off := 0) (v := tupV b) (by kernel_rfl) bx64 (by kernel_rfl) (fun act69 w65 g66 bx67 f68 => ?_)
  clear f56
  replace bx67 : Bx w65 (w43.heap.size) (tupC b) 41 := bx67
  have szw65 := g66.size
  have e70 := e60.gr g66 (fun k h => by injection h; omega)
  clear e60
  have bx71 := bx61.gr g66 (fun h => by injection h; omega)
  clear bx61
  have bx72 := bx62.gr g66 (fun h => by injection h; omega)
  clear bx62
  have bx73 := bx63.gr g66 (fun h => by injection h; omega)
  clear bx63
  clear bx64 g66
  refine At.done rfl ?_
  refine t_n ?_
  have f74 := f68.sub (r := [(9, .pointer (some ⟨w43.heap.size, 0, none⟩)), (8, .pointer (some ⟨w21.heap.size, 0, none⟩)), (7, .bool true), (4, .pointer (some ⟨w1.heap.size, 0, none⟩)), (3, .pointer (some ⟨w.heap.size, 0, none⟩)), (2, .int .i64 (p))]) ⟨rfl, rfl, rfl, rfl, rfl, rfl, trivial⟩
  clear f68
  refine wp_seq ?_
  obtain ⟨Cs75, hCs76⟩ : ∃ c : List (Addr × Value), c = [(⟨w21.heap.size, 0, none⟩, (.bool (a.top))), (⟨w21.heap.size, 1, none⟩, (.int .i64 (a.c0))), (⟨w21.heap.size, 2, none⟩, (.int .i64 (a.c1))), (⟨w21.heap.size, 3, none⟩, (.int .i64 (a.c2))), (⟨w21.heap.size, 4, none⟩, (.int .i64 (a.c3))), (⟨w43.heap.size, 0, none⟩, (.bool (b.top))), (⟨w43.heap.size, 1, none⟩, (.int .i64 (b.c0))), (⟨w43.heap.size, 2, none⟩, (.int .i64 (b.c1))), (⟨w43.heap.size, 3, none⟩, (.int .i64 (b.c2))), (⟨w43.heap.size, 4, none⟩, (.int .i64 (b.c3))), (⟨w.heap.size, 0, none⟩, (.bool (a.top))), (⟨w.heap.size, 1, none⟩, (.int .i64 (a.c0))), (⟨w.heap.size, 2, none⟩, (.int .i64 (a.c1))), (⟨w.heap.size, 3, none⟩, (.int .i64 (a.c2))), (⟨w.heap.size, 4, none⟩, (.int .i64 (a.c3))), (⟨w1.heap.size, 0, none⟩, (.bool (b.top))), (⟨w1.heap.size, 1, none⟩, (.int .i64 (b.c0))), (⟨w1.heap.size, 2, none⟩, (.int .i64 (b.c1))), (⟨w1.heap.size, 3, none⟩, (.int .i64 (b.c2))), (⟨w1.heap.size, 4, none⟩, (.int .i64 (b.c3)))] := ⟨_, rfl⟩
  have hS77 : HoldsC Cs75 w65 := by rw [hCs76]; exact ⟨(bx73.cell (i := 0) rfl), (bx73.cell (i := 1) rfl), (bx73.cell (i := 2) rfl), (bx73.cell (i := 3) rfl), (bx73.cell (i := 4) rfl), (bx67.cell (i := 0) rfl), (bx67.cell (i := 1) rfl), (bx67.cell (i := 2) rfl), (bx67.cell (i := 3) rfl), (bx67.cell (i := 4) rfl), (bx71.cell (i := 0) rfl), (bx71.cell (i := 1) rfl), (bx71.cell (i := 2) rfl), (bx71.cell (i := 3) rfl), (bx71.cell (i := 4) rfl), (bx72.cell (i := 0) rfl), (bx72.cell (i := 1) rfl), (bx72.cell (i := 2) rfl), (bx72.cell (i := 3) rfl), (bx72.cell (i := 4) rfl), trivial⟩
  refine AtH.start Cs75 24 #[false, false, false, false, false, false, false, false, false, false, false, false, false, false, false, false, false, false, false, false, false, false, false, false] (by kernel_rfl) rfl rfl (fun w79 hw80 => ?_)
  have g78 := gr_drew hw80
  have hS81 := hS77.gr g78
  have szw79 := g78.size
  have e82 := e70.gr g78 no_row
  clear e70
  have bx83 := bx71.gr g78 (by simp)
  clear bx71
  have bx84 := bx72.gr g78 (by simp)
  clear bx72
  have bx85 := bx73.gr g78 (by simp)
  clear bx73
  have bx86 := bx67.gr g78 (by simp)
  clear bx67
  clear g78 hw80 hS77
  refine AtH.rd (by kernel_rfl) (fun d v c a w h => by cases d <;> exact h) hS81 [0, 1, 2, 3, 4, 6, 7, 8] [[], [], [.ld (.bool (a.top)), .ld (.int .i64 (a.c0)), .ld (.int .i64 (a.c1)), .ld (.int .i64 (a.c2)), .ld (.int .i64 (a.c3))], [.ld (.bool (b.top)), .ld (.int .i64 (b.c0)), .ld (.int .i64 (b.c1)), .ld (.int .i64 (b.c2)), .ld (.int .i64 (b.c3))], [], [.ld (.bool (a.top)), .ld (.int .i64 (a.c0)), .ld (.int .i64 (a.c1)), .ld (.int .i64 (a.c2)), .ld (.int .i64 (a.c3))], [.ld (.bool (b.top)), .ld (.int .i64 (b.c0)), .ld (.int .i64 (b.c1)), .ld (.int .i64 (b.c2)), .ld (.int .i64 (b.c3))], []] [(29, .int .i64 (p)), (28, tupV b), (27, tupV a), (25, .int .i64 (p)), (24, tupV b), (23, tupV a), (22, .bool true), (21, .bool true)] #[true, true, true, true, true, false, true, true, true, false, false, false, false, false, false, false, false, false, false, false, false, false, false, false] [(∃ j_ : Nat, Cs75[j_]? = some (⟨w21.heap.size, 0, none⟩, (.bool (a.top)))), (∃ j_ : Nat, Cs75[j_]? = some (⟨w21.heap.size, 1, none⟩, (.int .i64 (a.c0)))), (∃ j_ : Nat, Cs75[j_]? = some (⟨w21.heap.size, 2, none⟩, (.int .i64 (a.c1)))), (∃ j_ : Nat, Cs75[j_]? = some (⟨w21.heap.size, 3, none⟩, (.int .i64 (a.c2)))), (∃ j_ : Nat, Cs75[j_]? = some (⟨w21.heap.size, 4, none⟩, (.int .i64 (a.c3)))), (∃ j_ : Nat, Cs75[j_]? = some (⟨w43.heap.size, 0, none⟩, (.bool (b.top)))), (∃ j_ : Nat, Cs75[j_]? = some (⟨w43.heap.size, 1, none⟩, (.int .i64 (b.c0)))), (∃ j_ : Nat, Cs75[j_]? = some (⟨w43.heap.size, 2, none⟩, (.int .i64 (b.c1)))), (∃ j_ : Nat, Cs75[j_]? = some (⟨w43.heap.size, 3, none⟩, (.int .i64 (b.c2)))), (∃ j_ : Nat, Cs75[j_]? = some (⟨w43.heap.size, 4, none⟩, (.int .i64 (b.c3)))), (∃ j_ : Nat, Cs75[j_]? = some (⟨w.heap.size, 0, none⟩, (.bool (a.top)))), (∃ j_ : Nat, Cs75[j_]? = some (⟨w.heap.size, 1, none⟩, (.int .i64 (a.c0)))), (∃ j_ : Nat, Cs75[j_]? = some (⟨w.heap.size, 2, none⟩, (.int .i64 (a.c1)))), (∃ j_ : Nat, Cs75[j_]? = some (⟨w.heap.size, 3, none⟩, (.int .i64 (a.c2)))), (∃ j_ : Nat, Cs75[j_]? = some (⟨w.heap.size, 4, none⟩, (.int .i64 (a.c3)))), (∃ j_ : Nat, Cs75[j_]? = some (⟨w1.heap.size, 0, none⟩, (.bool (b.top)))), (∃ j_ : Nat, Cs75[j_]? = some (⟨w1.heap.size, 1, none⟩, (.int .i64 (b.c0)))), (∃ j_ : Nat, Cs75[j_]? = some (⟨w1.heap.size, 2, none⟩, (.int .i64 (b.c1)))), (∃ j_ : Nat, Cs75[j_]? = some (⟨w1.heap.size, 3, none⟩, (.int .i64 (b.c2)))), (∃ j_ : Nat, Cs75[j_]? = some (⟨w1.heap.size, 4, none⟩, (.int .i64 (b.c3))))] 16 f74 (by kernel_rfl) ⟨⟨0, by rw [hCs76]; rfl⟩, ⟨1, by rw [hCs76]; rfl⟩, ⟨2, by rw [hCs76]; rfl⟩, ⟨3, by rw [hCs76]; rfl⟩, ⟨4, by rw [hCs76]; rfl⟩, ⟨5, by rw [hCs76]; rfl⟩, ⟨6, by rw [hCs76]; rfl⟩, ⟨7, by rw [hCs76]; rfl⟩, ⟨8, by rw [hCs76]; rfl⟩, ⟨9, by rw [hCs76]; rfl⟩, ⟨10, by rw [hCs76]; rfl⟩, ⟨11, by rw [hCs76]; rfl⟩, ⟨12, by rw [hCs76]; rfl⟩, ⟨13, by rw [hCs76]; rfl⟩, ⟨14, by rw [hCs76]; rfl⟩, ⟨15, by rw [hCs76]; rfl⟩, ⟨16, by rw [hCs76]; rfl⟩, ⟨17, by rw [hCs76]; rfl⟩, ⟨18, by rw [hCs76]; rfl⟩, ⟨19, by rw [hCs76]; rfl⟩, trivial⟩ (fun act88 f87 => ?_)
  clear f74
  refine AtH.all [5] 15 (by kernel_rfl) (by simp) ⟨?_, trivial⟩
  refine OneH.call f87 23 #[tupV a, tupV b, .int .i64 (p)] (some 26) #[true, true, true, true, true, true, true, true, true, false, false, false, false, false, false, false, false, false, false, false, false, false, false, false] (by kernel_rfl) (by kernel_rfl) (cmpM_any (a := a) (b := b) (p := p)) ?_
  rintro e_ w90 ⟨rfl, he⟩
  have := cmp_rng a b p
  refine ⟨_, rfl, _, rfl, fun act91 f92 => ?_⟩
  clear f87
  have g93 := gr_ext he
  have hS89 := hS81.gr g93
  have szw90 := g93.size
  have e94 := e82.gr g93 no_row
  clear e82
  have bx95 := bx83.gr g93 (by simp)
  clear bx83
  have bx96 := bx84.gr g93 (by simp)
  clear bx84
  have bx97 := bx85.gr g93 (by simp)
  clear bx85
  have bx98 := bx86.gr g93 (by simp)
  clear bx86
  clear g93 he
  refine ⟨hS89, ?_⟩
  refine AtH.all [9] 14 (by kernel_rfl) (by simp) ⟨?_, trivial⟩
  refine OneH.call f92 24 #[tupV a, tupV b, .int .i64 (p)] (some 30) #[true, true, true, true, true, true, true, true, true, true, false, false, false, false, false, false, false, false, false, false, false, false, false, false] (by kernel_rfl) (by kernel_rfl) (cmpR_any (a := a) (b := b) (p := p)) ?_
  rintro e_ w100 ⟨rfl, he⟩
  have := cmp_rng a b p
  refine ⟨_, rfl, _, rfl, fun act101 f102 => ?_⟩
  clear f92
  have g103 := gr_ext he
  have hS99 := hS89.gr g103
  have szw100 := g103.size
  have e104 := e94.gr g103 no_row
  clear e94
  have bx105 := bx95.gr g103 (by simp)
  clear bx95
  have bx106 := bx96.gr g103 (by simp)
  clear bx96
  have bx107 := bx97.gr g103 (by simp)
  clear bx97
  have bx108 := bx98.gr g103 (by simp)
  clear bx98
  clear g103 he
  refine ⟨hS99, ?_⟩
  refine AtH.rd (by kernel_rfl) (fun d v c a w h => by cases d <;> exact h) hS99 [10] [[.as_ (.bool true)]] [(31, .bool true)] #[true, true, true, true, true, true, true, true, true, true, true, false, false, false, false, false, false, false, false, false, false, false, false, false] [((.bool ((cmpT a b p : Int) == (cmpT a b p)) : Value) = .bool true)] 13 f102 (by kernel_rfl) ⟨(congrArg Value.bool (by simp)), trivial⟩ (fun act110 f109 => ?_)
  clear f102
  refine AtH.rd (by kernel_rfl) (fun d v c a w h => by cases d <;> exact h) hS99 [11] [[]] [(32, .bool true)] #[true, true, true, true, true, true, true, true, true, true, true, true, false, false, false, false, false, false, false, false, false, false, false, false] [] 12 f109 (by kernel_rfl) trivial (fun act112 f111 => ?_)
  clear f109
  refine AtH.rd (by kernel_rfl) (fun d v c a w h => by cases d <;> exact h) hS99 [12] [[]] [(33, .bool true)] #[true, true, true, true, true, true, true, true, true, true, true, true, true, false, false, false, false, false, false, false, false, false, false, false] [] 11 f111 (by kernel_rfl) trivial (fun act114 f113 => ?_)
  clear f111
  refine AtH.rd (by kernel_rfl) (fun d v c a w h => by cases d <;> exact h) hS99 [13] [[.ld (.bool (b.top)), .ld (.int .i64 (b.c0)), .ld (.int .i64 (b.c1)), .ld (.int .i64 (b.c2)), .ld (.int .i64 (b.c3))]] [(34, tupV b)] #[true, true, true, true, true, true, true, true, true, true, true, true, true, true, false, false, false, false, false, false, false, false, false, false] [(∃ j_ : Nat, Cs75[j_]? = some (⟨w43.heap.size, 0, none⟩, (.bool (b.top)))), (∃ j_ : Nat, Cs75[j_]? = some (⟨w43.heap.size, 1, none⟩, (.int .i64 (b.c0)))), (∃ j_ : Nat, Cs75[j_]? = some (⟨w43.heap.size, 2, none⟩, (.int .i64 (b.c1)))), (∃ j_ : Nat, Cs75[j_]? = some (⟨w43.heap.size, 3, none⟩, (.int .i64 (b.c2)))), (∃ j_ : Nat, Cs75[j_]? = some (⟨w43.heap.size, 4, none⟩, (.int .i64 (b.c3))))] 10 f113 (by kernel_rfl) ⟨⟨5, by rw [hCs76]; rfl⟩, ⟨6, by rw [hCs76]; rfl⟩, ⟨7, by rw [hCs76]; rfl⟩, ⟨8, by rw [hCs76]; rfl⟩, ⟨9, by rw [hCs76]; rfl⟩, trivial⟩ (fun act116 f115 => ?_)
  clear f113
  refine AtH.rd (by kernel_rfl) (fun d v c a w h => by cases d <;> exact h) hS99 [14] [[.ld (.bool (a.top)), .ld (.int .i64 (a.c0)), .ld (.int .i64 (a.c1)), .ld (.int .i64 (a.c2)), .ld (.int .i64 (a.c3))]] [(35, tupV a)] #[true, true, true, true, true, true, true, true, true, true, true, true, true, true, true, false, false, false, false, false, false, false, false, false] [(∃ j_ : Nat, Cs75[j_]? = some (⟨w21.heap.size, 0, none⟩, (.bool (a.top)))), (∃ j_ : Nat, Cs75[j_]? = some (⟨w21.heap.size, 1, none⟩, (.int .i64 (a.c0)))), (∃ j_ : Nat, Cs75[j_]? = some (⟨w21.heap.size, 2, none⟩, (.int .i64 (a.c1)))), (∃ j_ : Nat, Cs75[j_]? = some (⟨w21.heap.size, 3, none⟩, (.int .i64 (a.c2)))), (∃ j_ : Nat, Cs75[j_]? = some (⟨w21.heap.size, 4, none⟩, (.int .i64 (a.c3))))] 9 f115 (by kernel_rfl) ⟨⟨0, by rw [hCs76]; rfl⟩, ⟨1, by rw [hCs76]; rfl⟩, ⟨2, by rw [hCs76]; rfl⟩, ⟨3, by rw [hCs76]; rfl⟩, ⟨4, by rw [hCs76]; rfl⟩, trivial⟩ (fun act118 f117 => ?_)
  clear f115
  refine AtH.rd (by kernel_rfl) (fun d v c a w h => by cases d <;> exact h) hS99 [15] [[]] [(36, .int .i64 (p))] #[true, true, true, true, true, true, true, true, true, true, true, true, true, true, true, true, false, false, false, false, false, false, false, false] [] 8 f117 (by kernel_rfl) trivial (fun act120 f119 => ?_)
  clear f117
  refine AtH.rd (by kernel_rfl) (fun d v c a w h => by cases d <;> exact h) hS99 [17] [[.ld (.bool (b.top)), .ld (.int .i64 (b.c0)), .ld (.int .i64 (b.c1)), .ld (.int .i64 (b.c2)), .ld (.int .i64 (b.c3))]] [(38, tupV b)] #[true, true, true, true, true, true, true, true, true, true, true, true, true, true, true, true, false, true, false, false, false, false, false, false] [(∃ j_ : Nat, Cs75[j_]? = some (⟨w1.heap.size, 0, none⟩, (.bool (b.top)))), (∃ j_ : Nat, Cs75[j_]? = some (⟨w1.heap.size, 1, none⟩, (.int .i64 (b.c0)))), (∃ j_ : Nat, Cs75[j_]? = some (⟨w1.heap.size, 2, none⟩, (.int .i64 (b.c1)))), (∃ j_ : Nat, Cs75[j_]? = some (⟨w1.heap.size, 3, none⟩, (.int .i64 (b.c2)))), (∃ j_ : Nat, Cs75[j_]? = some (⟨w1.heap.size, 4, none⟩, (.int .i64 (b.c3))))] 7 f119 (by kernel_rfl) ⟨⟨15, by rw [hCs76]; rfl⟩, ⟨16, by rw [hCs76]; rfl⟩, ⟨17, by rw [hCs76]; rfl⟩, ⟨18, by rw [hCs76]; rfl⟩, ⟨19, by rw [hCs76]; rfl⟩, trivial⟩ (fun act122 f121 => ?_)
  clear f119
  refine AtH.rd (by kernel_rfl) (fun d v c a w h => by cases d <;> exact h) hS99 [18] [[.ld (.bool (a.top)), .ld (.int .i64 (a.c0)), .ld (.int .i64 (a.c1)), .ld (.int .i64 (a.c2)), .ld (.int .i64 (a.c3))]] [(39, tupV a)] #[true, true, true, true, true, true, true, true, true, true, true, true, true, true, true, true, false, true, true, false, false, false, false, false] [(∃ j_ : Nat, Cs75[j_]? = some (⟨w.heap.size, 0, none⟩, (.bool (a.top)))), (∃ j_ : Nat, Cs75[j_]? = some (⟨w.heap.size, 1, none⟩, (.int .i64 (a.c0)))), (∃ j_ : Nat, Cs75[j_]? = some (⟨w.heap.size, 2, none⟩, (.int .i64 (a.c1)))), (∃ j_ : Nat, Cs75[j_]? = some (⟨w.heap.size, 3, none⟩, (.int .i64 (a.c2)))), (∃ j_ : Nat, Cs75[j_]? = some (⟨w.heap.size, 4, none⟩, (.int .i64 (a.c3))))] 6 f121 (by kernel_rfl) ⟨⟨10, by rw [hCs76]; rfl⟩, ⟨11, by rw [hCs76]; rfl⟩, ⟨12, by rw [hCs76]; rfl⟩, ⟨13, by rw [hCs76]; rfl⟩, ⟨14, by rw [hCs76]; rfl⟩, trivial⟩ (fun act124 f123 => ?_)
  clear f121
  refine AtH.rd (by kernel_rfl) (fun d v c a w h => by cases d <;> exact h) hS99 [19] [[]] [(40, .int .i64 (p))] #[true, true, true, true, true, true, true, true, true, true, true, true, true, true, true, true, false, true, true, true, false, false, false, false] [] 5 f123 (by kernel_rfl) trivial (fun act126 f125 => ?_)
  clear f123
  refine AtH.all [16] 4 (by kernel_rfl) (by simp) ⟨?_, trivial⟩
  refine OneH.call f125 23 #[tupV b, tupV a, .int .i64 (p)] (some 37) #[true, true, true, true, true, true, true, true, true, true, true, true, true, true, true, true, true, true, true, true, false, false, false, false] (by kernel_rfl) (by kernel_rfl) (cmpM_any (a := b) (b := a) (p := p)) ?_
  rintro e_ w128 ⟨rfl, he⟩
  have := cmp_rng b a p
  refine ⟨_, rfl, _, rfl, fun act129 f130 => ?_⟩
  clear f125
  have g131 := gr_ext he
  have hS127 := hS99.gr g131
  have szw128 := g131.size
  have e132 := e104.gr g131 no_row
  clear e104
  have bx133 := bx105.gr g131 (by simp)
  clear bx105
  have bx134 := bx106.gr g131 (by simp)
  clear bx106
  have bx135 := bx107.gr g131 (by simp)
  clear bx107
  have bx136 := bx108.gr g131 (by simp)
  clear bx108
  clear g131 he
  refine ⟨hS127, ?_⟩
  refine AtH.all [20] 3 (by kernel_rfl) (by simp) ⟨?_, trivial⟩
  refine OneH.call f130 24 #[tupV b, tupV a, .int .i64 (p)] (some 41) #[true, true, true, true, true, true, true, true, true, true, true, true, true, true, true, true, true, true, true, true, true, false, false, false] (by kernel_rfl) (by kernel_rfl) (cmpR_any (a := b) (b := a) (p := p)) ?_
  rintro e_ w138 ⟨rfl, he⟩
  have := cmp_rng b a p
  refine ⟨_, rfl, _, rfl, fun act139 f140 => ?_⟩
  clear f130
  have g141 := gr_ext he
  have hS137 := hS127.gr g141
  have szw138 := g141.size
  have e142 := e132.gr g141 no_row
  clear e132
  have bx143 := bx133.gr g141 (by simp)
  clear bx133
  have bx144 := bx134.gr g141 (by simp)
  clear bx134
  have bx145 := bx135.gr g141 (by simp)
  clear bx135
  have bx146 := bx136.gr g141 (by simp)
  clear bx136
  clear g141 he
  refine ⟨hS137, ?_⟩
  refine AtH.rd (by kernel_rfl) (fun d v c a w h => by cases d <;> exact h) hS137 [21] [[.as_ (.bool true)]] [(42, .bool true)] #[true, true, true, true, true, true, true, true, true, true, true, true, true, true, true, true, true, true, true, true, true, true, false, false] [((.bool ((cmpT b a p : Int) == (cmpT b a p)) : Value) = .bool true)] 2 f140 (by kernel_rfl) ⟨(congrArg Value.bool (by simp)), trivial⟩ (fun act148 f147 => ?_)
  clear f140
  refine AtH.rd (by kernel_rfl) (fun d v c a w h => by cases d <;> exact h) hS137 [22] [[]] [(43, .bool true)] #[true, true, true, true, true, true, true, true, true, true, true, true, true, true, true, true, true, true, true, true, true, true, true, false] [] 1 f147 (by kernel_rfl) trivial (fun act150 f149 => ?_)
  clear f147
  refine AtH.rd (by kernel_rfl) (fun d v c a w h => by cases d <;> exact h) hS137 [23] [[]] [(6, .bool true)] #[true, true, true, true, true, true, true, true, true, true, true, true, true, true, true, true, true, true, true, true, true, true, true, true] [] 0 f149 (by kernel_rfl) trivial (fun act152 f151 => ?_)
  clear f149
  refine AtH.done (by kernel_rfl) ?_
  clear hS137
  refine t_n ?_
  have f153 := f151.sub (r := [(6, .bool true)]) ⟨rfl, trivial⟩
  clear f151
  refine wp_ret ?_
  refine ret_ f153 [] [.bool true] [] (by kernel_rfl) trivial ?_
  exact ⟨rfl, e142⟩

end Go.Proofs.Ytklbpajmoklheaa
