/-
  A walk of a Go function, printed by a program of this repo. Conditions: what the theorems name.
-/
import Derived.Test.YtklbpajmoklheaaPureBest
import Derived.Test.YtklbpajmoklheaaWUp2
import Derived.Test.YtklbpajmoklheaaWRight2
set_option linter.unusedVariables false
set_option linter.unusedSimpArgs false
namespace Go.Proofs.Ytklbpajmoklheaa
open Go Go.RowKit

set_option maxHeartbeats 4000000 in
theorem bestR_any {Ag0 Ag1 Ag2 : Option Addr} {cg0 cg1 cg2 : Nat} {g : GameL} {As : Option Addr} {cs : Nat} {ls : List Tup} {at_ : Int} {w : World} (rg : RdG w 0 w.heap.size Ag0 Ag1 Ag2 cg0 cg1 cg2 g) (rs : RdR w 0 w.heap.size As ls) (hG : RightG g) (hl : ls.length = g.ow.length) (hok : okL ls) (ha0 : 0 ≤ at_) (ha1 : at_ < (ls.length : Int)) :
    Calls Try.prog 44 #[.agg #[.slice Ag0 g.ow.length cg0, .slice Ag1 g.pr.length cg1, .slice Ag2 g.mv.length cg2], .slice As ls.length cs, .int .i64 (at_)] w fun e w' => e = .returned (.agg #[.bool (bestB (upG g ls at_) (gI g.ow at_) (gL g.mv at_)).1.top, .int .i64 (bestB (upG g ls at_) (gI g.ow at_) (gL g.mv at_)).1.c0, .int .i64 (bestB (upG g ls at_) (gI g.ow at_) (gL g.mv at_)).1.c1, .int .i64 (bestB (upG g ls at_) (gI g.ow at_) (gL g.mv at_)).1.c2, .int .i64 (bestB (upG g ls at_) (gI g.ow at_) (gL g.mv at_)).1.c3]) ∧ Ext w w' := by
 have hlg0 := rg.ow.len
 have hlg1 := rg.pr.len
 have hlg2 := rg.mv.len
 have hkg0 := rg.k0
 have hkg1 := rg.k1
 have hkg2 := rg.k2
 have hls := rs.len
 simp only [Enc.bytes] at hls
 have hpl := hG.pl
 have hml := hG.ml
 have hn1 := hG.n1
 have hne := hG.ne at_ ha0 (by omega)
 have hmv := hG.mv at_ ha0 (by omega)
 have hm0 := hmv 0 (by omega) (by omega)
 have how := hG.ow at_ ha0 (by omega)
 have hbi := bestB_in (f := upG g ls at_) (own := gI g.ow at_) (row := gL g.mv at_) (fun k a b => (hmv k a b).1)
 refine enter_ (args := [.agg #[.slice Ag0 g.ow.length cg0, .slice Ag1 g.pr.length cg1, .slice Ag2 g.mv.length cg2], .slice As ls.length cs, .int .i64 (at_)]) Try.func44 rfl Try.ntmps44 (Nat.le_of_ble_eq_true rfl) (fun act0 f0 => ?_)
 have e0 := Ext.refl w
 refine wp_seq ?_
 refine At.start ?_
 refine At.seq f0 1 [[]] [(3, .pointer (some ⟨w.heap.size, 0, none⟩))] (w.alloc (.cells #[.slice Ag0 g.ow.length cg0, .slice Ag1 g.pr.length cg1, .slice Ag2 g.mv.length cg2] 25 (0, 0))) [] (by kernel_rfl) trivial (fun act4 w1 hw2 f3 => ?_)
 clear f0
 have g5 := gr_alloc hw2
 have szw1 := g5.size
 have e7 := e0.gr g5 no_row
 clear e0
 have r8 := rg.gr g5 (fun _ h => by cases h)
 clear rg
 have r9 := rs.gr g5 (fun _ h => by cases h)
 clear rs
 have bx10 : Bx w1 (w.heap.size) [.slice Ag0 g.ow.length cg0, .slice Ag1 g.pr.length cg1, .slice Ag2 g.mv.length cg2] 25 := Bx.new hw2
 have := bx10.lt
 clear g5 hw2
 refine At.seq f3 1 [[]] [(6, .pointer (some ⟨w1.heap.size, 0, none⟩))] (w1.alloc (.cells #[.bool false, .int .i64 (0), .int .i64 (0), .int .i64 (0), .int .i64 (0)] 40 (0, 0))) [] (by kernel_rfl) trivial (fun act14 w11 hw12 f13 => ?_)
 clear f3
 have g15 := gr_alloc hw12
 have szw11 := g15.size
 have e17 := e7.gr g15 no_row
 clear e7
 have r18 := r8.gr g15 (fun _ h => by cases h)
 clear r8
 have r19 := r9.gr g15 (fun _ h => by cases h)
 clear r9
 have bx20 := bx10.gr g15 (by simp)
 clear bx10
 have bx21 : Bx w11 (w1.heap.size) [.bool false, .int .i64 (0), .int .i64 (0), .int .i64 (0), .int .i64 (0)] 40 := Bx.new hw12
 have := bx21.lt
 clear g15 hw12
 refine At.done rfl ?_
 refine t_n ?_
 have f22 := f13.sub (r := [(6, .pointer (some ⟨w1.heap.size, 0, none⟩)), (3, .pointer (some ⟨w.heap.size, 0, none⟩)), (1, .slice As ls.length cs), (2, .int .i64 (at_))]) ⟨rfl, rfl, rfl, rfl, trivial⟩
 clear f13
 refine wp_seq (cut (fun a_ w_ => ∃ (b_23 : Nat), (Frm 83 a_ [(7, .pointer (some ⟨b_23, 0, none⟩)), (6, .pointer (some ⟨w1.heap.size, 0, none⟩)), (3, .pointer (some ⟨w.heap.size, 0, none⟩)), (1, .slice As ls.length cs), (2, .int .i64 (at_))]) ∧ (Ext w w_) ∧ (RdG w_ 0 w.heap.size Ag0 Ag1 Ag2 cg0 cg1 cg2 g) ∧ (RdR w_ 0 w.heap.size As (ls : List Tup)) ∧ (Bx w_ (w.heap.size) [.slice Ag0 g.ow.length cg0, .slice Ag1 g.pr.length cg1, .slice Ag2 g.mv.length cg2] 25) ∧ (Bx w_ (w1.heap.size) [.bool false, .int .i64 (0), .int .i64 (0), .int .i64 (0), .int .i64 (0)] 40) ∧ (Bx w_ (b_23) (tupC (upG g ls at_ (gI (gL g.mv (at_)) (0)))) 40) ∧ (w11.heap.size ≤ b_23) ∧ (w11.heap.size ≤ w_.heap.size)) ?_ ?_)
 ·obtain ⟨ad24, hA25, _, _, hc26⟩ := RdI.get r18.pr (at_) (by omega) (by omega)
  obtain ⟨ad27, R30, C31, hA28, _, _, hc29, hC32, r33⟩ := RdII.get r18.mv (at_) (by omega) (by omega)
  have hl34 := r33.len
  obtain ⟨ad36, hA37, _, _, hc38⟩ := RdI.get r33 (0) (by omega) (by omega)
  obtain ⟨ad39, hA40, hb43, hc42, hc41⟩ := r19.get (gI (gL g.mv (at_)) (0)) (by omega) (by omega) (sz := 5) rfl
  obtain ⟨Cs44, hCs45⟩ : ∃ c : List (Addr × Value), c = [(⟨w.heap.size, 0, none⟩, (.slice Ag0 g.ow.length cg0)), (⟨w.heap.size, 1, none⟩, (.slice Ag1 g.pr.length cg1)), (⟨w.heap.size, 2, none⟩, (.slice Ag2 g.mv.length cg2)), (⟨w.heap.size, 1, none⟩, (.slice Ag1 g.pr.length cg1)), ((ad24.add ((at_ : Int).toNat * 1)), (.int .i64 (gI g.pr (at_)))), (⟨w.heap.size, 2, none⟩, (.slice Ag2 g.mv.length cg2)), ((ad27.add ((at_ : Int).toNat * 1)), (.slice R30 ((gL g.mv (at_)).length) C31)), ((ad36.add ((0 : Int).toNat * 1)), (.int .i64 (gI (gL g.mv (at_)) (0)))), ((ad39.add ((gI (gL g.mv (at_)) (0) : Int).toNat * 5)), (.bool ((gT ls (gI (gL g.mv (at_)) (0))).top))), (((ad39.add ((gI (gL g.mv (at_)) (0) : Int).toNat * 5)).add 1), (.int .i64 ((gT ls (gI (gL g.mv (at_)) (0))).c0))), (((ad39.add ((gI (gL g.mv (at_)) (0) : Int).toNat * 5)).add 2), (.int .i64 ((gT ls (gI (gL g.mv (at_)) (0))).c1))), (((ad39.add ((gI (gL g.mv (at_)) (0) : Int).toNat * 5)).add 3), (.int .i64 ((gT ls (gI (gL g.mv (at_)) (0))).c2))), (((ad39.add ((gI (gL g.mv (at_)) (0) : Int).toNat * 5)).add 4), (.int .i64 ((gT ls (gI (gL g.mv (at_)) (0))).c3)))] := ⟨_, rfl⟩
  have hS46 : HoldsC Cs44 w11 := by rw [hCs45]; exact ⟨(bx20.cell (i := 0) rfl), (bx20.cell (i := 1) rfl), (bx20.cell (i := 2) rfl), (bx20.cell (i := 1) rfl), hc26, (bx20.cell (i := 2) rfl), hc29, hc38, hc42, (hc41 1 _ rfl), (hc41 2 _ rfl), (hc41 3 _ rfl), (hc41 4 _ rfl), trivial⟩
  refine AtH.start Cs44 19 #[false, false, false, false, false, false, false, false, false, false, false, false, false, false, false, false, false, false, false] (by kernel_rfl) rfl rfl (fun w48 hw49 => ?_)
  have g47 := gr_drew hw49
  have hS50 := hS46.gr g47
  have szw48 := g47.size
  have e51 := e17.gr g47 no_row
  clear e17
  have r52 := r18.gr g47 (fun _ h => by cases h)
  clear r18
  have r53 := r19.gr g47 (fun _ h => by cases h)
  clear r19
  have bx54 := bx20.gr g47 (by simp)
  clear bx20
  have bx55 := bx21.gr g47 (by simp)
  clear bx21
  have r56 := r33.gr g47 (fun _ h => by cases h)
  clear r33
  clear g47 hw49 hS46
  refine AtH.rd (by kernel_rfl) (fun d v c a w h => by cases d <;> exact h) hS50 [0, 1, 2, 3, 4, 5, 6, 7, 8, 9, 10, 11, 12, 13, 14, 15] [[.ld (.slice Ag0 g.ow.length cg0), .ld (.slice Ag1 g.pr.length cg1), .ld (.slice Ag2 g.mv.length cg2)], [], [.ld (.slice Ag1 g.pr.length cg1)], [], [.ad ad24], [.ld (.int .i64 (gI g.pr (at_)))], [], [], [.ld (.slice Ag2 g.mv.length cg2)], [], [.ad ad27], [.ld (.slice R30 ((gL g.mv (at_)).length) C31)], [.ad ad36], [.ld (.int .i64 (gI (gL g.mv (at_)) (0)))], [.ad ad39], [.ld (.bool ((gT ls (gI (gL g.mv (at_)) (0))).top)), .ld (.int .i64 ((gT ls (gI (gL g.mv (at_)) (0))).c0)), .ld (.int .i64 ((gT ls (gI (gL g.mv (at_)) (0))).c1)), .ld (.int .i64 ((gT ls (gI (gL g.mv (at_)) (0))).c2)), .ld (.int .i64 ((gT ls (gI (gL g.mv (at_)) (0))).c3))]] [(26, tupV (gT ls (gI (gL g.mv (at_)) (0)))), (25, .pointer (some (ad39.add ((gI (gL g.mv (at_)) (0) : Int).toNat * 5)))), (24, .int .i64 (gI (gL g.mv (at_)) (0))), (23, .pointer (some (ad36.add ((0 : Int).toNat * 1)))), (22, .slice R30 ((gL g.mv (at_)).length) C31), (21, .pointer (some (ad27.add ((at_ : Int).toNat * 1)))), (20, .int .i64 (at_)), (19, .slice Ag2 g.mv.length cg2), (18, .pointer (some ⟨w.heap.size, 2, none⟩)), (17, .slice As ls.length cs), (16, .int .i64 (gI g.pr (at_))), (15, .pointer (some (ad24.add ((at_ : Int).toNat * 1)))), (14, .int .i64 (at_)), (13, .slice Ag1 g.pr.length cg1), (12, .pointer (some ⟨w.heap.size, 1, none⟩)), (11, .agg #[.slice Ag0 g.ow.length cg0, .slice Ag1 g.pr.length cg1, .slice Ag2 g.mv.length cg2])] #[true, true, true, true, true, true, true, true, true, true, true, true, true, true, true, true, false, false, false] [(∃ j_ : Nat, Cs44[j_]? = some (⟨w.heap.size, 0, none⟩, (.slice Ag0 g.ow.length cg0))), (∃ j_ : Nat, Cs44[j_]? = some (⟨w.heap.size, 1, none⟩, (.slice Ag1 g.pr.length cg1))), (∃ j_ : Nat, Cs44[j_]? = some (⟨w.heap.size, 2, none⟩, (.slice Ag2 g.mv.length cg2))), (∃ j_ : Nat, Cs44[j_]? = some (⟨w.heap.size, 1, none⟩, (.slice Ag1 g.pr.length cg1))), (Ag1 = some ad24), (0 ≤ (at_ : Int)), ((at_ : Int) < (g.pr.length : Nat)), (∃ j_ : Nat, Cs44[j_]? = some ((ad24.add ((at_ : Int).toNat * 1)), (.int .i64 (gI g.pr (at_))))), (∃ j_ : Nat, Cs44[j_]? = some (⟨w.heap.size, 2, none⟩, (.slice Ag2 g.mv.length cg2))), (Ag2 = some ad27), (0 ≤ (at_ : Int)), ((at_ : Int) < (g.mv.length : Nat)), (∃ j_ : Nat, Cs44[j_]? = some ((ad27.add ((at_ : Int).toNat * 1)), (.slice R30 ((gL g.mv (at_)).length) C31))), (R30 = some ad36), (0 ≤ (0 : Int)), ((0 : Int) < ((gL g.mv (at_)).length : Nat)), (∃ j_ : Nat, Cs44[j_]? = some ((ad36.add ((0 : Int).toNat * 1)), (.int .i64 (gI (gL g.mv (at_)) (0))))), (As = some ad39), (0 ≤ (gI (gL g.mv (at_)) (0) : Int)), ((gI (gL g.mv (at_)) (0) : Int) < (ls.length : Nat)), (∃ j_ : Nat, Cs44[j_]? = some ((ad39.add ((gI (gL g.mv (at_)) (0) : Int).toNat * 5)), (.bool ((gT ls (gI (gL g.mv (at_)) (0))).top)))), (∃ j_ : Nat, Cs44[j_]? = some (((ad39.add ((gI (gL g.mv (at_)) (0) : Int).toNat * 5)).add 1), (.int .i64 ((gT ls (gI (gL g.mv (at_)) (0))).c0)))), (∃ j_ : Nat, Cs44[j_]? = some (((ad39.add ((gI (gL g.mv (at_)) (0) : Int).toNat * 5)).add 2), (.int .i64 ((gT ls (gI (gL g.mv (at_)) (0))).c1)))), (∃ j_ : Nat, Cs44[j_]? = some (((ad39.add ((gI (gL g.mv (at_)) (0) : Int).toNat * 5)).add 3), (.int .i64 ((gT ls (gI (gL g.mv (at_)) (0))).c2)))), (∃ j_ : Nat, Cs44[j_]? = some (((ad39.add ((gI (gL g.mv (at_)) (0) : Int).toNat * 5)).add 4), (.int .i64 ((gT ls (gI (gL g.mv (at_)) (0))).c3))))] 3 f22 (by kernel_rfl) ⟨⟨0, by rw [hCs45]; rfl⟩, ⟨1, by rw [hCs45]; rfl⟩, ⟨2, by rw [hCs45]; rfl⟩, ⟨3, by rw [hCs45]; rfl⟩, hA25, (by omega), (by omega), ⟨4, by rw [hCs45]; rfl⟩, ⟨5, by rw [hCs45]; rfl⟩, hA28, (by omega), (by omega), ⟨6, by rw [hCs45]; rfl⟩, hA37, (by omega), (by omega), ⟨7, by rw [hCs45]; rfl⟩, hA40, (by omega), (by omega), ⟨8, by rw [hCs45]; rfl⟩, ⟨9, by rw [hCs45]; rfl⟩, ⟨10, by rw [hCs45]; rfl⟩, ⟨11, by rw [hCs45]; rfl⟩, ⟨12, by rw [hCs45]; rfl⟩, trivial⟩ (fun act58 f57 => ?_)
  clear f22
  refine AtH.all [16, 17] 2 (by kernel_rfl) (by simp) ⟨?_, ?_, trivial⟩
  ·refine OneH.call f57 48 #[.agg #[.slice Ag0 g.ow.length cg0, .slice Ag1 g.pr.length cg1, .slice Ag2 g.mv.length cg2], .int .i64 (gI g.pr (at_)), tupV (gT ls (gI (gL g.mv (at_)) (0)))] (some 27) #[true, true, true, true, true, true, true, true, true, true, true, true, true, true, true, true, true, false, false] (by kernel_rfl) (by kernel_rfl) (upR_any (p := gI g.pr (at_)) (t := (gT ls (gI (gL g.mv (at_)) (0)))) (r52.wide (Nat.zero_le _) (by omega)) (by first | assumption | exact hok _)) ?_
   rintro e_ w60 ⟨rfl, he⟩
   refine ⟨_, rfl, _, rfl, fun act61 f62 => ?_⟩
   clear f57
   have g63 := gr_ext he
   have hS59 := hS50.gr g63
   have szw60 := g63.size
   have e64 := e51.gr g63 no_row
   clear e51
   have r65 := r52.gr g63 (fun _ h => by cases h)
   clear r52
   have r66 := r53.gr g63 (fun _ h => by cases h)
   clear r53
   have bx67 := bx54.gr g63 (by simp)
   clear bx54
   have bx68 := bx55.gr g63 (by simp)
   clear bx55
   have r69 := r56.gr g63 (fun _ h => by cases h)
   clear r56
   clear g63 he
   refine ⟨hS59, ?_⟩
   refine AtH.all [17] 1 (by kernel_rfl) (by simp) ⟨?_, trivial⟩
   refine OneH.seq f62 [[]] [(7, .pointer (some ⟨w60.heap.size, 0, none⟩))] (w60.alloc (.cells #[.bool false, .int .i64 (0), .int .i64 (0), .int .i64 (0), .int .i64 (0)] 40 (0, 0))) [] #[true, true, true, true, true, true, true, true, true, true, true, true, true, true, true, true, true, true, false] (by kernel_rfl) (by kernel_rfl) (by kernel_rfl) trivial (fun act74 w71 hw72 f73 => ?_)
   clear f62
   have g75 := gr_alloc hw72
   have hS70 := hS59.gr g75
   have szw71 := g75.size
   have e77 := e64.gr g75 no_row
   clear e64
   have r78 := r65.gr g75 (fun _ h => by cases h)
   clear r65
   have r79 := r66.gr g75 (fun _ h => by cases h)
   clear r66
   have bx80 := bx67.gr g75 (by simp)
   clear bx67
   have bx81 := bx68.gr g75 (by simp)
   clear bx68
   have r82 := r69.gr g75 (fun _ h => by cases h)
   clear r69
   have bx83 : Bx w71 (w60.heap.size) [.bool false, .int .i64 (0), .int .i64 (0), .int .i64 (0), .int .i64 (0)] 40 := Bx.new hw72
   have := bx83.lt
   clear g75 hw72
   refine ⟨hS70, ?_⟩
   refine AtH.all [18] 0 (by kernel_rfl) (by simp) ⟨?_, trivial⟩
   refine OneH.store f73 (t := 40) (b := w60.heap.size) (off := 0) (v := tupV (upG g ls at_ (gI (gL g.mv (at_)) (0)))) #[true, true, true, true, true, true, true, true, true, true, true, true, true, true, true, true, true, true, true] (by kernel_rfl) (by kernel_rfl) bx83 (by kernel_rfl) (fun act89 w85 g86 bx87 f88 => ?_)
   clear f73
   replace bx87 : Bx w85 (w60.heap.size) (tupC (upG g ls at_ (gI (gL g.mv (at_)) (0)))) 40 := bx87
   have hS84 := hS70.gr' g86 (by rw [hCs45]; exact ⟨(by simp only [add_block]; omega), (by simp only [add_block]; omega), (by simp only [add_block]; omega), (by simp only [add_block]; omega), (by simp only [add_block]; omega), (by simp only [add_block]; omega), (by simp only [add_block]; omega), (by simp only [add_block]; omega), (by simp only [add_block]; omega), (by simp only [add_block]; omega), (by simp only [add_block]; omega), (by simp only [add_block]; omega), (by simp only [add_block]; omega), trivial⟩)
   have szw85 := g86.size
   have e90 := e77.gr g86 (fun k h => by injection h; omega)
   clear e77
   have r91 := r78.gr g86 (fun k h => by injection h; omega)
   clear r78
   have r92 := r79.gr g86 (fun k h => by injection h; omega)
   clear r79
   have bx93 := bx80.gr g86 (fun h => by injection h; omega)
   clear bx80
   have bx94 := bx81.gr g86 (fun h => by injection h; omega)
   clear bx81
   have r95 := r82.gr g86 (fun k h => by injection h; omega)
   clear r82
   clear bx83 g86
   refine ⟨hS84, ?_⟩
   refine AtH.done (by kernel_rfl) ?_
   clear hS84
   refine t_n ?_
   have f96 := f88.sub (r := [(7, .pointer (some ⟨w60.heap.size, 0, none⟩)), (6, .pointer (some ⟨w1.heap.size, 0, none⟩)), (3, .pointer (some ⟨w.heap.size, 0, none⟩)), (1, .slice As ls.length cs), (2, .int .i64 (at_))]) ⟨rfl, rfl, rfl, rfl, rfl, trivial⟩
   exact ⟨w60.heap.size, f96, e90, r91, r92, bx93, bx94, bx87, (by omega), (by omega)⟩
  ·refine OneH.seq f57 [[]] [(7, .pointer (some ⟨w48.heap.size, 0, none⟩))] (w48.alloc (.cells #[.bool false, .int .i64 (0), .int .i64 (0), .int .i64 (0), .int .i64 (0)] 40 (0, 0))) [] #[true, true, true, true, true, true, true, true, true, true, true, true, true, true, true, true, false, true, false] (by kernel_rfl) (by kernel_rfl) (by kernel_rfl) trivial (fun act101 w98 hw99 f100 => ?_)
   clear f57
   have g102 := gr_alloc hw99
   have hS97 := hS50.gr g102
   have szw98 := g102.size
   have e104 := e51.gr g102 no_row
   clear e51
   have r105 := r52.gr g102 (fun _ h => by cases h)
   clear r52
   have r106 := r53.gr g102 (fun _ h => by cases h)
   clear r53
   have bx107 := bx54.gr g102 (by simp)
   clear bx54
   have bx108 := bx55.gr g102 (by simp)
   clear bx55
   have r109 := r56.gr g102 (fun _ h => by cases h)
   clear r56
   have bx110 : Bx w98 (w48.heap.size) [.bool false, .int .i64 (0), .int .i64 (0), .int .i64 (0), .int .i64 (0)] 40 := Bx.new hw99
   have := bx110.lt
   clear g102 hw99
   refine ⟨hS97, ?_⟩
   refine AtH.all [16] 1 (by kernel_rfl) (by simp) ⟨?_, trivial⟩
   refine OneH.call f100 48 #[.agg #[.slice Ag0 g.ow.length cg0, .slice Ag1 g.pr.length cg1, .slice Ag2 g.mv.length cg2], .int .i64 (gI g.pr (at_)), tupV (gT ls (gI (gL g.mv (at_)) (0)))] (some 27) #[true, true, true, true, true, true, true, true, true, true, true, true, true, true, true, true, true, true, false] (by kernel_rfl) (by kernel_rfl) (upR_any (p := gI g.pr (at_)) (t := (gT ls (gI (gL g.mv (at_)) (0)))) (r105.wide (Nat.zero_le _) (by omega)) (by first | assumption | exact hok _)) ?_
   rintro e_ w112 ⟨rfl, he⟩
   refine ⟨_, rfl, _, rfl, fun act113 f114 => ?_⟩
   clear f100
   have g115 := gr_ext he
   have hS111 := hS97.gr g115
   have szw112 := g115.size
   have e116 := e104.gr g115 no_row
   clear e104
   have r117 := r105.gr g115 (fun _ h => by cases h)
   clear r105
   have r118 := r106.gr g115 (fun _ h => by cases h)
   clear r106
   have bx119 := bx107.gr g115 (by simp)
   clear bx107
   have bx120 := bx108.gr g115 (by simp)
   clear bx108
   have r121 := r109.gr g115 (fun _ h => by cases h)
   clear r109
   have bx122 := bx110.gr g115 (by simp)
   clear bx110
   clear g115 he
   refine ⟨hS111, ?_⟩
   refine AtH.all [18] 0 (by kernel_rfl) (by simp) ⟨?_, trivial⟩
   refine OneH.store f114 (t := 40) (b := w48.heap.size) (off := 0) (v := tupV (upG g ls at_ (gI (gL g.mv (at_)) (0)))) #[true, true, true, true, true, true, true, true, true, true, true, true, true, true, true, true, true, true, true] (by kernel_rfl) (by kernel_rfl) bx122 (by kernel_rfl) (fun act128 w124 g125 bx126 f127 => ?_)
   clear f114
   replace bx126 : Bx w124 (w48.heap.size) (tupC (upG g ls at_ (gI (gL g.mv (at_)) (0)))) 40 := bx126
   have hS123 := hS111.gr' g125 (by rw [hCs45]; exact ⟨(by simp only [add_block]; omega), (by simp only [add_block]; omega), (by simp only [add_block]; omega), (by simp only [add_block]; omega), (by simp only [add_block]; omega), (by simp only [add_block]; omega), (by simp only [add_block]; omega), (by simp only [add_block]; omega), (by simp only [add_block]; omega), (by simp only [add_block]; omega), (by simp only [add_block]; omega), (by simp only [add_block]; omega), (by simp only [add_block]; omega), trivial⟩)
   have szw124 := g125.size
   have e129 := e116.gr g125 (fun k h => by injection h; omega)
   clear e116
   have r130 := r117.gr g125 (fun k h => by injection h; omega)
   clear r117
   have r131 := r118.gr g125 (fun k h => by injection h; omega)
   clear r118
   have bx132 := bx119.gr g125 (fun h => by injection h; omega)
   clear bx119
   have bx133 := bx120.gr g125 (fun h => by injection h; omega)
   clear bx120
   have r134 := r121.gr g125 (fun k h => by injection h; omega)
   clear r121
   clear bx122 g125
   refine ⟨hS123, ?_⟩
   refine AtH.done (by kernel_rfl) ?_
   clear hS123
   refine t_n ?_
   have f135 := f127.sub (r := [(7, .pointer (some ⟨w48.heap.size, 0, none⟩)), (6, .pointer (some ⟨w1.heap.size, 0, none⟩)), (3, .pointer (some ⟨w.heap.size, 0, none⟩)), (1, .slice As ls.length cs), (2, .int .i64 (at_))]) ⟨rfl, rfl, rfl, rfl, rfl, trivial⟩
   exact ⟨w48.heap.size, f135, e129, r130, r131, bx132, bx133, bx126, (by omega), (by omega)⟩
 ·clear r18
  clear r19
  clear bx20
  clear bx21
  clear f22 e17
  intro act136 w137 ⟨b_23, f138, e139, r140, r141, bx142, bx143, bx144, hb145, szz146⟩
  have szw137 := e139.size
  have := bx142.lt
  have := bx143.lt
  have := bx144.lt
  refine wp_seq ?_
  refine wp_seq ?_
  refine At.start ?_
  refine At.rd f138 1 [[]] [(8, .int .i64 (1))] [] (by kernel_rfl) trivial (fun act149 f148 => ?_)
  clear f138
  refine At.done rfl ?_
  refine t_n ?_
  refine wp_block ?_
  have f150 := f148.sub (r := [(8, .int .i64 (1)), (7, .pointer (some ⟨b_23, 0, none⟩)), (6, .pointer (some ⟨w1.heap.size, 0, none⟩)), (3, .pointer (some ⟨w.heap.size, 0, none⟩)), (1, .slice As ls.length cs), (2, .int .i64 (at_))]) ⟨rfl, rfl, rfl, rfl, rfl, rfl, trivial⟩
  refine loop_g (fun (m_ : Nat) a_ w_ => ∃ (k : Int), m_ = (((gL g.mv at_).length : Int) - k).toNat ∧ (Frm 83 a_ [(8, .int .i64 (k)), (7, .pointer (some ⟨b_23, 0, none⟩)), (6, .pointer (some ⟨w1.heap.size, 0, none⟩)), (3, .pointer (some ⟨w.heap.size, 0, none⟩)), (1, .slice As ls.length cs), (2, .int .i64 (at_))]) ∧ (Ext w w_) ∧ (RdG w_ 0 w.heap.size Ag0 Ag1 Ag2 cg0 cg1 cg2 g) ∧ (RdR w_ 0 w.heap.size As (ls : List Tup)) ∧ (Bx w_ (w.heap.size) [.slice Ag0 g.ow.length cg0, .slice Ag1 g.pr.length cg1, .slice Ag2 g.mv.length cg2] 25) ∧ (Bx w_ (w1.heap.size) [.bool false, .int .i64 (0), .int .i64 (0), .int .i64 (0), .int .i64 (0)] 40) ∧ (Bx w_ (b_23) (tupC ((bestB (upG g ls at_) (gI g.ow at_) ((gL g.mv at_).take k.toNat)).1)) 40) ∧ (1 ≤ k) ∧ (k ≤ ((gL g.mv at_).length : Int))) _ ⟨1, rfl, f150, e139, r140, r141, bx142, bx143, (bx144.as (tupC_eq (congrArg Prod.fst (bestB_one (f := upG g ls at_) hne)))), (by omega), (by omega)⟩ ?_
  clear f150 f148
  clear r140
  clear r141
  clear bx142
  clear bx143
  clear bx144
  clear e139
  intro m_ act151 w152 ⟨k, hm154, f155, e153, r156, r157, bx158, bx159, bx160, i161, i162⟩
  have szw152 := e153.size
  have := bx158.lt
  have := bx159.lt
  have := bx160.lt
  have hb2 := hbi k.toNat (by omega) (by omega)
  refine wp_seq ?_
  refine wp_seq ?_
  refine At.start ?_
  obtain ⟨ad163, R166, C167, hA164, _, _, hc165, hC168, r169⟩ := RdII.get r156.mv (at_) (by omega) (by omega)
  have hl170 := r169.len
  refine At.rd f155 8 [[], [], [.ld (.slice Ag2 g.mv.length cg2)], [], [.ad ad163], [.ld (.slice R166 ((gL g.mv (at_)).length) C167)], [], []] [(35, .bool (decide ((k : Int) < (((gL g.mv (at_)).length : Nat) : Int)))), (34, .int .i64 ((((gL g.mv (at_)).length : Nat) : Int))), (33, .slice R166 ((gL g.mv (at_)).length) C167), (32, .pointer (some (ad163.add ((at_ : Int).toNat * 1)))), (31, .int .i64 (at_)), (30, .slice Ag2 g.mv.length cg2), (29, .pointer (some ⟨w.heap.size, 2, none⟩)), (28, .int .i64 (k))] [(w152.cell? ⟨w.heap.size, 2, none⟩ = some (.slice Ag2 g.mv.length cg2)), (Ag2 = some ad163), (0 ≤ (at_ : Int)), ((at_ : Int) < (g.mv.length : Nat)), (w152.cell? (ad163.add ((at_ : Int).toNat * 1)) = some (.slice R166 ((gL g.mv (at_)).length) C167))] (by kernel_rfl) ⟨(bx158.cell (i := 2) rfl), hA164, (by omega), (by omega), hc165, trivial⟩ (fun act173 f172 => ?_)
  clear f155
  refine At.done rfl ?_
  refine t_n ?_
  have f174 := f172.sub (r := [(35, .bool (decide ((k : Int) < (((gL g.mv (at_)).length : Nat) : Int)))), (8, .int .i64 (k)), (7, .pointer (some ⟨b_23, 0, none⟩)), (6, .pointer (some ⟨w1.heap.size, 0, none⟩)), (3, .pointer (some ⟨w.heap.size, 0, none⟩)), (1, .slice As ls.length cs), (2, .int .i64 (at_))]) ⟨rfl, rfl, rfl, rfl, rfl, rfl, rfl, trivial⟩
  clear f172
  refine cond_S f174 (t := decide ((k : Int) < (((gL g.mv (at_)).length : Nat) : Int))) rfl (fun h175 => ?_) (fun h175 => ?_)
  ·have q176 := of_decide_eq_true h175
   refine wp_skip ?_
   refine t_n ?_
   have f177 := f174.sub (r := [(8, .int .i64 (k)), (7, .pointer (some ⟨b_23, 0, none⟩)), (6, .pointer (some ⟨w1.heap.size, 0, none⟩)), (3, .pointer (some ⟨w.heap.size, 0, none⟩)), (1, .slice As ls.length cs), (2, .int .i64 (at_))]) ⟨rfl, rfl, rfl, rfl, rfl, rfl, trivial⟩
   clear f174
   refine wp_seq ?_
   refine wp_block ?_
   refine wp_seq (cut (fun a_ w_ => ∃ (b_178 : Nat), (Frm 83 a_ [(9, .pointer (some ⟨b_178, 0, none⟩)), (8, .int .i64 (k)), (7, .pointer (some ⟨b_23, 0, none⟩)), (6, .pointer (some ⟨w1.heap.size, 0, none⟩)), (3, .pointer (some ⟨w.heap.size, 0, none⟩)), (1, .slice As ls.length cs), (2, .int .i64 (at_))]) ∧ (Ext w w_) ∧ (RdG w_ 0 w.heap.size Ag0 Ag1 Ag2 cg0 cg1 cg2 g) ∧ (RdR w_ 0 w.heap.size As (ls : List Tup)) ∧ (Bx w_ (w.heap.size) [.slice Ag0 g.ow.length cg0, .slice Ag1 g.pr.length cg1, .slice Ag2 g.mv.length cg2] 25) ∧ (Bx w_ (w1.heap.size) [.bool false, .int .i64 (0), .int .i64 (0), .int .i64 (0), .int .i64 (0)] 40) ∧ (Bx w_ (b_23) (tupC ((bestB (upG g ls at_) (gI g.ow at_) ((gL g.mv at_).take k.toNat)).1)) 40) ∧ (Bx w_ (b_178) (tupC (upG g ls at_ (gI (gL g.mv (at_)) (k)))) 40) ∧ (w152.heap.size ≤ b_178) ∧ (w152.heap.size ≤ w_.heap.size)) ?_ ?_)
   ·have hmk := hmv k (by omega) (by omega)
    obtain ⟨ad179, hA180, _, _, hc181⟩ := RdI.get r156.pr (at_) (by omega) (by omega)
    obtain ⟨ad182, R185, C186, hA183, _, _, hc184, hC187, r188⟩ := RdII.get r156.mv (at_) (by omega) (by omega)
    have hl189 := r188.len
    obtain ⟨ad191, hA192, _, _, hc193⟩ := RdI.get r188 (k) (by omega) (by omega)
    obtain ⟨ad194, hA195, hb198, hc197, hc196⟩ := r157.get (gI (gL g.mv (at_)) (k)) (by omega) (by omega) (sz := 5) rfl
    obtain ⟨Cs199, hCs200⟩ : ∃ c : List (Addr × Value), c = [(⟨w.heap.size, 0, none⟩, (.slice Ag0 g.ow.length cg0)), (⟨w.heap.size, 1, none⟩, (.slice Ag1 g.pr.length cg1)), (⟨w.heap.size, 2, none⟩, (.slice Ag2 g.mv.length cg2)), (⟨w.heap.size, 1, none⟩, (.slice Ag1 g.pr.length cg1)), ((ad179.add ((at_ : Int).toNat * 1)), (.int .i64 (gI g.pr (at_)))), (⟨w.heap.size, 2, none⟩, (.slice Ag2 g.mv.length cg2)), ((ad182.add ((at_ : Int).toNat * 1)), (.slice R185 ((gL g.mv (at_)).length) C186)), ((ad191.add ((k : Int).toNat * 1)), (.int .i64 (gI (gL g.mv (at_)) (k)))), ((ad194.add ((gI (gL g.mv (at_)) (k) : Int).toNat * 5)), (.bool ((gT ls (gI (gL g.mv (at_)) (k))).top))), (((ad194.add ((gI (gL g.mv (at_)) (k) : Int).toNat * 5)).add 1), (.int .i64 ((gT ls (gI (gL g.mv (at_)) (k))).c0))), (((ad194.add ((gI (gL g.mv (at_)) (k) : Int).toNat * 5)).add 2), (.int .i64 ((gT ls (gI (gL g.mv (at_)) (k))).c1))), (((ad194.add ((gI (gL g.mv (at_)) (k) : Int).toNat * 5)).add 3), (.int .i64 ((gT ls (gI (gL g.mv (at_)) (k))).c2))), (((ad194.add ((gI (gL g.mv (at_)) (k) : Int).toNat * 5)).add 4), (.int .i64 ((gT ls (gI (gL g.mv (at_)) (k))).c3)))] := ⟨_, rfl⟩
    have hS201 : HoldsC Cs199 w152 := by rw [hCs200]; exact ⟨(bx158.cell (i := 0) rfl), (bx158.cell (i := 1) rfl), (bx158.cell (i := 2) rfl), (bx158.cell (i := 1) rfl), hc181, (bx158.cell (i := 2) rfl), hc184, hc193, hc197, (hc196 1 _ rfl), (hc196 2 _ rfl), (hc196 3 _ rfl), (hc196 4 _ rfl), trivial⟩
    refine AtH.start Cs199 20 #[false, false, false, false, false, false, false, false, false, false, false, false, false, false, false, false, false, false, false, false] (by kernel_rfl) rfl rfl (fun w203 hw204 => ?_)
    have g202 := gr_drew hw204
    have hS205 := hS201.gr g202
    have szw203 := g202.size
    have e206 := e153.gr g202 no_row
    clear e153
    have r207 := r156.gr g202 (fun _ h => by cases h)
    clear r156
    have r208 := r157.gr g202 (fun _ h => by cases h)
    clear r157
    have bx209 := bx158.gr g202 (by simp)
    clear bx158
    have bx210 := bx159.gr g202 (by simp)
    clear bx159
    have bx211 := bx160.gr g202 (by simp)
    clear bx160
    have r212 := r169.gr g202 (fun _ h => by cases h)
    clear r169
    have r213 := r188.gr g202 (fun _ h => by cases h)
    clear r188
    clear g202 hw204 hS201
    refine AtH.rd (by kernel_rfl) (fun d v c a w h => by cases d <;> exact h) hS205 [0, 1, 2, 3, 4, 5, 6, 7, 8, 9, 10, 11, 12, 13, 14, 15, 16] [[.ld (.slice Ag0 g.ow.length cg0), .ld (.slice Ag1 g.pr.length cg1), .ld (.slice Ag2 g.mv.length cg2)], [], [.ld (.slice Ag1 g.pr.length cg1)], [], [.ad ad179], [.ld (.int .i64 (gI g.pr (at_)))], [], [], [.ld (.slice Ag2 g.mv.length cg2)], [], [.ad ad182], [.ld (.slice R185 ((gL g.mv (at_)).length) C186)], [], [.ad ad191], [.ld (.int .i64 (gI (gL g.mv (at_)) (k)))], [.ad ad194], [.ld (.bool ((gT ls (gI (gL g.mv (at_)) (k))).top)), .ld (.int .i64 ((gT ls (gI (gL g.mv (at_)) (k))).c0)), .ld (.int .i64 ((gT ls (gI (gL g.mv (at_)) (k))).c1)), .ld (.int .i64 ((gT ls (gI (gL g.mv (at_)) (k))).c2)), .ld (.int .i64 ((gT ls (gI (gL g.mv (at_)) (k))).c3))]] [(54, tupV (gT ls (gI (gL g.mv (at_)) (k)))), (53, .pointer (some (ad194.add ((gI (gL g.mv (at_)) (k) : Int).toNat * 5)))), (52, .int .i64 (gI (gL g.mv (at_)) (k))), (51, .pointer (some (ad191.add ((k : Int).toNat * 1)))), (50, .int .i64 (k)), (49, .slice R185 ((gL g.mv (at_)).length) C186), (48, .pointer (some (ad182.add ((at_ : Int).toNat * 1)))), (47, .int .i64 (at_)), (46, .slice Ag2 g.mv.length cg2), (45, .pointer (some ⟨w.heap.size, 2, none⟩)), (44, .slice As ls.length cs), (43, .int .i64 (gI g.pr (at_))), (42, .pointer (some (ad179.add ((at_ : Int).toNat * 1)))), (41, .int .i64 (at_)), (40, .slice Ag1 g.pr.length cg1), (39, .pointer (some ⟨w.heap.size, 1, none⟩)), (38, .agg #[.slice Ag0 g.ow.length cg0, .slice Ag1 g.pr.length cg1, .slice Ag2 g.mv.length cg2])] #[true, true, true, true, true, true, true, true, true, true, true, true, true, true, true, true, true, false, false, false] [(∃ j_ : Nat, Cs199[j_]? = some (⟨w.heap.size, 0, none⟩, (.slice Ag0 g.ow.length cg0))), (∃ j_ : Nat, Cs199[j_]? = some (⟨w.heap.size, 1, none⟩, (.slice Ag1 g.pr.length cg1))), (∃ j_ : Nat, Cs199[j_]? = some (⟨w.heap.size, 2, none⟩, (.slice Ag2 g.mv.length cg2))), (∃ j_ : Nat, Cs199[j_]? = some (⟨w.heap.size, 1, none⟩, (.slice Ag1 g.pr.length cg1))), (Ag1 = some ad179), (0 ≤ (at_ : Int)), ((at_ : Int) < (g.pr.length : Nat)), (∃ j_ : Nat, Cs199[j_]? = some ((ad179.add ((at_ : Int).toNat * 1)), (.int .i64 (gI g.pr (at_))))), (∃ j_ : Nat, Cs199[j_]? = some (⟨w.heap.size, 2, none⟩, (.slice Ag2 g.mv.length cg2))), (Ag2 = some ad182), (0 ≤ (at_ : Int)), ((at_ : Int) < (g.mv.length : Nat)), (∃ j_ : Nat, Cs199[j_]? = some ((ad182.add ((at_ : Int).toNat * 1)), (.slice R185 ((gL g.mv (at_)).length) C186))), (R185 = some ad191), (0 ≤ (k : Int)), ((k : Int) < ((gL g.mv (at_)).length : Nat)), (∃ j_ : Nat, Cs199[j_]? = some ((ad191.add ((k : Int).toNat * 1)), (.int .i64 (gI (gL g.mv (at_)) (k))))), (As = some ad194), (0 ≤ (gI (gL g.mv (at_)) (k) : Int)), ((gI (gL g.mv (at_)) (k) : Int) < (ls.length : Nat)), (∃ j_ : Nat, Cs199[j_]? = some ((ad194.add ((gI (gL g.mv (at_)) (k) : Int).toNat * 5)), (.bool ((gT ls (gI (gL g.mv (at_)) (k))).top)))), (∃ j_ : Nat, Cs199[j_]? = some (((ad194.add ((gI (gL g.mv (at_)) (k) : Int).toNat * 5)).add 1), (.int .i64 ((gT ls (gI (gL g.mv (at_)) (k))).c0)))), (∃ j_ : Nat, Cs199[j_]? = some (((ad194.add ((gI (gL g.mv (at_)) (k) : Int).toNat * 5)).add 2), (.int .i64 ((gT ls (gI (gL g.mv (at_)) (k))).c1)))), (∃ j_ : Nat, Cs199[j_]? = some (((ad194.add ((gI (gL g.mv (at_)) (k) : Int).toNat * 5)).add 3), (.int .i64 ((gT ls (gI (gL g.mv (at_)) (k))).c2)))), (∃ j_ : Nat, Cs199[j_]? = some (((ad194.add ((gI (gL g.mv (at_)) (k) : Int).toNat * 5)).add 4), (.int .i64 ((gT ls (gI (gL g.mv (at_)) (k))).c3))))] 3 f177 (by kernel_rfl) ⟨⟨0, by rw [hCs200]; rfl⟩, ⟨1, by rw [hCs200]; rfl⟩, ⟨2, by rw [hCs200]; rfl⟩, ⟨3, by rw [hCs200]; rfl⟩, hA180, (by omega), (by omega), ⟨4, by rw [hCs200]; rfl⟩, ⟨5, by rw [hCs200]; rfl⟩, hA183, (by omega), (by omega), ⟨6, by rw [hCs200]; rfl⟩, hA192, (by omega), (by omega), ⟨7, by rw [hCs200]; rfl⟩, hA195, (by omega), (by omega), ⟨8, by rw [hCs200]; rfl⟩, ⟨9, by rw [hCs200]; rfl⟩, ⟨10, by rw [hCs200]; rfl⟩, ⟨11, by rw [hCs200]; rfl⟩, ⟨12, by rw [hCs200]; rfl⟩, trivial⟩ (fun act215 f214 => ?_)
    clear f177
    refine AtH.all [17, 18] 2 (by kernel_rfl) (by simp) ⟨?_, ?_, trivial⟩
    ·refine OneH.call f214 48 #[.agg #[.slice Ag0 g.ow.length cg0, .slice Ag1 g.pr.length cg1, .slice Ag2 g.mv.length cg2], .int .i64 (gI g.pr (at_)), tupV (gT ls (gI (gL g.mv (at_)) (k)))] (some 55) #[true, true, true, true, true, true, true, true, true, true, true, true, true, true, true, true, true, true, false, false] (by kernel_rfl) (by kernel_rfl) (upR_any (p := gI g.pr (at_)) (t := (gT ls (gI (gL g.mv (at_)) (k)))) (r207.wide (Nat.zero_le _) (by omega)) (by first | assumption | exact hok _)) ?_
     rintro e_ w217 ⟨rfl, he⟩
     refine ⟨_, rfl, _, rfl, fun act218 f219 => ?_⟩
     clear f214
     have g220 := gr_ext he
     have hS216 := hS205.gr g220
     have szw217 := g220.size
     have e221 := e206.gr g220 no_row
     clear e206
     have r222 := r207.gr g220 (fun _ h => by cases h)
     clear r207
     have r223 := r208.gr g220 (fun _ h => by cases h)
     clear r208
     have bx224 := bx209.gr g220 (by simp)
     clear bx209
     have bx225 := bx210.gr g220 (by simp)
     clear bx210
     have bx226 := bx211.gr g220 (by simp)
     clear bx211
     have r227 := r212.gr g220 (fun _ h => by cases h)
     clear r212
     have r228 := r213.gr g220 (fun _ h => by cases h)
     clear r213
     clear g220 he
     refine ⟨hS216, ?_⟩
     refine AtH.all [18] 1 (by kernel_rfl) (by simp) ⟨?_, trivial⟩
     refine OneH.seq f219 [[]] [(9, .pointer (some ⟨w217.heap.size, 0, none⟩))] (w217.alloc (.cells #[.bool false, .int .i64 (0), .int .i64 (0), .int .i64 (0), .int .i64 (0)] 40 (0, 0))) [] #[true, true, true, true, true, true, true, true, true, true, true, true, true, true, true, true, true, true, true, false] (by kernel_rfl) (by kernel_rfl) (by kernel_rfl) trivial (fun act233 w230 hw231 f232 => ?_)
     clear f219
     have g234 := gr_alloc hw231
     have hS229 := hS216.gr g234
     have szw230 := g234.size
     have e236 := e221.gr g234 no_row
     clear e221
     have r237 := r222.gr g234 (fun _ h => by cases h)
     clear r222
     have r238 := r223.gr g234 (fun _ h => by cases h)
     clear r223
     have bx239 := bx224.gr g234 (by simp)
     clear bx224
     have bx240 := bx225.gr g234 (by simp)
     clear bx225
     have bx241 := bx226.gr g234 (by simp)
     clear bx226
     have r242 := r227.gr g234 (fun _ h => by cases h)
     clear r227
     have r243 := r228.gr g234 (fun _ h => by cases h)
     clear r228
     have bx244 : Bx w230 (w217.heap.size) [.bool false, .int .i64 (0), .int .i64 (0), .int .i64 (0), .int .i64 (0)] 40 := Bx.new hw231
     have := bx244.lt
     clear g234 hw231
     refine ⟨hS229, ?_⟩
     refine AtH.all [19] 0 (by kernel_rfl) (by simp) ⟨?_, trivial⟩
     refine OneH.store f232 (t := 40) (b := w217.heap.size) (off := 0) (v := tupV (upG g ls at_ (gI (gL g.mv (at_)) (k)))) #[true, true, true, true, true, true, true, true, true, true, true, true, true, true, true, true, true, true, true, true] (by kernel_rfl) (by kernel_rfl) bx244 (by kernel_rfl) (fun act250 w246 g247 bx248 f249 => ?_)
     clear f232
     replace bx248 : Bx w246 (w217.heap.size) (tupC (upG g ls at_ (gI (gL g.mv (at_)) (k)))) 40 := bx248
     have hS245 := hS229.gr' g247 (by rw [hCs200]; exact ⟨(by simp only [add_block]; omega), (by simp only [add_block]; omega), (by simp only [add_block]; omega), (by simp only [add_block]; omega), (by simp only [add_block]; omega), (by simp only [add_block]; omega), (by simp only [add_block]; omega), (by simp only [add_block]; omega), (by simp only [add_block]; omega), (by simp only [add_block]; omega), (by simp only [add_block]; omega), (by simp only [add_block]; omega), (by simp only [add_block]; omega), trivial⟩)
     have szw246 := g247.size
     have e251 := e236.gr g247 (fun k h => by injection h; omega)
     clear e236
     have r252 := r237.gr g247 (fun k h => by injection h; omega)
     clear r237
     have r253 := r238.gr g247 (fun k h => by injection h; omega)
     clear r238
     have bx254 := bx239.gr g247 (fun h => by injection h; omega)
     clear bx239
     have bx255 := bx240.gr g247 (fun h => by injection h; omega)
     clear bx240
     have bx256 := bx241.gr g247 (fun h => by injection h; omega)
     clear bx241
     have r257 := r242.gr g247 (fun k h => by injection h; omega)
     clear r242
     have r258 := r243.gr g247 (fun k h => by injection h; omega)
     clear r243
     clear bx244 g247
     refine ⟨hS245, ?_⟩
     refine AtH.done (by kernel_rfl) ?_
     clear hS245
     refine t_n ?_
     have f259 := f249.sub (r := [(9, .pointer (some ⟨w217.heap.size, 0, none⟩)), (8, .int .i64 (k)), (7, .pointer (some ⟨b_23, 0, none⟩)), (6, .pointer (some ⟨w1.heap.size, 0, none⟩)), (3, .pointer (some ⟨w.heap.size, 0, none⟩)), (1, .slice As ls.length cs), (2, .int .i64 (at_))]) ⟨rfl, rfl, rfl, rfl, rfl, rfl, rfl, trivial⟩
     exact ⟨w217.heap.size, f259, e251, r252, r253, bx254, bx255, bx256, bx248, (by omega), (by omega)⟩
    ·refine OneH.seq f214 [[]] [(9, .pointer (some ⟨w203.heap.size, 0, none⟩))] (w203.alloc (.cells #[.bool false, .int .i64 (0), .int .i64 (0), .int .i64 (0), .int .i64 (0)] 40 (0, 0))) [] #[true, true, true, true, true, true, true, true, true, true, true, true, true, true, true, true, true, false, true, false] (by kernel_rfl) (by kernel_rfl) (by kernel_rfl) trivial (fun act264 w261 hw262 f263 => ?_)
     clear f214
     have g265 := gr_alloc hw262
     have hS260 := hS205.gr g265
     have szw261 := g265.size
     have e267 := e206.gr g265 no_row
     clear e206
     have r268 := r207.gr g265 (fun _ h => by cases h)
     clear r207
     have r269 := r208.gr g265 (fun _ h => by cases h)
     clear r208
     have bx270 := bx209.gr g265 (by simp)
     clear bx209
     have bx271 := bx210.gr g265 (by simp)
     clear bx210
     have bx272 := bx211.gr g265 (by simp)
     clear bx211
     have r273 := r212.gr g265 (fun _ h => by cases h)
     clear r212
     have r274 := r213.gr g265 (fun _ h => by cases h)
     clear r213
     have bx275 : Bx w261 (w203.heap.size) [.bool false, .int .i64 (0), .int .i64 (0), .int .i64 (0), .int .i64 (0)] 40 := Bx.new hw262
     have := bx275.lt
     clear g265 hw262
     refine ⟨hS260, ?_⟩
     refine AtH.all [17] 1 (by kernel_rfl) (by simp) ⟨?_, trivial⟩
     refine OneH.call f263 48 #[.agg #[.slice Ag0 g.ow.length cg0, .slice Ag1 g.pr.length cg1, .slice Ag2 g.mv.length cg2], .int .i64 (gI g.pr (at_)), tupV (gT ls (gI (gL g.mv (at_)) (k)))] (some 55) #[true, true, true, true, true, true, true, true, true, true, true, true, true, true, true, true, true, true, true, false] (by kernel_rfl) (by kernel_rfl) (upR_any (p := gI g.pr (at_)) (t := (gT ls (gI (gL g.mv (at_)) (k)))) (r268.wide (Nat.zero_le _) (by omega)) (by first | assumption | exact hok _)) ?_
     rintro e_ w277 ⟨rfl, he⟩
     refine ⟨_, rfl, _, rfl, fun act278 f279 => ?_⟩
     clear f263
     have g280 := gr_ext he
     have hS276 := hS260.gr g280
     have szw277 := g280.size
     have e281 := e267.gr g280 no_row
     clear e267
     have r282 := r268.gr g280 (fun _ h => by cases h)
     clear r268
     have r283 := r269.gr g280 (fun _ h => by cases h)
     clear r269
     have bx284 := bx270.gr g280 (by simp)
     clear bx270
     have bx285 := bx271.gr g280 (by simp)
     clear bx271
     have bx286 := bx272.gr g280 (by simp)
     clear bx272
     have r287 := r273.gr g280 (fun _ h => by cases h)
     clear r273
     have r288 := r274.gr g280 (fun _ h => by cases h)
     clear r274
     have bx289 := bx275.gr g280 (by simp)
     clear bx275
     clear g280 he
     refine ⟨hS276, ?_⟩
     refine AtH.all [19] 0 (by kernel_rfl) (by simp) ⟨?_, trivial⟩
     refine OneH.store f279 (t := 40) (b := w203.heap.size) (off := 0) (v := tupV (upG g ls at_ (gI (gL g.mv (at_)) (k)))) #[true, true, true, true, true, true, true, true, true, true, true, true, true, true, true, true, true, true, true, true] (by kernel_rfl) (by kernel_rfl) bx289 (by kernel_rfl) (fun act295 w291 g292 bx293 f294 => ?_)
     clear f279
     replace bx293 : Bx w291 (w203.heap.size) (tupC (upG g ls at_ (gI (gL g.mv (at_)) (k)))) 40 := bx293
     have hS290 := hS276.gr' g292 (by rw [hCs200]; exact ⟨(by simp only [add_block]; omega), (by simp only [add_block]; omega), (by simp only [add_block]; omega), (by simp only [add_block]; omega), (by simp only [add_block]; omega), (by simp only [add_block]; omega), (by simp only [add_block]; omega), (by simp only [add_block]; omega), (by simp only [add_block]; omega), (by simp only [add_block]; omega), (by simp only [add_block]; omega), (by simp only [add_block]; omega), (by simp only [add_block]; omega), trivial⟩)
     have szw291 := g292.size
     have e296 := e281.gr g292 (fun k h => by injection h; omega)
     clear e281
     have r297 := r282.gr g292 (fun k h => by injection h; omega)
     clear r282
     have r298 := r283.gr g292 (fun k h => by injection h; omega)
     clear r283
     have bx299 := bx284.gr g292 (fun h => by injection h; omega)
     clear bx284
     have bx300 := bx285.gr g292 (fun h => by injection h; omega)
     clear bx285
     have bx301 := bx286.gr g292 (fun h => by injection h; omega)
     clear bx286
     have r302 := r287.gr g292 (fun k h => by injection h; omega)
     clear r287
     have r303 := r288.gr g292 (fun k h => by injection h; omega)
     clear r288
     clear bx289 g292
     refine ⟨hS290, ?_⟩
     refine AtH.done (by kernel_rfl) ?_
     clear hS290
     refine t_n ?_
     have f304 := f294.sub (r := [(9, .pointer (some ⟨w203.heap.size, 0, none⟩)), (8, .int .i64 (k)), (7, .pointer (some ⟨b_23, 0, none⟩)), (6, .pointer (some ⟨w1.heap.size, 0, none⟩)), (3, .pointer (some ⟨w.heap.size, 0, none⟩)), (1, .slice As ls.length cs), (2, .int .i64 (at_))]) ⟨rfl, rfl, rfl, rfl, rfl, rfl, rfl, trivial⟩
     exact ⟨w203.heap.size, f304, e296, r297, r298, bx299, bx300, bx301, bx293, (by omega), (by omega)⟩
   ·clear r156
    clear r157
    clear bx158
    clear bx159
    clear bx160
    clear r169
    clear f177 e153
    intro act305 w306 ⟨b_178, f307, e308, r309, r310, bx311, bx312, bx313, bx314, hb315, szz316⟩
    have szw306 := e308.size
    have := bx311.lt
    have := bx312.lt
    have := bx313.lt
    have := bx314.lt
    refine wp_seq ?_
    refine At.start ?_
    refine At.rd f307 2 [[.ld (.bool ((upG g ls at_ (gI (gL g.mv (at_)) (k))).top)), .ld (.int .i64 ((upG g ls at_ (gI (gL g.mv (at_)) (k))).c0)), .ld (.int .i64 ((upG g ls at_ (gI (gL g.mv (at_)) (k))).c1)), .ld (.int .i64 ((upG g ls at_ (gI (gL g.mv (at_)) (k))).c2)), .ld (.int .i64 ((upG g ls at_ (gI (gL g.mv (at_)) (k))).c3))], [.ld (.bool ((bestB (upG g ls at_) (gI g.ow at_) ((gL g.mv at_).take k.toNat)).1.top)), .ld (.int .i64 ((bestB (upG g ls at_) (gI g.ow at_) ((gL g.mv at_).take k.toNat)).1.c0)), .ld (.int .i64 ((bestB (upG g ls at_) (gI g.ow at_) ((gL g.mv at_).take k.toNat)).1.c1)), .ld (.int .i64 ((bestB (upG g ls at_) (gI g.ow at_) ((gL g.mv at_).take k.toNat)).1.c2)), .ld (.int .i64 ((bestB (upG g ls at_) (gI g.ow at_) ((gL g.mv at_).take k.toNat)).1.c3))]] [(57, tupV ((bestB (upG g ls at_) (gI g.ow at_) ((gL g.mv at_).take k.toNat)).1)), (56, tupV (upG g ls at_ (gI (gL g.mv (at_)) (k))))] [(w306.cell? ⟨b_178, 0, none⟩ = some (.bool ((upG g ls at_ (gI (gL g.mv (at_)) (k))).top))), (w306.cell? ⟨b_178, 1, none⟩ = some (.int .i64 ((upG g ls at_ (gI (gL g.mv (at_)) (k))).c0))), (w306.cell? ⟨b_178, 2, none⟩ = some (.int .i64 ((upG g ls at_ (gI (gL g.mv (at_)) (k))).c1))), (w306.cell? ⟨b_178, 3, none⟩ = some (.int .i64 ((upG g ls at_ (gI (gL g.mv (at_)) (k))).c2))), (w306.cell? ⟨b_178, 4, none⟩ = some (.int .i64 ((upG g ls at_ (gI (gL g.mv (at_)) (k))).c3))), (w306.cell? ⟨b_23, 0, none⟩ = some (.bool ((bestB (upG g ls at_) (gI g.ow at_) ((gL g.mv at_).take k.toNat)).1.top))), (w306.cell? ⟨b_23, 1, none⟩ = some (.int .i64 ((bestB (upG g ls at_) (gI g.ow at_) ((gL g.mv at_).take k.toNat)).1.c0))), (w306.cell? ⟨b_23, 2, none⟩ = some (.int .i64 ((bestB (upG g ls at_) (gI g.ow at_) ((gL g.mv at_).take k.toNat)).1.c1))), (w306.cell? ⟨b_23, 3, none⟩ = some (.int .i64 ((bestB (upG g ls at_) (gI g.ow at_) ((gL g.mv at_).take k.toNat)).1.c2))), (w306.cell? ⟨b_23, 4, none⟩ = some (.int .i64 ((bestB (upG g ls at_) (gI g.ow at_) ((gL g.mv at_).take k.toNat)).1.c3)))] (by kernel_rfl) ⟨(bx314.cell (i := 0) rfl), (bx314.cell (i := 1) rfl), (bx314.cell (i := 2) rfl), (bx314.cell (i := 3) rfl), (bx314.cell (i := 4) rfl), (bx313.cell (i := 0) rfl), (bx313.cell (i := 1) rfl), (bx313.cell (i := 2) rfl), (bx313.cell (i := 3) rfl), (bx313.cell (i := 4) rfl), trivial⟩ (fun act319 f318 => ?_)
    clear f307
    refine At.call f318 24 #[tupV (upG g ls at_ (gI (gL g.mv (at_)) (k))), tupV ((bestB (upG g ls at_) (gI g.ow at_) ((gL g.mv at_).take k.toNat)).1), .int .i64 (0)] (some 58) (by kernel_rfl) (cmpR_any (a := (upG g ls at_ (gI (gL g.mv (at_)) (k)))) (b := (bestB (upG g ls at_) (gI g.ow at_) ((gL g.mv at_).take k.toNat)).1) (p := 0)) ?_
    rintro e_ w320 ⟨rfl, he⟩
    have := cmp_rng (upG g ls at_ (gI (gL g.mv (at_)) (k))) ((bestB (upG g ls at_) (gI g.ow at_) ((gL g.mv at_).take k.toNat)).1) 0
    refine ⟨_, rfl, _, rfl, fun act321 f322 => ?_⟩
    clear f318
    have g323 := gr_ext he
    have szw320 := g323.size
    have e324 := e308.gr g323 no_row
    clear e308
    have r325 := r309.gr g323 (fun _ h => by cases h)
    clear r309
    have r326 := r310.gr g323 (fun _ h => by cases h)
    clear r310
    have bx327 := bx311.gr g323 (by simp)
    clear bx311
    have bx328 := bx312.gr g323 (by simp)
    clear bx312
    have bx329 := bx313.gr g323 (by simp)
    clear bx313
    have bx330 := bx314.gr g323 (by simp)
    clear bx314
    clear g323 he
    refine At.rd f322 1 [[]] [(10, .int .i64 (cmpT (upG g ls at_ (gI (gL g.mv (at_)) (k))) ((bestB (upG g ls at_) (gI g.ow at_) ((gL g.mv at_).take k.toNat)).1) 0))] [] (by kernel_rfl) trivial (fun act332 f331 => ?_)
    clear f322
    refine At.done rfl ?_
    refine t_n ?_
    have f333 := f331.sub (r := [(10, .int .i64 (cmpT (upG g ls at_ (gI (gL g.mv (at_)) (k))) ((bestB (upG g ls at_) (gI g.ow at_) ((gL g.mv at_).take k.toNat)).1) 0)), (9, .pointer (some ⟨b_178, 0, none⟩)), (8, .int .i64 (k)), (7, .pointer (some ⟨b_23, 0, none⟩)), (6, .pointer (some ⟨w1.heap.size, 0, none⟩)), (3, .pointer (some ⟨w.heap.size, 0, none⟩)), (1, .slice As ls.length cs), (2, .int .i64 (at_))]) ⟨rfl, rfl, rfl, rfl, rfl, rfl, rfl, rfl, trivial⟩
    clear f331
    refine wp_seq ?_
    refine At.start ?_
    obtain ⟨ad334, hA335, _, _, hc336⟩ := RdI.get r325.ow (at_) (by omega) (by omega)
    rcases Bool.eq_false_or_eq_true ((gI g.ow (at_) : Int) == 0) with h337 | h337
    ·have q338 := eq_of_beq h337
     rcases Bool.eq_false_or_eq_true (decide ((cmpT (upG g ls at_ (gI (gL g.mv (at_)) (k))) ((bestB (upG g ls at_) (gI g.ow at_) ((gL g.mv at_).take k.toNat)).1) 0 : Int) < 0)) with h339 | h339
     ·have q340 := of_decide_eq_true h339
      refine At.rd f333 22 [[], [.ld (.slice Ag0 g.ow.length cg0)], [], [.ad ad334], [.ld (.int .i64 (gI g.ow (at_)))], [], [.as_ (.bool true)], [], [], [], [.as_ (.bool true)], [], [], [], [], [], [], [], [], [], [], []] [(80, .bool true), (79, undef), (78, undef), (77, undef), (76, undef), (75, undef), (74, undef), (73, undef), (72, undef), (71, undef), (70, undef), (69, .bool true), (68, .bool (decide ((cmpT (upG g ls at_ (gI (gL g.mv (at_)) (k))) ((bestB (upG g ls at_) (gI g.ow at_) ((gL g.mv at_).take k.toNat)).1) 0 : Int) < 0))), (67, .bool (decide ((cmpT (upG g ls at_ (gI (gL g.mv (at_)) (k))) ((bestB (upG g ls at_) (gI g.ow at_) ((gL g.mv at_).take k.toNat)).1) 0 : Int) < 0))), (66, .int .i64 (cmpT (upG g ls at_ (gI (gL g.mv (at_)) (k))) ((bestB (upG g ls at_) (gI g.ow at_) ((gL g.mv at_).take k.toNat)).1) 0)), (65, .bool true), (64, .bool ((gI g.ow (at_) : Int) == 0)), (63, .int .i64 (gI g.ow (at_))), (62, .pointer (some (ad334.add ((at_ : Int).toNat * 1)))), (61, .int .i64 (at_)), (60, .slice Ag0 g.ow.length cg0), (59, .pointer (some ⟨w.heap.size, 0, none⟩))] [(w320.cell? ⟨w.heap.size, 0, none⟩ = some (.slice Ag0 g.ow.length cg0)), (Ag0 = some ad334), (0 ≤ (at_ : Int)), ((at_ : Int) < (g.ow.length : Nat)), (w320.cell? (ad334.add ((at_ : Int).toNat * 1)) = some (.int .i64 (gI g.ow (at_)))), ((.bool ((gI g.ow (at_) : Int) == 0) : Value) = .bool true), ((.bool (decide ((cmpT (upG g ls at_ (gI (gL g.mv (at_)) (k))) ((bestB (upG g ls at_) (gI g.ow at_) ((gL g.mv at_).take k.toNat)).1) 0 : Int) < 0)) : Value) = .bool true)] (by kernel_rfl) ⟨(bx327.cell (i := 0) rfl), hA335, (by omega), (by omega), hc336, (congrArg Value.bool h337), (congrArg Value.bool h339), trivial⟩ (fun act342 f341 => ?_)
      clear f333
      refine At.done rfl ?_
      refine t_n ?_
      have f343 := f341.sub (r := [(80, .bool true), (67, .bool (decide ((cmpT (upG g ls at_ (gI (gL g.mv (at_)) (k))) ((bestB (upG g ls at_) (gI g.ow at_) ((gL g.mv at_).take k.toNat)).1) 0 : Int) < 0))), (66, .int .i64 (cmpT (upG g ls at_ (gI (gL g.mv (at_)) (k))) ((bestB (upG g ls at_) (gI g.ow at_) ((gL g.mv at_).take k.toNat)).1) 0)), (9, .pointer (some ⟨b_178, 0, none⟩)), (8, .int .i64 (k)), (7, .pointer (some ⟨b_23, 0, none⟩)), (6, .pointer (some ⟨w1.heap.size, 0, none⟩)), (3, .pointer (some ⟨w.heap.size, 0, none⟩)), (1, .slice As ls.length cs), (2, .int .i64 (at_))]) ⟨rfl, rfl, rfl, rfl, rfl, rfl, rfl, rfl, rfl, rfl, trivial⟩
      clear f341
      refine cond_T f343 rfl ?_
      refine At.start ?_
      refine At.rd f343 1 [[.ld (.bool ((upG g ls at_ (gI (gL g.mv (at_)) (k))).top)), .ld (.int .i64 ((upG g ls at_ (gI (gL g.mv (at_)) (k))).c0)), .ld (.int .i64 ((upG g ls at_ (gI (gL g.mv (at_)) (k))).c1)), .ld (.int .i64 ((upG g ls at_ (gI (gL g.mv (at_)) (k))).c2)), .ld (.int .i64 ((upG g ls at_ (gI (gL g.mv (at_)) (k))).c3))]] [(81, tupV (upG g ls at_ (gI (gL g.mv (at_)) (k))))] [(w320.cell? ⟨b_178, 0, none⟩ = some (.bool ((upG g ls at_ (gI (gL g.mv (at_)) (k))).top))), (w320.cell? ⟨b_178, 1, none⟩ = some (.int .i64 ((upG g ls at_ (gI (gL g.mv (at_)) (k))).c0))), (w320.cell? ⟨b_178, 2, none⟩ = some (.int .i64 ((upG g ls at_ (gI (gL g.mv (at_)) (k))).c1))), (w320.cell? ⟨b_178, 3, none⟩ = some (.int .i64 ((upG g ls at_ (gI (gL g.mv (at_)) (k))).c2))), (w320.cell? ⟨b_178, 4, none⟩ = some (.int .i64 ((upG g ls at_ (gI (gL g.mv (at_)) (k))).c3)))] (by kernel_rfl) ⟨(bx330.cell (i := 0) rfl), (bx330.cell (i := 1) rfl), (bx330.cell (i := 2) rfl), (bx330.cell (i := 3) rfl), (bx330.cell (i := 4) rfl), trivial⟩ (fun act345 f344 => ?_)
      clear f343
      refine At.store f344 (t := 40) (b := b_23) (off := 0) (v := tupV (upG g ls at_ (gI (gL g.mv (at_)) (k)))) (by kernel_rfl) bx329 (by kernel_rfl) (fun act350 w346 g347 bx348 f349 => ?_)
      clear f344
      replace bx348 : Bx w346 (b_23) (tupC (upG g ls at_ (gI (gL g.mv (at_)) (k)))) 40 := bx348
      have szw346 := g347.size
      have e351 := e324.gr g347 (fun k h => by injection h; omega)
      clear e324
      have r352 := r325.gr g347 (fun k h => by injection h; omega)
      clear r325
      have r353 := r326.gr g347 (fun k h => by injection h; omega)
      clear r326
      have bx354 := bx327.gr g347 (fun h => by injection h; omega)
      clear bx327
      have bx355 := bx328.gr g347 (fun h => by injection h; omega)
      clear bx328
      have bx356 := bx330.gr g347 (fun h => by injection h; omega)
      clear bx330
      clear bx329 g347
      refine At.done rfl ?_
      refine b_n ?_
      refine t_n ?_
      have f357 := f349.sub (r := [(67, .bool (decide ((cmpT (upG g ls at_ (gI (gL g.mv (at_)) (k))) ((bestB (upG g ls at_) (gI g.ow at_) ((gL g.mv at_).take k.toNat)).1) 0 : Int) < 0))), (66, .int .i64 (cmpT (upG g ls at_ (gI (gL g.mv (at_)) (k))) ((bestB (upG g ls at_) (gI g.ow at_) ((gL g.mv at_).take k.toNat)).1) 0)), (8, .int .i64 (k)), (7, .pointer (some ⟨b_23, 0, none⟩)), (6, .pointer (some ⟨w1.heap.size, 0, none⟩)), (3, .pointer (some ⟨w.heap.size, 0, none⟩)), (1, .slice As ls.length cs), (2, .int .i64 (at_))]) ⟨rfl, rfl, rfl, rfl, rfl, rfl, rfl, rfl, trivial⟩
      clear f349
      refine At.start ?_
      refine At.rd f357 3 [[], [.as_ (.int .i64 (k + 1))], []] [(8, .int .i64 (k + 1)), (37, .int .i64 (k + 1)), (36, .int .i64 (k))] [((.int .i64 (IntKind.i64.wrap (k + 1)) : Value) = .int .i64 (k + 1))] (by kernel_rfl) ⟨(w64 (by omega) (by omega)), trivial⟩ (fun act359 f358 => ?_)
      clear f357
      refine At.done rfl ?_
      refine t_n ?_
      have f360 := f358.sub (r := [(8, .int .i64 (k + 1)), (7, .pointer (some ⟨b_23, 0, none⟩)), (6, .pointer (some ⟨w1.heap.size, 0, none⟩)), (3, .pointer (some ⟨w.heap.size, 0, none⟩)), (1, .slice As ls.length cs), (2, .int .i64 (at_))]) ⟨rfl, rfl, rfl, rfl, rfl, rfl, trivial⟩
      exact ⟨_, (by omega), (k + 1), rfl, f360, e351, r352, r353, bx354, bx355, (bx348.as (by first | exact tupC_eq (t := upG g ls at_ (gI (gL g.mv at_) k)) (congrArg Prod.fst (bestB_yes (f := upG g ls at_) (by omega) (by omega) (by first | exact .inr (.inl ⟨by omega, by omega⟩) | exact .inr (.inr ⟨by omega, by omega⟩)))) | exact tupC_eq (congrArg Prod.fst (bestB_no (f := upG g ls at_) (by omega) (by omega) (by omega) (fun _ => by omega) (fun _ => by omega))))), (by omega), (by omega)⟩
     ·have q361 := of_decide_eq_false h339
      obtain ⟨ad362, hA363, _, _, hc364⟩ := RdI.get r325.ow (at_) (by omega) (by omega)
      rcases Bool.eq_false_or_eq_true ((gI g.ow (at_) : Int) == 1) with h365 | h365
      ·have q366 := eq_of_beq h365
       refine At.rd f333 22 [[], [.ld (.slice Ag0 g.ow.length cg0)], [], [.ad ad334], [.ld (.int .i64 (gI g.ow (at_)))], [], [.as_ (.bool true)], [], [], [], [.as_ (.bool false)], [], [.ld (.slice Ag0 g.ow.length cg0)], [], [.ad ad362], [.ld (.int .i64 (gI g.ow (at_)))], [], [.as_ (.bool true)], [], [], [], []] [(80, .bool (decide ((cmpT (upG g ls at_ (gI (gL g.mv (at_)) (k))) ((bestB (upG g ls at_) (gI g.ow at_) ((gL g.mv at_).take k.toNat)).1) 0 : Int) > 0))), (79, .bool (decide ((cmpT (upG g ls at_ (gI (gL g.mv (at_)) (k))) ((bestB (upG g ls at_) (gI g.ow at_) ((gL g.mv at_).take k.toNat)).1) 0 : Int) > 0))), (78, .bool (decide ((cmpT (upG g ls at_ (gI (gL g.mv (at_)) (k))) ((bestB (upG g ls at_) (gI g.ow at_) ((gL g.mv at_).take k.toNat)).1) 0 : Int) > 0))), (77, .int .i64 (cmpT (upG g ls at_ (gI (gL g.mv (at_)) (k))) ((bestB (upG g ls at_) (gI g.ow at_) ((gL g.mv at_).take k.toNat)).1) 0)), (76, .bool true), (75, .bool ((gI g.ow (at_) : Int) == 1)), (74, .int .i64 (gI g.ow (at_))), (73, .pointer (some (ad362.add ((at_ : Int).toNat * 1)))), (72, .int .i64 (at_)), (71, .slice Ag0 g.ow.length cg0), (70, .pointer (some ⟨w.heap.size, 0, none⟩)), (69, .bool false), (68, .bool (decide ((cmpT (upG g ls at_ (gI (gL g.mv (at_)) (k))) ((bestB (upG g ls at_) (gI g.ow at_) ((gL g.mv at_).take k.toNat)).1) 0 : Int) < 0))), (67, .bool (decide ((cmpT (upG g ls at_ (gI (gL g.mv (at_)) (k))) ((bestB (upG g ls at_) (gI g.ow at_) ((gL g.mv at_).take k.toNat)).1) 0 : Int) < 0))), (66, .int .i64 (cmpT (upG g ls at_ (gI (gL g.mv (at_)) (k))) ((bestB (upG g ls at_) (gI g.ow at_) ((gL g.mv at_).take k.toNat)).1) 0)), (65, .bool true), (64, .bool ((gI g.ow (at_) : Int) == 0)), (63, .int .i64 (gI g.ow (at_))), (62, .pointer (some (ad334.add ((at_ : Int).toNat * 1)))), (61, .int .i64 (at_)), (60, .slice Ag0 g.ow.length cg0), (59, .pointer (some ⟨w.heap.size, 0, none⟩))] [(w320.cell? ⟨w.heap.size, 0, none⟩ = some (.slice Ag0 g.ow.length cg0)), (Ag0 = some ad334), (0 ≤ (at_ : Int)), ((at_ : Int) < (g.ow.length : Nat)), (w320.cell? (ad334.add ((at_ : Int).toNat * 1)) = some (.int .i64 (gI g.ow (at_)))), ((.bool ((gI g.ow (at_) : Int) == 0) : Value) = .bool true), ((.bool (decide ((cmpT (upG g ls at_ (gI (gL g.mv (at_)) (k))) ((bestB (upG g ls at_) (gI g.ow at_) ((gL g.mv at_).take k.toNat)).1) 0 : Int) < 0)) : Value) = .bool false), (w320.cell? ⟨w.heap.size, 0, none⟩ = some (.slice Ag0 g.ow.length cg0)), (Ag0 = some ad362), (0 ≤ (at_ : Int)), ((at_ : Int) < (g.ow.length : Nat)), (w320.cell? (ad362.add ((at_ : Int).toNat * 1)) = some (.int .i64 (gI g.ow (at_)))), ((.bool ((gI g.ow (at_) : Int) == 1) : Value) = .bool true)] (by kernel_rfl) ⟨(bx327.cell (i := 0) rfl), hA335, (by omega), (by omega), hc336, (congrArg Value.bool h337), (congrArg Value.bool h339), (bx327.cell (i := 0) rfl), hA363, (by omega), (by omega), hc364, (congrArg Value.bool h365), trivial⟩ (fun act368 f367 => ?_)
       clear f333
       refine At.done rfl ?_
       refine t_n ?_
       have f369 := f367.sub (r := [(80, .bool (decide ((cmpT (upG g ls at_ (gI (gL g.mv (at_)) (k))) ((bestB (upG g ls at_) (gI g.ow at_) ((gL g.mv at_).take k.toNat)).1) 0 : Int) > 0))), (79, .bool (decide ((cmpT (upG g ls at_ (gI (gL g.mv (at_)) (k))) ((bestB (upG g ls at_) (gI g.ow at_) ((gL g.mv at_).take k.toNat)).1) 0 : Int) > 0))), (78, .bool (decide ((cmpT (upG g ls at_ (gI (gL g.mv (at_)) (k))) ((bestB (upG g ls at_) (gI g.ow at_) ((gL g.mv at_).take k.toNat)).1) 0 : Int) > 0))), (77, .int .i64 (cmpT (upG g ls at_ (gI (gL g.mv (at_)) (k))) ((bestB (upG g ls at_) (gI g.ow at_) ((gL g.mv at_).take k.toNat)).1) 0)), (76, .bool true), (75, .bool ((gI g.ow (at_) : Int) == 1)), (74, .int .i64 (gI g.ow (at_))), (73, .pointer (some (ad362.add ((at_ : Int).toNat * 1)))), (72, .int .i64 (at_)), (71, .slice Ag0 g.ow.length cg0), (70, .pointer (some ⟨w.heap.size, 0, none⟩)), (67, .bool (decide ((cmpT (upG g ls at_ (gI (gL g.mv (at_)) (k))) ((bestB (upG g ls at_) (gI g.ow at_) ((gL g.mv at_).take k.toNat)).1) 0 : Int) < 0))), (66, .int .i64 (cmpT (upG g ls at_ (gI (gL g.mv (at_)) (k))) ((bestB (upG g ls at_) (gI g.ow at_) ((gL g.mv at_).take k.toNat)).1) 0)), (9, .pointer (some ⟨b_178, 0, none⟩)), (8, .int .i64 (k)), (7, .pointer (some ⟨b_23, 0, none⟩)), (6, .pointer (some ⟨w1.heap.size, 0, none⟩)), (3, .pointer (some ⟨w.heap.size, 0, none⟩)), (1, .slice As ls.length cs), (2, .int .i64 (at_))]) ⟨rfl, rfl, rfl, rfl, rfl, rfl, rfl, rfl, rfl, rfl, rfl, rfl, rfl, rfl, rfl, rfl, rfl, rfl, rfl, rfl, trivial⟩
       clear f367
       refine cond_S f369 (t := decide ((cmpT (upG g ls at_ (gI (gL g.mv (at_)) (k))) ((bestB (upG g ls at_) (gI g.ow at_) ((gL g.mv at_).take k.toNat)).1) 0 : Int) > 0)) rfl (fun h370 => ?_) (fun h370 => ?_)
       ·have q371 := of_decide_eq_true h370
        refine At.start ?_
        refine At.rd f369 1 [[.ld (.bool ((upG g ls at_ (gI (gL g.mv (at_)) (k))).top)), .ld (.int .i64 ((upG g ls at_ (gI (gL g.mv (at_)) (k))).c0)), .ld (.int .i64 ((upG g ls at_ (gI (gL g.mv (at_)) (k))).c1)), .ld (.int .i64 ((upG g ls at_ (gI (gL g.mv (at_)) (k))).c2)), .ld (.int .i64 ((upG g ls at_ (gI (gL g.mv (at_)) (k))).c3))]] [(81, tupV (upG g ls at_ (gI (gL g.mv (at_)) (k))))] [(w320.cell? ⟨b_178, 0, none⟩ = some (.bool ((upG g ls at_ (gI (gL g.mv (at_)) (k))).top))), (w320.cell? ⟨b_178, 1, none⟩ = some (.int .i64 ((upG g ls at_ (gI (gL g.mv (at_)) (k))).c0))), (w320.cell? ⟨b_178, 2, none⟩ = some (.int .i64 ((upG g ls at_ (gI (gL g.mv (at_)) (k))).c1))), (w320.cell? ⟨b_178, 3, none⟩ = some (.int .i64 ((upG g ls at_ (gI (gL g.mv (at_)) (k))).c2))), (w320.cell? ⟨b_178, 4, none⟩ = some (.int .i64 ((upG g ls at_ (gI (gL g.mv (at_)) (k))).c3)))] (by kernel_rfl) ⟨(bx330.cell (i := 0) rfl), (bx330.cell (i := 1) rfl), (bx330.cell (i := 2) rfl), (bx330.cell (i := 3) rfl), (bx330.cell (i := 4) rfl), trivial⟩ (fun act373 f372 => ?_)
        clear f369
        refine At.store f372 (t := 40) (b := b_23) (off := 0) (v := tupV (upG g ls at_ (gI (gL g.mv (at_)) (k)))) (by kernel_rfl) bx329 (by kernel_rfl) (fun act378 w374 g375 bx376 f377 => ?_)
        clear f372
        replace bx376 : Bx w374 (b_23) (tupC (upG g ls at_ (gI (gL g.mv (at_)) (k)))) 40 := bx376
        have szw374 := g375.size
        have e379 := e324.gr g375 (fun k h => by injection h; omega)
        clear e324
        have r380 := r325.gr g375 (fun k h => by injection h; omega)
        clear r325
        have r381 := r326.gr g375 (fun k h => by injection h; omega)
        clear r326
        have bx382 := bx327.gr g375 (fun h => by injection h; omega)
        clear bx327
        have bx383 := bx328.gr g375 (fun h => by injection h; omega)
        clear bx328
        have bx384 := bx330.gr g375 (fun h => by injection h; omega)
        clear bx330
        clear bx329 g375
        refine At.done rfl ?_
        refine b_n ?_
        refine t_n ?_
        have f385 := f377.sub (r := [(79, .bool (decide ((cmpT (upG g ls at_ (gI (gL g.mv (at_)) (k))) ((bestB (upG g ls at_) (gI g.ow at_) ((gL g.mv at_).take k.toNat)).1) 0 : Int) > 0))), (78, .bool (decide ((cmpT (upG g ls at_ (gI (gL g.mv (at_)) (k))) ((bestB (upG g ls at_) (gI g.ow at_) ((gL g.mv at_).take k.toNat)).1) 0 : Int) > 0))), (77, .int .i64 (cmpT (upG g ls at_ (gI (gL g.mv (at_)) (k))) ((bestB (upG g ls at_) (gI g.ow at_) ((gL g.mv at_).take k.toNat)).1) 0)), (76, .bool true), (75, .bool ((gI g.ow (at_) : Int) == 1)), (74, .int .i64 (gI g.ow (at_))), (73, .pointer (some (ad362.add ((at_ : Int).toNat * 1)))), (72, .int .i64 (at_)), (71, .slice Ag0 g.ow.length cg0), (70, .pointer (some ⟨w.heap.size, 0, none⟩)), (67, .bool (decide ((cmpT (upG g ls at_ (gI (gL g.mv (at_)) (k))) ((bestB (upG g ls at_) (gI g.ow at_) ((gL g.mv at_).take k.toNat)).1) 0 : Int) < 0))), (66, .int .i64 (cmpT (upG g ls at_ (gI (gL g.mv (at_)) (k))) ((bestB (upG g ls at_) (gI g.ow at_) ((gL g.mv at_).take k.toNat)).1) 0)), (8, .int .i64 (k)), (7, .pointer (some ⟨b_23, 0, none⟩)), (6, .pointer (some ⟨w1.heap.size, 0, none⟩)), (3, .pointer (some ⟨w.heap.size, 0, none⟩)), (1, .slice As ls.length cs), (2, .int .i64 (at_))]) ⟨rfl, rfl, rfl, rfl, rfl, rfl, rfl, rfl, rfl, rfl, rfl, rfl, rfl, rfl, rfl, rfl, rfl, rfl, trivial⟩
        clear f377
        refine At.start ?_
        refine At.rd f385 3 [[], [.as_ (.int .i64 (k + 1))], []] [(8, .int .i64 (k + 1)), (37, .int .i64 (k + 1)), (36, .int .i64 (k))] [((.int .i64 (IntKind.i64.wrap (k + 1)) : Value) = .int .i64 (k + 1))] (by kernel_rfl) ⟨(w64 (by omega) (by omega)), trivial⟩ (fun act387 f386 => ?_)
        clear f385
        refine At.done rfl ?_
        refine t_n ?_
        have f388 := f386.sub (r := [(8, .int .i64 (k + 1)), (7, .pointer (some ⟨b_23, 0, none⟩)), (6, .pointer (some ⟨w1.heap.size, 0, none⟩)), (3, .pointer (some ⟨w.heap.size, 0, none⟩)), (1, .slice As ls.length cs), (2, .int .i64 (at_))]) ⟨rfl, rfl, rfl, rfl, rfl, rfl, trivial⟩
        exact ⟨_, (by omega), (k + 1), rfl, f388, e379, r380, r381, bx382, bx383, (bx376.as (by first | exact tupC_eq (t := upG g ls at_ (gI (gL g.mv at_) k)) (congrArg Prod.fst (bestB_yes (f := upG g ls at_) (by omega) (by omega) (by first | exact .inr (.inl ⟨by omega, by omega⟩) | exact .inr (.inr ⟨by omega, by omega⟩)))) | exact tupC_eq (congrArg Prod.fst (bestB_no (f := upG g ls at_) (by omega) (by omega) (by omega) (fun _ => by omega) (fun _ => by omega))))), (by omega), (by omega)⟩
       ·have q389 := of_decide_eq_false h370
        refine wp_skip ?_
        refine b_n ?_
        refine t_n ?_
        have f390 := f369.sub (r := [(79, .bool (decide ((cmpT (upG g ls at_ (gI (gL g.mv (at_)) (k))) ((bestB (upG g ls at_) (gI g.ow at_) ((gL g.mv at_).take k.toNat)).1) 0 : Int) > 0))), (78, .bool (decide ((cmpT (upG g ls at_ (gI (gL g.mv (at_)) (k))) ((bestB (upG g ls at_) (gI g.ow at_) ((gL g.mv at_).take k.toNat)).1) 0 : Int) > 0))), (77, .int .i64 (cmpT (upG g ls at_ (gI (gL g.mv (at_)) (k))) ((bestB (upG g ls at_) (gI g.ow at_) ((gL g.mv at_).take k.toNat)).1) 0)), (76, .bool true), (75, .bool ((gI g.ow (at_) : Int) == 1)), (74, .int .i64 (gI g.ow (at_))), (73, .pointer (some (ad362.add ((at_ : Int).toNat * 1)))), (72, .int .i64 (at_)), (71, .slice Ag0 g.ow.length cg0), (70, .pointer (some ⟨w.heap.size, 0, none⟩)), (67, .bool (decide ((cmpT (upG g ls at_ (gI (gL g.mv (at_)) (k))) ((bestB (upG g ls at_) (gI g.ow at_) ((gL g.mv at_).take k.toNat)).1) 0 : Int) < 0))), (66, .int .i64 (cmpT (upG g ls at_ (gI (gL g.mv (at_)) (k))) ((bestB (upG g ls at_) (gI g.ow at_) ((gL g.mv at_).take k.toNat)).1) 0)), (8, .int .i64 (k)), (7, .pointer (some ⟨b_23, 0, none⟩)), (6, .pointer (some ⟨w1.heap.size, 0, none⟩)), (3, .pointer (some ⟨w.heap.size, 0, none⟩)), (1, .slice As ls.length cs), (2, .int .i64 (at_))]) ⟨rfl, rfl, rfl, rfl, rfl, rfl, rfl, rfl, rfl, rfl, rfl, rfl, rfl, rfl, rfl, rfl, rfl, rfl, trivial⟩
        clear f369
        refine At.start ?_
        refine At.rd f390 3 [[], [.as_ (.int .i64 (k + 1))], []] [(8, .int .i64 (k + 1)), (37, .int .i64 (k + 1)), (36, .int .i64 (k))] [((.int .i64 (IntKind.i64.wrap (k + 1)) : Value) = .int .i64 (k + 1))] (by kernel_rfl) ⟨(w64 (by omega) (by omega)), trivial⟩ (fun act392 f391 => ?_)
        clear f390
        refine At.done rfl ?_
        refine t_n ?_
        have f393 := f391.sub (r := [(8, .int .i64 (k + 1)), (7, .pointer (some ⟨b_23, 0, none⟩)), (6, .pointer (some ⟨w1.heap.size, 0, none⟩)), (3, .pointer (some ⟨w.heap.size, 0, none⟩)), (1, .slice As ls.length cs), (2, .int .i64 (at_))]) ⟨rfl, rfl, rfl, rfl, rfl, rfl, trivial⟩
        exact ⟨_, (by omega), (k + 1), rfl, f393, e324, r325, r326, bx327, bx328, (bx329.as (by first | exact tupC_eq (t := upG g ls at_ (gI (gL g.mv at_) k)) (congrArg Prod.fst (bestB_yes (f := upG g ls at_) (by omega) (by omega) (by first | exact .inr (.inl ⟨by omega, by omega⟩) | exact .inr (.inr ⟨by omega, by omega⟩)))) | exact tupC_eq (congrArg Prod.fst (bestB_no (f := upG g ls at_) (by omega) (by omega) (by omega) (fun _ => by omega) (fun _ => by omega))))), (by omega), (by omega)⟩
      ·have q394 := ne_of_beq_false h365
       refine At.rd f333 22 [[], [.ld (.slice Ag0 g.ow.length cg0)], [], [.ad ad334], [.ld (.int .i64 (gI g.ow (at_)))], [], [.as_ (.bool true)], [], [], [], [.as_ (.bool false)], [], [.ld (.slice Ag0 g.ow.length cg0)], [], [.ad ad362], [.ld (.int .i64 (gI g.ow (at_)))], [], [.as_ (.bool false)], [], [], [], []] [(80, .bool false), (79, .bool false), (78, undef), (77, undef), (76, .bool false), (75, .bool ((gI g.ow (at_) : Int) == 1)), (74, .int .i64 (gI g.ow (at_))), (73, .pointer (some (ad362.add ((at_ : Int).toNat * 1)))), (72, .int .i64 (at_)), (71, .slice Ag0 g.ow.length cg0), (70, .pointer (some ⟨w.heap.size, 0, none⟩)), (69, .bool false), (68, .bool (decide ((cmpT (upG g ls at_ (gI (gL g.mv (at_)) (k))) ((bestB (upG g ls at_) (gI g.ow at_) ((gL g.mv at_).take k.toNat)).1) 0 : Int) < 0))), (67, .bool (decide ((cmpT (upG g ls at_ (gI (gL g.mv (at_)) (k))) ((bestB (upG g ls at_) (gI g.ow at_) ((gL g.mv at_).take k.toNat)).1) 0 : Int) < 0))), (66, .int .i64 (cmpT (upG g ls at_ (gI (gL g.mv (at_)) (k))) ((bestB (upG g ls at_) (gI g.ow at_) ((gL g.mv at_).take k.toNat)).1) 0)), (65, .bool true), (64, .bool ((gI g.ow (at_) : Int) == 0)), (63, .int .i64 (gI g.ow (at_))), (62, .pointer (some (ad334.add ((at_ : Int).toNat * 1)))), (61, .int .i64 (at_)), (60, .slice Ag0 g.ow.length cg0), (59, .pointer (some ⟨w.heap.size, 0, none⟩))] [(w320.cell? ⟨w.heap.size, 0, none⟩ = some (.slice Ag0 g.ow.length cg0)), (Ag0 = some ad334), (0 ≤ (at_ : Int)), ((at_ : Int) < (g.ow.length : Nat)), (w320.cell? (ad334.add ((at_ : Int).toNat * 1)) = some (.int .i64 (gI g.ow (at_)))), ((.bool ((gI g.ow (at_) : Int) == 0) : Value) = .bool true), ((.bool (decide ((cmpT (upG g ls at_ (gI (gL g.mv (at_)) (k))) ((bestB (upG g ls at_) (gI g.ow at_) ((gL g.mv at_).take k.toNat)).1) 0 : Int) < 0)) : Value) = .bool false), (w320.cell? ⟨w.heap.size, 0, none⟩ = some (.slice Ag0 g.ow.length cg0)), (Ag0 = some ad362), (0 ≤ (at_ : Int)), ((at_ : Int) < (g.ow.length : Nat)), (w320.cell? (ad362.add ((at_ : Int).toNat * 1)) = some (.int .i64 (gI g.ow (at_)))), ((.bool ((gI g.ow (at_) : Int) == 1) : Value) = .bool false)] (by kernel_rfl) ⟨(bx327.cell (i := 0) rfl), hA335, (by omega), (by omega), hc336, (congrArg Value.bool h337), (congrArg Value.bool h339), (bx327.cell (i := 0) rfl), hA363, (by omega), (by omega), hc364, (congrArg Value.bool h365), trivial⟩ (fun act396 f395 => ?_)
       clear f333
       refine At.done rfl ?_
       refine t_n ?_
       have f397 := f395.sub (r := [(80, .bool false), (79, .bool false), (76, .bool false), (75, .bool ((gI g.ow (at_) : Int) == 1)), (74, .int .i64 (gI g.ow (at_))), (73, .pointer (some (ad362.add ((at_ : Int).toNat * 1)))), (72, .int .i64 (at_)), (71, .slice Ag0 g.ow.length cg0), (70, .pointer (some ⟨w.heap.size, 0, none⟩)), (67, .bool (decide ((cmpT (upG g ls at_ (gI (gL g.mv (at_)) (k))) ((bestB (upG g ls at_) (gI g.ow at_) ((gL g.mv at_).take k.toNat)).1) 0 : Int) < 0))), (66, .int .i64 (cmpT (upG g ls at_ (gI (gL g.mv (at_)) (k))) ((bestB (upG g ls at_) (gI g.ow at_) ((gL g.mv at_).take k.toNat)).1) 0)), (9, .pointer (some ⟨b_178, 0, none⟩)), (8, .int .i64 (k)), (7, .pointer (some ⟨b_23, 0, none⟩)), (6, .pointer (some ⟨w1.heap.size, 0, none⟩)), (3, .pointer (some ⟨w.heap.size, 0, none⟩)), (1, .slice As ls.length cs), (2, .int .i64 (at_))]) ⟨rfl, rfl, rfl, rfl, rfl, rfl, rfl, rfl, rfl, rfl, rfl, rfl, rfl, rfl, rfl, rfl, rfl, rfl, trivial⟩
       clear f395
       refine cond_F f397 rfl ?_
       refine wp_skip ?_
       refine b_n ?_
       refine t_n ?_
       have f398 := f397.sub (r := [(79, .bool false), (76, .bool false), (75, .bool ((gI g.ow (at_) : Int) == 1)), (74, .int .i64 (gI g.ow (at_))), (73, .pointer (some (ad362.add ((at_ : Int).toNat * 1)))), (72, .int .i64 (at_)), (71, .slice Ag0 g.ow.length cg0), (70, .pointer (some ⟨w.heap.size, 0, none⟩)), (67, .bool (decide ((cmpT (upG g ls at_ (gI (gL g.mv (at_)) (k))) ((bestB (upG g ls at_) (gI g.ow at_) ((gL g.mv at_).take k.toNat)).1) 0 : Int) < 0))), (66, .int .i64 (cmpT (upG g ls at_ (gI (gL g.mv (at_)) (k))) ((bestB (upG g ls at_) (gI g.ow at_) ((gL g.mv at_).take k.toNat)).1) 0)), (8, .int .i64 (k)), (7, .pointer (some ⟨b_23, 0, none⟩)), (6, .pointer (some ⟨w1.heap.size, 0, none⟩)), (3, .pointer (some ⟨w.heap.size, 0, none⟩)), (1, .slice As ls.length cs), (2, .int .i64 (at_))]) ⟨rfl, rfl, rfl, rfl, rfl, rfl, rfl, rfl, rfl, rfl, rfl, rfl, rfl, rfl, rfl, rfl, trivial⟩
       clear f397
       refine At.start ?_
       refine At.rd f398 3 [[], [.as_ (.int .i64 (k + 1))], []] [(8, .int .i64 (k + 1)), (37, .int .i64 (k + 1)), (36, .int .i64 (k))] [((.int .i64 (IntKind.i64.wrap (k + 1)) : Value) = .int .i64 (k + 1))] (by kernel_rfl) ⟨(w64 (by omega) (by omega)), trivial⟩ (fun act400 f399 => ?_)
       clear f398
       refine At.done rfl ?_
       refine t_n ?_
       have f401 := f399.sub (r := [(8, .int .i64 (k + 1)), (7, .pointer (some ⟨b_23, 0, none⟩)), (6, .pointer (some ⟨w1.heap.size, 0, none⟩)), (3, .pointer (some ⟨w.heap.size, 0, none⟩)), (1, .slice As ls.length cs), (2, .int .i64 (at_))]) ⟨rfl, rfl, rfl, rfl, rfl, rfl, trivial⟩
       exact ⟨_, (by omega), (k + 1), rfl, f401, e324, r325, r326, bx327, bx328, (bx329.as (by first | exact tupC_eq (t := upG g ls at_ (gI (gL g.mv at_) k)) (congrArg Prod.fst (bestB_yes (f := upG g ls at_) (by omega) (by omega) (by first | exact .inr (.inl ⟨by omega, by omega⟩) | exact .inr (.inr ⟨by omega, by omega⟩)))) | exact tupC_eq (congrArg Prod.fst (bestB_no (f := upG g ls at_) (by omega) (by omega) (by omega) (fun _ => by omega) (fun _ => by omega))))), (by omega), (by omega)⟩
    ·have q402 := ne_of_beq_false h337
     obtain ⟨ad403, hA404, _, _, hc405⟩ := RdI.get r325.ow (at_) (by omega) (by omega)
     rcases Bool.eq_false_or_eq_true ((gI g.ow (at_) : Int) == 1) with h406 | h406
     ·have q407 := eq_of_beq h406
      refine At.rd f333 22 [[], [.ld (.slice Ag0 g.ow.length cg0)], [], [.ad ad334], [.ld (.int .i64 (gI g.ow (at_)))], [], [.as_ (.bool false)], [], [], [], [], [], [.ld (.slice Ag0 g.ow.length cg0)], [], [.ad ad403], [.ld (.int .i64 (gI g.ow (at_)))], [], [.as_ (.bool true)], [], [], [], []] [(80, .bool (decide ((cmpT (upG g ls at_ (gI (gL g.mv (at_)) (k))) ((bestB (upG g ls at_) (gI g.ow at_) ((gL g.mv at_).take k.toNat)).1) 0 : Int) > 0))), (79, .bool (decide ((cmpT (upG g ls at_ (gI (gL g.mv (at_)) (k))) ((bestB (upG g ls at_) (gI g.ow at_) ((gL g.mv at_).take k.toNat)).1) 0 : Int) > 0))), (78, .bool (decide ((cmpT (upG g ls at_ (gI (gL g.mv (at_)) (k))) ((bestB (upG g ls at_) (gI g.ow at_) ((gL g.mv at_).take k.toNat)).1) 0 : Int) > 0))), (77, .int .i64 (cmpT (upG g ls at_ (gI (gL g.mv (at_)) (k))) ((bestB (upG g ls at_) (gI g.ow at_) ((gL g.mv at_).take k.toNat)).1) 0)), (76, .bool true), (75, .bool ((gI g.ow (at_) : Int) == 1)), (74, .int .i64 (gI g.ow (at_))), (73, .pointer (some (ad403.add ((at_ : Int).toNat * 1)))), (72, .int .i64 (at_)), (71, .slice Ag0 g.ow.length cg0), (70, .pointer (some ⟨w.heap.size, 0, none⟩)), (69, .bool false), (68, .bool false), (67, undef), (66, undef), (65, .bool false), (64, .bool ((gI g.ow (at_) : Int) == 0)), (63, .int .i64 (gI g.ow (at_))), (62, .pointer (some (ad334.add ((at_ : Int).toNat * 1)))), (61, .int .i64 (at_)), (60, .slice Ag0 g.ow.length cg0), (59, .pointer (some ⟨w.heap.size, 0, none⟩))] [(w320.cell? ⟨w.heap.size, 0, none⟩ = some (.slice Ag0 g.ow.length cg0)), (Ag0 = some ad334), (0 ≤ (at_ : Int)), ((at_ : Int) < (g.ow.length : Nat)), (w320.cell? (ad334.add ((at_ : Int).toNat * 1)) = some (.int .i64 (gI g.ow (at_)))), ((.bool ((gI g.ow (at_) : Int) == 0) : Value) = .bool false), (w320.cell? ⟨w.heap.size, 0, none⟩ = some (.slice Ag0 g.ow.length cg0)), (Ag0 = some ad403), (0 ≤ (at_ : Int)), ((at_ : Int) < (g.ow.length : Nat)), (w320.cell? (ad403.add ((at_ : Int).toNat * 1)) = some (.int .i64 (gI g.ow (at_)))), ((.bool ((gI g.ow (at_) : Int) == 1) : Value) = .bool true)] (by kernel_rfl) ⟨(bx327.cell (i := 0) rfl), hA335, (by omega), (by omega), hc336, (congrArg Value.bool h337), (bx327.cell (i := 0) rfl), hA404, (by omega), (by omega), hc405, (congrArg Value.bool h406), trivial⟩ (fun act409 f408 => ?_)
      clear f333
      refine At.done rfl ?_
      refine t_n ?_
      have f410 := f408.sub (r := [(80, .bool (decide ((cmpT (upG g ls at_ (gI (gL g.mv (at_)) (k))) ((bestB (upG g ls at_) (gI g.ow at_) ((gL g.mv at_).take k.toNat)).1) 0 : Int) > 0))), (79, .bool (decide ((cmpT (upG g ls at_ (gI (gL g.mv (at_)) (k))) ((bestB (upG g ls at_) (gI g.ow at_) ((gL g.mv at_).take k.toNat)).1) 0 : Int) > 0))), (78, .bool (decide ((cmpT (upG g ls at_ (gI (gL g.mv (at_)) (k))) ((bestB (upG g ls at_) (gI g.ow at_) ((gL g.mv at_).take k.toNat)).1) 0 : Int) > 0))), (77, .int .i64 (cmpT (upG g ls at_ (gI (gL g.mv (at_)) (k))) ((bestB (upG g ls at_) (gI g.ow at_) ((gL g.mv at_).take k.toNat)).1) 0)), (76, .bool true), (75, .bool ((gI g.ow (at_) : Int) == 1)), (74, .int .i64 (gI g.ow (at_))), (73, .pointer (some (ad403.add ((at_ : Int).toNat * 1)))), (72, .int .i64 (at_)), (71, .slice Ag0 g.ow.length cg0), (70, .pointer (some ⟨w.heap.size, 0, none⟩)), (9, .pointer (some ⟨b_178, 0, none⟩)), (8, .int .i64 (k)), (7, .pointer (some ⟨b_23, 0, none⟩)), (6, .pointer (some ⟨w1.heap.size, 0, none⟩)), (3, .pointer (some ⟨w.heap.size, 0, none⟩)), (1, .slice As ls.length cs), (2, .int .i64 (at_))]) ⟨rfl, rfl, rfl, rfl, rfl, rfl, rfl, rfl, rfl, rfl, rfl, rfl, rfl, rfl, rfl, rfl, rfl, rfl, trivial⟩
      clear f408
      refine cond_S f410 (t := decide ((cmpT (upG g ls at_ (gI (gL g.mv (at_)) (k))) ((bestB (upG g ls at_) (gI g.ow at_) ((gL g.mv at_).take k.toNat)).1) 0 : Int) > 0)) rfl (fun h411 => ?_) (fun h411 => ?_)
      ·have q412 := of_decide_eq_true h411
       refine At.start ?_
       refine At.rd f410 1 [[.ld (.bool ((upG g ls at_ (gI (gL g.mv (at_)) (k))).top)), .ld (.int .i64 ((upG g ls at_ (gI (gL g.mv (at_)) (k))).c0)), .ld (.int .i64 ((upG g ls at_ (gI (gL g.mv (at_)) (k))).c1)), .ld (.int .i64 ((upG g ls at_ (gI (gL g.mv (at_)) (k))).c2)), .ld (.int .i64 ((upG g ls at_ (gI (gL g.mv (at_)) (k))).c3))]] [(81, tupV (upG g ls at_ (gI (gL g.mv (at_)) (k))))] [(w320.cell? ⟨b_178, 0, none⟩ = some (.bool ((upG g ls at_ (gI (gL g.mv (at_)) (k))).top))), (w320.cell? ⟨b_178, 1, none⟩ = some (.int .i64 ((upG g ls at_ (gI (gL g.mv (at_)) (k))).c0))), (w320.cell? ⟨b_178, 2, none⟩ = some (.int .i64 ((upG g ls at_ (gI (gL g.mv (at_)) (k))).c1))), (w320.cell? ⟨b_178, 3, none⟩ = some (.int .i64 ((upG g ls at_ (gI (gL g.mv (at_)) (k))).c2))), (w320.cell? ⟨b_178, 4, none⟩ = some (.int .i64 ((upG g ls at_ (gI (gL g.mv (at_)) (k))).c3)))] (by kernel_rfl) ⟨(bx330.cell (i := 0) rfl), (bx330.cell (i := 1) rfl), (bx330.cell (i := 2) rfl), (bx330.cell (i := 3) rfl), (bx330.cell (i := 4) rfl), trivial⟩ (fun act414 f413 => ?_)
       clear f410
       refine At.store f413 (t := 40) (b := b_23) (off := 0) (v := tupV (upG g ls at_ (gI (gL g.mv (at_)) (k)))) (by kernel_rfl) bx329 (by kernel_rfl) (fun act419 w415 g416 bx417 f418 => ?_)
       clear f413
       replace bx417 : Bx w415 (b_23) (tupC (upG g ls at_ (gI (gL g.mv (at_)) (k)))) 40 := bx417
       have szw415 := g416.size
       have e420 := e324.gr g416 (fun k h => by injection h; omega)
       clear e324
       have r421 := r325.gr g416 (fun k h => by injection h; omega)
       clear r325
       have r422 := r326.gr g416 (fun k h => by injection h; omega)
       clear r326
       have bx423 := bx327.gr g416 (fun h => by injection h; omega)
       clear bx327
       have bx424 := bx328.gr g416 (fun h => by injection h; omega)
       clear bx328
       have bx425 := bx330.gr g416 (fun h => by injection h; omega)
       clear bx330
       clear bx329 g416
       refine At.done rfl ?_
       refine b_n ?_
       refine t_n ?_
       have f426 := f418.sub (r := [(79, .bool (decide ((cmpT (upG g ls at_ (gI (gL g.mv (at_)) (k))) ((bestB (upG g ls at_) (gI g.ow at_) ((gL g.mv at_).take k.toNat)).1) 0 : Int) > 0))), (78, .bool (decide ((cmpT (upG g ls at_ (gI (gL g.mv (at_)) (k))) ((bestB (upG g ls at_) (gI g.ow at_) ((gL g.mv at_).take k.toNat)).1) 0 : Int) > 0))), (77, .int .i64 (cmpT (upG g ls at_ (gI (gL g.mv (at_)) (k))) ((bestB (upG g ls at_) (gI g.ow at_) ((gL g.mv at_).take k.toNat)).1) 0)), (76, .bool true), (75, .bool ((gI g.ow (at_) : Int) == 1)), (74, .int .i64 (gI g.ow (at_))), (73, .pointer (some (ad403.add ((at_ : Int).toNat * 1)))), (72, .int .i64 (at_)), (71, .slice Ag0 g.ow.length cg0), (70, .pointer (some ⟨w.heap.size, 0, none⟩)), (8, .int .i64 (k)), (7, .pointer (some ⟨b_23, 0, none⟩)), (6, .pointer (some ⟨w1.heap.size, 0, none⟩)), (3, .pointer (some ⟨w.heap.size, 0, none⟩)), (1, .slice As ls.length cs), (2, .int .i64 (at_))]) ⟨rfl, rfl, rfl, rfl, rfl, rfl, rfl, rfl, rfl, rfl, rfl, rfl, rfl, rfl, rfl, rfl, trivial⟩
       clear f418
       refine At.start ?_
       refine At.rd f426 3 [[], [.as_ (.int .i64 (k + 1))], []] [(8, .int .i64 (k + 1)), (37, .int .i64 (k + 1)), (36, .int .i64 (k))] [((.int .i64 (IntKind.i64.wrap (k + 1)) : Value) = .int .i64 (k + 1))] (by kernel_rfl) ⟨(w64 (by omega) (by omega)), trivial⟩ (fun act428 f427 => ?_)
       clear f426
       refine At.done rfl ?_
       refine t_n ?_
       have f429 := f427.sub (r := [(8, .int .i64 (k + 1)), (7, .pointer (some ⟨b_23, 0, none⟩)), (6, .pointer (some ⟨w1.heap.size, 0, none⟩)), (3, .pointer (some ⟨w.heap.size, 0, none⟩)), (1, .slice As ls.length cs), (2, .int .i64 (at_))]) ⟨rfl, rfl, rfl, rfl, rfl, rfl, trivial⟩
       exact ⟨_, (by omega), (k + 1), rfl, f429, e420, r421, r422, bx423, bx424, (bx417.as (by first | exact tupC_eq (t := upG g ls at_ (gI (gL g.mv at_) k)) (congrArg Prod.fst (bestB_yes (f := upG g ls at_) (by omega) (by omega) (by first | exact .inr (.inl ⟨by omega, by omega⟩) | exact .inr (.inr ⟨by omega, by omega⟩)))) | exact tupC_eq (congrArg Prod.fst (bestB_no (f := upG g ls at_) (by omega) (by omega) (by omega) (fun _ => by omega) (fun _ => by omega))))), (by omega), (by omega)⟩
      ·have q430 := of_decide_eq_false h411
       refine wp_skip ?_
       refine b_n ?_
       refine t_n ?_
       have f431 := f410.sub (r := [(79, .bool (decide ((cmpT (upG g ls at_ (gI (gL g.mv (at_)) (k))) ((bestB (upG g ls at_) (gI g.ow at_) ((gL g.mv at_).take k.toNat)).1) 0 : Int) > 0))), (78, .bool (decide ((cmpT (upG g ls at_ (gI (gL g.mv (at_)) (k))) ((bestB (upG g ls at_) (gI g.ow at_) ((gL g.mv at_).take k.toNat)).1) 0 : Int) > 0))), (77, .int .i64 (cmpT (upG g ls at_ (gI (gL g.mv (at_)) (k))) ((bestB (upG g ls at_) (gI g.ow at_) ((gL g.mv at_).take k.toNat)).1) 0)), (76, .bool true), (75, .bool ((gI g.ow (at_) : Int) == 1)), (74, .int .i64 (gI g.ow (at_))), (73, .pointer (some (ad403.add ((at_ : Int).toNat * 1)))), (72, .int .i64 (at_)), (71, .slice Ag0 g.ow.length cg0), (70, .pointer (some ⟨w.heap.size, 0, none⟩)), (8, .int .i64 (k)), (7, .pointer (some ⟨b_23, 0, none⟩)), (6, .pointer (some ⟨w1.heap.size, 0, none⟩)), (3, .pointer (some ⟨w.heap.size, 0, none⟩)), (1, .slice As ls.length cs), (2, .int .i64 (at_))]) ⟨rfl, rfl, rfl, rfl, rfl, rfl, rfl, rfl, rfl, rfl, rfl, rfl, rfl, rfl, rfl, rfl, trivial⟩
       clear f410
       refine At.start ?_
       refine At.rd f431 3 [[], [.as_ (.int .i64 (k + 1))], []] [(8, .int .i64 (k + 1)), (37, .int .i64 (k + 1)), (36, .int .i64 (k))] [((.int .i64 (IntKind.i64.wrap (k + 1)) : Value) = .int .i64 (k + 1))] (by kernel_rfl) ⟨(w64 (by omega) (by omega)), trivial⟩ (fun act433 f432 => ?_)
       clear f431
       refine At.done rfl ?_
       refine t_n ?_
       have f434 := f432.sub (r := [(8, .int .i64 (k + 1)), (7, .pointer (some ⟨b_23, 0, none⟩)), (6, .pointer (some ⟨w1.heap.size, 0, none⟩)), (3, .pointer (some ⟨w.heap.size, 0, none⟩)), (1, .slice As ls.length cs), (2, .int .i64 (at_))]) ⟨rfl, rfl, rfl, rfl, rfl, rfl, trivial⟩
       exact ⟨_, (by omega), (k + 1), rfl, f434, e324, r325, r326, bx327, bx328, (bx329.as (by first | exact tupC_eq (t := upG g ls at_ (gI (gL g.mv at_) k)) (congrArg Prod.fst (bestB_yes (f := upG g ls at_) (by omega) (by omega) (by first | exact .inr (.inl ⟨by omega, by omega⟩) | exact .inr (.inr ⟨by omega, by omega⟩)))) | exact tupC_eq (congrArg Prod.fst (bestB_no (f := upG g ls at_) (by omega) (by omega) (by omega) (fun _ => by omega) (fun _ => by omega))))), (by omega), (by omega)⟩
     ·have q435 := ne_of_beq_false h406
      refine At.rd f333 22 [[], [.ld (.slice Ag0 g.ow.length cg0)], [], [.ad ad334], [.ld (.int .i64 (gI g.ow (at_)))], [], [.as_ (.bool false)], [], [], [], [], [], [.ld (.slice Ag0 g.ow.length cg0)], [], [.ad ad403], [.ld (.int .i64 (gI g.ow (at_)))], [], [.as_ (.bool false)], [], [], [], []] [(80, .bool false), (79, .bool false), (78, undef), (77, undef), (76, .bool false), (75, .bool ((gI g.ow (at_) : Int) == 1)), (74, .int .i64 (gI g.ow (at_))), (73, .pointer (some (ad403.add ((at_ : Int).toNat * 1)))), (72, .int .i64 (at_)), (71, .slice Ag0 g.ow.length cg0), (70, .pointer (some ⟨w.heap.size, 0, none⟩)), (69, .bool false), (68, .bool false), (67, undef), (66, undef), (65, .bool false), (64, .bool ((gI g.ow (at_) : Int) == 0)), (63, .int .i64 (gI g.ow (at_))), (62, .pointer (some (ad334.add ((at_ : Int).toNat * 1)))), (61, .int .i64 (at_)), (60, .slice Ag0 g.ow.length cg0), (59, .pointer (some ⟨w.heap.size, 0, none⟩))] [(w320.cell? ⟨w.heap.size, 0, none⟩ = some (.slice Ag0 g.ow.length cg0)), (Ag0 = some ad334), (0 ≤ (at_ : Int)), ((at_ : Int) < (g.ow.length : Nat)), (w320.cell? (ad334.add ((at_ : Int).toNat * 1)) = some (.int .i64 (gI g.ow (at_)))), ((.bool ((gI g.ow (at_) : Int) == 0) : Value) = .bool false), (w320.cell? ⟨w.heap.size, 0, none⟩ = some (.slice Ag0 g.ow.length cg0)), (Ag0 = some ad403), (0 ≤ (at_ : Int)), ((at_ : Int) < (g.ow.length : Nat)), (w320.cell? (ad403.add ((at_ : Int).toNat * 1)) = some (.int .i64 (gI g.ow (at_)))), ((.bool ((gI g.ow (at_) : Int) == 1) : Value) = .bool false)] (by kernel_rfl) ⟨(bx327.cell (i := 0) rfl), hA335, (by omega), (by omega), hc336, (congrArg Value.bool h337), (bx327.cell (i := 0) rfl), hA404, (by omega), (by omega), hc405, (congrArg Value.bool h406), trivial⟩ (fun act437 f436 => ?_)
      clear f333
      refine At.done rfl ?_
      refine t_n ?_
      have f438 := f436.sub (r := [(80, .bool false), (79, .bool false), (76, .bool false), (75, .bool ((gI g.ow (at_) : Int) == 1)), (74, .int .i64 (gI g.ow (at_))), (73, .pointer (some (ad403.add ((at_ : Int).toNat * 1)))), (72, .int .i64 (at_)), (71, .slice Ag0 g.ow.length cg0), (70, .pointer (some ⟨w.heap.size, 0, none⟩)), (9, .pointer (some ⟨b_178, 0, none⟩)), (8, .int .i64 (k)), (7, .pointer (some ⟨b_23, 0, none⟩)), (6, .pointer (some ⟨w1.heap.size, 0, none⟩)), (3, .pointer (some ⟨w.heap.size, 0, none⟩)), (1, .slice As ls.length cs), (2, .int .i64 (at_))]) ⟨rfl, rfl, rfl, rfl, rfl, rfl, rfl, rfl, rfl, rfl, rfl, rfl, rfl, rfl, rfl, rfl, trivial⟩
      clear f436
      refine cond_F f438 rfl ?_
      refine wp_skip ?_
      refine b_n ?_
      refine t_n ?_
      have f439 := f438.sub (r := [(79, .bool false), (76, .bool false), (75, .bool ((gI g.ow (at_) : Int) == 1)), (74, .int .i64 (gI g.ow (at_))), (73, .pointer (some (ad403.add ((at_ : Int).toNat * 1)))), (72, .int .i64 (at_)), (71, .slice Ag0 g.ow.length cg0), (70, .pointer (some ⟨w.heap.size, 0, none⟩)), (8, .int .i64 (k)), (7, .pointer (some ⟨b_23, 0, none⟩)), (6, .pointer (some ⟨w1.heap.size, 0, none⟩)), (3, .pointer (some ⟨w.heap.size, 0, none⟩)), (1, .slice As ls.length cs), (2, .int .i64 (at_))]) ⟨rfl, rfl, rfl, rfl, rfl, rfl, rfl, rfl, rfl, rfl, rfl, rfl, rfl, rfl, trivial⟩
      clear f438
      refine At.start ?_
      refine At.rd f439 3 [[], [.as_ (.int .i64 (k + 1))], []] [(8, .int .i64 (k + 1)), (37, .int .i64 (k + 1)), (36, .int .i64 (k))] [((.int .i64 (IntKind.i64.wrap (k + 1)) : Value) = .int .i64 (k + 1))] (by kernel_rfl) ⟨(w64 (by omega) (by omega)), trivial⟩ (fun act441 f440 => ?_)
      clear f439
      refine At.done rfl ?_
      refine t_n ?_
      have f442 := f440.sub (r := [(8, .int .i64 (k + 1)), (7, .pointer (some ⟨b_23, 0, none⟩)), (6, .pointer (some ⟨w1.heap.size, 0, none⟩)), (3, .pointer (some ⟨w.heap.size, 0, none⟩)), (1, .slice As ls.length cs), (2, .int .i64 (at_))]) ⟨rfl, rfl, rfl, rfl, rfl, rfl, trivial⟩
      exact ⟨_, (by omega), (k + 1), rfl, f442, e324, r325, r326, bx327, bx328, (bx329.as (by first | exact tupC_eq (t := upG g ls at_ (gI (gL g.mv at_) k)) (congrArg Prod.fst (bestB_yes (f := upG g ls at_) (by omega) (by omega) (by first | exact .inr (.inl ⟨by omega, by omega⟩) | exact .inr (.inr ⟨by omega, by omega⟩)))) | exact tupC_eq (congrArg Prod.fst (bestB_no (f := upG g ls at_) (by omega) (by omega) (by omega) (fun _ => by omega) (fun _ => by omega))))), (by omega), (by omega)⟩
  ·have q443 := of_decide_eq_false h175
   refine wp_exit ?_
   refine t_e ?_
   refine t_e ?_
   refine b_e ?_
   refine t_n ?_
   have f444 := f174.sub (r := [(7, .pointer (some ⟨b_23, 0, none⟩)), (6, .pointer (some ⟨w1.heap.size, 0, none⟩))]) ⟨rfl, rfl, trivial⟩
   clear f174
   refine wp_seq ?_
   refine At.start ?_
   refine At.rd f444 1 [[.ld (.bool ((bestB (upG g ls at_) (gI g.ow at_) ((gL g.mv at_).take k.toNat)).1.top)), .ld (.int .i64 ((bestB (upG g ls at_) (gI g.ow at_) ((gL g.mv at_).take k.toNat)).1.c0)), .ld (.int .i64 ((bestB (upG g ls at_) (gI g.ow at_) ((gL g.mv at_).take k.toNat)).1.c1)), .ld (.int .i64 ((bestB (upG g ls at_) (gI g.ow at_) ((gL g.mv at_).take k.toNat)).1.c2)), .ld (.int .i64 ((bestB (upG g ls at_) (gI g.ow at_) ((gL g.mv at_).take k.toNat)).1.c3))]] [(82, tupV ((bestB (upG g ls at_) (gI g.ow at_) ((gL g.mv at_).take k.toNat)).1))] [(w152.cell? ⟨b_23, 0, none⟩ = some (.bool ((bestB (upG g ls at_) (gI g.ow at_) ((gL g.mv at_).take k.toNat)).1.top))), (w152.cell? ⟨b_23, 1, none⟩ = some (.int .i64 ((bestB (upG g ls at_) (gI g.ow at_) ((gL g.mv at_).take k.toNat)).1.c0))), (w152.cell? ⟨b_23, 2, none⟩ = some (.int .i64 ((bestB (upG g ls at_) (gI g.ow at_) ((gL g.mv at_).take k.toNat)).1.c1))), (w152.cell? ⟨b_23, 3, none⟩ = some (.int .i64 ((bestB (upG g ls at_) (gI g.ow at_) ((gL g.mv at_).take k.toNat)).1.c2))), (w152.cell? ⟨b_23, 4, none⟩ = some (.int .i64 ((bestB (upG g ls at_) (gI g.ow at_) ((gL g.mv at_).take k.toNat)).1.c3)))] (by kernel_rfl) ⟨(bx160.cell (i := 0) rfl), (bx160.cell (i := 1) rfl), (bx160.cell (i := 2) rfl), (bx160.cell (i := 3) rfl), (bx160.cell (i := 4) rfl), trivial⟩ (fun act446 f445 => ?_)
   clear f444
   refine At.store f445 (t := 40) (b := w1.heap.size) (off := 0) (v := tupV ((bestB (upG g ls at_) (gI g.ow at_) ((gL g.mv at_).take k.toNat)).1)) (by kernel_rfl) bx159 (by kernel_rfl) (fun act451 w447 g448 bx449 f450 => ?_)
   clear f445
   replace bx449 : Bx w447 (w1.heap.size) (tupC ((bestB (upG g ls at_) (gI g.ow at_) ((gL g.mv at_).take k.toNat)).1)) 40 := bx449
   have szw447 := g448.size
   have e452 := e153.gr g448 (fun k h => by injection h; omega)
   clear e153
   have r453 := r156.gr g448 (fun k h => by injection h; omega)
   clear r156
   have r454 := r157.gr g448 (fun k h => by injection h; omega)
   clear r157
   have bx455 := bx158.gr g448 (fun h => by injection h; omega)
   clear bx158
   have bx456 := bx160.gr g448 (fun h => by injection h; omega)
   clear bx160
   have r457 := r169.gr g448 (fun k h => by injection h; omega)
   clear r169
   clear bx159 g448
   refine At.done rfl ?_
   refine t_n ?_
   have f458 := f450.sub (r := [(6, .pointer (some ⟨w1.heap.size, 0, none⟩))]) ⟨rfl, trivial⟩
   clear f450
   refine wp_ret ?_
   refine ret_ f458 [[.bool ((bestB (upG g ls at_) (gI g.ow at_) ((gL g.mv at_).take k.toNat)).1.top), .int .i64 ((bestB (upG g ls at_) (gI g.ow at_) ((gL g.mv at_).take k.toNat)).1.c0), .int .i64 ((bestB (upG g ls at_) (gI g.ow at_) ((gL g.mv at_).take k.toNat)).1.c1), .int .i64 ((bestB (upG g ls at_) (gI g.ow at_) ((gL g.mv at_).take k.toNat)).1.c2), .int .i64 ((bestB (upG g ls at_) (gI g.ow at_) ((gL g.mv at_).take k.toNat)).1.c3)]] [tupV ((bestB (upG g ls at_) (gI g.ow at_) ((gL g.mv at_).take k.toNat)).1)] [(w447.cell? ⟨w1.heap.size, 0, none⟩ = some (.bool ((bestB (upG g ls at_) (gI g.ow at_) ((gL g.mv at_).take k.toNat)).1.top))), (w447.cell? ⟨w1.heap.size, 1, none⟩ = some (.int .i64 ((bestB (upG g ls at_) (gI g.ow at_) ((gL g.mv at_).take k.toNat)).1.c0))), (w447.cell? ⟨w1.heap.size, 2, none⟩ = some (.int .i64 ((bestB (upG g ls at_) (gI g.ow at_) ((gL g.mv at_).take k.toNat)).1.c1))), (w447.cell? ⟨w1.heap.size, 3, none⟩ = some (.int .i64 ((bestB (upG g ls at_) (gI g.ow at_) ((gL g.mv at_).take k.toNat)).1.c2))), (w447.cell? ⟨w1.heap.size, 4, none⟩ = some (.int .i64 ((bestB (upG g ls at_) (gI g.ow at_) ((gL g.mv at_).take k.toNat)).1.c3)))] (by kernel_rfl) ⟨(bx449.cell (i := 0) rfl), (bx449.cell (i := 1) rfl), (bx449.cell (i := 2) rfl), (bx449.cell (i := 3) rfl), (bx449.cell (i := 4) rfl), trivial⟩ ?_
   exact ⟨tup_ret (congrArg Prod.fst (bestB_all (f := upG g ls at_) (own := gI g.ow at_) (row := gL g.mv at_) (k := k) (by omega))), e452⟩

end Go.Proofs.Ytklbpajmoklheaa
