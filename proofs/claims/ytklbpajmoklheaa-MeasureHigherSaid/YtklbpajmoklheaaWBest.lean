/-
  A walk of a Go function, printed by a program of this repo. Conditions: what the theorems name.
-/
import Derived.Test.YtklbpajmoklheaaPureBest
import Derived.Test.YtklbpajmoklheaaWUp
import Derived.Test.YtklbpajmoklheaaWRight2
set_option linter.unusedVariables false
set_option linter.unusedSimpArgs false
namespace Go.Proofs.Ytklbpajmoklheaa
open Go Go.RowKit

set_option maxHeartbeats 4000000 in
theorem rightM_any {Ag0 Ag1 Ag2 : Option Addr} {cg0 cg1 cg2 : Nat} {g : GameL} {As : Option Addr} {cs : Nat} {ls : List Tup} {w : World} (rg : RdG w 0 w.heap.size Ag0 Ag1 Ag2 cg0 cg1 cg2 g) (rs : RdR w 0 w.heap.size As ls) :
    Calls Try.prog 45 #[.agg #[.slice Ag0 g.ow.length cg0, .slice Ag1 g.pr.length cg1, .slice Ag2 g.mv.length cg2], .slice As ls.length cs] w fun e w' => e = .returned (.bool (isR g && decide (ls.length = g.ow.length))) ∧ Ext w w' := by
 have hlg0 := rg.ow.len
 have hlg1 := rg.pr.len
 have hlg2 := rg.mv.len
 have hkg0 := rg.k0
 have hkg1 := rg.k1
 have hkg2 := rg.k2
 have hls := rs.len
 simp only [Enc.bytes] at hls
 refine enter_ (args := [.agg #[.slice Ag0 g.ow.length cg0, .slice Ag1 g.pr.length cg1, .slice Ag2 g.mv.length cg2], .slice As ls.length cs]) Try.func45 rfl Try.ntmps45 (Nat.le_of_ble_eq_true rfl) (fun act0 f0 => ?_)
 have e0 := Ext.refl w
 refine wp_seq ?_
 refine At.start ?_
 refine At.seq f0 1 [[]] [(2, .pointer (some ⟨w.heap.size, 0, none⟩))] (w.alloc (.cells #[.slice Ag0 g.ow.length cg0, .slice Ag1 g.pr.length cg1, .slice Ag2 g.mv.length cg2] 25 (0, 0))) [] (by kernel_rfl) trivial (fun act4 w1 hw2 f3 => ?_)
 clear f0
 have g5 := gr_alloc hw2
 have szw1 := g5.size
 have e7 := e0.gr g5 no_row
 clear e0
 have r8 := rg.gr g5 (fun _ h => by cases h)
 clear rg
 have r9 := rs.gr g5 (fun _ h => by cases h)
 clear rs
 have bx10 : Bx w1 (w.heap.size) [.slice Ag0 g.ow.length cg0, .slice Ag1 g.pr.length cg1, .slice Ag2 g.mv.length cg2] 25 := Bx.new hw2
 have := bx10.lt
 clear g5 hw2
 refine At.rd f3 1 [[]] [(4, .bool false)] [] (by kernel_rfl) trivial (fun act12 f11 => ?_)
 clear f3
 refine At.done rfl ?_
 refine t_n ?_
 have f13 := f11.sub (r := [(2, .pointer (some ⟨w.heap.size, 0, none⟩)), (1, .slice As ls.length cs)]) ⟨rfl, rfl, trivial⟩
 clear f11
 refine wp_seq ?_
 refine At.start ?_
 refine At.rd f13 1 [[.ld (.slice Ag0 g.ow.length cg0), .ld (.slice Ag1 g.pr.length cg1), .ld (.slice Ag2 g.mv.length cg2)]] [(8, .agg #[.slice Ag0 g.ow.length cg0, .slice Ag1 g.pr.length cg1, .slice Ag2 g.mv.length cg2])] [(w1.cell? ⟨w.heap.size, 0, none⟩ = some (.slice Ag0 g.ow.length cg0)), (w1.cell? ⟨w.heap.size, 1, none⟩ = some (.slice Ag1 g.pr.length cg1)), (w1.cell? ⟨w.heap.size, 2, none⟩ = some (.slice Ag2 g.mv.length cg2))] (by kernel_rfl) ⟨(bx10.cell (i := 0) rfl), (bx10.cell (i := 1) rfl), (bx10.cell (i := 2) rfl), trivial⟩ (fun act15 f14 => ?_)
 clear f13
 refine At.call f14 36 #[.agg #[.slice Ag0 g.ow.length cg0, .slice Ag1 g.pr.length cg1, .slice Ag2 g.mv.length cg2]] (some 9) (by kernel_rfl) (right_any (r8.wide (Nat.zero_le _) (by omega))) ?_
 rintro e_ w16 ⟨rfl, he⟩
 refine ⟨_, rfl, _, rfl, fun act17 f18 => ?_⟩
 clear f14
 have g19 := gr_ext he
 have szw16 := g19.size
 have e20 := e7.gr g19 no_row
 clear e7
 have r21 := r8.gr g19 (fun _ h => by cases h)
 clear r8
 have r22 := r9.gr g19 (fun _ h => by cases h)
 clear r9
 have bx23 := bx10.gr g19 (by simp)
 clear bx10
 clear g19 he
 refine At.rd f18 5 [[], [], [], [], []] [(6, .int .i64 ((rightP g).2)), (5, .int .i64 ((rightP g).1)), (11, .int .i64 ((rightP g).2)), (10, .int .i64 ((rightP g).1)), (7, .tuple #[.int .i64 ((rightP g).1), .int .i64 ((rightP g).2)])] [] (by kernel_rfl) trivial (fun act25 f24 => ?_)
 clear f18
 refine At.done rfl ?_
 refine t_n ?_
 have f26 := f24.sub (r := [(6, .int .i64 ((rightP g).2)), (2, .pointer (some ⟨w.heap.size, 0, none⟩)), (1, .slice As ls.length cs)]) ⟨rfl, rfl, rfl, trivial⟩
 clear f24
 refine wp_seq ?_
 refine At.start ?_
 rcases Bool.eq_false_or_eq_true (((rightP g).2 : Int) == 0) with h27 | h27
 ·have q28 := eq_of_beq h27
  refine At.rd f26 11 [[], [], [.as_ (.bool true)], [], [], [], [.ld (.slice Ag0 g.ow.length cg0)], [], [], [], []] [(4, .bool ((((ls.length : Nat) : Int) : Int) == ((g.ow.length : Nat) : Int))), (21, .bool ((((ls.length : Nat) : Int) : Int) == ((g.ow.length : Nat) : Int))), (20, .bool ((((ls.length : Nat) : Int) : Int) == ((g.ow.length : Nat) : Int))), (19, .int .i64 (((g.ow.length : Nat) : Int))), (18, .slice Ag0 g.ow.length cg0), (17, .pointer (some ⟨w.heap.size, 0, none⟩)), (16, .int .i64 (((ls.length : Nat) : Int))), (15, .slice As ls.length cs), (14, .bool true), (13, .bool (((rightP g).2 : Int) == 0)), (12, .int .i64 ((rightP g).2))] [((.bool (((rightP g).2 : Int) == 0) : Value) = .bool true), (w16.cell? ⟨w.heap.size, 0, none⟩ = some (.slice Ag0 g.ow.length cg0))] (by kernel_rfl) ⟨(congrArg Value.bool h27), (bx23.cell (i := 0) rfl), trivial⟩ (fun act30 f29 => ?_)
  clear f26
  refine At.done rfl ?_
  refine t_n ?_
  have f31 := f29.sub (r := [(4, .bool ((((ls.length : Nat) : Int) : Int) == ((g.ow.length : Nat) : Int)))]) ⟨rfl, trivial⟩
  clear f29
  refine wp_ret ?_
  refine ret_ f31 [] [.bool ((((ls.length : Nat) : Int) : Int) == ((g.ow.length : Nat) : Int))] [] (by kernel_rfl) trivial ?_
  exact ⟨ret_eq (congrArg Value.bool (by first | exact right_t (by omega) | exact right_f (by assumption))), e20⟩
 ·have q32 := ne_of_beq_false h27
  refine At.rd f26 11 [[], [], [.as_ (.bool false)], [], [], [], [], [], [], [], []] [(4, .bool false), (21, .bool false), (20, undef), (19, undef), (18, undef), (17, undef), (16, undef), (15, undef), (14, .bool false), (13, .bool (((rightP g).2 : Int) == 0)), (12, .int .i64 ((rightP g).2))] [((.bool (((rightP g).2 : Int) == 0) : Value) = .bool false)] (by kernel_rfl) ⟨(congrArg Value.bool h27), trivial⟩ (fun act34 f33 => ?_)
  clear f26
  refine At.done rfl ?_
  refine t_n ?_
  have f35 := f33.sub (r := [(4, .bool false)]) ⟨rfl, trivial⟩
  clear f33
  refine wp_ret ?_
  refine ret_ f35 [] [.bool false] [] (by kernel_rfl) trivial ?_
  exact ⟨ret_eq (congrArg Value.bool (by first | exact right_t (by omega) | exact right_f (by assumption))), e20⟩

set_option maxHeartbeats 4000000 in
theorem best_any {Ag0 Ag1 Ag2 : Option Addr} {cg0 cg1 cg2 : Nat} {g : GameL} {As : Option Addr} {cs : Nat} {ls : List Tup} {at_ : Int} {w : World} (rg : RdG w 0 w.heap.size Ag0 Ag1 Ag2 cg0 cg1 cg2 g) (rs : RdR w 0 w.heap.size As ls) (hG : RightG g) (hl : ls.length = g.ow.length) (hok : okL ls) (ha0 : 0 ≤ at_) (ha1 : at_ < (ls.length : Int)) :
    Calls Try.prog 47 #[.agg #[.slice Ag0 g.ow.length cg0, .slice Ag1 g.pr.length cg1, .slice Ag2 g.mv.length cg2], .agg #[.int .i64 (cnt g.pr 1), .int .i64 (cnt g.pr 3), .int .i64 (cnt g.pr 5), .int .i64 (cnt g.pr 7)], .slice As ls.length cs, .int .i64 (at_)] w fun e w' => e = .returned (.tuple #[.agg #[.bool (bestB (upG g ls at_) (gI g.ow at_) (gL g.mv at_)).1.top, .int .i64 (bestB (upG g ls at_) (gI g.ow at_) (gL g.mv at_)).1.c0, .int .i64 (bestB (upG g ls at_) (gI g.ow at_) (gL g.mv at_)).1.c1, .int .i64 (bestB (upG g ls at_) (gI g.ow at_) (gL g.mv at_)).1.c2, .int .i64 (bestB (upG g ls at_) (gI g.ow at_) (gL g.mv at_)).1.c3], .int .i64 (bestB (upG g ls at_) (gI g.ow at_) (gL g.mv at_)).2]) ∧ Ext w w' := by
 have hlg0 := rg.ow.len
 have hlg1 := rg.pr.len
 have hlg2 := rg.mv.len
 have hkg0 := rg.k0
 have hkg1 := rg.k1
 have hkg2 := rg.k2
 have hls := rs.len
 simp only [Enc.bytes] at hls
 have hpl := hG.pl
 have hml := hG.ml
 have hn1 := hG.n1
 have hmv := hG.mv at_ ha0 (by omega)
 have hc1 := cnt_le g.pr 1
 have hc3 := cnt_le g.pr 3
 have hc5 := cnt_le g.pr 5
 have hc7 := cnt_le g.pr 7
 refine enter_ (args := [.agg #[.slice Ag0 g.ow.length cg0, .slice Ag1 g.pr.length cg1, .slice Ag2 g.mv.length cg2], .agg #[.int .i64 (cnt g.pr 1), .int .i64 (cnt g.pr 3), .int .i64 (cnt g.pr 5), .int .i64 (cnt g.pr 7)], .slice As ls.length cs, .int .i64 (at_)]) Try.func47 rfl Try.ntmps47 (Nat.le_of_ble_eq_true rfl) (fun act0 f0 => ?_)
 have e0 := Ext.refl w
 refine wp_seq ?_
 refine At.start ?_
 refine At.seq f0 1 [[]] [(4, .pointer (some ⟨w.heap.size, 0, none⟩))] (w.alloc (.cells #[.slice Ag0 g.ow.length cg0, .slice Ag1 g.pr.length cg1, .slice Ag2 g.mv.length cg2] 25 (0, 0))) [] (by kernel_rfl) trivial (fun act4 w1 hw2 f3 => ?_)
 clear f0
 have g5 := gr_alloc hw2
 have szw1 := g5.size
 have e7 := e0.gr g5 no_row
 clear e0
 have r8 := rg.gr g5 (fun _ h => by cases h)
 clear rg
 have r9 := rs.gr g5 (fun _ h => by cases h)
 clear rs
 have bx10 : Bx w1 (w.heap.size) [.slice Ag0 g.ow.length cg0, .slice Ag1 g.pr.length cg1, .slice Ag2 g.mv.length cg2] 25 := Bx.new hw2
 have := bx10.lt
 clear g5 hw2
 refine At.seq f3 1 [[]] [(5, .pointer (some ⟨w1.heap.size, 0, none⟩))] (w1.alloc (.cells #[.int .i64 (cnt g.pr 1), .int .i64 (cnt g.pr 3), .int .i64 (cnt g.pr 5), .int .i64 (cnt g.pr 7)] 38 (0, 0))) [] (by kernel_rfl) trivial (fun act14 w11 hw12 f13 => ?_)
 clear f3
 have g15 := gr_alloc hw12
 have szw11 := g15.size
 have e17 := e7.gr g15 no_row
 clear e7
 have r18 := r8.gr g15 (fun _ h => by cases h)
 clear r8
 have r19 := r9.gr g15 (fun _ h => by cases h)
 clear r9
 have bx20 := bx10.gr g15 (by simp)
 clear bx10
 have bx21 : Bx w11 (w1.heap.size) [.int .i64 (cnt g.pr 1), .int .i64 (cnt g.pr 3), .int .i64 (cnt g.pr 5), .int .i64 (cnt g.pr 7)] 38 := Bx.new hw12
 have := bx21.lt
 clear g15 hw12
 refine At.seq f13 1 [[]] [(8, .pointer (some ⟨w11.heap.size, 0, none⟩))] (w11.alloc (.cells #[.bool false, .int .i64 (0), .int .i64 (0), .int .i64 (0), .int .i64 (0)] 41 (0, 0))) [] (by kernel_rfl) trivial (fun act25 w22 hw23 f24 => ?_)
 clear f13
 have g26 := gr_alloc hw23
 have szw22 := g26.size
 have e28 := e17.gr g26 no_row
 clear e17
 have r29 := r18.gr g26 (fun _ h => by cases h)
 clear r18
 have r30 := r19.gr g26 (fun _ h => by cases h)
 clear r19
 have bx31 := bx20.gr g26 (by simp)
 clear bx20
 have bx32 := bx21.gr g26 (by simp)
 clear bx21
 have bx33 : Bx w22 (w11.heap.size) [.bool false, .int .i64 (0), .int .i64 (0), .int .i64 (0), .int .i64 (0)] 41 := Bx.new hw23
 have := bx33.lt
 clear g26 hw23
 refine At.rd f24 1 [[]] [(9, .int .i64 (0))] [] (by kernel_rfl) trivial (fun act35 f34 => ?_)
 clear f24
 refine At.done rfl ?_
 refine t_n ?_
 have f36 := f34.sub (r := [(9, .int .i64 (0)), (8, .pointer (some ⟨w11.heap.size, 0, none⟩)), (5, .pointer (some ⟨w1.heap.size, 0, none⟩)), (4, .pointer (some ⟨w.heap.size, 0, none⟩)), (2, .slice As ls.length cs), (3, .int .i64 (at_))]) ⟨rfl, rfl, rfl, rfl, rfl, rfl, trivial⟩
 clear f34
 refine wp_seq ?_
 refine At.start ?_
 refine At.seq f36 1 [[]] [(10, .pointer (some ⟨w22.heap.size, 0, none⟩))] (w22.alloc (.cells #[.bool false, .int .i64 (0), .int .i64 (0), .int .i64 (0), .int .i64 (0)] 41 (0, 0))) [] (by kernel_rfl) trivial (fun act40 w37 hw38 f39 => ?_)
 clear f36
 have g41 := gr_alloc hw38
 have szw37 := g41.size
 have e43 := e28.gr g41 no_row
 clear e28
 have r44 := r29.gr g41 (fun _ h => by cases h)
 clear r29
 have r45 := r30.gr g41 (fun _ h => by cases h)
 clear r30
 have bx46 := bx31.gr g41 (by simp)
 clear bx31
 have bx47 := bx32.gr g41 (by simp)
 clear bx32
 have bx48 := bx33.gr g41 (by simp)
 clear bx33
 have bx49 : Bx w37 (w22.heap.size) [.bool false, .int .i64 (0), .int .i64 (0), .int .i64 (0), .int .i64 (0)] 41 := Bx.new hw38
 have := bx49.lt
 clear g41 hw38
 refine At.done rfl ?_
 refine t_n ?_
 refine wp_seq ?_
 refine At.start ?_
 refine At.rd f39 1 [[]] [(11, .int .i64 (-1))] [] (by kernel_rfl) trivial (fun act51 f50 => ?_)
 clear f39
 refine At.done rfl ?_
 refine t_n ?_
 refine wp_seq ?_
 refine wp_seq ?_
 refine At.start ?_
 obtain ⟨ad52, R55, C56, hA53, _, _, hc54, hC57, r58⟩ := RdII.get r44.mv (at_) (by omega) (by omega)
 have hl59 := r58.len
 refine At.rd f50 7 [[], [.ld (.slice Ag2 g.mv.length cg2)], [], [.ad ad52], [.ld (.slice R55 ((gL g.mv (at_)).length) C56)], [], []] [(22, .int .i64 (0)), (21, .int .i64 ((((gL g.mv (at_)).length : Nat) : Int))), (20, .slice R55 ((gL g.mv (at_)).length) C56), (19, .pointer (some (ad52.add ((at_ : Int).toNat * 1)))), (18, .int .i64 (at_)), (17, .slice Ag2 g.mv.length cg2), (16, .pointer (some ⟨w.heap.size, 2, none⟩))] [(w37.cell? ⟨w.heap.size, 2, none⟩ = some (.slice Ag2 g.mv.length cg2)), (Ag2 = some ad52), (0 ≤ (at_ : Int)), ((at_ : Int) < (g.mv.length : Nat)), (w37.cell? (ad52.add ((at_ : Int).toNat * 1)) = some (.slice R55 ((gL g.mv (at_)).length) C56))] (by kernel_rfl) ⟨(bx46.cell (i := 2) rfl), hA53, (by omega), (by omega), hc54, trivial⟩ (fun act62 f61 => ?_)
 clear f50
 refine At.done rfl ?_
 refine t_n ?_
 have f63 := f61.sub (r := [(22, .int .i64 (0)), (21, .int .i64 ((((gL g.mv (at_)).length : Nat) : Int))), (20, .slice R55 ((gL g.mv (at_)).length) C56), (11, .int .i64 (-1)), (10, .pointer (some ⟨w22.heap.size, 0, none⟩)), (9, .int .i64 (0)), (8, .pointer (some ⟨w11.heap.size, 0, none⟩)), (5, .pointer (some ⟨w1.heap.size, 0, none⟩)), (4, .pointer (some ⟨w.heap.size, 0, none⟩)), (2, .slice As ls.length cs), (3, .int .i64 (at_))]) ⟨rfl, rfl, rfl, rfl, rfl, rfl, rfl, rfl, rfl, rfl, rfl, trivial⟩
 clear f61
 refine wp_block ?_
 have f65 := f63.as 11 (.int .i64 (-1)) (.int .i64 ((bestB (upG g ls at_) (gI g.ow at_) ((gL g.mv at_).take (0 : Int).toNat)).2)) rfl (congrArg (Value.int .i64) (by rw [bestB_zero]))
 clear f63
 have f64 := f65.sub (r := [(22, .int .i64 (0)), (11, .int .i64 ((bestB (upG g ls at_) (gI g.ow at_) ((gL g.mv at_).take (0 : Int).toNat)).2)), (21, .int .i64 ((((gL g.mv (at_)).length : Nat) : Int))), (20, .slice R55 ((gL g.mv (at_)).length) C56), (10, .pointer (some ⟨w22.heap.size, 0, none⟩)), (9, .int .i64 (0)), (8, .pointer (some ⟨w11.heap.size, 0, none⟩)), (5, .pointer (some ⟨w1.heap.size, 0, none⟩)), (4, .pointer (some ⟨w.heap.size, 0, none⟩)), (2, .slice As ls.length cs), (3, .int .i64 (at_))]) ⟨rfl, rfl, rfl, rfl, rfl, rfl, rfl, rfl, rfl, rfl, rfl, trivial⟩
 refine loop_g (fun (m_ : Nat) a_ w_ => ∃ (k : Int), m_ = (((gL g.mv at_).length : Int) - k).toNat ∧ (Frm 59 a_ [(22, .int .i64 (k)), (11, .int .i64 ((bestB (upG g ls at_) (gI g.ow at_) ((gL g.mv at_).take k.toNat)).2)), (21, .int .i64 ((((gL g.mv (at_)).length : Nat) : Int))), (20, .slice R55 ((gL g.mv (at_)).length) C56), (10, .pointer (some ⟨w22.heap.size, 0, none⟩)), (9, .int .i64 (0)), (8, .pointer (some ⟨w11.heap.size, 0, none⟩)), (5, .pointer (some ⟨w1.heap.size, 0, none⟩)), (4, .pointer (some ⟨w.heap.size, 0, none⟩)), (2, .slice As ls.length cs), (3, .int .i64 (at_))]) ∧ (Ext w w_) ∧ (RdG w_ 0 w.heap.size Ag0 Ag1 Ag2 cg0 cg1 cg2 g) ∧ (RdR w_ 0 w.heap.size As (ls : List Tup)) ∧ (Bx w_ (w.heap.size) [.slice Ag0 g.ow.length cg0, .slice Ag1 g.pr.length cg1, .slice Ag2 g.mv.length cg2] 25) ∧ (Bx w_ (w1.heap.size) [.int .i64 (cnt g.pr 1), .int .i64 (cnt g.pr 3), .int .i64 (cnt g.pr 5), .int .i64 (cnt g.pr 7)] 38) ∧ (Bx w_ (w11.heap.size) [.bool false, .int .i64 (0), .int .i64 (0), .int .i64 (0), .int .i64 (0)] 41) ∧ (Bx w_ (w22.heap.size) (tupC ((bestB (upG g ls at_) (gI g.ow at_) ((gL g.mv at_).take k.toNat)).1)) 41) ∧ (RdI w_ 0 w.heap.size R55 (gL g.mv (at_))) ∧ (0 ≤ k) ∧ (k ≤ ((gL g.mv at_).length : Int))) _ ⟨0, rfl, f64, e43, r44, r45, bx46, bx47, bx48, (bx49.as (tupC_eq (t := tup0) (by rw [bestB_zero]))), r58, (by omega), (Int.natCast_nonneg _)⟩ ?_
 clear f64 f65
 clear r44
 clear r45
 clear bx46
 clear bx47
 clear bx48
 clear bx49
 clear r58
 clear e43
 intro m_ act66 w67 ⟨k, hm69, f70, e68, r71, r72, bx73, bx74, bx75, bx76, r77, i78, i79⟩
 have szw67 := e68.size
 have := bx73.lt
 have := bx74.lt
 have := bx75.lt
 have := bx76.lt
 refine wp_seq ?_
 refine At.start ?_
 refine At.rd f70 1 [[]] [(23, .bool (decide ((k : Int) < (((gL g.mv (at_)).length : Nat) : Int))))] [] (by kernel_rfl) trivial (fun act81 f80 => ?_)
 clear f70
 refine At.done rfl ?_
 refine t_n ?_
 refine wp_seq ?_
 refine cond_S f80 (t := decide ((k : Int) < (((gL g.mv (at_)).length : Nat) : Int))) rfl (fun h82 => ?_) (fun h82 => ?_)
 ·have q83 := of_decide_eq_true h82
  refine wp_skip ?_
  refine t_n ?_
  have f84 := f80.sub (r := [(22, .int .i64 (k)), (11, .int .i64 ((bestB (upG g ls at_) (gI g.ow at_) ((gL g.mv at_).take k.toNat)).2)), (21, .int .i64 ((((gL g.mv (at_)).length : Nat) : Int))), (20, .slice R55 ((gL g.mv (at_)).length) C56), (10, .pointer (some ⟨w22.heap.size, 0, none⟩)), (9, .int .i64 (0)), (8, .pointer (some ⟨w11.heap.size, 0, none⟩)), (5, .pointer (some ⟨w1.heap.size, 0, none⟩)), (4, .pointer (some ⟨w.heap.size, 0, none⟩)), (2, .slice As ls.length cs), (3, .int .i64 (at_))]) ⟨rfl, rfl, rfl, rfl, rfl, rfl, rfl, rfl, rfl, rfl, rfl, trivial⟩
  clear f80
  refine wp_seq ?_
  refine wp_block ?_
  refine wp_seq ?_
  refine At.start ?_
  obtain ⟨ad85, hA86, _, _, hc87⟩ := RdI.get r77 (k) (by omega) (by omega)
  refine At.rd f84 3 [[.ad ad85], [.ld (.int .i64 (gI (gL g.mv (at_)) (k)))], []] [(13, .int .i64 (gI (gL g.mv (at_)) (k))), (25, .int .i64 (gI (gL g.mv (at_)) (k))), (24, .pointer (some (ad85.add ((k : Int).toNat * 1))))] [(R55 = some ad85), (0 ≤ (k : Int)), ((k : Int) < ((gL g.mv (at_)).length : Nat)), (w67.cell? (ad85.add ((k : Int).toNat * 1)) = some (.int .i64 (gI (gL g.mv (at_)) (k))))] (by kernel_rfl) ⟨hA86, (by omega), (by omega), hc87, trivial⟩ (fun act89 f88 => ?_)
  clear f84
  refine At.done rfl ?_
  refine t_n ?_
  have f90 := f88.sub (r := [(13, .int .i64 (gI (gL g.mv (at_)) (k))), (22, .int .i64 (k)), (11, .int .i64 ((bestB (upG g ls at_) (gI g.ow at_) ((gL g.mv at_).take k.toNat)).2)), (21, .int .i64 ((((gL g.mv (at_)).length : Nat) : Int))), (20, .slice R55 ((gL g.mv (at_)).length) C56), (10, .pointer (some ⟨w22.heap.size, 0, none⟩)), (9, .int .i64 (0)), (8, .pointer (some ⟨w11.heap.size, 0, none⟩)), (5, .pointer (some ⟨w1.heap.size, 0, none⟩)), (4, .pointer (some ⟨w.heap.size, 0, none⟩)), (2, .slice As ls.length cs), (3, .int .i64 (at_))]) ⟨rfl, rfl, rfl, rfl, rfl, rfl, rfl, rfl, rfl, rfl, rfl, rfl, trivial⟩
  clear f88
  refine wp_seq (cut (fun a_ w_ => ∃ (b_91 : Nat), (Frm 59 a_ [(14, .pointer (some ⟨b_91, 0, none⟩)), (13, .int .i64 (gI (gL g.mv (at_)) (k))), (22, .int .i64 (k)), (11, .int .i64 ((bestB (upG g ls at_) (gI g.ow at_) ((gL g.mv at_).take k.toNat)).2)), (21, .int .i64 ((((gL g.mv (at_)).length : Nat) : Int))), (20, .slice R55 ((gL g.mv (at_)).length) C56), (10, .pointer (some ⟨w22.heap.size, 0, none⟩)), (9, .int .i64 (0)), (8, .pointer (some ⟨w11.heap.size, 0, none⟩)), (5, .pointer (some ⟨w1.heap.size, 0, none⟩)), (4, .pointer (some ⟨w.heap.size, 0, none⟩)), (2, .slice As ls.length cs), (3, .int .i64 (at_))]) ∧ (Ext w w_) ∧ (RdG w_ 0 w.heap.size Ag0 Ag1 Ag2 cg0 cg1 cg2 g) ∧ (RdR w_ 0 w.heap.size As (ls : List Tup)) ∧ (Bx w_ (w.heap.size) [.slice Ag0 g.ow.length cg0, .slice Ag1 g.pr.length cg1, .slice Ag2 g.mv.length cg2] 25) ∧ (Bx w_ (w1.heap.size) [.int .i64 (cnt g.pr 1), .int .i64 (cnt g.pr 3), .int .i64 (cnt g.pr 5), .int .i64 (cnt g.pr 7)] 38) ∧ (Bx w_ (w11.heap.size) [.bool false, .int .i64 (0), .int .i64 (0), .int .i64 (0), .int .i64 (0)] 41) ∧ (Bx w_ (w22.heap.size) (tupC ((bestB (upG g ls at_) (gI g.ow at_) ((gL g.mv at_).take k.toNat)).1)) 41) ∧ (RdI w_ 0 w.heap.size R55 (gL g.mv (at_))) ∧ (Bx w_ (b_91) (tupC (upG g ls at_ (gI (gL g.mv (at_)) (k)))) 41) ∧ (w67.heap.size ≤ b_91) ∧ (w67.heap.size ≤ w_.heap.size)) ?_ ?_)
  ·have hmk := hmv k (by omega) (by omega)
   obtain ⟨ad92, hA93, _, _, hc94⟩ := RdI.get r71.pr (at_) (by omega) (by omega)
   obtain ⟨ad95, hA96, hb99, hc98, hc97⟩ := r72.get (gI (gL g.mv (at_)) (k)) (by omega) (by omega) (sz := 5) rfl
   obtain ⟨Cs100, hCs101⟩ : ∃ c : List (Addr × Value), c = [(⟨w1.heap.size, 0, none⟩, (.int .i64 (cnt g.pr 1))), (⟨w1.heap.size, 1, none⟩, (.int .i64 (cnt g.pr 3))), (⟨w1.heap.size, 2, none⟩, (.int .i64 (cnt g.pr 5))), (⟨w1.heap.size, 3, none⟩, (.int .i64 (cnt g.pr 7))), (⟨w.heap.size, 1, none⟩, (.slice Ag1 g.pr.length cg1)), ((ad92.add ((at_ : Int).toNat * 1)), (.int .i64 (gI g.pr (at_)))), ((ad95.add ((gI (gL g.mv (at_)) (k) : Int).toNat * 5)), (.bool ((gT ls (gI (gL g.mv (at_)) (k))).top))), (((ad95.add ((gI (gL g.mv (at_)) (k) : Int).toNat * 5)).add 1), (.int .i64 ((gT ls (gI (gL g.mv (at_)) (k))).c0))), (((ad95.add ((gI (gL g.mv (at_)) (k) : Int).toNat * 5)).add 2), (.int .i64 ((gT ls (gI (gL g.mv (at_)) (k))).c1))), (((ad95.add ((gI (gL g.mv (at_)) (k) : Int).toNat * 5)).add 3), (.int .i64 ((gT ls (gI (gL g.mv (at_)) (k))).c2))), (((ad95.add ((gI (gL g.mv (at_)) (k) : Int).toNat * 5)).add 4), (.int .i64 ((gT ls (gI (gL g.mv (at_)) (k))).c3)))] := ⟨_, rfl⟩
   have hS102 : HoldsC Cs100 w67 := by rw [hCs101]; exact ⟨(bx74.cell (i := 0) rfl), (bx74.cell (i := 1) rfl), (bx74.cell (i := 2) rfl), (bx74.cell (i := 3) rfl), (bx73.cell (i := 1) rfl), hc94, hc98, (hc97 1 _ rfl), (hc97 2 _ rfl), (hc97 3 _ rfl), (hc97 4 _ rfl), trivial⟩
   refine AtH.start Cs100 13 #[false, false, false, false, false, false, false, false, false, false, false, false, false] (by kernel_rfl) rfl rfl (fun w104 hw105 => ?_)
   have g103 := gr_drew hw105
   have hS106 := hS102.gr g103
   have szw104 := g103.size
   have e107 := e68.gr g103 no_row
   clear e68
   have r108 := r71.gr g103 (fun _ h => by cases h)
   clear r71
   have r109 := r72.gr g103 (fun _ h => by cases h)
   clear r72
   have bx110 := bx73.gr g103 (by simp)
   clear bx73
   have bx111 := bx74.gr g103 (by simp)
   clear bx74
   have bx112 := bx75.gr g103 (by simp)
   clear bx75
   have bx113 := bx76.gr g103 (by simp)
   clear bx76
   have r114 := r77.gr g103 (fun _ h => by cases h)
   clear r77
   clear g103 hw105 hS102
   refine AtH.rd (by kernel_rfl) (fun d v c a w h => by cases d <;> exact h) hS106 [0, 1, 2, 3, 4, 5, 6, 7, 8, 9] [[.ld (.int .i64 (cnt g.pr 1)), .ld (.int .i64 (cnt g.pr 3)), .ld (.int .i64 (cnt g.pr 5)), .ld (.int .i64 (cnt g.pr 7))], [], [.ld (.slice Ag1 g.pr.length cg1)], [], [.ad ad92], [.ld (.int .i64 (gI g.pr (at_)))], [], [], [.ad ad95], [.ld (.bool ((gT ls (gI (gL g.mv (at_)) (k))).top)), .ld (.int .i64 ((gT ls (gI (gL g.mv (at_)) (k))).c0)), .ld (.int .i64 ((gT ls (gI (gL g.mv (at_)) (k))).c1)), .ld (.int .i64 ((gT ls (gI (gL g.mv (at_)) (k))).c2)), .ld (.int .i64 ((gT ls (gI (gL g.mv (at_)) (k))).c3))]] [(35, tupV (gT ls (gI (gL g.mv (at_)) (k)))), (34, .pointer (some (ad95.add ((gI (gL g.mv (at_)) (k) : Int).toNat * 5)))), (33, .int .i64 (gI (gL g.mv (at_)) (k))), (32, .slice As ls.length cs), (31, .int .i64 (gI g.pr (at_))), (30, .pointer (some (ad92.add ((at_ : Int).toNat * 1)))), (29, .int .i64 (at_)), (28, .slice Ag1 g.pr.length cg1), (27, .pointer (some ⟨w.heap.size, 1, none⟩)), (26, .agg #[.int .i64 (cnt g.pr 1), .int .i64 (cnt g.pr 3), .int .i64 (cnt g.pr 5), .int .i64 (cnt g.pr 7)])] #[true, true, true, true, true, true, true, true, true, true, false, false, false] [(∃ j_ : Nat, Cs100[j_]? = some (⟨w1.heap.size, 0, none⟩, (.int .i64 (cnt g.pr 1)))), (∃ j_ : Nat, Cs100[j_]? = some (⟨w1.heap.size, 1, none⟩, (.int .i64 (cnt g.pr 3)))), (∃ j_ : Nat, Cs100[j_]? = some (⟨w1.heap.size, 2, none⟩, (.int .i64 (cnt g.pr 5)))), (∃ j_ : Nat, Cs100[j_]? = some (⟨w1.heap.size, 3, none⟩, (.int .i64 (cnt g.pr 7)))), (∃ j_ : Nat, Cs100[j_]? = some (⟨w.heap.size, 1, none⟩, (.slice Ag1 g.pr.length cg1))), (Ag1 = some ad92), (0 ≤ (at_ : Int)), ((at_ : Int) < (g.pr.length : Nat)), (∃ j_ : Nat, Cs100[j_]? = some ((ad92.add ((at_ : Int).toNat * 1)), (.int .i64 (gI g.pr (at_))))), (As = some ad95), (0 ≤ (gI (gL g.mv (at_)) (k) : Int)), ((gI (gL g.mv (at_)) (k) : Int) < (ls.length : Nat)), (∃ j_ : Nat, Cs100[j_]? = some ((ad95.add ((gI (gL g.mv (at_)) (k) : Int).toNat * 5)), (.bool ((gT ls (gI (gL g.mv (at_)) (k))).top)))), (∃ j_ : Nat, Cs100[j_]? = some (((ad95.add ((gI (gL g.mv (at_)) (k) : Int).toNat * 5)).add 1), (.int .i64 ((gT ls (gI (gL g.mv (at_)) (k))).c0)))), (∃ j_ : Nat, Cs100[j_]? = some (((ad95.add ((gI (gL g.mv (at_)) (k) : Int).toNat * 5)).add 2), (.int .i64 ((gT ls (gI (gL g.mv (at_)) (k))).c1)))), (∃ j_ : Nat, Cs100[j_]? = some (((ad95.add ((gI (gL g.mv (at_)) (k) : Int).toNat * 5)).add 3), (.int .i64 ((gT ls (gI (gL g.mv (at_)) (k))).c2)))), (∃ j_ : Nat, Cs100[j_]? = some (((ad95.add ((gI (gL g.mv (at_)) (k) : Int).toNat * 5)).add 4), (.int .i64 ((gT ls (gI (gL g.mv (at_)) (k))).c3))))] 3 f90 (by kernel_rfl) ⟨⟨0, by rw [hCs101]; rfl⟩, ⟨1, by rw [hCs101]; rfl⟩, ⟨2, by rw [hCs101]; rfl⟩, ⟨3, by rw [hCs101]; rfl⟩, ⟨4, by rw [hCs101]; rfl⟩, hA93, (by omega), (by omega), ⟨5, by rw [hCs101]; rfl⟩, hA96, (by omega), (by omega), ⟨6, by rw [hCs101]; rfl⟩, ⟨7, by rw [hCs101]; rfl⟩, ⟨8, by rw [hCs101]; rfl⟩, ⟨9, by rw [hCs101]; rfl⟩, ⟨10, by rw [hCs101]; rfl⟩, trivial⟩ (fun act116 f115 => ?_)
   clear f90
   refine AtH.all [10, 11] 2 (by kernel_rfl) (by simp) ⟨?_, ?_, trivial⟩
   ·refine OneH.call f115 55 #[.agg #[.int .i64 (cnt g.pr 1), .int .i64 (cnt g.pr 3), .int .i64 (cnt g.pr 5), .int .i64 (cnt g.pr 7)], .int .i64 (gI g.pr (at_)), tupV (gT ls (gI (gL g.mv (at_)) (k)))] (some 36) #[true, true, true, true, true, true, true, true, true, true, true, false, false] (by kernel_rfl) (by kernel_rfl) (up_any (n0 := cnt g.pr 1) (n1 := cnt g.pr 3) (n2 := cnt g.pr 5) (n3 := cnt g.pr 7) (p := gI g.pr (at_)) (t := (gT ls (gI (gL g.mv (at_)) (k)))) (by omega) (by omega) (by omega) (by omega) (by first | assumption | exact hok _)) ?_
    rintro e_ w118 ⟨rfl, he⟩
    refine ⟨_, rfl, _, rfl, fun act119 f120 => ?_⟩
    clear f115
    have g121 := gr_ext he
    have hS117 := hS106.gr g121
    have szw118 := g121.size
    have e122 := e107.gr g121 no_row
    clear e107
    have r123 := r108.gr g121 (fun _ h => by cases h)
    clear r108
    have r124 := r109.gr g121 (fun _ h => by cases h)
    clear r109
    have bx125 := bx110.gr g121 (by simp)
    clear bx110
    have bx126 := bx111.gr g121 (by simp)
    clear bx111
    have bx127 := bx112.gr g121 (by simp)
    clear bx112
    have bx128 := bx113.gr g121 (by simp)
    clear bx113
    have r129 := r114.gr g121 (fun _ h => by cases h)
    clear r114
    clear g121 he
    refine ⟨hS117, ?_⟩
    refine AtH.all [11] 1 (by kernel_rfl) (by simp) ⟨?_, trivial⟩
    refine OneH.seq f120 [[]] [(14, .pointer (some ⟨w118.heap.size, 0, none⟩))] (w118.alloc (.cells #[.bool false, .int .i64 (0), .int .i64 (0), .int .i64 (0), .int .i64 (0)] 41 (0, 0))) [] #[true, true, true, true, true, true, true, true, true, true, true, true, false] (by kernel_rfl) (by kernel_rfl) (by kernel_rfl) trivial (fun act134 w131 hw132 f133 => ?_)
    clear f120
    have g135 := gr_alloc hw132
    have hS130 := hS117.gr g135
    have szw131 := g135.size
    have e137 := e122.gr g135 no_row
    clear e122
    have r138 := r123.gr g135 (fun _ h => by cases h)
    clear r123
    have r139 := r124.gr g135 (fun _ h => by cases h)
    clear r124
    have bx140 := bx125.gr g135 (by simp)
    clear bx125
    have bx141 := bx126.gr g135 (by simp)
    clear bx126
    have bx142 := bx127.gr g135 (by simp)
    clear bx127
    have bx143 := bx128.gr g135 (by simp)
    clear bx128
    have r144 := r129.gr g135 (fun _ h => by cases h)
    clear r129
    have bx145 : Bx w131 (w118.heap.size) [.bool false, .int .i64 (0), .int .i64 (0), .int .i64 (0), .int .i64 (0)] 41 := Bx.new hw132
    have := bx145.lt
    clear g135 hw132
    refine ⟨hS130, ?_⟩
    refine AtH.all [12] 0 (by kernel_rfl) (by simp) ⟨?_, trivial⟩
    refine OneH.store f133 (t := 41) (b := w118.heap.size) (off := 0) (v := tupV (upG g ls at_ (gI (gL g.mv (at_)) (k)))) #[true, true, true, true, true, true, true, true, true, true, true, true, true] (by kernel_rfl) (by kernel_rfl) bx145 (by kernel_rfl) (fun act151 w147 g148 bx149 f150 => ?_)
    clear f133
    replace bx149 : Bx w147 (w118.heap.size) (tupC (upG g ls at_ (gI (gL g.mv (at_)) (k)))) 41 := bx149
    have hS146 := hS130.gr' g148 (by rw [hCs101]; exact ⟨(by simp only [add_block]; omega), (by simp only [add_block]; omega), (by simp only [add_block]; omega), (by simp only [add_block]; omega), (by simp only [add_block]; omega), (by simp only [add_block]; omega), (by simp only [add_block]; omega), (by simp only [add_block]; omega), (by simp only [add_block]; omega), (by simp only [add_block]; omega), (by simp only [add_block]; omega), trivial⟩)
    have szw147 := g148.size
    have e152 := e137.gr g148 (fun k h => by injection h; omega)
    clear e137
    have r153 := r138.gr g148 (fun k h => by injection h; omega)
    clear r138
    have r154 := r139.gr g148 (fun k h => by injection h; omega)
    clear r139
    have bx155 := bx140.gr g148 (fun h => by injection h; omega)
    clear bx140
    have bx156 := bx141.gr g148 (fun h => by injection h; omega)
    clear bx141
    have bx157 := bx142.gr g148 (fun h => by injection h; omega)
    clear bx142
    have bx158 := bx143.gr g148 (fun h => by injection h; omega)
    clear bx143
    have r159 := r144.gr g148 (fun k h => by injection h; omega)
    clear r144
    clear bx145 g148
    refine ⟨hS146, ?_⟩
    refine AtH.done (by kernel_rfl) ?_
    clear hS146
    refine t_n ?_
    have f160 := f150.sub (r := [(14, .pointer (some ⟨w118.heap.size, 0, none⟩)), (13, .int .i64 (gI (gL g.mv (at_)) (k))), (22, .int .i64 (k)), (11, .int .i64 ((bestB (upG g ls at_) (gI g.ow at_) ((gL g.mv at_).take k.toNat)).2)), (21, .int .i64 ((((gL g.mv (at_)).length : Nat) : Int))), (20, .slice R55 ((gL g.mv (at_)).length) C56), (10, .pointer (some ⟨w22.heap.size, 0, none⟩)), (9, .int .i64 (0)), (8, .pointer (some ⟨w11.heap.size, 0, none⟩)), (5, .pointer (some ⟨w1.heap.size, 0, none⟩)), (4, .pointer (some ⟨w.heap.size, 0, none⟩)), (2, .slice As ls.length cs), (3, .int .i64 (at_))]) ⟨rfl, rfl, rfl, rfl, rfl, rfl, rfl, rfl, rfl, rfl, rfl, rfl, rfl, trivial⟩
    exact ⟨w118.heap.size, f160, e152, r153, r154, bx155, bx156, bx157, bx158, r159, bx149, (by omega), (by omega)⟩
   ·refine OneH.seq f115 [[]] [(14, .pointer (some ⟨w104.heap.size, 0, none⟩))] (w104.alloc (.cells #[.bool false, .int .i64 (0), .int .i64 (0), .int .i64 (0), .int .i64 (0)] 41 (0, 0))) [] #[true, true, true, true, true, true, true, true, true, true, false, true, false] (by kernel_rfl) (by kernel_rfl) (by kernel_rfl) trivial (fun act165 w162 hw163 f164 => ?_)
    clear f115
    have g166 := gr_alloc hw163
    have hS161 := hS106.gr g166
    have szw162 := g166.size
    have e168 := e107.gr g166 no_row
    clear e107
    have r169 := r108.gr g166 (fun _ h => by cases h)
    clear r108
    have r170 := r109.gr g166 (fun _ h => by cases h)
    clear r109
    have bx171 := bx110.gr g166 (by simp)
    clear bx110
    have bx172 := bx111.gr g166 (by simp)
    clear bx111
    have bx173 := bx112.gr g166 (by simp)
    clear bx112
    have bx174 := bx113.gr g166 (by simp)
    clear bx113
    have r175 := r114.gr g166 (fun _ h => by cases h)
    clear r114
    have bx176 : Bx w162 (w104.heap.size) [.bool false, .int .i64 (0), .int .i64 (0), .int .i64 (0), .int .i64 (0)] 41 := Bx.new hw163
    have := bx176.lt
    clear g166 hw163
    refine ⟨hS161, ?_⟩
    refine AtH.all [10] 1 (by kernel_rfl) (by simp) ⟨?_, trivial⟩
    refine OneH.call f164 55 #[.agg #[.int .i64 (cnt g.pr 1), .int .i64 (cnt g.pr 3), .int .i64 (cnt g.pr 5), .int .i64 (cnt g.pr 7)], .int .i64 (gI g.pr (at_)), tupV (gT ls (gI (gL g.mv (at_)) (k)))] (some 36) #[true, true, true, true, true, true, true, true, true, true, true, true, false] (by kernel_rfl) (by kernel_rfl) (up_any (n0 := cnt g.pr 1) (n1 := cnt g.pr 3) (n2 := cnt g.pr 5) (n3 := cnt g.pr 7) (p := gI g.pr (at_)) (t := (gT ls (gI (gL g.mv (at_)) (k)))) (by omega) (by omega) (by omega) (by omega) (by first | assumption | exact hok _)) ?_
    rintro e_ w178 ⟨rfl, he⟩
    refine ⟨_, rfl, _, rfl, fun act179 f180 => ?_⟩
    clear f164
    have g181 := gr_ext he
    have hS177 := hS161.gr g181
    have szw178 := g181.size
    have e182 := e168.gr g181 no_row
    clear e168
    have r183 := r169.gr g181 (fun _ h => by cases h)
    clear r169
    have r184 := r170.gr g181 (fun _ h => by cases h)
    clear r170
    have bx185 := bx171.gr g181 (by simp)
    clear bx171
    have bx186 := bx172.gr g181 (by simp)
    clear bx172
    have bx187 := bx173.gr g181 (by simp)
    clear bx173
    have bx188 := bx174.gr g181 (by simp)
    clear bx174
    have r189 := r175.gr g181 (fun _ h => by cases h)
    clear r175
    have bx190 := bx176.gr g181 (by simp)
    clear bx176
    clear g181 he
    refine ⟨hS177, ?_⟩
    refine AtH.all [12] 0 (by kernel_rfl) (by simp) ⟨?_, trivial⟩
    refine OneH.store f180 (t := 41) (b := w104.heap.size) (off := 0) (v := tupV (upG g ls at_ (gI (gL g.mv (at_)) (k)))) #[true, true, true, true, true, true, true, true, true, true, true, true, true] (by kernel_rfl) (by kernel_rfl) bx190 (by kernel_rfl) (fun act196 w192 g193 bx194 f195 => ?_)
    clear f180
    replace bx194 : Bx w192 (w104.heap.size) (tupC (upG g ls at_ (gI (gL g.mv (at_)) (k)))) 41 := bx194
    have hS191 := hS177.gr' g193 (by rw [hCs101]; exact ⟨(by simp only [add_block]; omega), (by simp only [add_block]; omega), (by simp only [add_block]; omega), (by simp only [add_block]; omega), (by simp only [add_block]; omega), (by simp only [add_block]; omega), (by simp only [add_block]; omega), (by simp only [add_block]; omega), (by simp only [add_block]; omega), (by simp only [add_block]; omega), (by simp only [add_block]; omega), trivial⟩)
    have szw192 := g193.size
    have e197 := e182.gr g193 (fun k h => by injection h; omega)
    clear e182
    have r198 := r183.gr g193 (fun k h => by injection h; omega)
    clear r183
    have r199 := r184.gr g193 (fun k h => by injection h; omega)
    clear r184
    have bx200 := bx185.gr g193 (fun h => by injection h; omega)
    clear bx185
    have bx201 := bx186.gr g193 (fun h => by injection h; omega)
    clear bx186
    have bx202 := bx187.gr g193 (fun h => by injection h; omega)
    clear bx187
    have bx203 := bx188.gr g193 (fun h => by injection h; omega)
    clear bx188
    have r204 := r189.gr g193 (fun k h => by injection h; omega)
    clear r189
    clear bx190 g193
    refine ⟨hS191, ?_⟩
    refine AtH.done (by kernel_rfl) ?_
    clear hS191
    refine t_n ?_
    have f205 := f195.sub (r := [(14, .pointer (some ⟨w104.heap.size, 0, none⟩)), (13, .int .i64 (gI (gL g.mv (at_)) (k))), (22, .int .i64 (k)), (11, .int .i64 ((bestB (upG g ls at_) (gI g.ow at_) ((gL g.mv at_).take k.toNat)).2)), (21, .int .i64 ((((gL g.mv (at_)).length : Nat) : Int))), (20, .slice R55 ((gL g.mv (at_)).length) C56), (10, .pointer (some ⟨w22.heap.size, 0, none⟩)), (9, .int .i64 (0)), (8, .pointer (some ⟨w11.heap.size, 0, none⟩)), (5, .pointer (some ⟨w1.heap.size, 0, none⟩)), (4, .pointer (some ⟨w.heap.size, 0, none⟩)), (2, .slice As ls.length cs), (3, .int .i64 (at_))]) ⟨rfl, rfl, rfl, rfl, rfl, rfl, rfl, rfl, rfl, rfl, rfl, rfl, rfl, trivial⟩
    exact ⟨w104.heap.size, f205, e197, r198, r199, bx200, bx201, bx202, bx203, r204, bx194, (by omega), (by omega)⟩
  ·clear r71
   clear r72
   clear bx73
   clear bx74
   clear bx75
   clear bx76
   clear r77
   clear f90 e68
   intro act206 w207 ⟨b_91, f208, e209, r210, r211, bx212, bx213, bx214, bx215, r216, bx217, hb218, szz219⟩
   have szw207 := e209.size
   have := bx212.lt
   have := bx213.lt
   have := bx214.lt
   have := bx215.lt
   have := bx217.lt
   refine wp_seq ?_
   refine At.start ?_
   refine At.rd f208 2 [[.ld (.bool ((upG g ls at_ (gI (gL g.mv (at_)) (k))).top)), .ld (.int .i64 ((upG g ls at_ (gI (gL g.mv (at_)) (k))).c0)), .ld (.int .i64 ((upG g ls at_ (gI (gL g.mv (at_)) (k))).c1)), .ld (.int .i64 ((upG g ls at_ (gI (gL g.mv (at_)) (k))).c2)), .ld (.int .i64 ((upG g ls at_ (gI (gL g.mv (at_)) (k))).c3))], [.ld (.bool ((bestB (upG g ls at_) (gI g.ow at_) ((gL g.mv at_).take k.toNat)).1.top)), .ld (.int .i64 ((bestB (upG g ls at_) (gI g.ow at_) ((gL g.mv at_).take k.toNat)).1.c0)), .ld (.int .i64 ((bestB (upG g ls at_) (gI g.ow at_) ((gL g.mv at_).take k.toNat)).1.c1)), .ld (.int .i64 ((bestB (upG g ls at_) (gI g.ow at_) ((gL g.mv at_).take k.toNat)).1.c2)), .ld (.int .i64 ((bestB (upG g ls at_) (gI g.ow at_) ((gL g.mv at_).take k.toNat)).1.c3))]] [(38, tupV ((bestB (upG g ls at_) (gI g.ow at_) ((gL g.mv at_).take k.toNat)).1)), (37, tupV (upG g ls at_ (gI (gL g.mv (at_)) (k))))] [(w207.cell? ⟨b_91, 0, none⟩ = some (.bool ((upG g ls at_ (gI (gL g.mv (at_)) (k))).top))), (w207.cell? ⟨b_91, 1, none⟩ = some (.int .i64 ((upG g ls at_ (gI (gL g.mv (at_)) (k))).c0))), (w207.cell? ⟨b_91, 2, none⟩ = some (.int .i64 ((upG g ls at_ (gI (gL g.mv (at_)) (k))).c1))), (w207.cell? ⟨b_91, 3, none⟩ = some (.int .i64 ((upG g ls at_ (gI (gL g.mv (at_)) (k))).c2))), (w207.cell? ⟨b_91, 4, none⟩ = some (.int .i64 ((upG g ls at_ (gI (gL g.mv (at_)) (k))).c3))), (w207.cell? ⟨w22.heap.size, 0, none⟩ = some (.bool ((bestB (upG g ls at_) (gI g.ow at_) ((gL g.mv at_).take k.toNat)).1.top))), (w207.cell? ⟨w22.heap.size, 1, none⟩ = some (.int .i64 ((bestB (upG g ls at_) (gI g.ow at_) ((gL g.mv at_).take k.toNat)).1.c0))), (w207.cell? ⟨w22.heap.size, 2, none⟩ = some (.int .i64 ((bestB (upG g ls at_) (gI g.ow at_) ((gL g.mv at_).take k.toNat)).1.c1))), (w207.cell? ⟨w22.heap.size, 3, none⟩ = some (.int .i64 ((bestB (upG g ls at_) (gI g.ow at_) ((gL g.mv at_).take k.toNat)).1.c2))), (w207.cell? ⟨w22.heap.size, 4, none⟩ = some (.int .i64 ((bestB (upG g ls at_) (gI g.ow at_) ((gL g.mv at_).take k.toNat)).1.c3)))] (by kernel_rfl) ⟨(bx217.cell (i := 0) rfl), (bx217.cell (i := 1) rfl), (bx217.cell (i := 2) rfl), (bx217.cell (i := 3) rfl), (bx217.cell (i := 4) rfl), (bx215.cell (i := 0) rfl), (bx215.cell (i := 1) rfl), (bx215.cell (i := 2) rfl), (bx215.cell (i := 3) rfl), (bx215.cell (i := 4) rfl), trivial⟩ (fun act222 f221 => ?_)
   clear f208
   refine At.call f221 23 #[tupV (upG g ls at_ (gI (gL g.mv (at_)) (k))), tupV ((bestB (upG g ls at_) (gI g.ow at_) ((gL g.mv at_).take k.toNat)).1), .int .i64 (0)] (some 39) (by kernel_rfl) (cmpM_any (a := (upG g ls at_ (gI (gL g.mv (at_)) (k)))) (b := (bestB (upG g ls at_) (gI g.ow at_) ((gL g.mv at_).take k.toNat)).1) (p := 0)) ?_
   rintro e_ w223 ⟨rfl, he⟩
   have := cmp_rng (upG g ls at_ (gI (gL g.mv (at_)) (k))) ((bestB (upG g ls at_) (gI g.ow at_) ((gL g.mv at_).take k.toNat)).1) 0
   refine ⟨_, rfl, _, rfl, fun act224 f225 => ?_⟩
   clear f221
   have g226 := gr_ext he
   have szw223 := g226.size
   have e227 := e209.gr g226 no_row
   clear e209
   have r228 := r210.gr g226 (fun _ h => by cases h)
   clear r210
   have r229 := r211.gr g226 (fun _ h => by cases h)
   clear r211
   have bx230 := bx212.gr g226 (by simp)
   clear bx212
   have bx231 := bx213.gr g226 (by simp)
   clear bx213
   have bx232 := bx214.gr g226 (by simp)
   clear bx214
   have bx233 := bx215.gr g226 (by simp)
   clear bx215
   have r234 := r216.gr g226 (fun _ h => by cases h)
   clear r216
   have bx235 := bx217.gr g226 (by simp)
   clear bx217
   clear g226 he
   refine At.rd f225 1 [[]] [(15, .int .i64 (cmpT (upG g ls at_ (gI (gL g.mv (at_)) (k))) ((bestB (upG g ls at_) (gI g.ow at_) ((gL g.mv at_).take k.toNat)).1) 0))] [] (by kernel_rfl) trivial (fun act237 f236 => ?_)
   clear f225
   refine At.done rfl ?_
   refine t_n ?_
   have f238 := f236.sub (r := [(15, .int .i64 (cmpT (upG g ls at_ (gI (gL g.mv (at_)) (k))) ((bestB (upG g ls at_) (gI g.ow at_) ((gL g.mv at_).take k.toNat)).1) 0)), (14, .pointer (some ⟨b_91, 0, none⟩)), (13, .int .i64 (gI (gL g.mv (at_)) (k))), (22, .int .i64 (k)), (11, .int .i64 ((bestB (upG g ls at_) (gI g.ow at_) ((gL g.mv at_).take k.toNat)).2)), (21, .int .i64 ((((gL g.mv (at_)).length : Nat) : Int))), (20, .slice R55 ((gL g.mv (at_)).length) C56), (10, .pointer (some ⟨w22.heap.size, 0, none⟩)), (9, .int .i64 (0)), (8, .pointer (some ⟨w11.heap.size, 0, none⟩)), (5, .pointer (some ⟨w1.heap.size, 0, none⟩)), (4, .pointer (some ⟨w.heap.size, 0, none⟩)), (2, .slice As ls.length cs), (3, .int .i64 (at_))]) ⟨rfl, rfl, rfl, rfl, rfl, rfl, rfl, rfl, rfl, rfl, rfl, rfl, rfl, rfl, trivial⟩
   clear f236
   refine wp_seq ?_
   refine wp_seq ?_
   refine At.start ?_
   obtain ⟨ad239, hA240, _, _, hc241⟩ := RdI.get r228.ow (at_) (by omega) (by omega)
   refine At.rd f238 6 [[], [.ld (.slice Ag0 g.ow.length cg0)], [], [.ad ad239], [.ld (.int .i64 (gI g.ow (at_)))], []] [(45, .bool ((gI g.ow (at_) : Int) == 1)), (44, .int .i64 (gI g.ow (at_))), (43, .pointer (some (ad239.add ((at_ : Int).toNat * 1)))), (42, .int .i64 (at_)), (41, .slice Ag0 g.ow.length cg0), (40, .pointer (some ⟨w.heap.size, 0, none⟩))] [(w223.cell? ⟨w.heap.size, 0, none⟩ = some (.slice Ag0 g.ow.length cg0)), (Ag0 = some ad239), (0 ≤ (at_ : Int)), ((at_ : Int) < (g.ow.length : Nat)), (w223.cell? (ad239.add ((at_ : Int).toNat * 1)) = some (.int .i64 (gI g.ow (at_))))] (by kernel_rfl) ⟨(bx230.cell (i := 0) rfl), hA240, (by omega), (by omega), hc241, trivial⟩ (fun act243 f242 => ?_)
   clear f238
   refine At.done rfl ?_
   refine t_n ?_
   have f244 := f242.sub (r := [(45, .bool ((gI g.ow (at_) : Int) == 1)), (15, .int .i64 (cmpT (upG g ls at_ (gI (gL g.mv (at_)) (k))) ((bestB (upG g ls at_) (gI g.ow at_) ((gL g.mv at_).take k.toNat)).1) 0)), (14, .pointer (some ⟨b_91, 0, none⟩)), (13, .int .i64 (gI (gL g.mv (at_)) (k))), (22, .int .i64 (k)), (11, .int .i64 ((bestB (upG g ls at_) (gI g.ow at_) ((gL g.mv at_).take k.toNat)).2)), (21, .int .i64 ((((gL g.mv (at_)).length : Nat) : Int))), (20, .slice R55 ((gL g.mv (at_)).length) C56), (10, .pointer (some ⟨w22.heap.size, 0, none⟩)), (9, .int .i64 (0)), (8, .pointer (some ⟨w11.heap.size, 0, none⟩)), (5, .pointer (some ⟨w1.heap.size, 0, none⟩)), (4, .pointer (some ⟨w.heap.size, 0, none⟩)), (2, .slice As ls.length cs), (3, .int .i64 (at_))]) ⟨rfl, rfl, rfl, rfl, rfl, rfl, rfl, rfl, rfl, rfl, rfl, rfl, rfl, rfl, rfl, trivial⟩
   clear f242
   refine cond_S f244 (t := (gI g.ow (at_) : Int) == 1) rfl (fun h245 => ?_) (fun h245 => ?_)
   ·have q246 := eq_of_beq h245
    refine At.start ?_
    refine At.rd f244 3 [[], [.as_ (.int .i64 (-(cmpT (upG g ls at_ (gI (gL g.mv (at_)) (k))) ((bestB (upG g ls at_) (gI g.ow at_) ((gL g.mv at_).take k.toNat)).1) 0)))], []] [(15, .int .i64 (-(cmpT (upG g ls at_ (gI (gL g.mv (at_)) (k))) ((bestB (upG g ls at_) (gI g.ow at_) ((gL g.mv at_).take k.toNat)).1) 0))), (47, .int .i64 (-(cmpT (upG g ls at_ (gI (gL g.mv (at_)) (k))) ((bestB (upG g ls at_) (gI g.ow at_) ((gL g.mv at_).take k.toNat)).1) 0))), (46, .int .i64 (cmpT (upG g ls at_ (gI (gL g.mv (at_)) (k))) ((bestB (upG g ls at_) (gI g.ow at_) ((gL g.mv at_).take k.toNat)).1) 0))] [((.int .i64 (IntKind.i64.wrap (0 - (cmpT (upG g ls at_ (gI (gL g.mv (at_)) (k))) ((bestB (upG g ls at_) (gI g.ow at_) ((gL g.mv at_).take k.toNat)).1) 0))) : Value) = .int .i64 (-(cmpT (upG g ls at_ (gI (gL g.mv (at_)) (k))) ((bestB (upG g ls at_) (gI g.ow at_) ((gL g.mv at_).take k.toNat)).1) 0)))] (by kernel_rfl) ⟨(w64e (by omega) (by omega) (by omega)), trivial⟩ (fun act248 f247 => ?_)
    clear f244
    refine At.done rfl ?_
    refine t_n ?_
    have f249 := f247.sub (r := [(15, .int .i64 (-(cmpT (upG g ls at_ (gI (gL g.mv (at_)) (k))) ((bestB (upG g ls at_) (gI g.ow at_) ((gL g.mv at_).take k.toNat)).1) 0))), (14, .pointer (some ⟨b_91, 0, none⟩)), (13, .int .i64 (gI (gL g.mv (at_)) (k))), (22, .int .i64 (k)), (11, .int .i64 ((bestB (upG g ls at_) (gI g.ow at_) ((gL g.mv at_).take k.toNat)).2)), (21, .int .i64 ((((gL g.mv (at_)).length : Nat) : Int))), (20, .slice R55 ((gL g.mv (at_)).length) C56), (10, .pointer (some ⟨w22.heap.size, 0, none⟩)), (9, .int .i64 (0)), (8, .pointer (some ⟨w11.heap.size, 0, none⟩)), (5, .pointer (some ⟨w1.heap.size, 0, none⟩)), (4, .pointer (some ⟨w.heap.size, 0, none⟩)), (2, .slice As ls.length cs), (3, .int .i64 (at_))]) ⟨rfl, rfl, rfl, rfl, rfl, rfl, rfl, rfl, rfl, rfl, rfl, rfl, rfl, rfl, trivial⟩
    clear f247
    refine wp_seq ?_
    refine At.start ?_
    rcases Bool.eq_false_or_eq_true (decide (((bestB (upG g ls at_) (gI g.ow at_) ((gL g.mv at_).take k.toNat)).2 : Int) < 0)) with h250 | h250
    ·have q251 := of_decide_eq_true h250
     refine At.rd f249 6 [[], [], [.as_ (.bool true)], [], [], []] [(53, .bool true), (52, undef), (51, undef), (50, .bool true), (49, .bool (decide (((bestB (upG g ls at_) (gI g.ow at_) ((gL g.mv at_).take k.toNat)).2 : Int) < 0))), (48, .int .i64 ((bestB (upG g ls at_) (gI g.ow at_) ((gL g.mv at_).take k.toNat)).2))] [((.bool (decide (((bestB (upG g ls at_) (gI g.ow at_) ((gL g.mv at_).take k.toNat)).2 : Int) < 0)) : Value) = .bool true)] (by kernel_rfl) ⟨(congrArg Value.bool h250), trivial⟩ (fun act253 f252 => ?_)
     clear f249
     refine At.done rfl ?_
     refine t_n ?_
     have f254 := f252.sub (r := [(53, .bool true), (14, .pointer (some ⟨b_91, 0, none⟩)), (13, .int .i64 (gI (gL g.mv (at_)) (k))), (22, .int .i64 (k)), (11, .int .i64 ((bestB (upG g ls at_) (gI g.ow at_) ((gL g.mv at_).take k.toNat)).2)), (21, .int .i64 ((((gL g.mv (at_)).length : Nat) : Int))), (20, .slice R55 ((gL g.mv (at_)).length) C56), (10, .pointer (some ⟨w22.heap.size, 0, none⟩)), (9, .int .i64 (0)), (8, .pointer (some ⟨w11.heap.size, 0, none⟩)), (5, .pointer (some ⟨w1.heap.size, 0, none⟩)), (4, .pointer (some ⟨w.heap.size, 0, none⟩)), (2, .slice As ls.length cs), (3, .int .i64 (at_))]) ⟨rfl, rfl, rfl, rfl, rfl, rfl, rfl, rfl, rfl, rfl, rfl, rfl, rfl, rfl, trivial⟩
     clear f252
     refine cond_T f254 rfl ?_
     refine At.start ?_
     refine At.rd f254 2 [[.ld (.bool ((upG g ls at_ (gI (gL g.mv (at_)) (k))).top)), .ld (.int .i64 ((upG g ls at_ (gI (gL g.mv (at_)) (k))).c0)), .ld (.int .i64 ((upG g ls at_ (gI (gL g.mv (at_)) (k))).c1)), .ld (.int .i64 ((upG g ls at_ (gI (gL g.mv (at_)) (k))).c2)), .ld (.int .i64 ((upG g ls at_ (gI (gL g.mv (at_)) (k))).c3))], []] [(55, .int .i64 (gI (gL g.mv (at_)) (k))), (54, tupV (upG g ls at_ (gI (gL g.mv (at_)) (k))))] [(w223.cell? ⟨b_91, 0, none⟩ = some (.bool ((upG g ls at_ (gI (gL g.mv (at_)) (k))).top))), (w223.cell? ⟨b_91, 1, none⟩ = some (.int .i64 ((upG g ls at_ (gI (gL g.mv (at_)) (k))).c0))), (w223.cell? ⟨b_91, 2, none⟩ = some (.int .i64 ((upG g ls at_ (gI (gL g.mv (at_)) (k))).c1))), (w223.cell? ⟨b_91, 3, none⟩ = some (.int .i64 ((upG g ls at_ (gI (gL g.mv (at_)) (k))).c2))), (w223.cell? ⟨b_91, 4, none⟩ = some (.int .i64 ((upG g ls at_ (gI (gL g.mv (at_)) (k))).c3)))] (by kernel_rfl) ⟨(bx235.cell (i := 0) rfl), (bx235.cell (i := 1) rfl), (bx235.cell (i := 2) rfl), (bx235.cell (i := 3) rfl), (bx235.cell (i := 4) rfl), trivial⟩ (fun act256 f255 => ?_)
     clear f254
     refine At.store f255 (t := 41) (b := w22.heap.size) (off := 0) (v := tupV (upG g ls at_ (gI (gL g.mv (at_)) (k)))) (by kernel_rfl) bx233 (by kernel_rfl) (fun act261 w257 g258 bx259 f260 => ?_)
     clear f255
     replace bx259 : Bx w257 (w22.heap.size) (tupC (upG g ls at_ (gI (gL g.mv (at_)) (k)))) 41 := bx259
     have szw257 := g258.size
     have e262 := e227.gr g258 (fun k h => by injection h; omega)
     clear e227
     have r263 := r228.gr g258 (fun k h => by injection h; omega)
     clear r228
     have r264 := r229.gr g258 (fun k h => by injection h; omega)
     clear r229
     have bx265 := bx230.gr g258 (fun h => by injection h; omega)
     clear bx230
     have bx266 := bx231.gr g258 (fun h => by injection h; omega)
     clear bx231
     have bx267 := bx232.gr g258 (fun h => by injection h; omega)
     clear bx232
     have r268 := r234.gr g258 (fun k h => by injection h; omega)
     clear r234
     have bx269 := bx235.gr g258 (fun h => by injection h; omega)
     clear bx235
     clear bx233 g258
     refine At.rd f260 1 [[]] [(11, .int .i64 (gI (gL g.mv (at_)) (k)))] [] (by kernel_rfl) trivial (fun act271 f270 => ?_)
     clear f260
     refine At.done rfl ?_
     refine b_n ?_
     refine t_n ?_
     have f272 := f270.sub (r := [(11, .int .i64 (gI (gL g.mv (at_)) (k))), (22, .int .i64 (k)), (21, .int .i64 ((((gL g.mv (at_)).length : Nat) : Int))), (20, .slice R55 ((gL g.mv (at_)).length) C56), (10, .pointer (some ⟨w22.heap.size, 0, none⟩)), (9, .int .i64 (0)), (8, .pointer (some ⟨w11.heap.size, 0, none⟩)), (5, .pointer (some ⟨w1.heap.size, 0, none⟩)), (4, .pointer (some ⟨w.heap.size, 0, none⟩)), (2, .slice As ls.length cs), (3, .int .i64 (at_))]) ⟨rfl, rfl, rfl, rfl, rfl, rfl, rfl, rfl, rfl, rfl, rfl, trivial⟩
     clear f270
     refine At.start ?_
     refine At.rd f272 2 [[.as_ (.int .i64 (k + 1))], []] [(22, .int .i64 (k + 1)), (56, .int .i64 (k + 1))] [((.int .i64 (IntKind.i64.wrap (k + 1)) : Value) = .int .i64 (k + 1))] (by kernel_rfl) ⟨(w64 (by omega) (by omega)), trivial⟩ (fun act274 f273 => ?_)
     clear f272
     refine At.done rfl ?_
     refine t_n ?_
     have f275 := f273.as 11 (.int .i64 (gI (gL g.mv (at_)) (k))) (.int .i64 ((bestB (upG g ls at_) (gI g.ow at_) ((gL g.mv at_).take ((k + 1) : Int).toNat)).2)) rfl (congrArg (Value.int .i64) (by first | exact congrArg Prod.snd (bestB_yes (f := upG g ls at_) (by omega) (by omega) (by first | exact .inl (by omega) | exact .inr (.inl ⟨by omega, by omega⟩) | exact .inr (.inr ⟨by omega, by omega⟩))) | exact congrArg Prod.snd (bestB_no (f := upG g ls at_) (by omega) (by omega) (by omega) (fun _ => by omega) (fun _ => by omega))))
     clear f273
     have f276 := f275.sub (r := [(22, .int .i64 (k + 1)), (11, .int .i64 ((bestB (upG g ls at_) (gI g.ow at_) ((gL g.mv at_).take ((k + 1) : Int).toNat)).2)), (21, .int .i64 ((((gL g.mv (at_)).length : Nat) : Int))), (20, .slice R55 ((gL g.mv (at_)).length) C56), (10, .pointer (some ⟨w22.heap.size, 0, none⟩)), (9, .int .i64 (0)), (8, .pointer (some ⟨w11.heap.size, 0, none⟩)), (5, .pointer (some ⟨w1.heap.size, 0, none⟩)), (4, .pointer (some ⟨w.heap.size, 0, none⟩)), (2, .slice As ls.length cs), (3, .int .i64 (at_))]) ⟨rfl, rfl, rfl, rfl, rfl, rfl, rfl, rfl, rfl, rfl, rfl, trivial⟩
     exact ⟨_, (by omega), (k + 1), rfl, f276, e262, r263, r264, bx265, bx266, bx267, (bx259.as (by first | exact tupC_eq (t := upG g ls at_ (gI (gL g.mv at_) k)) (congrArg Prod.fst (bestB_yes (f := upG g ls at_) (by omega) (by omega) (by first | exact .inl (by omega) | exact .inr (.inl ⟨by omega, by omega⟩) | exact .inr (.inr ⟨by omega, by omega⟩)))) | exact tupC_eq (congrArg Prod.fst (bestB_no (f := upG g ls at_) (by omega) (by omega) (by omega) (fun _ => by omega) (fun _ => by omega))))), r268, (by omega), (by omega)⟩
    ·have q277 := of_decide_eq_false h250
     refine At.rd f249 6 [[], [], [.as_ (.bool false)], [], [], []] [(53, .bool (decide ((-(cmpT (upG g ls at_ (gI (gL g.mv (at_)) (k))) ((bestB (upG g ls at_) (gI g.ow at_) ((gL g.mv at_).take k.toNat)).1) 0) : Int) < 0))), (52, .bool (decide ((-(cmpT (upG g ls at_ (gI (gL g.mv (at_)) (k))) ((bestB (upG g ls at_) (gI g.ow at_) ((gL g.mv at_).take k.toNat)).1) 0) : Int) < 0))), (51, .int .i64 (-(cmpT (upG g ls at_ (gI (gL g.mv (at_)) (k))) ((bestB (upG g ls at_) (gI g.ow at_) ((gL g.mv at_).take k.toNat)).1) 0))), (50, .bool false), (49, .bool (decide (((bestB (upG g ls at_) (gI g.ow at_) ((gL g.mv at_).take k.toNat)).2 : Int) < 0))), (48, .int .i64 ((bestB (upG g ls at_) (gI g.ow at_) ((gL g.mv at_).take k.toNat)).2))] [((.bool (decide (((bestB (upG g ls at_) (gI g.ow at_) ((gL g.mv at_).take k.toNat)).2 : Int) < 0)) : Value) = .bool false)] (by kernel_rfl) ⟨(congrArg Value.bool h250), trivial⟩ (fun act279 f278 => ?_)
     clear f249
     refine At.done rfl ?_
     refine t_n ?_
     have f280 := f278.sub (r := [(53, .bool (decide ((-(cmpT (upG g ls at_ (gI (gL g.mv (at_)) (k))) ((bestB (upG g ls at_) (gI g.ow at_) ((gL g.mv at_).take k.toNat)).1) 0) : Int) < 0))), (52, .bool (decide ((-(cmpT (upG g ls at_ (gI (gL g.mv (at_)) (k))) ((bestB (upG g ls at_) (gI g.ow at_) ((gL g.mv at_).take k.toNat)).1) 0) : Int) < 0))), (51, .int .i64 (-(cmpT (upG g ls at_ (gI (gL g.mv (at_)) (k))) ((bestB (upG g ls at_) (gI g.ow at_) ((gL g.mv at_).take k.toNat)).1) 0))), (14, .pointer (some ⟨b_91, 0, none⟩)), (13, .int .i64 (gI (gL g.mv (at_)) (k))), (22, .int .i64 (k)), (11, .int .i64 ((bestB (upG g ls at_) (gI g.ow at_) ((gL g.mv at_).take k.toNat)).2)), (21, .int .i64 ((((gL g.mv (at_)).length : Nat) : Int))), (20, .slice R55 ((gL g.mv (at_)).length) C56), (10, .pointer (some ⟨w22.heap.size, 0, none⟩)), (9, .int .i64 (0)), (8, .pointer (some ⟨w11.heap.size, 0, none⟩)), (5, .pointer (some ⟨w1.heap.size, 0, none⟩)), (4, .pointer (some ⟨w.heap.size, 0, none⟩)), (2, .slice As ls.length cs), (3, .int .i64 (at_))]) ⟨rfl, rfl, rfl, rfl, rfl, rfl, rfl, rfl, rfl, rfl, rfl, rfl, rfl, rfl, rfl, rfl, trivial⟩
     clear f278
     refine cond_S f280 (t := decide ((-(cmpT (upG g ls at_ (gI (gL g.mv (at_)) (k))) ((bestB (upG g ls at_) (gI g.ow at_) ((gL g.mv at_).take k.toNat)).1) 0) : Int) < 0)) rfl (fun h281 => ?_) (fun h281 => ?_)
     ·have q282 := of_decide_eq_true h281
      refine At.start ?_
      refine At.rd f280 2 [[.ld (.bool ((upG g ls at_ (gI (gL g.mv (at_)) (k))).top)), .ld (.int .i64 ((upG g ls at_ (gI (gL g.mv (at_)) (k))).c0)), .ld (.int .i64 ((upG g ls at_ (gI (gL g.mv (at_)) (k))).c1)), .ld (.int .i64 ((upG g ls at_ (gI (gL g.mv (at_)) (k))).c2)), .ld (.int .i64 ((upG g ls at_ (gI (gL g.mv (at_)) (k))).c3))], []] [(55, .int .i64 (gI (gL g.mv (at_)) (k))), (54, tupV (upG g ls at_ (gI (gL g.mv (at_)) (k))))] [(w223.cell? ⟨b_91, 0, none⟩ = some (.bool ((upG g ls at_ (gI (gL g.mv (at_)) (k))).top))), (w223.cell? ⟨b_91, 1, none⟩ = some (.int .i64 ((upG g ls at_ (gI (gL g.mv (at_)) (k))).c0))), (w223.cell? ⟨b_91, 2, none⟩ = some (.int .i64 ((upG g ls at_ (gI (gL g.mv (at_)) (k))).c1))), (w223.cell? ⟨b_91, 3, none⟩ = some (.int .i64 ((upG g ls at_ (gI (gL g.mv (at_)) (k))).c2))), (w223.cell? ⟨b_91, 4, none⟩ = some (.int .i64 ((upG g ls at_ (gI (gL g.mv (at_)) (k))).c3)))] (by kernel_rfl) ⟨(bx235.cell (i := 0) rfl), (bx235.cell (i := 1) rfl), (bx235.cell (i := 2) rfl), (bx235.cell (i := 3) rfl), (bx235.cell (i := 4) rfl), trivial⟩ (fun act284 f283 => ?_)
      clear f280
      refine At.store f283 (t := 41) (b := w22.heap.size) (off := 0) (v := tupV (upG g ls at_ (gI (gL g.mv (at_)) (k)))) (by kernel_rfl) bx233 (by kernel_rfl) (fun act289 w285 g286 bx287 f288 => ?_)
      clear f283
      replace bx287 : Bx w285 (w22.heap.size) (tupC (upG g ls at_ (gI (gL g.mv (at_)) (k)))) 41 := bx287
      have szw285 := g286.size
      have e290 := e227.gr g286 (fun k h => by injection h; omega)
      clear e227
      have r291 := r228.gr g286 (fun k h => by injection h; omega)
      clear r228
      have r292 := r229.gr g286 (fun k h => by injection h; omega)
      clear r229
      have bx293 := bx230.gr g286 (fun h => by injection h; omega)
      clear bx230
      have bx294 := bx231.gr g286 (fun h => by injection h; omega)
      clear bx231
      have bx295 := bx232.gr g286 (fun h => by injection h; omega)
      clear bx232
      have r296 := r234.gr g286 (fun k h => by injection h; omega)
      clear r234
      have bx297 := bx235.gr g286 (fun h => by injection h; omega)
      clear bx235
      clear bx233 g286
      refine At.rd f288 1 [[]] [(11, .int .i64 (gI (gL g.mv (at_)) (k)))] [] (by kernel_rfl) trivial (fun act299 f298 => ?_)
      clear f288
      refine At.done rfl ?_
      refine b_n ?_
      refine t_n ?_
      have f300 := f298.sub (r := [(11, .int .i64 (gI (gL g.mv (at_)) (k))), (52, .bool (decide ((-(cmpT (upG g ls at_ (gI (gL g.mv (at_)) (k))) ((bestB (upG g ls at_) (gI g.ow at_) ((gL g.mv at_).take k.toNat)).1) 0) : Int) < 0))), (51, .int .i64 (-(cmpT (upG g ls at_ (gI (gL g.mv (at_)) (k))) ((bestB (upG g ls at_) (gI g.ow at_) ((gL g.mv at_).take k.toNat)).1) 0))), (22, .int .i64 (k)), (21, .int .i64 ((((gL g.mv (at_)).length : Nat) : Int))), (20, .slice R55 ((gL g.mv (at_)).length) C56), (10, .pointer (some ⟨w22.heap.size, 0, none⟩)), (9, .int .i64 (0)), (8, .pointer (some ⟨w11.heap.size, 0, none⟩)), (5, .pointer (some ⟨w1.heap.size, 0, none⟩)), (4, .pointer (some ⟨w.heap.size, 0, none⟩)), (2, .slice As ls.length cs), (3, .int .i64 (at_))]) ⟨rfl, rfl, rfl, rfl, rfl, rfl, rfl, rfl, rfl, rfl, rfl, rfl, rfl, trivial⟩
      clear f298
      refine At.start ?_
      refine At.rd f300 2 [[.as_ (.int .i64 (k + 1))], []] [(22, .int .i64 (k + 1)), (56, .int .i64 (k + 1))] [((.int .i64 (IntKind.i64.wrap (k + 1)) : Value) = .int .i64 (k + 1))] (by kernel_rfl) ⟨(w64 (by omega) (by omega)), trivial⟩ (fun act302 f301 => ?_)
      clear f300
      refine At.done rfl ?_
      refine t_n ?_
      have f303 := f301.as 11 (.int .i64 (gI (gL g.mv (at_)) (k))) (.int .i64 ((bestB (upG g ls at_) (gI g.ow at_) ((gL g.mv at_).take ((k + 1) : Int).toNat)).2)) rfl (congrArg (Value.int .i64) (by first | exact congrArg Prod.snd (bestB_yes (f := upG g ls at_) (by omega) (by omega) (by first | exact .inl (by omega) | exact .inr (.inl ⟨by omega, by omega⟩) | exact .inr (.inr ⟨by omega, by omega⟩))) | exact congrArg Prod.snd (bestB_no (f := upG g ls at_) (by omega) (by omega) (by omega) (fun _ => by omega) (fun _ => by omega))))
      clear f301
      have f304 := f303.sub (r := [(22, .int .i64 (k + 1)), (11, .int .i64 ((bestB (upG g ls at_) (gI g.ow at_) ((gL g.mv at_).take ((k + 1) : Int).toNat)).2)), (21, .int .i64 ((((gL g.mv (at_)).length : Nat) : Int))), (20, .slice R55 ((gL g.mv (at_)).length) C56), (10, .pointer (some ⟨w22.heap.size, 0, none⟩)), (9, .int .i64 (0)), (8, .pointer (some ⟨w11.heap.size, 0, none⟩)), (5, .pointer (some ⟨w1.heap.size, 0, none⟩)), (4, .pointer (some ⟨w.heap.size, 0, none⟩)), (2, .slice As ls.length cs), (3, .int .i64 (at_))]) ⟨rfl, rfl, rfl, rfl, rfl, rfl, rfl, rfl, rfl, rfl, rfl, trivial⟩
      exact ⟨_, (by omega), (k + 1), rfl, f304, e290, r291, r292, bx293, bx294, bx295, (bx287.as (by first | exact tupC_eq (t := upG g ls at_ (gI (gL g.mv at_) k)) (congrArg Prod.fst (bestB_yes (f := upG g ls at_) (by omega) (by omega) (by first | exact .inl (by omega) | exact .inr (.inl ⟨by omega, by omega⟩) | exact .inr (.inr ⟨by omega, by omega⟩)))) | exact tupC_eq (congrArg Prod.fst (bestB_no (f := upG g ls at_) (by omega) (by omega) (by omega) (fun _ => by omega) (fun _ => by omega))))), r296, (by omega), (by omega)⟩
     ·have q305 := of_decide_eq_false h281
      refine wp_skip ?_
      refine b_n ?_
      refine t_n ?_
      have f306 := f280.sub (r := [(52, .bool (decide ((-(cmpT (upG g ls at_ (gI (gL g.mv (at_)) (k))) ((bestB (upG g ls at_) (gI g.ow at_) ((gL g.mv at_).take k.toNat)).1) 0) : Int) < 0))), (51, .int .i64 (-(cmpT (upG g ls at_ (gI (gL g.mv (at_)) (k))) ((bestB (upG g ls at_) (gI g.ow at_) ((gL g.mv at_).take k.toNat)).1) 0))), (22, .int .i64 (k)), (11, .int .i64 ((bestB (upG g ls at_) (gI g.ow at_) ((gL g.mv at_).take k.toNat)).2)), (21, .int .i64 ((((gL g.mv (at_)).length : Nat) : Int))), (20, .slice R55 ((gL g.mv (at_)).length) C56), (10, .pointer (some ⟨w22.heap.size, 0, none⟩)), (9, .int .i64 (0)), (8, .pointer (some ⟨w11.heap.size, 0, none⟩)), (5, .pointer (some ⟨w1.heap.size, 0, none⟩)), (4, .pointer (some ⟨w.heap.size, 0, none⟩)), (2, .slice As ls.length cs), (3, .int .i64 (at_))]) ⟨rfl, rfl, rfl, rfl, rfl, rfl, rfl, rfl, rfl, rfl, rfl, rfl, rfl, trivial⟩
      clear f280
      refine At.start ?_
      refine At.rd f306 2 [[.as_ (.int .i64 (k + 1))], []] [(22, .int .i64 (k + 1)), (56, .int .i64 (k + 1))] [((.int .i64 (IntKind.i64.wrap (k + 1)) : Value) = .int .i64 (k + 1))] (by kernel_rfl) ⟨(w64 (by omega) (by omega)), trivial⟩ (fun act308 f307 => ?_)
      clear f306
      refine At.done rfl ?_
      refine t_n ?_
      have f309 := f307.as 11 (.int .i64 ((bestB (upG g ls at_) (gI g.ow at_) ((gL g.mv at_).take k.toNat)).2)) (.int .i64 ((bestB (upG g ls at_) (gI g.ow at_) ((gL g.mv at_).take ((k + 1) : Int).toNat)).2)) rfl (congrArg (Value.int .i64) (by first | exact congrArg Prod.snd (bestB_yes (f := upG g ls at_) (by omega) (by omega) (by first | exact .inl (by omega) | exact .inr (.inl ⟨by omega, by omega⟩) | exact .inr (.inr ⟨by omega, by omega⟩))) | exact congrArg Prod.snd (bestB_no (f := upG g ls at_) (by omega) (by omega) (by omega) (fun _ => by omega) (fun _ => by omega))))
      clear f307
      have f310 := f309.sub (r := [(22, .int .i64 (k + 1)), (11, .int .i64 ((bestB (upG g ls at_) (gI g.ow at_) ((gL g.mv at_).take ((k + 1) : Int).toNat)).2)), (21, .int .i64 ((((gL g.mv (at_)).length : Nat) : Int))), (20, .slice R55 ((gL g.mv (at_)).length) C56), (10, .pointer (some ⟨w22.heap.size, 0, none⟩)), (9, .int .i64 (0)), (8, .pointer (some ⟨w11.heap.size, 0, none⟩)), (5, .pointer (some ⟨w1.heap.size, 0, none⟩)), (4, .pointer (some ⟨w.heap.size, 0, none⟩)), (2, .slice As ls.length cs), (3, .int .i64 (at_))]) ⟨rfl, rfl, rfl, rfl, rfl, rfl, rfl, rfl, rfl, rfl, rfl, trivial⟩
      exact ⟨_, (by omega), (k + 1), rfl, f310, e227, r228, r229, bx230, bx231, bx232, (bx233.as (by first | exact tupC_eq (t := upG g ls at_ (gI (gL g.mv at_) k)) (congrArg Prod.fst (bestB_yes (f := upG g ls at_) (by omega) (by omega) (by first | exact .inl (by omega) | exact .inr (.inl ⟨by omega, by omega⟩) | exact .inr (.inr ⟨by omega, by omega⟩)))) | exact tupC_eq (congrArg Prod.fst (bestB_no (f := upG g ls at_) (by omega) (by omega) (by omega) (fun _ => by omega) (fun _ => by omega))))), r234, (by omega), (by omega)⟩
   ·have q311 := ne_of_beq_false h245
    refine wp_skip ?_
    refine t_n ?_
    have f312 := f244.sub (r := [(15, .int .i64 (cmpT (upG g ls at_ (gI (gL g.mv (at_)) (k))) ((bestB (upG g ls at_) (gI g.ow at_) ((gL g.mv at_).take k.toNat)).1) 0)), (14, .pointer (some ⟨b_91, 0, none⟩)), (13, .int .i64 (gI (gL g.mv (at_)) (k))), (22, .int .i64 (k)), (11, .int .i64 ((bestB (upG g ls at_) (gI g.ow at_) ((gL g.mv at_).take k.toNat)).2)), (21, .int .i64 ((((gL g.mv (at_)).length : Nat) : Int))), (20, .slice R55 ((gL g.mv (at_)).length) C56), (10, .pointer (some ⟨w22.heap.size, 0, none⟩)), (9, .int .i64 (0)), (8, .pointer (some ⟨w11.heap.size, 0, none⟩)), (5, .pointer (some ⟨w1.heap.size, 0, none⟩)), (4, .pointer (some ⟨w.heap.size, 0, none⟩)), (2, .slice As ls.length cs), (3, .int .i64 (at_))]) ⟨rfl, rfl, rfl, rfl, rfl, rfl, rfl, rfl, rfl, rfl, rfl, rfl, rfl, rfl, trivial⟩
    clear f244
    refine wp_seq ?_
    refine At.start ?_
    rcases Bool.eq_false_or_eq_true (decide (((bestB (upG g ls at_) (gI g.ow at_) ((gL g.mv at_).take k.toNat)).2 : Int) < 0)) with h313 | h313
    ·have q314 := of_decide_eq_true h313
     refine At.rd f312 6 [[], [], [.as_ (.bool true)], [], [], []] [(53, .bool true), (52, undef), (51, undef), (50, .bool true), (49, .bool (decide (((bestB (upG g ls at_) (gI g.ow at_) ((gL g.mv at_).take k.toNat)).2 : Int) < 0))), (48, .int .i64 ((bestB (upG g ls at_) (gI g.ow at_) ((gL g.mv at_).take k.toNat)).2))] [((.bool (decide (((bestB (upG g ls at_) (gI g.ow at_) ((gL g.mv at_).take k.toNat)).2 : Int) < 0)) : Value) = .bool true)] (by kernel_rfl) ⟨(congrArg Value.bool h313), trivial⟩ (fun act316 f315 => ?_)
     clear f312
     refine At.done rfl ?_
     refine t_n ?_
     have f317 := f315.sub (r := [(53, .bool true), (14, .pointer (some ⟨b_91, 0, none⟩)), (13, .int .i64 (gI (gL g.mv (at_)) (k))), (22, .int .i64 (k)), (11, .int .i64 ((bestB (upG g ls at_) (gI g.ow at_) ((gL g.mv at_).take k.toNat)).2)), (21, .int .i64 ((((gL g.mv (at_)).length : Nat) : Int))), (20, .slice R55 ((gL g.mv (at_)).length) C56), (10, .pointer (some ⟨w22.heap.size, 0, none⟩)), (9, .int .i64 (0)), (8, .pointer (some ⟨w11.heap.size, 0, none⟩)), (5, .pointer (some ⟨w1.heap.size, 0, none⟩)), (4, .pointer (some ⟨w.heap.size, 0, none⟩)), (2, .slice As ls.length cs), (3, .int .i64 (at_))]) ⟨rfl, rfl, rfl, rfl, rfl, rfl, rfl, rfl, rfl, rfl, rfl, rfl, rfl, rfl, trivial⟩
     clear f315
     refine cond_T f317 rfl ?_
     refine At.start ?_
     refine At.rd f317 2 [[.ld (.bool ((upG g ls at_ (gI (gL g.mv (at_)) (k))).top)), .ld (.int .i64 ((upG g ls at_ (gI (gL g.mv (at_)) (k))).c0)), .ld (.int .i64 ((upG g ls at_ (gI (gL g.mv (at_)) (k))).c1)), .ld (.int .i64 ((upG g ls at_ (gI (gL g.mv (at_)) (k))).c2)), .ld (.int .i64 ((upG g ls at_ (gI (gL g.mv (at_)) (k))).c3))], []] [(55, .int .i64 (gI (gL g.mv (at_)) (k))), (54, tupV (upG g ls at_ (gI (gL g.mv (at_)) (k))))] [(w223.cell? ⟨b_91, 0, none⟩ = some (.bool ((upG g ls at_ (gI (gL g.mv (at_)) (k))).top))), (w223.cell? ⟨b_91, 1, none⟩ = some (.int .i64 ((upG g ls at_ (gI (gL g.mv (at_)) (k))).c0))), (w223.cell? ⟨b_91, 2, none⟩ = some (.int .i64 ((upG g ls at_ (gI (gL g.mv (at_)) (k))).c1))), (w223.cell? ⟨b_91, 3, none⟩ = some (.int .i64 ((upG g ls at_ (gI (gL g.mv (at_)) (k))).c2))), (w223.cell? ⟨b_91, 4, none⟩ = some (.int .i64 ((upG g ls at_ (gI (gL g.mv (at_)) (k))).c3)))] (by kernel_rfl) ⟨(bx235.cell (i := 0) rfl), (bx235.cell (i := 1) rfl), (bx235.cell (i := 2) rfl), (bx235.cell (i := 3) rfl), (bx235.cell (i := 4) rfl), trivial⟩ (fun act319 f318 => ?_)
     clear f317
     refine At.store f318 (t := 41) (b := w22.heap.size) (off := 0) (v := tupV (upG g ls at_ (gI (gL g.mv (at_)) (k)))) (by kernel_rfl) bx233 (by kernel_rfl) (fun act324 w320 g321 bx322 f323 => ?_)
     clear f318
     replace bx322 : Bx w320 (w22.heap.size) (tupC (upG g ls at_ (gI (gL g.mv (at_)) (k)))) 41 := bx322
     have szw320 := g321.size
     have e325 := e227.gr g321 (fun k h => by injection h; omega)
     clear e227
     have r326 := r228.gr g321 (fun k h => by injection h; omega)
     clear r228
     have r327 := r229.gr g321 (fun k h => by injection h; omega)
     clear r229
     have bx328 := bx230.gr g321 (fun h => by injection h; omega)
     clear bx230
     have bx329 := bx231.gr g321 (fun h => by injection h; omega)
     clear bx231
     have bx330 := bx232.gr g321 (fun h => by injection h; omega)
     clear bx232
     have r331 := r234.gr g321 (fun k h => by injection h; omega)
     clear r234
     have bx332 := bx235.gr g321 (fun h => by injection h; omega)
     clear bx235
     clear bx233 g321
     refine At.rd f323 1 [[]] [(11, .int .i64 (gI (gL g.mv (at_)) (k)))] [] (by kernel_rfl) trivial (fun act334 f333 => ?_)
     clear f323
     refine At.done rfl ?_
     refine b_n ?_
     refine t_n ?_
     have f335 := f333.sub (r := [(11, .int .i64 (gI (gL g.mv (at_)) (k))), (22, .int .i64 (k)), (21, .int .i64 ((((gL g.mv (at_)).length : Nat) : Int))), (20, .slice R55 ((gL g.mv (at_)).length) C56), (10, .pointer (some ⟨w22.heap.size, 0, none⟩)), (9, .int .i64 (0)), (8, .pointer (some ⟨w11.heap.size, 0, none⟩)), (5, .pointer (some ⟨w1.heap.size, 0, none⟩)), (4, .pointer (some ⟨w.heap.size, 0, none⟩)), (2, .slice As ls.length cs), (3, .int .i64 (at_))]) ⟨rfl, rfl, rfl, rfl, rfl, rfl, rfl, rfl, rfl, rfl, rfl, trivial⟩
     clear f333
     refine At.start ?_
     refine At.rd f335 2 [[.as_ (.int .i64 (k + 1))], []] [(22, .int .i64 (k + 1)), (56, .int .i64 (k + 1))] [((.int .i64 (IntKind.i64.wrap (k + 1)) : Value) = .int .i64 (k + 1))] (by kernel_rfl) ⟨(w64 (by omega) (by omega)), trivial⟩ (fun act337 f336 => ?_)
     clear f335
     refine At.done rfl ?_
     refine t_n ?_
     have f338 := f336.as 11 (.int .i64 (gI (gL g.mv (at_)) (k))) (.int .i64 ((bestB (upG g ls at_) (gI g.ow at_) ((gL g.mv at_).take ((k + 1) : Int).toNat)).2)) rfl (congrArg (Value.int .i64) (by first | exact congrArg Prod.snd (bestB_yes (f := upG g ls at_) (by omega) (by omega) (by first | exact .inl (by omega) | exact .inr (.inl ⟨by omega, by omega⟩) | exact .inr (.inr ⟨by omega, by omega⟩))) | exact congrArg Prod.snd (bestB_no (f := upG g ls at_) (by omega) (by omega) (by omega) (fun _ => by omega) (fun _ => by omega))))
     clear f336
     have f339 := f338.sub (r := [(22, .int .i64 (k + 1)), (11, .int .i64 ((bestB (upG g ls at_) (gI g.ow at_) ((gL g.mv at_).take ((k + 1) : Int).toNat)).2)), (21, .int .i64 ((((gL g.mv (at_)).length : Nat) : Int))), (20, .slice R55 ((gL g.mv (at_)).length) C56), (10, .pointer (some ⟨w22.heap.size, 0, none⟩)), (9, .int .i64 (0)), (8, .pointer (some ⟨w11.heap.size, 0, none⟩)), (5, .pointer (some ⟨w1.heap.size, 0, none⟩)), (4, .pointer (some ⟨w.heap.size, 0, none⟩)), (2, .slice As ls.length cs), (3, .int .i64 (at_))]) ⟨rfl, rfl, rfl, rfl, rfl, rfl, rfl, rfl, rfl, rfl, rfl, trivial⟩
     exact ⟨_, (by omega), (k + 1), rfl, f339, e325, r326, r327, bx328, bx329, bx330, (bx322.as (by first | exact tupC_eq (t := upG g ls at_ (gI (gL g.mv at_) k)) (congrArg Prod.fst (bestB_yes (f := upG g ls at_) (by omega) (by omega) (by first | exact .inl (by omega) | exact .inr (.inl ⟨by omega, by omega⟩) | exact .inr (.inr ⟨by omega, by omega⟩)))) | exact tupC_eq (congrArg Prod.fst (bestB_no (f := upG g ls at_) (by omega) (by omega) (by omega) (fun _ => by omega) (fun _ => by omega))))), r331, (by omega), (by omega)⟩
    ·have q340 := of_decide_eq_false h313
     refine At.rd f312 6 [[], [], [.as_ (.bool false)], [], [], []] [(53, .bool (decide ((cmpT (upG g ls at_ (gI (gL g.mv (at_)) (k))) ((bestB (upG g ls at_) (gI g.ow at_) ((gL g.mv at_).take k.toNat)).1) 0 : Int) < 0))), (52, .bool (decide ((cmpT (upG g ls at_ (gI (gL g.mv (at_)) (k))) ((bestB (upG g ls at_) (gI g.ow at_) ((gL g.mv at_).take k.toNat)).1) 0 : Int) < 0))), (51, .int .i64 (cmpT (upG g ls at_ (gI (gL g.mv (at_)) (k))) ((bestB (upG g ls at_) (gI g.ow at_) ((gL g.mv at_).take k.toNat)).1) 0)), (50, .bool false), (49, .bool (decide (((bestB (upG g ls at_) (gI g.ow at_) ((gL g.mv at_).take k.toNat)).2 : Int) < 0))), (48, .int .i64 ((bestB (upG g ls at_) (gI g.ow at_) ((gL g.mv at_).take k.toNat)).2))] [((.bool (decide (((bestB (upG g ls at_) (gI g.ow at_) ((gL g.mv at_).take k.toNat)).2 : Int) < 0)) : Value) = .bool false)] (by kernel_rfl) ⟨(congrArg Value.bool h313), trivial⟩ (fun act342 f341 => ?_)
     clear f312
     refine At.done rfl ?_
     refine t_n ?_
     have f343 := f341.sub (r := [(53, .bool (decide ((cmpT (upG g ls at_ (gI (gL g.mv (at_)) (k))) ((bestB (upG g ls at_) (gI g.ow at_) ((gL g.mv at_).take k.toNat)).1) 0 : Int) < 0))), (52, .bool (decide ((cmpT (upG g ls at_ (gI (gL g.mv (at_)) (k))) ((bestB (upG g ls at_) (gI g.ow at_) ((gL g.mv at_).take k.toNat)).1) 0 : Int) < 0))), (51, .int .i64 (cmpT (upG g ls at_ (gI (gL g.mv (at_)) (k))) ((bestB (upG g ls at_) (gI g.ow at_) ((gL g.mv at_).take k.toNat)).1) 0)), (14, .pointer (some ⟨b_91, 0, none⟩)), (13, .int .i64 (gI (gL g.mv (at_)) (k))), (22, .int .i64 (k)), (11, .int .i64 ((bestB (upG g ls at_) (gI g.ow at_) ((gL g.mv at_).take k.toNat)).2)), (21, .int .i64 ((((gL g.mv (at_)).length : Nat) : Int))), (20, .slice R55 ((gL g.mv (at_)).length) C56), (10, .pointer (some ⟨w22.heap.size, 0, none⟩)), (9, .int .i64 (0)), (8, .pointer (some ⟨w11.heap.size, 0, none⟩)), (5, .pointer (some ⟨w1.heap.size, 0, none⟩)), (4, .pointer (some ⟨w.heap.size, 0, none⟩)), (2, .slice As ls.length cs), (3, .int .i64 (at_))]) ⟨rfl, rfl, rfl, rfl, rfl, rfl, rfl, rfl, rfl, rfl, rfl, rfl, rfl, rfl, rfl, rfl, trivial⟩
     clear f341
     refine cond_S f343 (t := decide ((cmpT (upG g ls at_ (gI (gL g.mv (at_)) (k))) ((bestB (upG g ls at_) (gI g.ow at_) ((gL g.mv at_).take k.toNat)).1) 0 : Int) < 0)) rfl (fun h344 => ?_) (fun h344 => ?_)
     ·have q345 := of_decide_eq_true h344
      refine At.start ?_
      refine At.rd f343 2 [[.ld (.bool ((upG g ls at_ (gI (gL g.mv (at_)) (k))).top)), .ld (.int .i64 ((upG g ls at_ (gI (gL g.mv (at_)) (k))).c0)), .ld (.int .i64 ((upG g ls at_ (gI (gL g.mv (at_)) (k))).c1)), .ld (.int .i64 ((upG g ls at_ (gI (gL g.mv (at_)) (k))).c2)), .ld (.int .i64 ((upG g ls at_ (gI (gL g.mv (at_)) (k))).c3))], []] [(55, .int .i64 (gI (gL g.mv (at_)) (k))), (54, tupV (upG g ls at_ (gI (gL g.mv (at_)) (k))))] [(w223.cell? ⟨b_91, 0, none⟩ = some (.bool ((upG g ls at_ (gI (gL g.mv (at_)) (k))).top))), (w223.cell? ⟨b_91, 1, none⟩ = some (.int .i64 ((upG g ls at_ (gI (gL g.mv (at_)) (k))).c0))), (w223.cell? ⟨b_91, 2, none⟩ = some (.int .i64 ((upG g ls at_ (gI (gL g.mv (at_)) (k))).c1))), (w223.cell? ⟨b_91, 3, none⟩ = some (.int .i64 ((upG g ls at_ (gI (gL g.mv (at_)) (k))).c2))), (w223.cell? ⟨b_91, 4, none⟩ = some (.int .i64 ((upG g ls at_ (gI (gL g.mv (at_)) (k))).c3)))] (by kernel_rfl) ⟨(bx235.cell (i := 0) rfl), (bx235.cell (i := 1) rfl), (bx235.cell (i := 2) rfl), (bx235.cell (i := 3) rfl), (bx235.cell (i := 4) rfl), trivial⟩ (fun act347 f346 => ?_)
      clear f343
      refine At.store f346 (t := 41) (b := w22.heap.size) (off := 0) (v := tupV (upG g ls at_ (gI (gL g.mv (at_)) (k)))) (by kernel_rfl) bx233 (by kernel_rfl) (fun act352 w348 g349 bx350 f351 => ?_)
      clear f346
      replace bx350 : Bx w348 (w22.heap.size) (tupC (upG g ls at_ (gI (gL g.mv (at_)) (k)))) 41 := bx350
      have szw348 := g349.size
      have e353 := e227.gr g349 (fun k h => by injection h; omega)
      clear e227
      have r354 := r228.gr g349 (fun k h => by injection h; omega)
      clear r228
      have r355 := r229.gr g349 (fun k h => by injection h; omega)
      clear r229
      have bx356 := bx230.gr g349 (fun h => by injection h; omega)
      clear bx230
      have bx357 := bx231.gr g349 (fun h => by injection h; omega)
      clear bx231
      have bx358 := bx232.gr g349 (fun h => by injection h; omega)
      clear bx232
      have r359 := r234.gr g349 (fun k h => by injection h; omega)
      clear r234
      have bx360 := bx235.gr g349 (fun h => by injection h; omega)
      clear bx235
      clear bx233 g349
      refine At.rd f351 1 [[]] [(11, .int .i64 (gI (gL g.mv (at_)) (k)))] [] (by kernel_rfl) trivial (fun act362 f361 => ?_)
      clear f351
      refine At.done rfl ?_
      refine b_n ?_
      refine t_n ?_
      have f363 := f361.sub (r := [(11, .int .i64 (gI (gL g.mv (at_)) (k))), (52, .bool (decide ((cmpT (upG g ls at_ (gI (gL g.mv (at_)) (k))) ((bestB (upG g ls at_) (gI g.ow at_) ((gL g.mv at_).take k.toNat)).1) 0 : Int) < 0))), (51, .int .i64 (cmpT (upG g ls at_ (gI (gL g.mv (at_)) (k))) ((bestB (upG g ls at_) (gI g.ow at_) ((gL g.mv at_).take k.toNat)).1) 0)), (22, .int .i64 (k)), (21, .int .i64 ((((gL g.mv (at_)).length : Nat) : Int))), (20, .slice R55 ((gL g.mv (at_)).length) C56), (10, .pointer (some ⟨w22.heap.size, 0, none⟩)), (9, .int .i64 (0)), (8, .pointer (some ⟨w11.heap.size, 0, none⟩)), (5, .pointer (some ⟨w1.heap.size, 0, none⟩)), (4, .pointer (some ⟨w.heap.size, 0, none⟩)), (2, .slice As ls.length cs), (3, .int .i64 (at_))]) ⟨rfl, rfl, rfl, rfl, rfl, rfl, rfl, rfl, rfl, rfl, rfl, rfl, rfl, trivial⟩
      clear f361
      refine At.start ?_
      refine At.rd f363 2 [[.as_ (.int .i64 (k + 1))], []] [(22, .int .i64 (k + 1)), (56, .int .i64 (k + 1))] [((.int .i64 (IntKind.i64.wrap (k + 1)) : Value) = .int .i64 (k + 1))] (by kernel_rfl) ⟨(w64 (by omega) (by omega)), trivial⟩ (fun act365 f364 => ?_)
      clear f363
      refine At.done rfl ?_
      refine t_n ?_
      have f366 := f364.as 11 (.int .i64 (gI (gL g.mv (at_)) (k))) (.int .i64 ((bestB (upG g ls at_) (gI g.ow at_) ((gL g.mv at_).take ((k + 1) : Int).toNat)).2)) rfl (congrArg (Value.int .i64) (by first | exact congrArg Prod.snd (bestB_yes (f := upG g ls at_) (by omega) (by omega) (by first | exact .inl (by omega) | exact .inr (.inl ⟨by omega, by omega⟩) | exact .inr (.inr ⟨by omega, by omega⟩))) | exact congrArg Prod.snd (bestB_no (f := upG g ls at_) (by omega) (by omega) (by omega) (fun _ => by omega) (fun _ => by omega))))
      clear f364
      have f367 := f366.sub (r := [(22, .int .i64 (k + 1)), (11, .int .i64 ((bestB (upG g ls at_) (gI g.ow at_) ((gL g.mv at_).take ((k + 1) : Int).toNat)).2)), (21, .int .i64 ((((gL g.mv (at_)).length : Nat) : Int))), (20, .slice R55 ((gL g.mv (at_)).length) C56), (10, .pointer (some ⟨w22.heap.size, 0, none⟩)), (9, .int .i64 (0)), (8, .pointer (some ⟨w11.heap.size, 0, none⟩)), (5, .pointer (some ⟨w1.heap.size, 0, none⟩)), (4, .pointer (some ⟨w.heap.size, 0, none⟩)), (2, .slice As ls.length cs), (3, .int .i64 (at_))]) ⟨rfl, rfl, rfl, rfl, rfl, rfl, rfl, rfl, rfl, rfl, rfl, trivial⟩
      exact ⟨_, (by omega), (k + 1), rfl, f367, e353, r354, r355, bx356, bx357, bx358, (bx350.as (by first | exact tupC_eq (t := upG g ls at_ (gI (gL g.mv at_) k)) (congrArg Prod.fst (bestB_yes (f := upG g ls at_) (by omega) (by omega) (by first | exact .inl (by omega) | exact .inr (.inl ⟨by omega, by omega⟩) | exact .inr (.inr ⟨by omega, by omega⟩)))) | exact tupC_eq (congrArg Prod.fst (bestB_no (f := upG g ls at_) (by omega) (by omega) (by omega) (fun _ => by omega) (fun _ => by omega))))), r359, (by omega), (by omega)⟩
     ·have q368 := of_decide_eq_false h344
      refine wp_skip ?_
      refine b_n ?_
      refine t_n ?_
      have f369 := f343.sub (r := [(52, .bool (decide ((cmpT (upG g ls at_ (gI (gL g.mv (at_)) (k))) ((bestB (upG g ls at_) (gI g.ow at_) ((gL g.mv at_).take k.toNat)).1) 0 : Int) < 0))), (51, .int .i64 (cmpT (upG g ls at_ (gI (gL g.mv (at_)) (k))) ((bestB (upG g ls at_) (gI g.ow at_) ((gL g.mv at_).take k.toNat)).1) 0)), (22, .int .i64 (k)), (11, .int .i64 ((bestB (upG g ls at_) (gI g.ow at_) ((gL g.mv at_).take k.toNat)).2)), (21, .int .i64 ((((gL g.mv (at_)).length : Nat) : Int))), (20, .slice R55 ((gL g.mv (at_)).length) C56), (10, .pointer (some ⟨w22.heap.size, 0, none⟩)), (9, .int .i64 (0)), (8, .pointer (some ⟨w11.heap.size, 0, none⟩)), (5, .pointer (some ⟨w1.heap.size, 0, none⟩)), (4, .pointer (some ⟨w.heap.size, 0, none⟩)), (2, .slice As ls.length cs), (3, .int .i64 (at_))]) ⟨rfl, rfl, rfl, rfl, rfl, rfl, rfl, rfl, rfl, rfl, rfl, rfl, rfl, trivial⟩
      clear f343
      refine At.start ?_
      refine At.rd f369 2 [[.as_ (.int .i64 (k + 1))], []] [(22, .int .i64 (k + 1)), (56, .int .i64 (k + 1))] [((.int .i64 (IntKind.i64.wrap (k + 1)) : Value) = .int .i64 (k + 1))] (by kernel_rfl) ⟨(w64 (by omega) (by omega)), trivial⟩ (fun act371 f370 => ?_)
      clear f369
      refine At.done rfl ?_
      refine t_n ?_
      have f372 := f370.as 11 (.int .i64 ((bestB (upG g ls at_) (gI g.ow at_) ((gL g.mv at_).take k.toNat)).2)) (.int .i64 ((bestB (upG g ls at_) (gI g.ow at_) ((gL g.mv at_).take ((k + 1) : Int).toNat)).2)) rfl (congrArg (Value.int .i64) (by first | exact congrArg Prod.snd (bestB_yes (f := upG g ls at_) (by omega) (by omega) (by first | exact .inl (by omega) | exact .inr (.inl ⟨by omega, by omega⟩) | exact .inr (.inr ⟨by omega, by omega⟩))) | exact congrArg Prod.snd (bestB_no (f := upG g ls at_) (by omega) (by omega) (by omega) (fun _ => by omega) (fun _ => by omega))))
      clear f370
      have f373 := f372.sub (r := [(22, .int .i64 (k + 1)), (11, .int .i64 ((bestB (upG g ls at_) (gI g.ow at_) ((gL g.mv at_).take ((k + 1) : Int).toNat)).2)), (21, .int .i64 ((((gL g.mv (at_)).length : Nat) : Int))), (20, .slice R55 ((gL g.mv (at_)).length) C56), (10, .pointer (some ⟨w22.heap.size, 0, none⟩)), (9, .int .i64 (0)), (8, .pointer (some ⟨w11.heap.size, 0, none⟩)), (5, .pointer (some ⟨w1.heap.size, 0, none⟩)), (4, .pointer (some ⟨w.heap.size, 0, none⟩)), (2, .slice As ls.length cs), (3, .int .i64 (at_))]) ⟨rfl, rfl, rfl, rfl, rfl, rfl, rfl, rfl, rfl, rfl, rfl, trivial⟩
      exact ⟨_, (by omega), (k + 1), rfl, f373, e227, r228, r229, bx230, bx231, bx232, (bx233.as (by first | exact tupC_eq (t := upG g ls at_ (gI (gL g.mv at_) k)) (congrArg Prod.fst (bestB_yes (f := upG g ls at_) (by omega) (by omega) (by first | exact .inl (by omega) | exact .inr (.inl ⟨by omega, by omega⟩) | exact .inr (.inr ⟨by omega, by omega⟩)))) | exact tupC_eq (congrArg Prod.fst (bestB_no (f := upG g ls at_) (by omega) (by omega) (by omega) (fun _ => by omega) (fun _ => by omega))))), r234, (by omega), (by omega)⟩
 ·have q374 := of_decide_eq_false h82
  refine wp_exit ?_
  refine t_e ?_
  refine t_e ?_
  refine b_e ?_
  refine t_n ?_
  have f375 := f80.sub (r := [(11, .int .i64 ((bestB (upG g ls at_) (gI g.ow at_) ((gL g.mv at_).take k.toNat)).2)), (10, .pointer (some ⟨w22.heap.size, 0, none⟩)), (8, .pointer (some ⟨w11.heap.size, 0, none⟩))]) ⟨rfl, rfl, rfl, trivial⟩
  clear f80
  refine wp_seq ?_
  refine At.start ?_
  refine At.rd f375 2 [[.ld (.bool ((bestB (upG g ls at_) (gI g.ow at_) ((gL g.mv at_).take k.toNat)).1.top)), .ld (.int .i64 ((bestB (upG g ls at_) (gI g.ow at_) ((gL g.mv at_).take k.toNat)).1.c0)), .ld (.int .i64 ((bestB (upG g ls at_) (gI g.ow at_) ((gL g.mv at_).take k.toNat)).1.c1)), .ld (.int .i64 ((bestB (upG g ls at_) (gI g.ow at_) ((gL g.mv at_).take k.toNat)).1.c2)), .ld (.int .i64 ((bestB (upG g ls at_) (gI g.ow at_) ((gL g.mv at_).take k.toNat)).1.c3))], []] [(58, .int .i64 ((bestB (upG g ls at_) (gI g.ow at_) ((gL g.mv at_).take k.toNat)).2)), (57, tupV ((bestB (upG g ls at_) (gI g.ow at_) ((gL g.mv at_).take k.toNat)).1))] [(w67.cell? ⟨w22.heap.size, 0, none⟩ = some (.bool ((bestB (upG g ls at_) (gI g.ow at_) ((gL g.mv at_).take k.toNat)).1.top))), (w67.cell? ⟨w22.heap.size, 1, none⟩ = some (.int .i64 ((bestB (upG g ls at_) (gI g.ow at_) ((gL g.mv at_).take k.toNat)).1.c0))), (w67.cell? ⟨w22.heap.size, 2, none⟩ = some (.int .i64 ((bestB (upG g ls at_) (gI g.ow at_) ((gL g.mv at_).take k.toNat)).1.c1))), (w67.cell? ⟨w22.heap.size, 3, none⟩ = some (.int .i64 ((bestB (upG g ls at_) (gI g.ow at_) ((gL g.mv at_).take k.toNat)).1.c2))), (w67.cell? ⟨w22.heap.size, 4, none⟩ = some (.int .i64 ((bestB (upG g ls at_) (gI g.ow at_) ((gL g.mv at_).take k.toNat)).1.c3)))] (by kernel_rfl) ⟨(bx76.cell (i := 0) rfl), (bx76.cell (i := 1) rfl), (bx76.cell (i := 2) rfl), (bx76.cell (i := 3) rfl), (bx76.cell (i := 4) rfl), trivial⟩ (fun act377 f376 => ?_)
  clear f375
  refine At.store f376 (t := 41) (b := w11.heap.size) (off := 0) (v := tupV ((bestB (upG g ls at_) (gI g.ow at_) ((gL g.mv at_).take k.toNat)).1)) (by kernel_rfl) bx75 (by kernel_rfl) (fun act382 w378 g379 bx380 f381 => ?_)
  clear f376
  replace bx380 : Bx w378 (w11.heap.size) (tupC ((bestB (upG g ls at_) (gI g.ow at_) ((gL g.mv at_).take k.toNat)).1)) 41 := bx380
  have szw378 := g379.size
  have e383 := e68.gr g379 (fun k h => by injection h; omega)
  clear e68
  have r384 := r71.gr g379 (fun k h => by injection h; omega)
  clear r71
  have r385 := r72.gr g379 (fun k h => by injection h; omega)
  clear r72
  have bx386 := bx73.gr g379 (fun h => by injection h; omega)
  clear bx73
  have bx387 := bx74.gr g379 (fun h => by injection h; omega)
  clear bx74
  have bx388 := bx76.gr g379 (fun h => by injection h; omega)
  clear bx76
  have r389 := r77.gr g379 (fun k h => by injection h; omega)
  clear r77
  clear bx75 g379
  refine At.rd f381 1 [[]] [(9, .int .i64 ((bestB (upG g ls at_) (gI g.ow at_) ((gL g.mv at_).take k.toNat)).2))] [] (by kernel_rfl) trivial (fun act391 f390 => ?_)
  clear f381
  refine At.done rfl ?_
  refine t_n ?_
  have f392 := f390.sub (r := [(9, .int .i64 ((bestB (upG g ls at_) (gI g.ow at_) ((gL g.mv at_).take k.toNat)).2)), (8, .pointer (some ⟨w11.heap.size, 0, none⟩))]) ⟨rfl, rfl, trivial⟩
  clear f390
  refine wp_ret ?_
  refine ret_ f392 [[.bool ((bestB (upG g ls at_) (gI g.ow at_) ((gL g.mv at_).take k.toNat)).1.top), .int .i64 ((bestB (upG g ls at_) (gI g.ow at_) ((gL g.mv at_).take k.toNat)).1.c0), .int .i64 ((bestB (upG g ls at_) (gI g.ow at_) ((gL g.mv at_).take k.toNat)).1.c1), .int .i64 ((bestB (upG g ls at_) (gI g.ow at_) ((gL g.mv at_).take k.toNat)).1.c2), .int .i64 ((bestB (upG g ls at_) (gI g.ow at_) ((gL g.mv at_).take k.toNat)).1.c3)]] [tupV ((bestB (upG g ls at_) (gI g.ow at_) ((gL g.mv at_).take k.toNat)).1), .int .i64 ((bestB (upG g ls at_) (gI g.ow at_) ((gL g.mv at_).take k.toNat)).2)] [(w378.cell? ⟨w11.heap.size, 0, none⟩ = some (.bool ((bestB (upG g ls at_) (gI g.ow at_) ((gL g.mv at_).take k.toNat)).1.top))), (w378.cell? ⟨w11.heap.size, 1, none⟩ = some (.int .i64 ((bestB (upG g ls at_) (gI g.ow at_) ((gL g.mv at_).take k.toNat)).1.c0))), (w378.cell? ⟨w11.heap.size, 2, none⟩ = some (.int .i64 ((bestB (upG g ls at_) (gI g.ow at_) ((gL g.mv at_).take k.toNat)).1.c1))), (w378.cell? ⟨w11.heap.size, 3, none⟩ = some (.int .i64 ((bestB (upG g ls at_) (gI g.ow at_) ((gL g.mv at_).take k.toNat)).1.c2))), (w378.cell? ⟨w11.heap.size, 4, none⟩ = some (.int .i64 ((bestB (upG g ls at_) (gI g.ow at_) ((gL g.mv at_).take k.toNat)).1.c3)))] (by kernel_rfl) ⟨(bx380.cell (i := 0) rfl), (bx380.cell (i := 1) rfl), (bx380.cell (i := 2) rfl), (bx380.cell (i := 3) rfl), (bx380.cell (i := 4) rfl), trivial⟩ ?_
  exact ⟨best_ret (bestB_all (by omega)), e383⟩

end Go.Proofs.Ytklbpajmoklheaa
