/-
  A walk of a Go function, printed by a program of this repo. Conditions: what the theorems name.
-/
import Derived.Test.YtklbpajmoklheaaPureBest
import Derived.Test.YtklbpajmoklheaaWUp
import Derived.Test.YtklbpajmoklheaaWRight2
set_option linter.unusedVariables false
set_option linter.unusedSimpArgs false
namespace Go.Proofs.Ytklbpajmoklheaa
open Go Go.RowKit

set_option maxHeartbeats 4000000 in
theorem rightM_any {Ag0 Ag1 Ag2 : Option Addr} {cg0 cg1 cg2 : Nat} {g : GameL} {As : Option Addr} {cs : Nat} {ls : List Tup} {w : World} (rg : RdG w 0 w.heap.size Ag0 Ag1 Ag2 cg0 cg1 cg2 g) (rs : RdR w 0 w.heap.size As ls) :
    Calls Try.prog 45 #[.agg #[.slice Ag0 g.ow.length cg0, .slice Ag1 g.pr.length cg1, .slice Ag2 g.mv.length cg2], .slice As ls.length cs] w fun e w' => e = .returned (.bool (isR g && decide (ls.length = g.ow.length))) ∧ Ext w w' := by
  have hlg0 := rg.ow.len
  have hlg1 := rg.pr.len
  have hlg2 := rg.mv.len
  have hkg0 := rg.k0
  have hkg1 := rg.k1
  have hkg2 := rg.k2
  have hls := rs.len
  simp only [Enc.bytes] at hls
  refine enter_ (args := [.agg #[.slice Ag0 g.ow.length cg0, .slice Ag1 g.pr.length cg1, .slice Ag2 g.mv.length cg2], .slice As ls.length cs]) Try.func45 rfl Try.ntmps45 (Nat.le_of_ble_eq_true rfl) (fun act0 f0 => ?_)
  have e0 := Ext.refl w
  refine wp_seq ?_
  refine At.start ?_
  refine At.seq f0 1 [[]] [(2, .pointer (some ⟨w.heap.size, 0, none⟩))] (w.alloc (.cells #[.slice Ag0 g.ow.length cg0, .slice Ag1 g.pr.length cg1, .slice Ag2 g.mv.length cg2] 25 (0, 0))) [] (by kernel_rfl) trivial (fun act4 w1 hw2 f3 => ?_)
  clear f0
  have g5 := gr_alloc hw2
  have szw1 := g5.size
  have e7 := e0.gr g5 no_row
  clear e0
  have r8 := rg.gr g5 (fun _ h => by cases h)
  clear rg
  have r9 := rs.gr g5 (fun _ h => by cases h)
  clear rs
  have bx10 : Bx w1 (w.heap.size) [.slice Ag0 g.ow.length cg0, .slice Ag1 g.pr.length cg1, .slice Ag2 g.mv.length cg2] 25 := Bx.new hw2
  have := bx10.lt
  clear g5 hw2
  refine At.rd f3 1 [[]] [(4, .bool false)] [] (by kernel_rfl) trivial (fun act12 f11 => ?_)
  clear f3
  refine At.done rfl ?_
  refine t_n ?_
  have f13 := f11.sub (r := [(4, .bool false), (2, .pointer (some ⟨w.heap.size, 0, none⟩)), (1, .slice As ls.length cs)]) ⟨rfl, rfl, rfl, trivial⟩
  clear f11
  refine wp_seq ?_
  refine At.start ?_
  refine At.rd f13 1 [[.ld (.slice Ag0 g.ow.length cg0), .ld (.slice Ag1 g.pr.length cg1), .ld (.slice Ag2 g.mv.length cg2)]] [(8, .agg #[.slice Ag0 g.ow.length cg0, .slice Ag1 g.pr.length cg1, .slice Ag2 g.mv.length cg2])] [(w1.cell? ⟨w.heap.size, 0, none⟩ = some (.slice Ag0 g.ow.length cg0)), (w1.cell? ⟨w.heap.size, 1, none⟩ = some (.slice Ag1 g.pr.length cg1)), (w1.cell? ⟨w.heap.size, 2, none⟩ = some (.slice Ag2 g.mv.length cg2))] (by kernel_rfl) ⟨(bx10.cell (i := 0) rfl), (bx10.cell (i := 1) rfl), (bx10.cell (i := 2) rfl), trivial⟩ (fun act15 f14 => ?_)
  clear f13
  refine At.call f14 36 #[.agg #[.slice Ag0 g.ow.length cg0, .slice Ag1 g.pr.length cg1, .slice Ag2 g.mv.length cg2]] (some 9) (by kernel_rfl) (right_any (r8.wide (Nat.zero_le _) (by omega))) ?_
  rintro e_ w16 ⟨rfl, he⟩
  refine ⟨_, rfl, _, rfl, fun act17 f18 => ?_⟩
  clear f14
  have g19 := gr_ext he
  have szw16 := g19.size
  have e20 := e7.gr g19 no_row
  clear e7
  have r21 := r8.gr g19 (fun _ h => by cases h)
  clear r8
  have r22 := r9.gr g19 (fun _ h => by cases h)
  clear r9
  have bx23 := bx10.gr g19 (by simp)
  clear bx10
  clear g19 he
  refine At.rd f18 5 [[], [], [], [], []] [(6, .int .i64 ((rightP g).2)), (5, .int .i64 ((rightP g).1)), (11, .int .i64 ((rightP g).2)), (10, .int .i64 ((rightP g).1)), (7, .tuple #[.int .i64 ((rightP g).1), .int .i64 ((rightP g).2)])] [] (by kernel_rfl) trivial (fun act25 f24 => ?_)
  clear f18
  refine At.done rfl ?_
  refine t_n ?_
  have f26 := f24.sub (r := [(6, .int .i64 ((rightP g).2)), (4, .bool false), (2, .pointer (some ⟨w.heap.size, 0, none⟩)), (1, .slice As ls.length cs)]) ⟨rfl, rfl, rfl, rfl, trivial⟩
  clear f24
  refine wp_seq ?_
  refine At.start ?_
  rcases Bool.eq_false_or_eq_true (((rightP g).2 : Int) == 0) with h27 | h27
  · have q28 := eq_of_beq h27
    refine At.rd f26 11 [[], [], [.as_ (.bool true)], [], [], [], [.ld (.slice Ag0 g.ow.length cg0)], [], [], [], []] [(4, .bool ((((ls.length : Nat) : Int) : Int) == ((g.ow.length : Nat) : Int))), (21, .bool ((((ls.length : Nat) : Int) : Int) == ((g.ow.length : Nat) : Int))), (20, .bool ((((ls.length : Nat) : Int) : Int) == ((g.ow.length : Nat) : Int))), (19, .int .i64 (((g.ow.length : Nat) : Int))), (18, .slice Ag0 g.ow.length cg0), (17, .pointer (some ⟨w.heap.size, 0, none⟩)), (16, .int .i64 (((ls.length : Nat) : Int))), (15, .slice As ls.length cs), (14, .bool true), (13, .bool (((rightP g).2 : Int) == 0)), (12, .int .i64 ((rightP g).2))] [((.bool (((rightP g).2 : Int) == 0) : Value) = .bool true), (w16.cell? ⟨w.heap.size, 0, none⟩ = some (.slice Ag0 g.ow.length cg0))] (by kernel_rfl) ⟨(congrArg Value.bool h27), (bx23.cell (i := 0) rfl), trivial⟩ (fun act30 f29 => ?_)
    clear f26
    refine At.done rfl ?_
    refine t_n ?_
    have f31 := f29.sub (r := [(4, .bool ((((ls.length : Nat) : Int) : Int) == ((g.ow.length : Nat) : Int)))]) ⟨rfl, trivial⟩
    clear f29
    refine wp_ret ?_
    refine ret_ f31 [] [.bool ((((ls.length : Nat) : Int) : Int) == ((g.ow.length : Nat) : Int))] [] (by kernel_rfl) trivial ?_
    exact ⟨ret_eq (congrArg Value.bool (by first | exact right_t (by omega) | exact right_f (by assumption))), e20⟩
  · have q32 := ne_of_beq_false h27
    refine At.rd f26 11 [[], [], [.as_ (.bool false)], [], [], [], [], [], [], [], []] [(4, .bool false), (21, .bool false), (20, undef), (19, undef), (18, undef), (17, undef), (16, undef), (15, undef), (14, .bool false), (13, .bool (((rightP g).2 : Int) == 0)), (12, .int .i64 ((rightP g).2))] [((.bool (((rightP g).2 : Int) == 0) : Value) = .bool false)] (by kernel_rfl) ⟨(congrArg Value.bool h27), trivial⟩ (fun act34 f33 => ?_)
    clear f26
    refine At.done rfl ?_
    refine t_n ?_
    have f35 := f33.sub (r := [(4, .bool false)]) ⟨rfl, trivial⟩
    clear f33
    refine wp_ret ?_
    refine ret_ f35 [] [.bool false] [] (by kernel_rfl) trivial ?_
    exact ⟨ret_eq (congrArg Value.bool (by first | exact right_t (by omega) | exact right_f (by assumption))), e20⟩

set_option maxHeartbeats 4000000 in
theorem best_any {Ag0 Ag1 Ag2 : Option Addr} {cg0 cg1 cg2 : Nat} {g : GameL} {As : Option Addr} {cs : Nat} {ls : List Tup} {at_ : Int} {w : World} (rg : RdG w 0 w.heap.size Ag0 Ag1 Ag2 cg0 cg1 cg2 g) (rs : RdR w 0 w.heap.size As ls) (hG : RightG g) (hl : ls.length = g.ow.length) (hok : okL ls) (ha0 : 0 ≤ at_) (ha1 : at_ < (ls.length : Int)) :
    Calls Try.prog 47 #[.agg #[.slice Ag0 g.ow.length cg0, .slice Ag1 g.pr.length cg1, .slice Ag2 g.mv.length cg2], .agg #[.int .i64 (cnt g.pr 1), .int .i64 (cnt g.pr 3), .int .i64 (cnt g.pr 5), .int .i64 (cnt g.pr 7)], .slice As ls.length cs, .int .i64 (at_)] w fun e w' => e = .returned (.tuple #[.agg #[.bool (bestB (upG g ls at_) (gI g.ow at_) (gL g.mv at_)).1.top, .int .i64 (bestB (upG g ls at_) (gI g.ow at_) (gL g.mv at_)).1.c0, .int .i64 (bestB (upG g ls at_) (gI g.ow at_) (gL g.mv at_)).1.c1, .int .i64 (bestB (upG g ls at_) (gI g.ow at_) (gL g.mv at_)).1.c2, .int .i64 (bestB (upG g ls at_) (gI g.ow at_) (gL g.mv at_)).1.c3], .int .i64 (bestB (upG g ls at_) (gI g.ow at_) (gL g.mv at_)).2]) ∧ Ext w w' := by
  have hlg0 := rg.ow.len
  have hlg1 := rg.pr.len
  have hlg2 := rg.mv.len
  have hkg0 := rg.k0
  have hkg1 := rg.k1
  have hkg2 := rg.k2
  have hls := rs.len
  simp only [Enc.bytes] at hls
  have hpl := hG.pl
  have hml := hG.ml
  have hn1 := hG.n1
  have hmv := hG.mv at_ ha0 (by omega)
  have hc1 := cnt_le g.pr 1
  have hc3 := cnt_le g.pr 3
  have hc5 := cnt_le g.pr 5
  have hc7 := cnt_le g.pr 7
  refine enter_ (args := [.agg #[.slice Ag0 g.ow.length cg0, .slice Ag1 g.pr.length cg1, .slice Ag2 g.mv.length cg2], .agg #[.int .i64 (cnt g.pr 1), .int .i64 (cnt g.pr 3), .int .i64 (cnt g.pr 5), .int .i64 (cnt g.pr 7)], .slice As ls.length cs, .int .i64 (at_)]) Try.func47 rfl Try.ntmps47 (Nat.le_of_ble_eq_true rfl) (fun act0 f0 => ?_)
  have e0 := Ext.refl w
  refine wp_seq ?_
  refine At.start ?_
  refine At.seq f0 1 [[]] [(4, .pointer (some ⟨w.heap.size, 0, none⟩))] (w.alloc (.cells #[.slice Ag0 g.ow.length cg0, .slice Ag1 g.pr.length cg1, .slice Ag2 g.mv.length cg2] 25 (0, 0))) [] (by kernel_rfl) trivial (fun act4 w1 hw2 f3 => ?_)
  clear f0
  have g5 := gr_alloc hw2
  have szw1 := g5.size
  have e7 := e0.gr g5 no_row
  clear e0
  have r8 := rg.gr g5 (fun _ h => by cases h)
  clear rg
  have r9 := rs.gr g5 (fun _ h => by cases h)
  clear rs
  have bx10 : Bx w1 (w.heap.size) [.slice Ag0 g.ow.length cg0, .slice Ag1 g.pr.length cg1, .slice Ag2 g.mv.length cg2] 25 := Bx.new hw2
  have := bx10.lt
  clear g5 hw2
  refine At.seq f3 1 [[]] [(5, .pointer (some ⟨w1.heap.size, 0, none⟩))] (w1.alloc (.cells #[.int .i64 (cnt g.pr 1), .int .i64 (cnt g.pr 3), .int .i64 (cnt g.pr 5), .int .i64 (cnt g.pr 7)] 38 (0, 0))) [] (by kernel_rfl) trivial (fun act14 w11 hw12 f13 => ?_)
  clear f3
  have g15 := gr_alloc hw12
  have szw11 := g15.size
  have e17 := e7.gr g15 no_row
  clear e7
  have r18 := r8.gr g15 (fun _ h => by cases h)
  clear r8
  have r19 := r9.gr g15 (fun _ h => by cases h)
  clear r9
  have bx20 := bx10.gr g15 (by simp)
  clear bx10
  have bx21 : Bx w11 (w1.heap.size) [.int .i64 (cnt g.pr 1), .int .i64 (cnt g.pr 3), .int .i64 (cnt g.pr 5), .int .i64 (cnt g.pr 7)] 38 := Bx.new hw12
  have := bx21.lt
  clear g15 hw12
  refine At.seq f13 1 [[]] [(8, .pointer (some ⟨w11.heap.size, 0, none⟩))] (w11.alloc (.cells #[.bool false, .int .i64 (0), .int .i64 (0), .int .i64 (0), .int .i64 (0)] 41 (0, 0))) [] (by kernel_rfl) trivial (fun act25 w22 hw23 f24 => ?_)
  clear f13
  have g26 := gr_alloc hw23
  have szw22 := g26.size
  have e28 := e17.gr g26 no_row
  clear e17
  have r29 := r18.gr g26 (fun _ h => by cases h)
  clear r18
  have r30 := r19.gr g26 (fun _ h => by cases h)
  clear r19
  have bx31 := bx20.gr g26 (by simp)
  clear bx20
  have bx32 := bx21.gr g26 (by simp)
  clear bx21
  have bx33 : Bx w22 (w11.heap.size) [.bool false, .int .i64 (0), .int .i64 (0), .int .i64 (0), .int .i64 (0)] 41 := Bx.new hw23
  have := bx33.lt
  clear g26 hw23
  refine At.rd f24 1 [[]] [(9, .int .i64 (0))] [] (by kernel_rfl) trivial (fun act35 f34 => ?_)
  clear f24
  refine At.done rfl ?_
  refine t_n ?_
  have f36 := f34.sub (r := [(9, .int .i64 (0)), (8, .pointer (some ⟨w11.heap.size, 0, none⟩)), (5, .pointer (some ⟨w1.heap.size, 0, none⟩)), (4, .pointer (some ⟨w.heap.size, 0, none⟩)), (2, .slice As ls.length cs), (3, .int .i64 (at_))]) ⟨rfl, rfl, rfl, rfl, rfl, rfl, trivial⟩
  clear f34
  refine wp_seq ?_
  refine At.start ?_
  refine At.seq f36 1 [[]] [(10, .pointer (some ⟨w22.heap.size, 0, none⟩))] (w22.alloc (.cells #[.bool false, .int .i64 (0), .int .i64 (0), .int .i64 (0), .int .i64 (0)] 41 (0, 0))) [] (by kernel_rfl) trivial (fun act40 w37 hw38 f39 => ?_)
  clear f36
  have g41 := gr_alloc hw38
  have szw37 := g41.size
  have e43 := e28.gr g41 no_row
  clear e28
  have r44 := r29.gr g41 (fun _ h => by cases h)
  clear r29
  have r45 := r30.gr g41 (fun _ h => by cases h)
  clear r30
  have bx46 := bx31.gr g41 (by simp)
  clear bx31
  have bx47 := bx32.gr g41 (by simp)
  clear bx32
  have bx48 := bx33.gr g41 (by simp)
  clear bx33
  have bx49 : Bx w37 (w22.heap.size) [.bool false, .int .i64 (0), .int .i64 (0), .int .i64 (0), .int .i64 (0)] 41 := Bx.new hw38
  have := bx49.lt
  clear g41 hw38
  refine At.done rfl ?_
  refine t_n ?_
  refine wp_seq ?_
  refine At.start ?_
  refine At.rd f39 1 [[]] [(11, .int .i64 (-1))] [] (by kernel_rfl) trivial (fun act51 f50 => ?_)
  clear f39
  refine At.done rfl ?_
  refine t_n ?_
  refine wp_seq ?_
  refine wp_seq ?_
  refine At.start ?_
  obtain ⟨ad52, R55, C56, hA53, _, _, hc54, hC57, r58⟩ := RdII.get r44.mv (at_) (by omega) (by omega)
  have hl59 := r58.len
  refine At.rd f50 7 [[], [.ld (.slice Ag2 g.mv.length cg2)], [], [.ad ad52], [.ld (.slice R55 ((gL g.mv (at_)).length) C56)], [], []] [(22, .int .i64 (0)), (21, .int .i64 ((((gL g.mv (at_)).length : Nat) : Int))), (20, .slice R55 ((gL g.mv (at_)).length) C56), (19, .pointer (some (ad52.add ((at_ : Int).toNat * 1)))), (18, .int .i64 (at_)), (17, .slice Ag2 g.mv.length cg2), (16, .pointer (some ⟨w.heap.size, 2, none⟩))] [(w37.cell? ⟨w.heap.size, 2, none⟩ = some (.slice Ag2 g.mv.length cg2)), (Ag2 = some ad52), (0 ≤ (at_ : Int)), ((at_ : Int) < (g.mv.length : Nat)), (w37.cell? (ad52.add ((at_ : Int).toNat * 1)) = some (.slice R55 ((gL g.mv (at_)).length) C56))] (by kernel_rfl) ⟨(bx46.cell (i := 2) rfl), hA53, (by omega), (by omega), hc54, trivial⟩ (fun act62 f61 => ?_)
  clear f50
  refine At.done rfl ?_
  refine t_n ?_
  have f63 := f61.sub (r := [(22, .int .i64 (0)), (21, .int .i64 ((((gL g.mv (at_)).length : Nat) : Int))), (20, .slice R55 ((gL g.mv (at_)).length) C56), (11, .int .i64 (-1)), (10, .pointer (some ⟨w22.heap.size, 0, none⟩)), (9, .int .i64 (0)), (8, .pointer (some ⟨w11.heap.size, 0, none⟩)), (5, .pointer (some ⟨w1.heap.size, 0, none⟩)), (4, .pointer (some ⟨w.heap.size, 0, none⟩)), (2, .slice As ls.length cs), (3, .int .i64 (at_))]) ⟨rfl, rfl, rfl, rfl, rfl, rfl, rfl, rfl, rfl, rfl, rfl, trivial⟩
  clear f61
  refine wp_block ?_
  have f65 := f63.as 11 (.int .i64 (-1)) (.int .i64 ((bestB (upG g ls at_) (gI g.ow at_) ((gL g.mv at_).take (0 : Int).toNat)).2)) rfl (congrArg (Value.int .i64) (by rw [bestB_zero]))
  clear f63
  have f64 := f65.sub (r := [(22, .int .i64 (0)), (11, .int .i64 ((bestB (upG g ls at_) (gI g.ow at_) ((gL g.mv at_).take (0 : Int).toNat)).2)), (21, .int .i64 ((((gL g.mv (at_)).length : Nat) : Int))), (20, .slice R55 ((gL g.mv (at_)).length) C56), (10, .pointer (some ⟨w22.heap.size, 0, none⟩)), (9, .int .i64 (0)), (8, .pointer (some ⟨w11.heap.size, 0, none⟩)), (5, .pointer (some ⟨w1.heap.size, 0, none⟩)), (4, .pointer (some ⟨w.heap.size, 0, none⟩)), (2, .slice As ls.length cs), (3, .int .i64 (at_))]) ⟨rfl, rfl, rfl, rfl, rfl, rfl, rfl, rfl, rfl, rfl, rfl, trivial⟩
  refine loop_g (fun (m_ : Nat) a_ w_ => ∃ (k : Int), m_ = (((gL g.mv at_).length : Int) - k).toNat ∧ (Frm 59 a_ [(22, .int .i64 (k)), (11, .int .i64 ((bestB (upG g ls at_) (gI g.ow at_) ((gL g.mv at_).take k.toNat)).2)), (21, .int .i64 ((((gL g.mv (at_)).length : Nat) : Int))), (20, .slice R55 ((gL g.mv (at_)).length) C56), (10, .pointer (some ⟨w22.heap.size, 0, none⟩)), (9, .int .i64 (0)), (8, .pointer (some ⟨w11.heap.size, 0, none⟩)), (5, .pointer (some ⟨w1.heap.size, 0, none⟩)), (4, .pointer (some ⟨w.heap.size, 0, none⟩)), (2, .slice As ls.length cs), (3, .int .i64 (at_))]) ∧ (Ext w w_) ∧ (RdG w_ 0 w.heap.size Ag0 Ag1 Ag2 cg0 cg1 cg2 g) ∧ (RdR w_ 0 w.heap.size As (ls : List Tup)) ∧ (Bx w_ (w.heap.size) [.slice Ag0 g.ow.length cg0, .slice Ag1 g.pr.length cg1, .slice Ag2 g.mv.length cg2] 25) ∧ (Bx w_ (w1.heap.size) [.int .i64 (cnt g.pr 1), .int .i64 (cnt g.pr 3), .int .i64 (cnt g.pr 5), .int .i64 (cnt g.pr 7)] 38) ∧ (Bx w_ (w11.heap.size) [.bool false, .int .i64 (0), .int .i64 (0), .int .i64 (0), .int .i64 (0)] 41) ∧ (Bx w_ (w22.heap.size) (tupC ((bestB (upG g ls at_) (gI g.ow at_) ((gL g.mv at_).take k.toNat)).1)) 41) ∧ (RdI w_ 0 w.heap.size R55 (gL g.mv (at_))) ∧ (0 ≤ k) ∧ (k ≤ ((gL g.mv at_).length : Int))) _ ⟨0, rfl, f64, e43, r44, r45, bx46, bx47, bx48, (bx49.as (tupC_eq (t := tup0) (by rw [bestB_zero]))), r58, (by omega), (Int.natCast_nonneg _)⟩ ?_
  clear f64 f65
  clear r44
  clear r45
  clear bx46
  clear bx47
  clear bx48
  clear bx49
  clear r58
  clear e43
  intro m_ act66 w67 ⟨k, hm69, f70, e68, r71, r72, bx73, bx74, bx75, bx76, r77, i78, i79⟩
  have szw67 := e68.size
  have := bx73.lt
  have := bx74.lt
  have := bx75.lt
  have := bx76.lt
  refine wp_seq ?_
  refine At.start ?_
  refine At.rd f70 1 [[]] [(23, .bool (decide ((k : Int) < (((gL g.mv (at_)).length : Nat) : Int))))] [] (by kernel_rfl) trivial (fun act81 f80 => ?_)
  clear f70
  refine At.done rfl ?_
  refine t_n ?_
  refine wp_seq ?_
  refine cond_S f80 (t := decide ((k : Int) < (((gL g.mv (at_)).length : Nat) : Int))) rfl (fun h82 => ?_) (fun h82 => ?_)
  · have q83 := of_decide_eq_true h82
    refine wp_skip ?_
    refine t_n ?_
    refine wp_seq ?_
    refine wp_block ?_
    refine wp_seq ?_
    refine At.start ?_
    obtain ⟨ad84, hA85, _, _, hc86⟩ := RdI.get r77 (k) (by omega) (by omega)
    refine At.rd f80 3 [[.ad ad84], [.ld (.int .i64 (gI (gL g.mv (at_)) (k)))], []] [(13, .int .i64 (gI (gL g.mv (at_)) (k))), (25, .int .i64 (gI (gL g.mv (at_)) (k))), (24, .pointer (some (ad84.add ((k : Int).toNat * 1))))] [(R55 = some ad84), (0 ≤ (k : Int)), ((k : Int) < ((gL g.mv (at_)).length : Nat)), (w67.cell? (ad84.add ((k : Int).toNat * 1)) = some (.int .i64 (gI (gL g.mv (at_)) (k))))] (by kernel_rfl) ⟨hA85, (by omega), (by omega), hc86, trivial⟩ (fun act88 f87 => ?_)
    clear f80
    refine At.done rfl ?_
    refine t_n ?_
    refine wp_seq ?_
    have hmk := hmv k (by omega) (by omega)
    obtain ⟨ad89, hA90, _, _, hc91⟩ := RdI.get r71.pr (at_) (by omega) (by omega)
    obtain ⟨ad92, hA93, hb96, hc95, hc94⟩ := r72.get (gI (gL g.mv (at_)) (k)) (by omega) (by omega) (sz := 5) rfl
    obtain ⟨Cs97, hCs98⟩ : ∃ c : List (Addr × Value), c = [(⟨w1.heap.size, 0, none⟩, (.int .i64 (cnt g.pr 1))), (⟨w1.heap.size, 1, none⟩, (.int .i64 (cnt g.pr 3))), (⟨w1.heap.size, 2, none⟩, (.int .i64 (cnt g.pr 5))), (⟨w1.heap.size, 3, none⟩, (.int .i64 (cnt g.pr 7))), (⟨w.heap.size, 1, none⟩, (.slice Ag1 g.pr.length cg1)), ((ad89.add ((at_ : Int).toNat * 1)), (.int .i64 (gI g.pr (at_)))), ((ad92.add ((gI (gL g.mv (at_)) (k) : Int).toNat * 5)), (.bool ((gT ls (gI (gL g.mv (at_)) (k))).top))), (((ad92.add ((gI (gL g.mv (at_)) (k) : Int).toNat * 5)).add 1), (.int .i64 ((gT ls (gI (gL g.mv (at_)) (k))).c0))), (((ad92.add ((gI (gL g.mv (at_)) (k) : Int).toNat * 5)).add 2), (.int .i64 ((gT ls (gI (gL g.mv (at_)) (k))).c1))), (((ad92.add ((gI (gL g.mv (at_)) (k) : Int).toNat * 5)).add 3), (.int .i64 ((gT ls (gI (gL g.mv (at_)) (k))).c2))), (((ad92.add ((gI (gL g.mv (at_)) (k) : Int).toNat * 5)).add 4), (.int .i64 ((gT ls (gI (gL g.mv (at_)) (k))).c3)))] := ⟨_, rfl⟩
    have hS99 : HoldsC Cs97 w67 := by rw [hCs98]; exact ⟨(bx74.cell (i := 0) rfl), (bx74.cell (i := 1) rfl), (bx74.cell (i := 2) rfl), (bx74.cell (i := 3) rfl), (bx73.cell (i := 1) rfl), hc91, hc95, (hc94 1 _ rfl), (hc94 2 _ rfl), (hc94 3 _ rfl), (hc94 4 _ rfl), trivial⟩
    refine AtH.start Cs97 13 #[false, false, false, false, false, false, false, false, false, false, false, false, false] (by kernel_rfl) rfl rfl (fun w101 hw102 => ?_)
    have g100 := gr_drew hw102
    have hS103 := hS99.gr g100
    have szw101 := g100.size
    have e104 := e68.gr g100 no_row
    clear e68
    have r105 := r71.gr g100 (fun _ h => by cases h)
    clear r71
    have r106 := r72.gr g100 (fun _ h => by cases h)
    clear r72
    have bx107 := bx73.gr g100 (by simp)
    clear bx73
    have bx108 := bx74.gr g100 (by simp)
    clear bx74
    have bx109 := bx75.gr g100 (by simp)
    clear bx75
    have bx110 := bx76.gr g100 (by simp)
    clear bx76
    have r111 := r77.gr g100 (fun _ h => by cases h)
    clear r77
    clear g100 hw102 hS99
    refine AtH.rd (by kernel_rfl) (fun d v c a w h => by cases d <;> exact h) hS103 [0, 1, 2, 3, 4, 5, 6, 7, 8, 9] [[.ld (.int .i64 (cnt g.pr 1)), .ld (.int .i64 (cnt g.pr 3)), .ld (.int .i64 (cnt g.pr 5)), .ld (.int .i64 (cnt g.pr 7))], [], [.ld (.slice Ag1 g.pr.length cg1)], [], [.ad ad89], [.ld (.int .i64 (gI g.pr (at_)))], [], [], [.ad ad92], [.ld (.bool ((gT ls (gI (gL g.mv (at_)) (k))).top)), .ld (.int .i64 ((gT ls (gI (gL g.mv (at_)) (k))).c0)), .ld (.int .i64 ((gT ls (gI (gL g.mv (at_)) (k))).c1)), .ld (.int .i64 ((gT ls (gI (gL g.mv (at_)) (k))).c2)), .ld (.int .i64 ((gT ls (gI (gL g.mv (at_)) (k))).c3))]] [(35, tupV (gT ls (gI (gL g.mv (at_)) (k)))), (34, .pointer (some (ad92.add ((gI (gL g.mv (at_)) (k) : Int).toNat * 5)))), (33, .int .i64 (gI (gL g.mv (at_)) (k))), (32, .slice As ls.length cs), (31, .int .i64 (gI g.pr (at_))), (30, .pointer (some (ad89.add ((at_ : Int).toNat * 1)))), (29, .int .i64 (at_)), (28, .slice Ag1 g.pr.length cg1), (27, .pointer (some ⟨w.heap.size, 1, none⟩)), (26, .agg #[.int .i64 (cnt g.pr 1), .int .i64 (cnt g.pr 3), .int .i64 (cnt g.pr 5), .int .i64 (cnt g.pr 7)])] #[true, true, true, true, true, true, true, true, true, true, false, false, false] [(∃ j_ : Nat, Cs97[j_]? = some (⟨w1.heap.size, 0, none⟩, (.int .i64 (cnt g.pr 1)))), (∃ j_ : Nat, Cs97[j_]? = some (⟨w1.heap.size, 1, none⟩, (.int .i64 (cnt g.pr 3)))), (∃ j_ : Nat, Cs97[j_]? = some (⟨w1.heap.size, 2, none⟩, (.int .i64 (cnt g.pr 5)))), (∃ j_ : Nat, Cs97[j_]? = some (⟨w1.heap.size, 3, none⟩, (.int .i64 (cnt g.pr 7)))), (∃ j_ : Nat, Cs97[j_]? = some (⟨w.heap.size, 1, none⟩, (.slice Ag1 g.pr.length cg1))), (Ag1 = some ad89), (0 ≤ (at_ : Int)), ((at_ : Int) < (g.pr.length : Nat)), (∃ j_ : Nat, Cs97[j_]? = some ((ad89.add ((at_ : Int).toNat * 1)), (.int .i64 (gI g.pr (at_))))), (As = some ad92), (0 ≤ (gI (gL g.mv (at_)) (k) : Int)), ((gI (gL g.mv (at_)) (k) : Int) < (ls.length : Nat)), (∃ j_ : Nat, Cs97[j_]? = some ((ad92.add ((gI (gL g.mv (at_)) (k) : Int).toNat * 5)), (.bool ((gT ls (gI (gL g.mv (at_)) (k))).top)))), (∃ j_ : Nat, Cs97[j_]? = some (((ad92.add ((gI (gL g.mv (at_)) (k) : Int).toNat * 5)).add 1), (.int .i64 ((gT ls (gI (gL g.mv (at_)) (k))).c0)))), (∃ j_ : Nat, Cs97[j_]? = some (((ad92.add ((gI (gL g.mv (at_)) (k) : Int).toNat * 5)).add 2), (.int .i64 ((gT ls (gI (gL g.mv (at_)) (k))).c1)))), (∃ j_ : Nat, Cs97[j_]? = some (((ad92.add ((gI (gL g.mv (at_)) (k) : Int).toNat * 5)).add 3), (.int .i64 ((gT ls (gI (gL g.mv (at_)) (k))).c2)))), (∃ j_ : Nat, Cs97[j_]? = some (((ad92.add ((gI (gL g.mv (at_)) (k) : Int).toNat * 5)).add 4), (.int .i64 ((gT ls (gI (gL g.mv (at_)) (k))).c3))))] 3 f87 (by kernel_rfl) ⟨⟨0, by rw [hCs98]; rfl⟩, ⟨1, by rw [hCs98]; rfl⟩, ⟨2, by rw [hCs98]; rfl⟩, ⟨3, by rw [hCs98]; rfl⟩, ⟨4, by rw [hCs98]; rfl⟩, hA90, (by omega), (by omega), ⟨5, by rw [hCs98]; rfl⟩, hA93, (by omega), (by omega), ⟨6, by rw [hCs98]; rfl⟩, ⟨7, by rw [hCs98]; rfl⟩, ⟨8, by rw [hCs98]; rfl⟩, ⟨9, by rw [hCs98]; rfl⟩, ⟨10, by rw [hCs98]; rfl⟩, trivial⟩ (fun act113 f112 => ?_)
    clear f87
    refine AtH.all [10, 11] 2 (by kernel_rfl) (by simp) ⟨?_, ?_, trivial⟩
    · refine OneH.call f112 55 #[.agg #[.int .i64 (cnt g.pr 1), .int .i64 (cnt g.pr 3), .int .i64 (cnt g.pr 5), .int .i64 (cnt g.pr 7)], .int .i64 (gI g.pr (at_)), tupV (gT ls (gI (gL g.mv (at_)) (k)))] (some 36) #[true, true, true, true, true, true, true, true, true, true, true, false, false] (by kernel_rfl) (by kernel_rfl) (up_any (n0 := cnt g.pr 1) (n1 := cnt g.pr 3) (n2 := cnt g.pr 5) (n3 := cnt g.pr 7) (p := gI g.pr (at_)) (t := (gT ls (gI (gL g.mv (at_)) (k)))) (by omega) (by omega) (by omega) (by omega) (by first | assumption | exact hok _)) ?_
      rintro e_ w115 ⟨rfl, he⟩
      refine ⟨_, rfl, _, rfl, fun act116 f117 => ?_⟩
      clear f112
      have g118 := gr_ext he
      have hS114 := hS103.gr g118
      have szw115 := g118.size
      have e119 := e104.gr g118 no_row
      clear e104
      have r120 := r105.gr g118 (fun _ h => by cases h)
      clear r105
      have r121 := r106.gr g118 (fun _ h => by cases h)
      clear r106
      have bx122 := bx107.gr g118 (by simp)
      clear bx107
      have bx123 := bx108.gr g118 (by simp)
      clear bx108
      have bx124 := bx109.gr g118 (by simp)
      clear bx109
      have bx125 := bx110.gr g118 (by simp)
      clear bx110
      have r126 := r111.gr g118 (fun _ h => by cases h)
      clear r111
      clear g118 he
      refine ⟨hS114, ?_⟩
      refine AtH.all [11] 1 (by kernel_rfl) (by simp) ⟨?_, trivial⟩
      refine OneH.seq f117 [[]] [(14, .pointer (some ⟨w115.heap.size, 0, none⟩))] (w115.alloc (.cells #[.bool false, .int .i64 (0), .int .i64 (0), .int .i64 (0), .int .i64 (0)] 41 (0, 0))) [] #[true, true, true, true, true, true, true, true, true, true, true, true, false] (by kernel_rfl) (by kernel_rfl) (by kernel_rfl) trivial (fun act131 w128 hw129 f130 => ?_)
      clear f117
      have g132 := gr_alloc hw129
      have hS127 := hS114.gr g132
      have szw128 := g132.size
      have e134 := e119.gr g132 no_row
      clear e119
      have r135 := r120.gr g132 (fun _ h => by cases h)
      clear r120
      have r136 := r121.gr g132 (fun _ h => by cases h)
      clear r121
      have bx137 := bx122.gr g132 (by simp)
      clear bx122
      have bx138 := bx123.gr g132 (by simp)
      clear bx123
      have bx139 := bx124.gr g132 (by simp)
      clear bx124
      have bx140 := bx125.gr g132 (by simp)
      clear bx125
      have r141 := r126.gr g132 (fun _ h => by cases h)
      clear r126
      have bx142 : Bx w128 (w115.heap.size) [.bool false, .int .i64 (0), .int .i64 (0), .int .i64 (0), .int .i64 (0)] 41 := Bx.new hw129
      have := bx142.lt
      clear g132 hw129
      refine ⟨hS127, ?_⟩
      refine AtH.all [12] 0 (by kernel_rfl) (by simp) ⟨?_, trivial⟩
      refine OneH.store f130 (t := 41) (b := w115.heap.size) (off := 0) (v := tupV (upG g ls at_ (gI (gL g.mv (at_)) (k)))) #[true, true, true, true, true, true, true, true, true, true, true, true, true] (by kernel_rfl) (by kernel_rfl) bx142 (by kernel_rfl) (fun act148 w144 g145 bx146 f147 => ?_)
      clear f130
      replace bx146 : Bx w144 (w115.heap.size) (tupC (upG g ls at_ (gI (gL g.mv (at_)) (k)))) 41 := bx146
      have hS143 := hS127.gr' g145 (by rw [hCs98]; exact ⟨(by simp only [add_block]; omega), (by simp only [add_block]; omega), (by simp only [add_block]; omega), (by simp only [add_block]; omega), (by simp only [add_block]; omega), (by simp only [add_block]; omega), (by simp only [add_block]; omega), (by simp only [add_block]; omega), (by simp only [add_block]; omega), (by simp only [add_block]; omega), (by simp only [add_block]; omega), trivial⟩)
      have szw144 := g145.size
      have e149 := e134.gr g145 (fun k h => by injection h; omega)
      clear e134
      have r150 := r135.gr g145 (fun k h => by injection h; omega)
      clear r135
      have r151 := r136.gr g145 (fun k h => by injection h; omega)
      clear r136
      have bx152 := bx137.gr g145 (fun h => by injection h; omega)
      clear bx137
      have bx153 := bx138.gr g145 (fun h => by injection h; omega)
      clear bx138
      have bx154 := bx139.gr g145 (fun h => by injection h; omega)
      clear bx139
      have bx155 := bx140.gr g145 (fun h => by injection h; omega)
      clear bx140
      have r156 := r141.gr g145 (fun k h => by injection h; omega)
      clear r141
      clear bx142 g145
      refine ⟨hS143, ?_⟩
      refine AtH.done (by kernel_rfl) ?_
      clear hS143
      refine t_n ?_
      refine wp_seq ?_
      refine At.start ?_
      refine At.rd f147 2 [[.ld (.bool ((upG g ls at_ (gI (gL g.mv (at_)) (k))).top)), .ld (.int .i64 ((upG g ls at_ (gI (gL g.mv (at_)) (k))).c0)), .ld (.int .i64 ((upG g ls at_ (gI (gL g.mv (at_)) (k))).c1)), .ld (.int .i64 ((upG g ls at_ (gI (gL g.mv (at_)) (k))).c2)), .ld (.int .i64 ((upG g ls at_ (gI (gL g.mv (at_)) (k))).c3))], [.ld (.bool ((bestB (upG g ls at_) (gI g.ow at_) ((gL g.mv at_).take k.toNat)).1.top)), .ld (.int .i64 ((bestB (upG g ls at_) (gI g.ow at_) ((gL g.mv at_).take k.toNat)).1.c0)), .ld (.int .i64 ((bestB (upG g ls at_) (gI g.ow at_) ((gL g.mv at_).take k.toNat)).1.c1)), .ld (.int .i64 ((bestB (upG g ls at_) (gI g.ow at_) ((gL g.mv at_).take k.toNat)).1.c2)), .ld (.int .i64 ((bestB (upG g ls at_) (gI g.ow at_) ((gL g.mv at_).take k.toNat)).1.c3))]] [(38, tupV ((bestB (upG g ls at_) (gI g.ow at_) ((gL g.mv at_).take k.toNat)).1)), (37, tupV (upG g ls at_ (gI (gL g.mv (at_)) (k))))] [(w144.cell? ⟨w115.heap.size, 0, none⟩ = some (.bool ((upG g ls at_ (gI (gL g.mv (at_)) (k))).top))), (w144.cell? ⟨w115.heap.size, 1, none⟩ = some (.int .i64 ((upG g ls at_ (gI (gL g.mv (at_)) (k))).c0))), (w144.cell? ⟨w115.heap.size, 2, none⟩ = some (.int .i64 ((upG g ls at_ (gI (gL g.mv (at_)) (k))).c1))), (w144.cell? ⟨w115.heap.size, 3, none⟩ = some (.int .i64 ((upG g ls at_ (gI (gL g.mv (at_)) (k))).c2))), (w144.cell? ⟨w115.heap.size, 4, none⟩ = some (.int .i64 ((upG g ls at_ (gI (gL g.mv (at_)) (k))).c3))), (w144.cell? ⟨w22.heap.size, 0, none⟩ = some (.bool ((bestB (upG g ls at_) (gI g.ow at_) ((gL g.mv at_).take k.toNat)).1.top))), (w144.cell? ⟨w22.heap.size, 1, none⟩ = some (.int .i64 ((bestB (upG g ls at_) (gI g.ow at_) ((gL g.mv at_).take k.toNat)).1.c0))), (w144.cell? ⟨w22.heap.size, 2, none⟩ = some (.int .i64 ((bestB (upG g ls at_) (gI g.ow at_) ((gL g.mv at_).take k.toNat)).1.c1))), (w144.cell? ⟨w22.heap.size, 3, none⟩ = some (.int .i64 ((bestB (upG g ls at_) (gI g.ow at_) ((gL g.mv at_).take k.toNat)).1.c2))), (w144.cell? ⟨w22.heap.size, 4, none⟩ = some (.int .i64 ((bestB (upG g ls at_) (gI g.ow at_) ((gL g.mv at_).take k.toNat)).1.c3)))] (by kernel_rfl) ⟨(bx146.cell (i := 0) rfl), (bx146.cell (i := 1) rfl), (bx146.cell (i := 2) rfl), (bx146.cell (i := 3) rfl), (bx146.cell (i := 4) rfl), (bx155.cell (i := 0) rfl), (bx155.cell (i := 1) rfl), (bx155.cell (i := 2) rfl), (bx155.cell (i := 3) rfl), (bx155.cell (i := 4) rfl), trivial⟩ (fun act158 f157 => ?_)
      clear f147
      refine At.call f157 23 #[tupV (upG g ls at_ (gI (gL g.mv (at_)) (k))), tupV ((bestB (upG g ls at_) (gI g.ow at_) ((gL g.mv at_).take k.toNat)).1), .int .i64 (0)] (some 39) (by kernel_rfl) (cmpM_any (a := (upG g ls at_ (gI (gL g.mv (at_)) (k)))) (b := (bestB (upG g ls at_) (gI g.ow at_) ((gL g.mv at_).take k.toNat)).1) (p := 0)) ?_
      rintro e_ w159 ⟨rfl, he⟩
      have := cmp_rng (upG g ls at_ (gI (gL g.mv (at_)) (k))) ((bestB (upG g ls at_) (gI g.ow at_) ((gL g.mv at_).take k.toNat)).1) 0
      refine ⟨_, rfl, _, rfl, fun act160 f161 => ?_⟩
      clear f157
      have g162 := gr_ext he
      have szw159 := g162.size
      have e163 := e149.gr g162 no_row
      clear e149
      have r164 := r150.gr g162 (fun _ h => by cases h)
      clear r150
      have r165 := r151.gr g162 (fun _ h => by cases h)
      clear r151
      have bx166 := bx152.gr g162 (by simp)
      clear bx152
      have bx167 := bx153.gr g162 (by simp)
      clear bx153
      have bx168 := bx154.gr g162 (by simp)
      clear bx154
      have bx169 := bx155.gr g162 (by simp)
      clear bx155
      have r170 := r156.gr g162 (fun _ h => by cases h)
      clear r156
      have bx171 := bx146.gr g162 (by simp)
      clear bx146
      clear g162 he
      refine At.rd f161 1 [[]] [(15, .int .i64 (cmpT (upG g ls at_ (gI (gL g.mv (at_)) (k))) ((bestB (upG g ls at_) (gI g.ow at_) ((gL g.mv at_).take k.toNat)).1) 0))] [] (by kernel_rfl) trivial (fun act173 f172 => ?_)
      clear f161
      refine At.done rfl ?_
      refine t_n ?_
      refine wp_seq ?_
      refine wp_seq ?_
      refine At.start ?_
      obtain ⟨ad174, hA175, _, _, hc176⟩ := RdI.get r164.ow (at_) (by omega) (by omega)
      refine At.rd f172 6 [[], [.ld (.slice Ag0 g.ow.length cg0)], [], [.ad ad174], [.ld (.int .i64 (gI g.ow (at_)))], []] [(45, .bool ((gI g.ow (at_) : Int) == 1)), (44, .int .i64 (gI g.ow (at_))), (43, .pointer (some (ad174.add ((at_ : Int).toNat * 1)))), (42, .int .i64 (at_)), (41, .slice Ag0 g.ow.length cg0), (40, .pointer (some ⟨w.heap.size, 0, none⟩))] [(w159.cell? ⟨w.heap.size, 0, none⟩ = some (.slice Ag0 g.ow.length cg0)), (Ag0 = some ad174), (0 ≤ (at_ : Int)), ((at_ : Int) < (g.ow.length : Nat)), (w159.cell? (ad174.add ((at_ : Int).toNat * 1)) = some (.int .i64 (gI g.ow (at_))))] (by kernel_rfl) ⟨(bx166.cell (i := 0) rfl), hA175, (by omega), (by omega), hc176, trivial⟩ (fun act178 f177 => ?_)
      clear f172
      refine At.done rfl ?_
      refine t_n ?_
      refine cond_S f177 (t := (gI g.ow (at_) : Int) == 1) rfl (fun h179 => ?_) (fun h179 => ?_)
      · have q180 := eq_of_beq h179
        refine At.start ?_
        refine At.rd f177 3 [[], [.as_ (.int .i64 (-(cmpT (upG g ls at_ (gI (gL g.mv (at_)) (k))) ((bestB (upG g ls at_) (gI g.ow at_) ((gL g.mv at_).take k.toNat)).1) 0)))], []] [(15, .int .i64 (-(cmpT (upG g ls at_ (gI (gL g.mv (at_)) (k))) ((bestB (upG g ls at_) (gI g.ow at_) ((gL g.mv at_).take k.toNat)).1) 0))), (47, .int .i64 (-(cmpT (upG g ls at_ (gI (gL g.mv (at_)) (k))) ((bestB (upG g ls at_) (gI g.ow at_) ((gL g.mv at_).take k.toNat)).1) 0))), (46, .int .i64 (cmpT (upG g ls at_ (gI (gL g.mv (at_)) (k))) ((bestB (upG g ls at_) (gI g.ow at_) ((gL g.mv at_).take k.toNat)).1) 0))] [((.int .i64 (IntKind.i64.wrap (0 - (cmpT (upG g ls at_ (gI (gL g.mv (at_)) (k))) ((bestB (upG g ls at_) (gI g.ow at_) ((gL g.mv at_).take k.toNat)).1) 0))) : Value) = .int .i64 (-(cmpT (upG g ls at_ (gI (gL g.mv (at_)) (k))) ((bestB (upG g ls at_) (gI g.ow at_) ((gL g.mv at_).take k.toNat)).1) 0)))] (by kernel_rfl) ⟨(w64e (by omega) (by omega) (by omega)), trivial⟩ (fun act182 f181 => ?_)
        clear f177
        refine At.done rfl ?_
        refine t_n ?_
        have f183 := f181.sub (r := [(15, .int .i64 (-(cmpT (upG g ls at_ (gI (gL g.mv (at_)) (k))) ((bestB (upG g ls at_) (gI g.ow at_) ((gL g.mv at_).take k.toNat)).1) 0))), (47, .int .i64 (-(cmpT (upG g ls at_ (gI (gL g.mv (at_)) (k))) ((bestB (upG g ls at_) (gI g.ow at_) ((gL g.mv at_).take k.toNat)).1) 0))), (46, .int .i64 (cmpT (upG g ls at_ (gI (gL g.mv (at_)) (k))) ((bestB (upG g ls at_) (gI g.ow at_) ((gL g.mv at_).take k.toNat)).1) 0)), (45, .bool ((gI g.ow (at_) : Int) == 1)), (44, .int .i64 (gI g.ow (at_))), (43, .pointer (some (ad174.add ((at_ : Int).toNat * 1)))), (42, .int .i64 (at_)), (41, .slice Ag0 g.ow.length cg0), (40, .pointer (some ⟨w.heap.size, 0, none⟩)), (39, .int .i64 (cmpT (upG g ls at_ (gI (gL g.mv (at_)) (k))) ((bestB (upG g ls at_) (gI g.ow at_) ((gL g.mv at_).take k.toNat)).1) 0)), (38, tupV ((bestB (upG g ls at_) (gI g.ow at_) ((gL g.mv at_).take k.toNat)).1)), (37, tupV (upG g ls at_ (gI (gL g.mv (at_)) (k)))), (14, .pointer (some ⟨w115.heap.size, 0, none⟩)), (36, tupV (upG g ls at_ (gI (gL g.mv (at_)) (k)))), (35, tupV (gT ls (gI (gL g.mv (at_)) (k)))), (34, .pointer (some (ad92.add ((gI (gL g.mv (at_)) (k) : Int).toNat * 5)))), (33, .int .i64 (gI (gL g.mv (at_)) (k))), (32, .slice As ls.length cs), (31, .int .i64 (gI g.pr (at_))), (30, .pointer (some (ad89.add ((at_ : Int).toNat * 1)))), (29, .int .i64 (at_)), (28, .slice Ag1 g.pr.length cg1), (27, .pointer (some ⟨w.heap.size, 1, none⟩)), (26, .agg #[.int .i64 (cnt g.pr 1), .int .i64 (cnt g.pr 3), .int .i64 (cnt g.pr 5), .int .i64 (cnt g.pr 7)]), (13, .int .i64 (gI (gL g.mv (at_)) (k))), (25, .int .i64 (gI (gL g.mv (at_)) (k))), (24, .pointer (some (ad84.add ((k : Int).toNat * 1)))), (23, .bool (decide ((k : Int) < (((gL g.mv (at_)).length : Nat) : Int)))), (22, .int .i64 (k)), (11, .int .i64 ((bestB (upG g ls at_) (gI g.ow at_) ((gL g.mv at_).take k.toNat)).2)), (21, .int .i64 ((((gL g.mv (at_)).length : Nat) : Int))), (20, .slice R55 ((gL g.mv (at_)).length) C56), (10, .pointer (some ⟨w22.heap.size, 0, none⟩)), (9, .int .i64 (0)), (8, .pointer (some ⟨w11.heap.size, 0, none⟩)), (5, .pointer (some ⟨w1.heap.size, 0, none⟩)), (4, .pointer (some ⟨w.heap.size, 0, none⟩)), (2, .slice As ls.length cs), (3, .int .i64 (at_))]) ⟨rfl, rfl, rfl, rfl, rfl, rfl, rfl, rfl, rfl, rfl, rfl, rfl, rfl, rfl, rfl, rfl, rfl, rfl, rfl, rfl, rfl, rfl, rfl, rfl, rfl, rfl, rfl, rfl, rfl, rfl, rfl, rfl, rfl, rfl, rfl, rfl, rfl, rfl, rfl, trivial⟩
        clear f181
        refine wp_seq ?_
        refine At.start ?_
        rcases Bool.eq_false_or_eq_true (decide (((bestB (upG g ls at_) (gI g.ow at_) ((gL g.mv at_).take k.toNat)).2 : Int) < 0)) with h184 | h184
        · have q185 := of_decide_eq_true h184
          refine At.rd f183 6 [[], [], [.as_ (.bool true)], [], [], []] [(53, .bool true), (52, undef), (51, undef), (50, .bool true), (49, .bool (decide (((bestB (upG g ls at_) (gI g.ow at_) ((gL g.mv at_).take k.toNat)).2 : Int) < 0))), (48, .int .i64 ((bestB (upG g ls at_) (gI g.ow at_) ((gL g.mv at_).take k.toNat)).2))] [((.bool (decide (((bestB (upG g ls at_) (gI g.ow at_) ((gL g.mv at_).take k.toNat)).2 : Int) < 0)) : Value) = .bool true)] (by kernel_rfl) ⟨(congrArg Value.bool h184), trivial⟩ (fun act187 f186 => ?_)
          clear f183
          refine At.done rfl ?_
          refine t_n ?_
          have f188 := f186.sub (r := [(53, .bool true), (50, .bool true), (49, .bool (decide (((bestB (upG g ls at_) (gI g.ow at_) ((gL g.mv at_).take k.toNat)).2 : Int) < 0))), (48, .int .i64 ((bestB (upG g ls at_) (gI g.ow at_) ((gL g.mv at_).take k.toNat)).2)), (15, .int .i64 (-(cmpT (upG g ls at_ (gI (gL g.mv (at_)) (k))) ((bestB (upG g ls at_) (gI g.ow at_) ((gL g.mv at_).take k.toNat)).1) 0))), (47, .int .i64 (-(cmpT (upG g ls at_ (gI (gL g.mv (at_)) (k))) ((bestB (upG g ls at_) (gI g.ow at_) ((gL g.mv at_).take k.toNat)).1) 0))), (46, .int .i64 (cmpT (upG g ls at_ (gI (gL g.mv (at_)) (k))) ((bestB (upG g ls at_) (gI g.ow at_) ((gL g.mv at_).take k.toNat)).1) 0)), (45, .bool ((gI g.ow (at_) : Int) == 1)), (44, .int .i64 (gI g.ow (at_))), (43, .pointer (some (ad174.add ((at_ : Int).toNat * 1)))), (42, .int .i64 (at_)), (41, .slice Ag0 g.ow.length cg0), (40, .pointer (some ⟨w.heap.size, 0, none⟩)), (39, .int .i64 (cmpT (upG g ls at_ (gI (gL g.mv (at_)) (k))) ((bestB (upG g ls at_) (gI g.ow at_) ((gL g.mv at_).take k.toNat)).1) 0)), (38, tupV ((bestB (upG g ls at_) (gI g.ow at_) ((gL g.mv at_).take k.toNat)).1)), (37, tupV (upG g ls at_ (gI (gL g.mv (at_)) (k)))), (14, .pointer (some ⟨w115.heap.size, 0, none⟩)), (36, tupV (upG g ls at_ (gI (gL g.mv (at_)) (k)))), (35, tupV (gT ls (gI (gL g.mv (at_)) (k)))), (34, .pointer (some (ad92.add ((gI (gL g.mv (at_)) (k) : Int).toNat * 5)))), (33, .int .i64 (gI (gL g.mv (at_)) (k))), (32, .slice As ls.length cs), (31, .int .i64 (gI g.pr (at_))), (30, .pointer (some (ad89.add ((at_ : Int).toNat * 1)))), (29, .int .i64 (at_)), (28, .slice Ag1 g.pr.length cg1), (27, .pointer (some ⟨w.heap.size, 1, none⟩)), (26, .agg #[.int .i64 (cnt g.pr 1), .int .i64 (cnt g.pr 3), .int .i64 (cnt g.pr 5), .int .i64 (cnt g.pr 7)]), (13, .int .i64 (gI (gL g.mv (at_)) (k))), (25, .int .i64 (gI (gL g.mv (at_)) (k))), (24, .pointer (some (ad84.add ((k : Int).toNat * 1)))), (23, .bool (decide ((k : Int) < (((gL g.mv (at_)).length : Nat) : Int)))), (22, .int .i64 (k)), (11, .int .i64 ((bestB (upG g ls at_) (gI g.ow at_) ((gL g.mv at_).take k.toNat)).2)), (21, .int .i64 ((((gL g.mv (at_)).length : Nat) : Int))), (20, .slice R55 ((gL g.mv (at_)).length) C56), (10, .pointer (some ⟨w22.heap.size, 0, none⟩)), (9, .int .i64 (0)), (8, .pointer (some ⟨w11.heap.size, 0, none⟩)), (5, .pointer (some ⟨w1.heap.size, 0, none⟩)), (4, .pointer (some ⟨w.heap.size, 0, none⟩)), (2, .slice As ls.length cs), (3, .int .i64 (at_))]) ⟨rfl, rfl, rfl, rfl, rfl, rfl, rfl, rfl, rfl, rfl, rfl, rfl, rfl, rfl, rfl, rfl, rfl, rfl, rfl, rfl, rfl, rfl, rfl, rfl, rfl, rfl, rfl, rfl, rfl, rfl, rfl, rfl, rfl, rfl, rfl, rfl, rfl, rfl, rfl, rfl, rfl, rfl, rfl, trivial⟩
          clear f186
          refine cond_T f188 rfl ?_
          refine At.start ?_
          refine At.rd f188 2 [[.ld (.bool ((upG g ls at_ (gI (gL g.mv (at_)) (k))).top)), .ld (.int .i64 ((upG g ls at_ (gI (gL g.mv (at_)) (k))).c0)), .ld (.int .i64 ((upG g ls at_ (gI (gL g.mv (at_)) (k))).c1)), .ld (.int .i64 ((upG g ls at_ (gI (gL g.mv (at_)) (k))).c2)), .ld (.int .i64 ((upG g ls at_ (gI (gL g.mv (at_)) (k))).c3))], []] [(55, .int .i64 (gI (gL g.mv (at_)) (k))), (54, tupV (upG g ls at_ (gI (gL g.mv (at_)) (k))))] [(w159.cell? ⟨w115.heap.size, 0, none⟩ = some (.bool ((upG g ls at_ (gI (gL g.mv (at_)) (k))).top))), (w159.cell? ⟨w115.heap.size, 1, none⟩ = some (.int .i64 ((upG g ls at_ (gI (gL g.mv (at_)) (k))).c0))), (w159.cell? ⟨w115.heap.size, 2, none⟩ = some (.int .i64 ((upG g ls at_ (gI (gL g.mv (at_)) (k))).c1))), (w159.cell? ⟨w115.heap.size, 3, none⟩ = some (.int .i64 ((upG g ls at_ (gI (gL g.mv (at_)) (k))).c2))), (w159.cell? ⟨w115.heap.size, 4, none⟩ = some (.int .i64 ((upG g ls at_ (gI (gL g.mv (at_)) (k))).c3)))] (by kernel_rfl) ⟨(bx171.cell (i := 0) rfl), (bx171.cell (i := 1) rfl), (bx171.cell (i := 2) rfl), (bx171.cell (i := 3) rfl), (bx171.cell (i := 4) rfl), trivial⟩ (fun act190 f189 => ?_)
          clear f188
          refine At.store f189 (t := 41) (b := w22.heap.size) (off := 0) (v := tupV (upG g ls at_ (gI (gL g.mv (at_)) (k)))) (by kernel_rfl) bx169 (by kernel_rfl) (fun act195 w191 g192 bx193 f194 => ?_)
          clear f189
          replace bx193 : Bx w191 (w22.heap.size) (tupC (upG g ls at_ (gI (gL g.mv (at_)) (k)))) 41 := bx193
          have szw191 := g192.size
          have e196 := e163.gr g192 (fun k h => by injection h; omega)
          clear e163
          have r197 := r164.gr g192 (fun k h => by injection h; omega)
          clear r164
          have r198 := r165.gr g192 (fun k h => by injection h; omega)
          clear r165
          have bx199 := bx166.gr g192 (fun h => by injection h; omega)
          clear bx166
          have bx200 := bx167.gr g192 (fun h => by injection h; omega)
          clear bx167
          have bx201 := bx168.gr g192 (fun h => by injection h; omega)
          clear bx168
          have r202 := r170.gr g192 (fun k h => by injection h; omega)
          clear r170
          have bx203 := bx171.gr g192 (fun h => by injection h; omega)
          clear bx171
          clear bx169 g192
          refine At.rd f194 1 [[]] [(11, .int .i64 (gI (gL g.mv (at_)) (k)))] [] (by kernel_rfl) trivial (fun act205 f204 => ?_)
          clear f194
          refine At.done rfl ?_
          refine b_n ?_
          refine t_n ?_
          have f206 := f204.sub (r := [(11, .int .i64 (gI (gL g.mv (at_)) (k))), (55, .int .i64 (gI (gL g.mv (at_)) (k))), (54, tupV (upG g ls at_ (gI (gL g.mv (at_)) (k)))), (53, .bool true), (50, .bool true), (49, .bool (decide (((bestB (upG g ls at_) (gI g.ow at_) ((gL g.mv at_).take k.toNat)).2 : Int) < 0))), (48, .int .i64 ((bestB (upG g ls at_) (gI g.ow at_) ((gL g.mv at_).take k.toNat)).2)), (15, .int .i64 (-(cmpT (upG g ls at_ (gI (gL g.mv (at_)) (k))) ((bestB (upG g ls at_) (gI g.ow at_) ((gL g.mv at_).take k.toNat)).1) 0))), (47, .int .i64 (-(cmpT (upG g ls at_ (gI (gL g.mv (at_)) (k))) ((bestB (upG g ls at_) (gI g.ow at_) ((gL g.mv at_).take k.toNat)).1) 0))), (46, .int .i64 (cmpT (upG g ls at_ (gI (gL g.mv (at_)) (k))) ((bestB (upG g ls at_) (gI g.ow at_) ((gL g.mv at_).take k.toNat)).1) 0)), (45, .bool ((gI g.ow (at_) : Int) == 1)), (44, .int .i64 (gI g.ow (at_))), (43, .pointer (some (ad174.add ((at_ : Int).toNat * 1)))), (42, .int .i64 (at_)), (41, .slice Ag0 g.ow.length cg0), (40, .pointer (some ⟨w.heap.size, 0, none⟩)), (39, .int .i64 (cmpT (upG g ls at_ (gI (gL g.mv (at_)) (k))) ((bestB (upG g ls at_) (gI g.ow at_) ((gL g.mv at_).take k.toNat)).1) 0)), (38, tupV ((bestB (upG g ls at_) (gI g.ow at_) ((gL g.mv at_).take k.toNat)).1)), (37, tupV (upG g ls at_ (gI (gL g.mv (at_)) (k)))), (14, .pointer (some ⟨w115.heap.size, 0, none⟩)), (36, tupV (upG g ls at_ (gI (gL g.mv (at_)) (k)))), (35, tupV (gT ls (gI (gL g.mv (at_)) (k)))), (34, .pointer (some (ad92.add ((gI (gL g.mv (at_)) (k) : Int).toNat * 5)))), (33, .int .i64 (gI (gL g.mv (at_)) (k))), (32, .slice As ls.length cs), (31, .int .i64 (gI g.pr (at_))), (30, .pointer (some (ad89.add ((at_ : Int).toNat * 1)))), (29, .int .i64 (at_)), (28, .slice Ag1 g.pr.length cg1), (27, .pointer (some ⟨w.heap.size, 1, none⟩)), (26, .agg #[.int .i64 (cnt g.pr 1), .int .i64 (cnt g.pr 3), .int .i64 (cnt g.pr 5), .int .i64 (cnt g.pr 7)]), (13, .int .i64 (gI (gL g.mv (at_)) (k))), (25, .int .i64 (gI (gL g.mv (at_)) (k))), (24, .pointer (some (ad84.add ((k : Int).toNat * 1)))), (23, .bool (decide ((k : Int) < (((gL g.mv (at_)).length : Nat) : Int)))), (22, .int .i64 (k)), (21, .int .i64 ((((gL g.mv (at_)).length : Nat) : Int))), (20, .slice R55 ((gL g.mv (at_)).length) C56), (10, .pointer (some ⟨w22.heap.size, 0, none⟩)), (9, .int .i64 (0)), (8, .pointer (some ⟨w11.heap.size, 0, none⟩)), (5, .pointer (some ⟨w1.heap.size, 0, none⟩)), (4, .pointer (some ⟨w.heap.size, 0, none⟩)), (2, .slice As ls.length cs), (3, .int .i64 (at_))]) ⟨rfl, rfl, rfl, rfl, rfl, rfl, rfl, rfl, rfl, rfl, rfl, rfl, rfl, rfl, rfl, rfl, rfl, rfl, rfl, rfl, rfl, rfl, rfl, rfl, rfl, rfl, rfl, rfl, rfl, rfl, rfl, rfl, rfl, rfl, rfl, rfl, rfl, rfl, rfl, rfl, rfl, rfl, rfl, rfl, rfl, trivial⟩
          clear f204
          refine At.start ?_
          refine At.rd f206 2 [[.as_ (.int .i64 (k + 1))], []] [(22, .int .i64 (k + 1)), (56, .int .i64 (k + 1))] [((.int .i64 (IntKind.i64.wrap (k + 1)) : Value) = .int .i64 (k + 1))] (by kernel_rfl) ⟨(w64 (by omega) (by omega)), trivial⟩ (fun act208 f207 => ?_)
          clear f206
          refine At.done rfl ?_
          refine t_n ?_
          have f209 := f207.as 11 (.int .i64 (gI (gL g.mv (at_)) (k))) (.int .i64 ((bestB (upG g ls at_) (gI g.ow at_) ((gL g.mv at_).take ((k + 1) : Int).toNat)).2)) rfl (congrArg (Value.int .i64) (by first | exact congrArg Prod.snd (bestB_yes (f := upG g ls at_) (by omega) (by omega) (by first | exact .inl (by omega) | exact .inr (.inl ⟨by omega, by omega⟩) | exact .inr (.inr ⟨by omega, by omega⟩))) | exact congrArg Prod.snd (bestB_no (f := upG g ls at_) (by omega) (by omega) (by omega) (fun _ => by omega) (fun _ => by omega))))
          clear f207
          have f210 := f209.sub (r := [(22, .int .i64 (k + 1)), (11, .int .i64 ((bestB (upG g ls at_) (gI g.ow at_) ((gL g.mv at_).take ((k + 1) : Int).toNat)).2)), (21, .int .i64 ((((gL g.mv (at_)).length : Nat) : Int))), (20, .slice R55 ((gL g.mv (at_)).length) C56), (10, .pointer (some ⟨w22.heap.size, 0, none⟩)), (9, .int .i64 (0)), (8, .pointer (some ⟨w11.heap.size, 0, none⟩)), (5, .pointer (some ⟨w1.heap.size, 0, none⟩)), (4, .pointer (some ⟨w.heap.size, 0, none⟩)), (2, .slice As ls.length cs), (3, .int .i64 (at_))]) ⟨rfl, rfl, rfl, rfl, rfl, rfl, rfl, rfl, rfl, rfl, rfl, trivial⟩
          exact ⟨_, (by omega), (k + 1), rfl, f210, e196, r197, r198, bx199, bx200, bx201, (bx193.as (by first | exact tupC_eq (t := upG g ls at_ (gI (gL g.mv at_) k)) (congrArg Prod.fst (bestB_yes (f := upG g ls at_) (by omega) (by omega) (by first | exact .inl (by omega) | exact .inr (.inl ⟨by omega, by omega⟩) | exact .inr (.inr ⟨by omega, by omega⟩)))) | exact tupC_eq (congrArg Prod.fst (bestB_no (f := upG g ls at_) (by omega) (by omega) (by omega) (fun _ => by omega) (fun _ => by omega))))), r202, (by omega), (by omega)⟩
        · have q211 := of_decide_eq_false h184
          refine At.rd f183 6 [[], [], [.as_ (.bool false)], [], [], []] [(53, .bool (decide ((-(cmpT (upG g ls at_ (gI (gL g.mv (at_)) (k))) ((bestB (upG g ls at_) (gI g.ow at_) ((gL g.mv at_).take k.toNat)).1) 0) : Int) < 0))), (52, .bool (decide ((-(cmpT (upG g ls at_ (gI (gL g.mv (at_)) (k))) ((bestB (upG g ls at_) (gI g.ow at_) ((gL g.mv at_).take k.toNat)).1) 0) : Int) < 0))), (51, .int .i64 (-(cmpT (upG g ls at_ (gI (gL g.mv (at_)) (k))) ((bestB (upG g ls at_) (gI g.ow at_) ((gL g.mv at_).take k.toNat)).1) 0))), (50, .bool false), (49, .bool (decide (((bestB (upG g ls at_) (gI g.ow at_) ((gL g.mv at_).take k.toNat)).2 : Int) < 0))), (48, .int .i64 ((bestB (upG g ls at_) (gI g.ow at_) ((gL g.mv at_).take k.toNat)).2))] [((.bool (decide (((bestB (upG g ls at_) (gI g.ow at_) ((gL g.mv at_).take k.toNat)).2 : Int) < 0)) : Value) = .bool false)] (by kernel_rfl) ⟨(congrArg Value.bool h184), trivial⟩ (fun act213 f212 => ?_)
          clear f183
          refine At.done rfl ?_
          refine t_n ?_
          refine cond_S f212 (t := decide ((-(cmpT (upG g ls at_ (gI (gL g.mv (at_)) (k))) ((bestB (upG g ls at_) (gI g.ow at_) ((gL g.mv at_).take k.toNat)).1) 0) : Int) < 0)) rfl (fun h214 => ?_) (fun h214 => ?_)
          · have q215 := of_decide_eq_true h214
            refine At.start ?_
            refine At.rd f212 2 [[.ld (.bool ((upG g ls at_ (gI (gL g.mv (at_)) (k))).top)), .ld (.int .i64 ((upG g ls at_ (gI (gL g.mv (at_)) (k))).c0)), .ld (.int .i64 ((upG g ls at_ (gI (gL g.mv (at_)) (k))).c1)), .ld (.int .i64 ((upG g ls at_ (gI (gL g.mv (at_)) (k))).c2)), .ld (.int .i64 ((upG g ls at_ (gI (gL g.mv (at_)) (k))).c3))], []] [(55, .int .i64 (gI (gL g.mv (at_)) (k))), (54, tupV (upG g ls at_ (gI (gL g.mv (at_)) (k))))] [(w159.cell? ⟨w115.heap.size, 0, none⟩ = some (.bool ((upG g ls at_ (gI (gL g.mv (at_)) (k))).top))), (w159.cell? ⟨w115.heap.size, 1, none⟩ = some (.int .i64 ((upG g ls at_ (gI (gL g.mv (at_)) (k))).c0))), (w159.cell? ⟨w115.heap.size, 2, none⟩ = some (.int .i64 ((upG g ls at_ (gI (gL g.mv (at_)) (k))).c1))), (w159.cell? ⟨w115.heap.size, 3, none⟩ = some (.int .i64 ((upG g ls at_ (gI (gL g.mv (at_)) (k))).c2))), (w159.cell? ⟨w115.heap.size, 4, none⟩ = some (.int .i64 ((upG g ls at_ (gI (gL g.mv (at_)) (k))).c3)))] (by kernel_rfl) ⟨(bx171.cell (i := 0) rfl), (bx171.cell (i := 1) rfl), (bx171.cell (i := 2) rfl), (bx171.cell (i := 3) rfl), (bx171.cell (i := 4) rfl), trivial⟩ (fun act217 f216 => ?_)
            clear f212
            refine At.store f216 (t := 41) (b := w22.heap.size) (off := 0) (v := tupV (upG g ls at_ (gI (gL g.mv (at_)) (k)))) (by kernel_rfl) bx169 (by kernel_rfl) (fun act222 w218 g219 bx220 f221 => ?_)
            clear f216
            replace bx220 : Bx w218 (w22.heap.size) (tupC (upG g ls at_ (gI (gL g.mv (at_)) (k)))) 41 := bx220
            have szw218 := g219.size
            have e223 := e163.gr g219 (fun k h => by injection h; omega)
            clear e163
            have r224 := r164.gr g219 (fun k h => by injection h; omega)
            clear r164
            have r225 := r165.gr g219 (fun k h => by injection h; omega)
            clear r165
            have bx226 := bx166.gr g219 (fun h => by injection h; omega)
            clear bx166
            have bx227 := bx167.gr g219 (fun h => by injection h; omega)
            clear bx167
            have bx228 := bx168.gr g219 (fun h => by injection h; omega)
            clear bx168
            have r229 := r170.gr g219 (fun k h => by injection h; omega)
            clear r170
            have bx230 := bx171.gr g219 (fun h => by injection h; omega)
            clear bx171
            clear bx169 g219
            refine At.rd f221 1 [[]] [(11, .int .i64 (gI (gL g.mv (at_)) (k)))] [] (by kernel_rfl) trivial (fun act232 f231 => ?_)
            clear f221
            refine At.done rfl ?_
            refine b_n ?_
            refine t_n ?_
            have f233 := f231.sub (r := [(11, .int .i64 (gI (gL g.mv (at_)) (k))), (55, .int .i64 (gI (gL g.mv (at_)) (k))), (54, tupV (upG g ls at_ (gI (gL g.mv (at_)) (k)))), (53, .bool (decide ((-(cmpT (upG g ls at_ (gI (gL g.mv (at_)) (k))) ((bestB (upG g ls at_) (gI g.ow at_) ((gL g.mv at_).take k.toNat)).1) 0) : Int) < 0))), (52, .bool (decide ((-(cmpT (upG g ls at_ (gI (gL g.mv (at_)) (k))) ((bestB (upG g ls at_) (gI g.ow at_) ((gL g.mv at_).take k.toNat)).1) 0) : Int) < 0))), (51, .int .i64 (-(cmpT (upG g ls at_ (gI (gL g.mv (at_)) (k))) ((bestB (upG g ls at_) (gI g.ow at_) ((gL g.mv at_).take k.toNat)).1) 0))), (50, .bool false), (49, .bool (decide (((bestB (upG g ls at_) (gI g.ow at_) ((gL g.mv at_).take k.toNat)).2 : Int) < 0))), (48, .int .i64 ((bestB (upG g ls at_) (gI g.ow at_) ((gL g.mv at_).take k.toNat)).2)), (15, .int .i64 (-(cmpT (upG g ls at_ (gI (gL g.mv (at_)) (k))) ((bestB (upG g ls at_) (gI g.ow at_) ((gL g.mv at_).take k.toNat)).1) 0))), (47, .int .i64 (-(cmpT (upG g ls at_ (gI (gL g.mv (at_)) (k))) ((bestB (upG g ls at_) (gI g.ow at_) ((gL g.mv at_).take k.toNat)).1) 0))), (46, .int .i64 (cmpT (upG g ls at_ (gI (gL g.mv (at_)) (k))) ((bestB (upG g ls at_) (gI g.ow at_) ((gL g.mv at_).take k.toNat)).1) 0)), (45, .bool ((gI g.ow (at_) : Int) == 1)), (44, .int .i64 (gI g.ow (at_))), (43, .pointer (some (ad174.add ((at_ : Int).toNat * 1)))), (42, .int .i64 (at_)), (41, .slice Ag0 g.ow.length cg0), (40, .pointer (some ⟨w.heap.size, 0, none⟩)), (39, .int .i64 (cmpT (upG g ls at_ (gI (gL g.mv (at_)) (k))) ((bestB (upG g ls at_) (gI g.ow at_) ((gL g.mv at_).take k.toNat)).1) 0)), (38, tupV ((bestB (upG g ls at_) (gI g.ow at_) ((gL g.mv at_).take k.toNat)).1)), (37, tupV (upG g ls at_ (gI (gL g.mv (at_)) (k)))), (14, .pointer (some ⟨w115.heap.size, 0, none⟩)), (36, tupV (upG g ls at_ (gI (gL g.mv (at_)) (k)))), (35, tupV (gT ls (gI (gL g.mv (at_)) (k)))), (34, .pointer (some (ad92.add ((gI (gL g.mv (at_)) (k) : Int).toNat * 5)))), (33, .int .i64 (gI (gL g.mv (at_)) (k))), (32, .slice As ls.length cs), (31, .int .i64 (gI g.pr (at_))), (30, .pointer (some (ad89.add ((at_ : Int).toNat * 1)))), (29, .int .i64 (at_)), (28, .slice Ag1 g.pr.length cg1), (27, .pointer (some ⟨w.heap.size, 1, none⟩)), (26, .agg #[.int .i64 (cnt g.pr 1), .int .i64 (cnt g.pr 3), .int .i64 (cnt g.pr 5), .int .i64 (cnt g.pr 7)]), (13, .int .i64 (gI (gL g.mv (at_)) (k))), (25, .int .i64 (gI (gL g.mv (at_)) (k))), (24, .pointer (some (ad84.add ((k : Int).toNat * 1)))), (23, .bool (decide ((k : Int) < (((gL g.mv (at_)).length : Nat) : Int)))), (22, .int .i64 (k)), (21, .int .i64 ((((gL g.mv (at_)).length : Nat) : Int))), (20, .slice R55 ((gL g.mv (at_)).length) C56), (10, .pointer (some ⟨w22.heap.size, 0, none⟩)), (9, .int .i64 (0)), (8, .pointer (some ⟨w11.heap.size, 0, none⟩)), (5, .pointer (some ⟨w1.heap.size, 0, none⟩)), (4, .pointer (some ⟨w.heap.size, 0, none⟩)), (2, .slice As ls.length cs), (3, .int .i64 (at_))]) ⟨rfl, rfl, rfl, rfl, rfl, rfl, rfl, rfl, rfl, rfl, rfl, rfl, rfl, rfl, rfl, rfl, rfl, rfl, rfl, rfl, rfl, rfl, rfl, rfl, rfl, rfl, rfl, rfl, rfl, rfl, rfl, rfl, rfl, rfl, rfl, rfl, rfl, rfl, rfl, rfl, rfl, rfl, rfl, rfl, rfl, rfl, rfl, trivial⟩
            clear f231
            refine At.start ?_
            refine At.rd f233 2 [[.as_ (.int .i64 (k + 1))], []] [(22, .int .i64 (k + 1)), (56, .int .i64 (k + 1))] [((.int .i64 (IntKind.i64.wrap (k + 1)) : Value) = .int .i64 (k + 1))] (by kernel_rfl) ⟨(w64 (by omega) (by omega)), trivial⟩ (fun act235 f234 => ?_)
            clear f233
            refine At.done rfl ?_
            refine t_n ?_
            have f236 := f234.as 11 (.int .i64 (gI (gL g.mv (at_)) (k))) (.int .i64 ((bestB (upG g ls at_) (gI g.ow at_) ((gL g.mv at_).take ((k + 1) : Int).toNat)).2)) rfl (congrArg (Value.int .i64) (by first | exact congrArg Prod.snd (bestB_yes (f := upG g ls at_) (by omega) (by omega) (by first | exact .inl (by omega) | exact .inr (.inl ⟨by omega, by omega⟩) | exact .inr (.inr ⟨by omega, by omega⟩))) | exact congrArg Prod.snd (bestB_no (f := upG g ls at_) (by omega) (by omega) (by omega) (fun _ => by omega) (fun _ => by omega))))
            clear f234
            have f237 := f236.sub (r := [(22, .int .i64 (k + 1)), (11, .int .i64 ((bestB (upG g ls at_) (gI g.ow at_) ((gL g.mv at_).take ((k + 1) : Int).toNat)).2)), (21, .int .i64 ((((gL g.mv (at_)).length : Nat) : Int))), (20, .slice R55 ((gL g.mv (at_)).length) C56), (10, .pointer (some ⟨w22.heap.size, 0, none⟩)), (9, .int .i64 (0)), (8, .pointer (some ⟨w11.heap.size, 0, none⟩)), (5, .pointer (some ⟨w1.heap.size, 0, none⟩)), (4, .pointer (some ⟨w.heap.size, 0, none⟩)), (2, .slice As ls.length cs), (3, .int .i64 (at_))]) ⟨rfl, rfl, rfl, rfl, rfl, rfl, rfl, rfl, rfl, rfl, rfl, trivial⟩
            exact ⟨_, (by omega), (k + 1), rfl, f237, e223, r224, r225, bx226, bx227, bx228, (bx220.as (by first | exact tupC_eq (t := upG g ls at_ (gI (gL g.mv at_) k)) (congrArg Prod.fst (bestB_yes (f := upG g ls at_) (by omega) (by omega) (by first | exact .inl (by omega) | exact .inr (.inl ⟨by omega, by omega⟩) | exact .inr (.inr ⟨by omega, by omega⟩)))) | exact tupC_eq (congrArg Prod.fst (bestB_no (f := upG g ls at_) (by omega) (by omega) (by omega) (fun _ => by omega) (fun _ => by omega))))), r229, (by omega), (by omega)⟩
          · have q238 := of_decide_eq_false h214
            refine wp_skip ?_
            refine b_n ?_
            refine t_n ?_
            refine At.start ?_
            refine At.rd f212 2 [[.as_ (.int .i64 (k + 1))], []] [(22, .int .i64 (k + 1)), (56, .int .i64 (k + 1))] [((.int .i64 (IntKind.i64.wrap (k + 1)) : Value) = .int .i64 (k + 1))] (by kernel_rfl) ⟨(w64 (by omega) (by omega)), trivial⟩ (fun act240 f239 => ?_)
            clear f212
            refine At.done rfl ?_
            refine t_n ?_
            have f241 := f239.as 11 (.int .i64 ((bestB (upG g ls at_) (gI g.ow at_) ((gL g.mv at_).take k.toNat)).2)) (.int .i64 ((bestB (upG g ls at_) (gI g.ow at_) ((gL g.mv at_).take ((k + 1) : Int).toNat)).2)) rfl (congrArg (Value.int .i64) (by first | exact congrArg Prod.snd (bestB_yes (f := upG g ls at_) (by omega) (by omega) (by first | exact .inl (by omega) | exact .inr (.inl ⟨by omega, by omega⟩) | exact .inr (.inr ⟨by omega, by omega⟩))) | exact congrArg Prod.snd (bestB_no (f := upG g ls at_) (by omega) (by omega) (by omega) (fun _ => by omega) (fun _ => by omega))))
            clear f239
            have f242 := f241.sub (r := [(22, .int .i64 (k + 1)), (11, .int .i64 ((bestB (upG g ls at_) (gI g.ow at_) ((gL g.mv at_).take ((k + 1) : Int).toNat)).2)), (21, .int .i64 ((((gL g.mv (at_)).length : Nat) : Int))), (20, .slice R55 ((gL g.mv (at_)).length) C56), (10, .pointer (some ⟨w22.heap.size, 0, none⟩)), (9, .int .i64 (0)), (8, .pointer (some ⟨w11.heap.size, 0, none⟩)), (5, .pointer (some ⟨w1.heap.size, 0, none⟩)), (4, .pointer (some ⟨w.heap.size, 0, none⟩)), (2, .slice As ls.length cs), (3, .int .i64 (at_))]) ⟨rfl, rfl, rfl, rfl, rfl, rfl, rfl, rfl, rfl, rfl, rfl, trivial⟩
            exact ⟨_, (by omega), (k + 1), rfl, f242, e163, r164, r165, bx166, bx167, bx168, (bx169.as (by first | exact tupC_eq (t := upG g ls at_ (gI (gL g.mv at_) k)) (congrArg Prod.fst (bestB_yes (f := upG g ls at_) (by omega) (by omega) (by first | exact .inl (by omega) | exact .inr (.inl ⟨by omega, by omega⟩) | exact .inr (.inr ⟨by omega, by omega⟩)))) | exact tupC_eq (congrArg Prod.fst (bestB_no (f := upG g ls at_) (by omega) (by omega) (by omega) (fun _ => by omega) (fun _ => by omega))))), r170, (by omega), (by omega)⟩
      · have q243 := ne_of_beq_false h179
        refine wp_skip ?_
        refine t_n ?_
        refine wp_seq ?_
        refine At.start ?_
        rcases Bool.eq_false_or_eq_true (decide (((bestB (upG g ls at_) (gI g.ow at_) ((gL g.mv at_).take k.toNat)).2 : Int) < 0)) with h244 | h244
        · have q245 := of_decide_eq_true h244
          refine At.rd f177 6 [[], [], [.as_ (.bool true)], [], [], []] [(53, .bool true), (52, undef), (51, undef), (50, .bool true), (49, .bool (decide (((bestB (upG g ls at_) (gI g.ow at_) ((gL g.mv at_).take k.toNat)).2 : Int) < 0))), (48, .int .i64 ((bestB (upG g ls at_) (gI g.ow at_) ((gL g.mv at_).take k.toNat)).2))] [((.bool (decide (((bestB (upG g ls at_) (gI g.ow at_) ((gL g.mv at_).take k.toNat)).2 : Int) < 0)) : Value) = .bool true)] (by kernel_rfl) ⟨(congrArg Value.bool h244), trivial⟩ (fun act247 f246 => ?_)
          clear f177
          refine At.done rfl ?_
          refine t_n ?_
          have f248 := f246.sub (r := [(53, .bool true), (50, .bool true), (49, .bool (decide (((bestB (upG g ls at_) (gI g.ow at_) ((gL g.mv at_).take k.toNat)).2 : Int) < 0))), (48, .int .i64 ((bestB (upG g ls at_) (gI g.ow at_) ((gL g.mv at_).take k.toNat)).2)), (45, .bool ((gI g.ow (at_) : Int) == 1)), (44, .int .i64 (gI g.ow (at_))), (43, .pointer (some (ad174.add ((at_ : Int).toNat * 1)))), (42, .int .i64 (at_)), (41, .slice Ag0 g.ow.length cg0), (40, .pointer (some ⟨w.heap.size, 0, none⟩)), (15, .int .i64 (cmpT (upG g ls at_ (gI (gL g.mv (at_)) (k))) ((bestB (upG g ls at_) (gI g.ow at_) ((gL g.mv at_).take k.toNat)).1) 0)), (39, .int .i64 (cmpT (upG g ls at_ (gI (gL g.mv (at_)) (k))) ((bestB (upG g ls at_) (gI g.ow at_) ((gL g.mv at_).take k.toNat)).1) 0)), (38, tupV ((bestB (upG g ls at_) (gI g.ow at_) ((gL g.mv at_).take k.toNat)).1)), (37, tupV (upG g ls at_ (gI (gL g.mv (at_)) (k)))), (14, .pointer (some ⟨w115.heap.size, 0, none⟩)), (36, tupV (upG g ls at_ (gI (gL g.mv (at_)) (k)))), (35, tupV (gT ls (gI (gL g.mv (at_)) (k)))), (34, .pointer (some (ad92.add ((gI (gL g.mv (at_)) (k) : Int).toNat * 5)))), (33, .int .i64 (gI (gL g.mv (at_)) (k))), (32, .slice As ls.length cs), (31, .int .i64 (gI g.pr (at_))), (30, .pointer (some (ad89.add ((at_ : Int).toNat * 1)))), (29, .int .i64 (at_)), (28, .slice Ag1 g.pr.length cg1), (27, .pointer (some ⟨w.heap.size, 1, none⟩)), (26, .agg #[.int .i64 (cnt g.pr 1), .int .i64 (cnt g.pr 3), .int .i64 (cnt g.pr 5), .int .i64 (cnt g.pr 7)]), (13, .int .i64 (gI (gL g.mv (at_)) (k))), (25, .int .i64 (gI (gL g.mv (at_)) (k))), (24, .pointer (some (ad84.add ((k : Int).toNat * 1)))), (23, .bool (decide ((k : Int) < (((gL g.mv (at_)).length : Nat) : Int)))), (22, .int .i64 (k)), (11, .int .i64 ((bestB (upG g ls at_) (gI g.ow at_) ((gL g.mv at_).take k.toNat)).2)), (21, .int .i64 ((((gL g.mv (at_)).length : Nat) : Int))), (20, .slice R55 ((gL g.mv (at_)).length) C56), (10, .pointer (some ⟨w22.heap.size, 0, none⟩)), (9, .int .i64 (0)), (8, .pointer (some ⟨w11.heap.size, 0, none⟩)), (5, .pointer (some ⟨w1.heap.size, 0, none⟩)), (4, .pointer (some ⟨w.heap.size, 0, none⟩)), (2, .slice As ls.length cs), (3, .int .i64 (at_))]) ⟨rfl, rfl, rfl, rfl, rfl, rfl, rfl, rfl, rfl, rfl, rfl, rfl, rfl, rfl, rfl, rfl, rfl, rfl, rfl, rfl, rfl, rfl, rfl, rfl, rfl, rfl, rfl, rfl, rfl, rfl, rfl, rfl, rfl, rfl, rfl, rfl, rfl, rfl, rfl, rfl, rfl, trivial⟩
          clear f246
          refine cond_T f248 rfl ?_
          refine At.start ?_
          refine At.rd f248 2 [[.ld (.bool ((upG g ls at_ (gI (gL g.mv (at_)) (k))).top)), .ld (.int .i64 ((upG g ls at_ (gI (gL g.mv (at_)) (k))).c0)), .ld (.int .i64 ((upG g ls at_ (gI (gL g.mv (at_)) (k))).c1)), .ld (.int .i64 ((upG g ls at_ (gI (gL g.mv (at_)) (k))).c2)), .ld (.int .i64 ((upG g ls at_ (gI (gL g.mv (at_)) (k))).c3))], []] [(55, .int .i64 (gI (gL g.mv (at_)) (k))), (54, tupV (upG g ls at_ (gI (gL g.mv (at_)) (k))))] [(w159.cell? ⟨w115.heap.size, 0, none⟩ = some (.bool ((upG g ls at_ (gI (gL g.mv (at_)) (k))).top))), (w159.cell? ⟨w115.heap.size, 1, none⟩ = some (.int .i64 ((upG g ls at_ (gI (gL g.mv (at_)) (k))).c0))), (w159.cell? ⟨w115.heap.size, 2, none⟩ = some (.int .i64 ((upG g ls at_ (gI (gL g.mv (at_)) (k))).c1))), (w159.cell? ⟨w115.heap.size, 3, none⟩ = some (.int .i64 ((upG g ls at_ (gI (gL g.mv (at_)) (k))).c2))), (w159.cell? ⟨w115.heap.size, 4, none⟩ = some (.int .i64 ((upG g ls at_ (gI (gL g.mv (at_)) (k))).c3)))] (by kernel_rfl) ⟨(bx171.cell (i := 0) rfl), (bx171.cell (i := 1) rfl), (bx171.cell (i := 2) rfl), (bx171.cell (i := 3) rfl), (bx171.cell (i := 4) rfl), trivial⟩ (fun act250 f249 => ?_)
          clear f248
          refine At.store f249 (t := 41) (b := w22.heap.size) (off := 0) (v := tupV (upG g ls at_ (gI (gL g.mv (at_)) (k)))) (by kernel_rfl) bx169 (by kernel_rfl) (fun act255 w251 g252 bx253 f254 => ?_)
          clear f249
          replace bx253 : Bx w251 (w22.heap.size) (tupC (upG g ls at_ (gI (gL g.mv (at_)) (k)))) 41 := bx253
          have szw251 := g252.size
          have e256 := e163.gr g252 (fun k h => by injection h; omega)
          clear e163
          have r257 := r164.gr g252 (fun k h => by injection h; omega)
          clear r164
          have r258 := r165.gr g252 (fun k h => by injection h; omega)
          clear r165
          have bx259 := bx166.gr g252 (fun h => by injection h; omega)
          clear bx166
          have bx260 := bx167.gr g252 (fun h => by injection h; omega)
          clear bx167
          have bx261 := bx168.gr g252 (fun h => by injection h; omega)
          clear bx168
          have r262 := r170.gr g252 (fun k h => by injection h; omega)
          clear r170
          have bx263 := bx171.gr g252 (fun h => by injection h; omega)
          clear bx171
          clear bx169 g252
          refine At.rd f254 1 [[]] [(11, .int .i64 (gI (gL g.mv (at_)) (k)))] [] (by kernel_rfl) trivial (fun act265 f264 => ?_)
          clear f254
          refine At.done rfl ?_
          refine b_n ?_
          refine t_n ?_
          have f266 := f264.sub (r := [(11, .int .i64 (gI (gL g.mv (at_)) (k))), (55, .int .i64 (gI (gL g.mv (at_)) (k))), (54, tupV (upG g ls at_ (gI (gL g.mv (at_)) (k)))), (53, .bool true), (50, .bool true), (49, .bool (decide (((bestB (upG g ls at_) (gI g.ow at_) ((gL g.mv at_).take k.toNat)).2 : Int) < 0))), (48, .int .i64 ((bestB (upG g ls at_) (gI g.ow at_) ((gL g.mv at_).take k.toNat)).2)), (45, .bool ((gI g.ow (at_) : Int) == 1)), (44, .int .i64 (gI g.ow (at_))), (43, .pointer (some (ad174.add ((at_ : Int).toNat * 1)))), (42, .int .i64 (at_)), (41, .slice Ag0 g.ow.length cg0), (40, .pointer (some ⟨w.heap.size, 0, none⟩)), (15, .int .i64 (cmpT (upG g ls at_ (gI (gL g.mv (at_)) (k))) ((bestB (upG g ls at_) (gI g.ow at_) ((gL g.mv at_).take k.toNat)).1) 0)), (39, .int .i64 (cmpT (upG g ls at_ (gI (gL g.mv (at_)) (k))) ((bestB (upG g ls at_) (gI g.ow at_) ((gL g.mv at_).take k.toNat)).1) 0)), (38, tupV ((bestB (upG g ls at_) (gI g.ow at_) ((gL g.mv at_).take k.toNat)).1)), (37, tupV (upG g ls at_ (gI (gL g.mv (at_)) (k)))), (14, .pointer (some ⟨w115.heap.size, 0, none⟩)), (36, tupV (upG g ls at_ (gI (gL g.mv (at_)) (k)))), (35, tupV (gT ls (gI (gL g.mv (at_)) (k)))), (34, .pointer (some (ad92.add ((gI (gL g.mv (at_)) (k) : Int).toNat * 5)))), (33, .int .i64 (gI (gL g.mv (at_)) (k))), (32, .slice As ls.length cs), (31, .int .i64 (gI g.pr (at_))), (30, .pointer (some (ad89.add ((at_ : Int).toNat * 1)))), (29, .int .i64 (at_)), (28, .slice Ag1 g.pr.length cg1), (27, .pointer (some ⟨w.heap.size, 1, none⟩)), (26, .agg #[.int .i64 (cnt g.pr 1), .int .i64 (cnt g.pr 3), .int .i64 (cnt g.pr 5), .int .i64 (cnt g.pr 7)]), (13, .int .i64 (gI (gL g.mv (at_)) (k))), (25, .int .i64 (gI (gL g.mv (at_)) (k))), (24, .pointer (some (ad84.add ((k : Int).toNat * 1)))), (23, .bool (decide ((k : Int) < (((gL g.mv (at_)).length : Nat) : Int)))), (22, .int .i64 (k)), (21, .int .i64 ((((gL g.mv (at_)).length : Nat) : Int))), (20, .slice R55 ((gL g.mv (at_)).length) C56), (10, .pointer (some ⟨w22.heap.size, 0, none⟩)), (9, .int .i64 (0)), (8, .pointer (some ⟨w11.heap.size, 0, none⟩)), (5, .pointer (some ⟨w1.heap.size, 0, none⟩)), (4, .pointer (some ⟨w.heap.size, 0, none⟩)), (2, .slice As ls.length cs), (3, .int .i64 (at_))]) ⟨rfl, rfl, rfl, rfl, rfl, rfl, rfl, rfl, rfl, rfl, rfl, rfl, rfl, rfl, rfl, rfl, rfl, rfl, rfl, rfl, rfl, rfl, rfl, rfl, rfl, rfl, rfl, rfl, rfl, rfl, rfl, rfl, rfl, rfl, rfl, rfl, rfl, rfl, rfl, rfl, rfl, rfl, rfl, trivial⟩
          clear f264
          refine At.start ?_
          refine At.rd f266 2 [[.as_ (.int .i64 (k + 1))], []] [(22, .int .i64 (k + 1)), (56, .int .i64 (k + 1))] [((.int .i64 (IntKind.i64.wrap (k + 1)) : Value) = .int .i64 (k + 1))] (by kernel_rfl) ⟨(w64 (by omega) (by omega)), trivial⟩ (fun act268 f267 => ?_)
          clear f266
          refine At.done rfl ?_
          refine t_n ?_
          have f269 := f267.as 11 (.int .i64 (gI (gL g.mv (at_)) (k))) (.int .i64 ((bestB (upG g ls at_) (gI g.ow at_) ((gL g.mv at_).take ((k + 1) : Int).toNat)).2)) rfl (congrArg (Value.int .i64) (by first | exact congrArg Prod.snd (bestB_yes (f := upG g ls at_) (by omega) (by omega) (by first | exact .inl (by omega) | exact .inr (.inl ⟨by omega, by omega⟩) | exact .inr (.inr ⟨by omega, by omega⟩))) | exact congrArg Prod.snd (bestB_no (f := upG g ls at_) (by omega) (by omega) (by omega) (fun _ => by omega) (fun _ => by omega))))
          clear f267
          have f270 := f269.sub (r := [(22, .int .i64 (k + 1)), (11, .int .i64 ((bestB (upG g ls at_) (gI g.ow at_) ((gL g.mv at_).take ((k + 1) : Int).toNat)).2)), (21, .int .i64 ((((gL g.mv (at_)).length : Nat) : Int))), (20, .slice R55 ((gL g.mv (at_)).length) C56), (10, .pointer (some ⟨w22.heap.size, 0, none⟩)), (9, .int .i64 (0)), (8, .pointer (some ⟨w11.heap.size, 0, none⟩)), (5, .pointer (some ⟨w1.heap.size, 0, none⟩)), (4, .pointer (some ⟨w.heap.size, 0, none⟩)), (2, .slice As ls.length cs), (3, .int .i64 (at_))]) ⟨rfl, rfl, rfl, rfl, rfl, rfl, rfl, rfl, rfl, rfl, rfl, trivial⟩
          exact ⟨_, (by omega), (k + 1), rfl, f270, e256, r257, r258, bx259, bx260, bx261, (bx253.as (by first | exact tupC_eq (t := upG g ls at_ (gI (gL g.mv at_) k)) (congrArg Prod.fst (bestB_yes (f := upG g ls at_) (by omega) (by omega) (by first | exact .inl (by omega) | exact .inr (.inl ⟨by omega, by omega⟩) | exact .inr (.inr ⟨by omega, by omega⟩)))) | exact tupC_eq (congrArg Prod.fst (bestB_no (f := upG g ls at_) (by omega) (by omega) (by omega) (fun _ => by omega) (fun _ => by omega))))), r262, (by omega), (by omega)⟩
        · have q271 := of_decide_eq_false h244
          refine At.rd f177 6 [[], [], [.as_ (.bool false)], [], [], []] [(53, .bool (decide ((cmpT (upG g ls at_ (gI (gL g.mv (at_)) (k))) ((bestB (upG g ls at_) (gI g.ow at_) ((gL g.mv at_).take k.toNat)).1) 0 : Int) < 0))), (52, .bool (decide ((cmpT (upG g ls at_ (gI (gL g.mv (at_)) (k))) ((bestB (upG g ls at_) (gI g.ow at_) ((gL g.mv at_).take k.toNat)).1) 0 : Int) < 0))), (51, .int .i64 (cmpT (upG g ls at_ (gI (gL g.mv (at_)) (k))) ((bestB (upG g ls at_) (gI g.ow at_) ((gL g.mv at_).take k.toNat)).1) 0)), (50, .bool false), (49, .bool (decide (((bestB (upG g ls at_) (gI g.ow at_) ((gL g.mv at_).take k.toNat)).2 : Int) < 0))), (48, .int .i64 ((bestB (upG g ls at_) (gI g.ow at_) ((gL g.mv at_).take k.toNat)).2))] [((.bool (decide (((bestB (upG g ls at_) (gI g.ow at_) ((gL g.mv at_).take k.toNat)).2 : Int) < 0)) : Value) = .bool false)] (by kernel_rfl) ⟨(congrArg Value.bool h244), trivial⟩ (fun act273 f272 => ?_)
          clear f177
          refine At.done rfl ?_
          refine t_n ?_
          refine cond_S f272 (t := decide ((cmpT (upG g ls at_ (gI (gL g.mv (at_)) (k))) ((bestB (upG g ls at_) (gI g.ow at_) ((gL g.mv at_).take k.toNat)).1) 0 : Int) < 0)) rfl (fun h274 => ?_) (fun h274 => ?_)
          · have q275 := of_decide_eq_true h274
            refine At.start ?_
            refine At.rd f272 2 [[.ld (.bool ((upG g ls at_ (gI (gL g.mv (at_)) (k))).top)), .ld (.int .i64 ((upG g ls at_ (gI (gL g.mv (at_)) (k))).c0)), .ld (.int .i64 ((upG g ls at_ (gI (gL g.mv (at_)) (k))).c1)), .ld (.int .i64 ((upG g ls at_ (gI (gL g.mv (at_)) (k))).c2)), .ld (.int .i64 ((upG g ls at_ (gI (gL g.mv (at_)) (k))).c3))], []] [(55, .int .i64 (gI (gL g.mv (at_)) (k))), (54, tupV (upG g ls at_ (gI (gL g.mv (at_)) (k))))] [(w159.cell? ⟨w115.heap.size, 0, none⟩ = some (.bool ((upG g ls at_ (gI (gL g.mv (at_)) (k))).top))), (w159.cell? ⟨w115.heap.size, 1, none⟩ = some (.int .i64 ((upG g ls at_ (gI (gL g.mv (at_)) (k))).c0))), (w159.cell? ⟨w115.heap.size, 2, none⟩ = some (.int .i64 ((upG g ls at_ (gI (gL g.mv (at_)) (k))).c1))), (w159.cell? ⟨w115.heap.size, 3, none⟩ = some (.int .i64 ((upG g ls at_ (gI (gL g.mv (at_)) (k))).c2))), (w159.cell? ⟨w115.heap.size, 4, none⟩ = some (.int .i64 ((upG g ls at_ (gI (gL g.mv (at_)) (k))).c3)))] (by kernel_rfl) ⟨(bx171.cell (i := 0) rfl), (bx171.cell (i := 1) rfl), (bx171.cell (i := 2) rfl), (bx171.cell (i := 3) rfl), (bx171.cell (i := 4) rfl), trivial⟩ (fun act277 f276 => ?_)
            clear f272
            refine At.store f276 (t := 41) (b := w22.heap.size) (off := 0) (v := tupV (upG g ls at_ (gI (gL g.mv (at_)) (k)))) (by kernel_rfl) bx169 (by kernel_rfl) (fun act282 w278 g279 bx280 f281 => ?_)
            clear f276
            replace bx280 : Bx w278 (w22.heap.size) (tupC (upG g ls at_ (gI (gL g.mv (at_)) (k)))) 41 := bx280
            have szw278 := g279.size
            have e283 := e163.gr g279 (fun k h => by injection h; omega)
            clear e163
            have r284 := r164.gr g279 (fun k h => by injection h; omega)
            clear r164
            have r285 := r165.gr g279 (fun k h => by injection h; omega)
            clear r165
            have bx286 := bx166.gr g279 (fun h => by injection h; omega)
            clear bx166
            have bx287 := bx167.gr g279 (fun h => by injection h; omega)
            clear bx167
            have bx288 := bx168.gr g279 (fun h => by injection h; omega)
            clear bx168
            have r289 := r170.gr g279 (fun k h => by injection h; omega)
            clear r170
            have bx290 := bx171.gr g279 (fun h => by injection h; omega)
            clear bx171
            clear bx169 g279
            refine At.rd f281 1 [[]] [(11, .int .i64 (gI (gL g.mv (at_)) (k)))] [] (by kernel_rfl) trivial (fun act292 f291 => ?_)
            clear f281
            refine At.done rfl ?_
            refine b_n ?_
            refine t_n ?_
            have f293 := f291.sub (r := [(11, .int .i64 (gI (gL g.mv (at_)) (k))), (55, .int .i64 (gI (gL g.mv (at_)) (k))), (54, tupV (upG g ls at_ (gI (gL g.mv (at_)) (k)))), (53, .bool (decide ((cmpT (upG g ls at_ (gI (gL g.mv (at_)) (k))) ((bestB (upG g ls at_) (gI g.ow at_) ((gL g.mv at_).take k.toNat)).1) 0 : Int) < 0))), (52, .bool (decide ((cmpT (upG g ls at_ (gI (gL g.mv (at_)) (k))) ((bestB (upG g ls at_) (gI g.ow at_) ((gL g.mv at_).take k.toNat)).1) 0 : Int) < 0))), (51, .int .i64 (cmpT (upG g ls at_ (gI (gL g.mv (at_)) (k))) ((bestB (upG g ls at_) (gI g.ow at_) ((gL g.mv at_).take k.toNat)).1) 0)), (50, .bool false), (49, .bool (decide (((bestB (upG g ls at_) (gI g.ow at_) ((gL g.mv at_).take k.toNat)).2 : Int) < 0))), (48, .int .i64 ((bestB (upG g ls at_) (gI g.ow at_) ((gL g.mv at_).take k.toNat)).2)), (45, .bool ((gI g.ow (at_) : Int) == 1)), (44, .int .i64 (gI g.ow (at_))), (43, .pointer (some (ad174.add ((at_ : Int).toNat * 1)))), (42, .int .i64 (at_)), (41, .slice Ag0 g.ow.length cg0), (40, .pointer (some ⟨w.heap.size, 0, none⟩)), (15, .int .i64 (cmpT (upG g ls at_ (gI (gL g.mv (at_)) (k))) ((bestB (upG g ls at_) (gI g.ow at_) ((gL g.mv at_).take k.toNat)).1) 0)), (39, .int .i64 (cmpT (upG g ls at_ (gI (gL g.mv (at_)) (k))) ((bestB (upG g ls at_) (gI g.ow at_) ((gL g.mv at_).take k.toNat)).1) 0)), (38, tupV ((bestB (upG g ls at_) (gI g.ow at_) ((gL g.mv at_).take k.toNat)).1)), (37, tupV (upG g ls at_ (gI (gL g.mv (at_)) (k)))), (14, .pointer (some ⟨w115.heap.size, 0, none⟩)), (36, tupV (upG g ls at_ (gI (gL g.mv (at_)) (k)))), (35, tupV (gT ls (gI (gL g.mv (at_)) (k)))), (34, .pointer (some (ad92.add ((gI (gL g.mv (at_)) (k) : Int).toNat * 5)))), (33, .int .i64 (gI (gL g.mv (at_)) (k))), (32, .slice As ls.length cs), (31, .int .i64 (gI g.pr (at_))), (30, .pointer (some (ad89.add ((at_ : Int).toNat * 1)))), (29, .int .i64 (at_)), (28, .slice Ag1 g.pr.length cg1), (27, .pointer (some ⟨w.heap.size, 1, none⟩)), (26, .agg #[.int .i64 (cnt g.pr 1), .int .i64 (cnt g.pr 3), .int .i64 (cnt g.pr 5), .int .i64 (cnt g.pr 7)]), (13, .int .i64 (gI (gL g.mv (at_)) (k))), (25, .int .i64 (gI (gL g.mv (at_)) (k))), (24, .pointer (some (ad84.add ((k : Int).toNat * 1)))), (23, .bool (decide ((k : Int) < (((gL g.mv (at_)).length : Nat) : Int)))), (22, .int .i64 (k)), (21, .int .i64 ((((gL g.mv (at_)).length : Nat) : Int))), (20, .slice R55 ((gL g.mv (at_)).length) C56), (10, .pointer (some ⟨w22.heap.size, 0, none⟩)), (9, .int .i64 (0)), (8, .pointer (some ⟨w11.heap.size, 0, none⟩)), (5, .pointer (some ⟨w1.heap.size, 0, none⟩)), (4, .pointer (some ⟨w.heap.size, 0, none⟩)), (2, .slice As ls.length cs), (3, .int .i64 (at_))]) ⟨rfl, rfl, rfl, rfl, rfl, rfl, rfl, rfl, rfl, rfl, rfl, rfl, rfl, rfl, rfl, rfl, rfl, rfl, rfl, rfl, rfl, rfl, rfl, rfl, rfl, rfl, rfl, rfl, rfl, rfl, rfl, rfl, rfl, rfl, rfl, rfl, rfl, rfl, rfl, rfl, rfl, rfl, rfl, rfl, rfl, trivial⟩
            clear f291
            refine At.start ?_
            refine At.rd f293 2 [[.as_ (.int .i64 (k + 1))], []] [(22, .int .i64 (k + 1)), (56, .int .i64 (k + 1))] [((.int .i64 (IntKind.i64.wrap (k + 1)) : Value) = .int .i64 (k + 1))] (by kernel_rfl) ⟨(w64 (by omega) (by omega)), trivial⟩ (fun act295 f294 => ?_)
            clear f293
            refine At.done rfl ?_
            refine t_n ?_
            have f296 := f294.as 11 (.int .i64 (gI (gL g.mv (at_)) (k))) (.int .i64 ((bestB (upG g ls at_) (gI g.ow at_) ((gL g.mv at_).take ((k + 1) : Int).toNat)).2)) rfl (congrArg (Value.int .i64) (by first | exact congrArg Prod.snd (bestB_yes (f := upG g ls at_) (by omega) (by omega) (by first | exact .inl (by omega) | exact .inr (.inl ⟨by omega, by omega⟩) | exact .inr (.inr ⟨by omega, by omega⟩))) | exact congrArg Prod.snd (bestB_no (f := upG g ls at_) (by omega) (by omega) (by omega) (fun _ => by omega) (fun _ => by omega))))
            clear f294
            have f297 := f296.sub (r := [(22, .int .i64 (k + 1)), (11, .int .i64 ((bestB (upG g ls at_) (gI g.ow at_) ((gL g.mv at_).take ((k + 1) : Int).toNat)).2)), (21, .int .i64 ((((gL g.mv (at_)).length : Nat) : Int))), (20, .slice R55 ((gL g.mv (at_)).length) C56), (10, .pointer (some ⟨w22.heap.size, 0, none⟩)), (9, .int .i64 (0)), (8, .pointer (some ⟨w11.heap.size, 0, none⟩)), (5, .pointer (some ⟨w1.heap.size, 0, none⟩)), (4, .pointer (some ⟨w.heap.size, 0, none⟩)), (2, .slice As ls.length cs), (3, .int .i64 (at_))]) ⟨rfl, rfl, rfl, rfl, rfl, rfl, rfl, rfl, rfl, rfl, rfl, trivial⟩
            exact ⟨_, (by omega), (k + 1), rfl, f297, e283, r284, r285, bx286, bx287, bx288, (bx280.as (by first | exact tupC_eq (t := upG g ls at_ (gI (gL g.mv at_) k)) (congrArg Prod.fst (bestB_yes (f := upG g ls at_) (by omega) (by omega) (by first | exact .inl (by omega) | exact .inr (.inl ⟨by omega, by omega⟩) | exact .inr (.inr ⟨by omega, by omega⟩)))) | exact tupC_eq (congrArg Prod.fst (bestB_no (f := upG g ls at_) (by omega) (by omega) (by omega) (fun _ => by omega) (fun _ => by omega))))), r289, (by omega), (by omega)⟩
          · have q298 := of_decide_eq_false h274
            refine wp_skip ?_
            refine b_n ?_
            refine t_n ?_
            refine At.start ?_
            refine At.rd f272 2 [[.as_ (.int .i64 (k + 1))], []] [(22, .int .i64 (k + 1)), (56, .int .i64 (k + 1))] [((.int .i64 (IntKind.i64.wrap (k + 1)) : Value) = .int .i64 (k + 1))] (by kernel_rfl) ⟨(w64 (by omega) (by omega)), trivial⟩ (fun act300 f299 => ?_)
            clear f272
            refine At.done rfl ?_
            refine t_n ?_
            have f301 := f299.as 11 (.int .i64 ((bestB (upG g ls at_) (gI g.ow at_) ((gL g.mv at_).take k.toNat)).2)) (.int .i64 ((bestB (upG g ls at_) (gI g.ow at_) ((gL g.mv at_).take ((k + 1) : Int).toNat)).2)) rfl (congrArg (Value.int .i64) (by first | exact congrArg Prod.snd (bestB_yes (f := upG g ls at_) (by omega) (by omega) (by first | exact .inl (by omega) | exact .inr (.inl ⟨by omega, by omega⟩) | exact .inr (.inr ⟨by omega, by omega⟩))) | exact congrArg Prod.snd (bestB_no (f := upG g ls at_) (by omega) (by omega) (by omega) (fun _ => by omega) (fun _ => by omega))))
            clear f299
            have f302 := f301.sub (r := [(22, .int .i64 (k + 1)), (11, .int .i64 ((bestB (upG g ls at_) (gI g.ow at_) ((gL g.mv at_).take ((k + 1) : Int).toNat)).2)), (21, .int .i64 ((((gL g.mv (at_)).length : Nat) : Int))), (20, .slice R55 ((gL g.mv (at_)).length) C56), (10, .pointer (some ⟨w22.heap.size, 0, none⟩)), (9, .int .i64 (0)), (8, .pointer (some ⟨w11.heap.size, 0, none⟩)), (5, .pointer (some ⟨w1.heap.size, 0, none⟩)), (4, .pointer (some ⟨w.heap.size, 0, none⟩)), (2, .slice As ls.length cs), (3, .int .i64 (at_))]) ⟨rfl, rfl, rfl, rfl, rfl, rfl, rfl, rfl, rfl, rfl, rfl, trivial⟩
            exact ⟨_, (by omega), (k + 1), rfl, f302, e163, r164, r165, bx166, bx167, bx168, (bx169.as (by first | exact tupC_eq (t := upG g ls at_ (gI (gL g.mv at_) k)) (congrArg Prod.fst (bestB_yes (f := upG g ls at_) (by omega) (by omega) (by first | exact .inl (by omega) | exact .inr (.inl ⟨by omega, by omega⟩) | exact .inr (.inr ⟨by omega, by omega⟩)))) | exact tupC_eq (congrArg Prod.fst (bestB_no (f := upG g ls at_) (by omega) (by omega) (by omega) (fun _ => by omega) (fun _ => by omega))))), r170, (by omega), (by omega)⟩
    · refine OneH.seq f112 [[]] [(14, .pointer (some ⟨w101.heap.size, 0, none⟩))] (w101.alloc (.cells #[.bool false, .int .i64 (0), .int .i64 (0), .int .i64 (0), .int .i64 (0)] 41 (0, 0))) [] #[true, true, true, true, true, true, true, true, true, true, false, true, false] (by kernel_rfl) (by kernel_rfl) (by kernel_rfl) trivial (fun act307 w304 hw305 f306 => ?_)
      clear f112
      have g308 := gr_alloc hw305
      have hS303 := hS103.gr g308
      have szw304 := g308.size
      have e310 := e104.gr g308 no_row
      clear e104
      have r311 := r105.gr g308 (fun _ h => by cases h)
      clear r105
      have r312 := r106.gr g308 (fun _ h => by cases h)
      clear r106
      have bx313 := bx107.gr g308 (by simp)
      clear bx107
      have bx314 := bx108.gr g308 (by simp)
      clear bx108
      have bx315 := bx109.gr g308 (by simp)
      clear bx109
      have bx316 := bx110.gr g308 (by simp)
      clear bx110
      have r317 := r111.gr g308 (fun _ h => by cases h)
      clear r111
      have bx318 : Bx w304 (w101.heap.size) [.bool false, .int .i64 (0), .int .i64 (0), .int .i64 (0), .int .i64 (0)] 41 := Bx.new hw305
      have := bx318.lt
      clear g308 hw305
      refine ⟨hS303, ?_⟩
      refine AtH.all [10] 1 (by kernel_rfl) (by simp) ⟨?_, trivial⟩
      refine OneH.call f306 55 #[.agg #[.int .i64 (cnt g.pr 1), .int .i64 (cnt g.pr 3), .int .i64 (cnt g.pr 5), .int .i64 (cnt g.pr 7)], .int .i64 (gI g.pr (at_)), tupV (gT ls (gI (gL g.mv (at_)) (k)))] (some 36) #[true, true, true, true, true, true, true, true, true, true, true, true, false] (by kernel_rfl) (by kernel_rfl) (up_any (n0 := cnt g.pr 1) (n1 := cnt g.pr 3) (n2 := cnt g.pr 5) (n3 := cnt g.pr 7) (p := gI g.pr (at_)) (t := (gT ls (gI (gL g.mv (at_)) (k)))) (by omega) (by omega) (by omega) (by omega) (by first | assumption | exact hok _)) ?_
      rintro e_ w320 ⟨rfl, he⟩
      refine ⟨_, rfl, _, rfl, fun act321 f322 => ?_⟩
      clear f306
      have g323 := gr_ext he
      have hS319 := hS303.gr g323
      have szw320 := g323.size
      have e324 := e310.gr g323 no_row
      clear e310
      have r325 := r311.gr g323 (fun _ h => by cases h)
      clear r311
      have r326 := r312.gr g323 (fun _ h => by cases h)
      clear r312
      have bx327 := bx313.gr g323 (by simp)
      clear bx313
      have bx328 := bx314.gr g323 (by simp)
      clear bx314
      have bx329 := bx315.gr g323 (by simp)
      clear bx315
      have bx330 := bx316.gr g323 (by simp)
      clear bx316
      have r331 := r317.gr g323 (fun _ h => by cases h)
      clear r317
      have bx332 := bx318.gr g323 (by simp)
      clear bx318
      clear g323 he
      refine ⟨hS319, ?_⟩
      refine AtH.all [12] 0 (by kernel_rfl) (by simp) ⟨?_, trivial⟩
      refine OneH.store f322 (t := 41) (b := w101.heap.size) (off := 0) (v := tupV (upG g ls at_ (gI (gL g.mv (at_)) (k)))) #[true, true, true, true, true, true, true, true, true, true, true, true, true] (by kernel_rfl) (by kernel_rfl) bx332 (by kernel_rfl) (fun act338 w334 g335 bx336 f337 => ?_)
      clear f322
      replace bx336 : Bx w334 (w101.heap.size) (tupC (upG g ls at_ (gI (gL g.mv (at_)) (k)))) 41 := bx336
      have hS333 := hS319.gr' g335 (by rw [hCs98]; exact ⟨(by simp only [add_block]; omega), (by simp only [add_block]; omega), (by simp only [add_block]; omega), (by simp only [add_block]; omega), (by simp only [add_block]; omega), (by simp only [add_block]; omega), (by simp only [add_block]; omega), (by simp only [add_block]; omega), (by simp only [add_block]; omega), (by simp only [add_block]; omega), (by simp only [add_block]; omega), trivial⟩)
      have szw334 := g335.size
      have e339 := e324.gr g335 (fun k h => by injection h; omega)
      clear e324
      have r340 := r325.gr g335 (fun k h => by injection h; omega)
      clear r325
      have r341 := r326.gr g335 (fun k h => by injection h; omega)
      clear r326
      have bx342 := bx327.gr g335 (fun h => by injection h; omega)
      clear bx327
      have bx343 := bx328.gr g335 (fun h => by injection h; omega)
      clear bx328
      have bx344 := bx329.gr g335 (fun h => by injection h; omega)
      clear bx329
      have bx345 := bx330.gr g335 (fun h => by injection h; omega)
      clear bx330
      have r346 := r331.gr g335 (fun k h => by injection h; omega)
      clear r331
      clear bx332 g335
      refine ⟨hS333, ?_⟩
      refine AtH.done (by kernel_rfl) ?_
      clear hS333
      refine t_n ?_
      refine wp_seq ?_
      refine At.start ?_
      refine At.rd f337 2 [[.ld (.bool ((upG g ls at_ (gI (gL g.mv (at_)) (k))).top)), .ld (.int .i64 ((upG g ls at_ (gI (gL g.mv (at_)) (k))).c0)), .ld (.int .i64 ((upG g ls at_ (gI (gL g.mv (at_)) (k))).c1)), .ld (.int .i64 ((upG g ls at_ (gI (gL g.mv (at_)) (k))).c2)), .ld (.int .i64 ((upG g ls at_ (gI (gL g.mv (at_)) (k))).c3))], [.ld (.bool ((bestB (upG g ls at_) (gI g.ow at_) ((gL g.mv at_).take k.toNat)).1.top)), .ld (.int .i64 ((bestB (upG g ls at_) (gI g.ow at_) ((gL g.mv at_).take k.toNat)).1.c0)), .ld (.int .i64 ((bestB (upG g ls at_) (gI g.ow at_) ((gL g.mv at_).take k.toNat)).1.c1)), .ld (.int .i64 ((bestB (upG g ls at_) (gI g.ow at_) ((gL g.mv at_).take k.toNat)).1.c2)), .ld (.int .i64 ((bestB (upG g ls at_) (gI g.ow at_) ((gL g.mv at_).take k.toNat)).1.c3))]] [(38, tupV ((bestB (upG g ls at_) (gI g.ow at_) ((gL g.mv at_).take k.toNat)).1)), (37, tupV (upG g ls at_ (gI (gL g.mv (at_)) (k))))] [(w334.cell? ⟨w101.heap.size, 0, none⟩ = some (.bool ((upG g ls at_ (gI (gL g.mv (at_)) (k))).top))), (w334.cell? ⟨w101.heap.size, 1, none⟩ = some (.int .i64 ((upG g ls at_ (gI (gL g.mv (at_)) (k))).c0))), (w334.cell? ⟨w101.heap.size, 2, none⟩ = some (.int .i64 ((upG g ls at_ (gI (gL g.mv (at_)) (k))).c1))), (w334.cell? ⟨w101.heap.size, 3, none⟩ = some (.int .i64 ((upG g ls at_ (gI (gL g.mv (at_)) (k))).c2))), (w334.cell? ⟨w101.heap.size, 4, none⟩ = some (.int .i64 ((upG g ls at_ (gI (gL g.mv (at_)) (k))).c3))), (w334.cell? ⟨w22.heap.size, 0, none⟩ = some (.bool ((bestB (upG g ls at_) (gI g.ow at_) ((gL g.mv at_).take k.toNat)).1.top))), (w334.cell? ⟨w22.heap.size, 1, none⟩ = some (.int .i64 ((bestB (upG g ls at_) (gI g.ow at_) ((gL g.mv at_).take k.toNat)).1.c0))), (w334.cell? ⟨w22.heap.size, 2, none⟩ = some (.int .i64 ((bestB (upG g ls at_) (gI g.ow at_) ((gL g.mv at_).take k.toNat)).1.c1))), (w334.cell? ⟨w22.heap.size, 3, none⟩ = some (.int .i64 ((bestB (upG g ls at_) (gI g.ow at_) ((gL g.mv at_).take k.toNat)).1.c2))), (w334.cell? ⟨w22.heap.size, 4, none⟩ = some (.int .i64 ((bestB (upG g ls at_) (gI g.ow at_) ((gL g.mv at_).take k.toNat)).1.c3)))] (by kernel_rfl) ⟨(bx336.cell (i := 0) rfl), (bx336.cell (i := 1) rfl), (bx336.cell (i := 2) rfl), (bx336.cell (i := 3) rfl), (bx336.cell (i := 4) rfl), (bx345.cell (i := 0) rfl), (bx345.cell (i := 1) rfl), (bx345.cell (i := 2) rfl), (bx345.cell (i := 3) rfl), (bx345.cell (i := 4) rfl), trivial⟩ (fun act348 f347 => ?_)
      clear f337
      refine At.call f347 23 #[tupV (upG g ls at_ (gI (gL g.mv (at_)) (k))), tupV ((bestB (upG g ls at_) (gI g.ow at_) ((gL g.mv at_).take k.toNat)).1), .int .i64 (0)] (some 39) (by kernel_rfl) (cmpM_any (a := (upG g ls at_ (gI (gL g.mv (at_)) (k)))) (b := (bestB (upG g ls at_) (gI g.ow at_) ((gL g.mv at_).take k.toNat)).1) (p := 0)) ?_
      rintro e_ w349 ⟨rfl, he⟩
      have := cmp_rng (upG g ls at_ (gI (gL g.mv (at_)) (k))) ((bestB (upG g ls at_) (gI g.ow at_) ((gL g.mv at_).take k.toNat)).1) 0
      refine ⟨_, rfl, _, rfl, fun act350 f351 => ?_⟩
      clear f347
      have g352 := gr_ext he
      have szw349 := g352.size
      have e353 := e339.gr g352 no_row
      clear e339
      have r354 := r340.gr g352 (fun _ h => by cases h)
      clear r340
      have r355 := r341.gr g352 (fun _ h => by cases h)
      clear r341
      have bx356 := bx342.gr g352 (by simp)
      clear bx342
      have bx357 := bx343.gr g352 (by simp)
      clear bx343
      have bx358 := bx344.gr g352 (by simp)
      clear bx344
      have bx359 := bx345.gr g352 (by simp)
      clear bx345
      have r360 := r346.gr g352 (fun _ h => by cases h)
      clear r346
      have bx361 := bx336.gr g352 (by simp)
      clear bx336
      clear g352 he
      refine At.rd f351 1 [[]] [(15, .int .i64 (cmpT (upG g ls at_ (gI (gL g.mv (at_)) (k))) ((bestB (upG g ls at_) (gI g.ow at_) ((gL g.mv at_).take k.toNat)).1) 0))] [] (by kernel_rfl) trivial (fun act363 f362 => ?_)
      clear f351
      refine At.done rfl ?_
      refine t_n ?_
      refine wp_seq ?_
      refine wp_seq ?_
      refine At.start ?_
      obtain ⟨ad364, hA365, _, _, hc366⟩ := RdI.get r354.ow (at_) (by omega) (by omega)
      refine At.rd f362 6 [[], [.ld (.slice Ag0 g.ow.length cg0)], [], [.ad ad364], [.ld (.int .i64 (gI g.ow (at_)))], []] [(45, .bool ((gI g.ow (at_) : Int) == 1)), (44, .int .i64 (gI g.ow (at_))), (43, .pointer (some (ad364.add ((at_ : Int).toNat * 1)))), (42, .int .i64 (at_)), (41, .slice Ag0 g.ow.length cg0), (40, .pointer (some ⟨w.heap.size, 0, none⟩))] [(w349.cell? ⟨w.heap.size, 0, none⟩ = some (.slice Ag0 g.ow.length cg0)), (Ag0 = some ad364), (0 ≤ (at_ : Int)), ((at_ : Int) < (g.ow.length : Nat)), (w349.cell? (ad364.add ((at_ : Int).toNat * 1)) = some (.int .i64 (gI g.ow (at_))))] (by kernel_rfl) ⟨(bx356.cell (i := 0) rfl), hA365, (by omega), (by omega), hc366, trivial⟩ (fun act368 f367 => ?_)
      clear f362
      refine At.done rfl ?_
      refine t_n ?_
      refine cond_S f367 (t := (gI g.ow (at_) : Int) == 1) rfl (fun h369 => ?_) (fun h369 => ?_)
      · have q370 := eq_of_beq h369
        refine At.start ?_
        refine At.rd f367 3 [[], [.as_ (.int .i64 (-(cmpT (upG g ls at_ (gI (gL g.mv (at_)) (k))) ((bestB (upG g ls at_) (gI g.ow at_) ((gL g.mv at_).take k.toNat)).1) 0)))], []] [(15, .int .i64 (-(cmpT (upG g ls at_ (gI (gL g.mv (at_)) (k))) ((bestB (upG g ls at_) (gI g.ow at_) ((gL g.mv at_).take k.toNat)).1) 0))), (47, .int .i64 (-(cmpT (upG g ls at_ (gI (gL g.mv (at_)) (k))) ((bestB (upG g ls at_) (gI g.ow at_) ((gL g.mv at_).take k.toNat)).1) 0))), (46, .int .i64 (cmpT (upG g ls at_ (gI (gL g.mv (at_)) (k))) ((bestB (upG g ls at_) (gI g.ow at_) ((gL g.mv at_).take k.toNat)).1) 0))] [((.int .i64 (IntKind.i64.wrap (0 - (cmpT (upG g ls at_ (gI (gL g.mv (at_)) (k))) ((bestB (upG g ls at_) (gI g.ow at_) ((gL g.mv at_).take k.toNat)).1) 0))) : Value) = .int .i64 (-(cmpT (upG g ls at_ (gI (gL g.mv (at_)) (k))) ((bestB (upG g ls at_) (gI g.ow at_) ((gL g.mv at_).take k.toNat)).1) 0)))] (by kernel_rfl) ⟨(w64e (by omega) (by omega) (by omega)), trivial⟩ (fun act372 f371 => ?_)
        clear f367
        refine At.done rfl ?_
        refine t_n ?_
        have f373 := f371.sub (r := [(15, .int .i64 (-(cmpT (upG g ls at_ (gI (gL g.mv (at_)) (k))) ((bestB (upG g ls at_) (gI g.ow at_) ((gL g.mv at_).take k.toNat)).1) 0))), (47, .int .i64 (-(cmpT (upG g ls at_ (gI (gL g.mv (at_)) (k))) ((bestB (upG g ls at_) (gI g.ow at_) ((gL g.mv at_).take k.toNat)).1) 0))), (46, .int .i64 (cmpT (upG g ls at_ (gI (gL g.mv (at_)) (k))) ((bestB (upG g ls at_) (gI g.ow at_) ((gL g.mv at_).take k.toNat)).1) 0)), (45, .bool ((gI g.ow (at_) : Int) == 1)), (44, .int .i64 (gI g.ow (at_))), (43, .pointer (some (ad364.add ((at_ : Int).toNat * 1)))), (42, .int .i64 (at_)), (41, .slice Ag0 g.ow.length cg0), (40, .pointer (some ⟨w.heap.size, 0, none⟩)), (39, .int .i64 (cmpT (upG g ls at_ (gI (gL g.mv (at_)) (k))) ((bestB (upG g ls at_) (gI g.ow at_) ((gL g.mv at_).take k.toNat)).1) 0)), (38, tupV ((bestB (upG g ls at_) (gI g.ow at_) ((gL g.mv at_).take k.toNat)).1)), (37, tupV (upG g ls at_ (gI (gL g.mv (at_)) (k)))), (36, tupV (upG g ls at_ (gI (gL g.mv (at_)) (k)))), (14, .pointer (some ⟨w101.heap.size, 0, none⟩)), (35, tupV (gT ls (gI (gL g.mv (at_)) (k)))), (34, .pointer (some (ad92.add ((gI (gL g.mv (at_)) (k) : Int).toNat * 5)))), (33, .int .i64 (gI (gL g.mv (at_)) (k))), (32, .slice As ls.length cs), (31, .int .i64 (gI g.pr (at_))), (30, .pointer (some (ad89.add ((at_ : Int).toNat * 1)))), (29, .int .i64 (at_)), (28, .slice Ag1 g.pr.length cg1), (27, .pointer (some ⟨w.heap.size, 1, none⟩)), (26, .agg #[.int .i64 (cnt g.pr 1), .int .i64 (cnt g.pr 3), .int .i64 (cnt g.pr 5), .int .i64 (cnt g.pr 7)]), (13, .int .i64 (gI (gL g.mv (at_)) (k))), (25, .int .i64 (gI (gL g.mv (at_)) (k))), (24, .pointer (some (ad84.add ((k : Int).toNat * 1)))), (23, .bool (decide ((k : Int) < (((gL g.mv (at_)).length : Nat) : Int)))), (22, .int .i64 (k)), (11, .int .i64 ((bestB (upG g ls at_) (gI g.ow at_) ((gL g.mv at_).take k.toNat)).2)), (21, .int .i64 ((((gL g.mv (at_)).length : Nat) : Int))), (20, .slice R55 ((gL g.mv (at_)).length) C56), (10, .pointer (some ⟨w22.heap.size, 0, none⟩)), (9, .int .i64 (0)), (8, .pointer (some ⟨w11.heap.size, 0, none⟩)), (5, .pointer (some ⟨w1.heap.size, 0, none⟩)), (4, .pointer (some ⟨w.heap.size, 0, none⟩)), (2, .slice As ls.length cs), (3, .int .i64 (at_))]) ⟨rfl, rfl, rfl, rfl, rfl, rfl, rfl, rfl, rfl, rfl, rfl, rfl, rfl, rfl, rfl, rfl, rfl, rfl, rfl, rfl, rfl, rfl, rfl, rfl, rfl, rfl, rfl, rfl, rfl, rfl, rfl, rfl, rfl, rfl, rfl, rfl, rfl, rfl, rfl, trivial⟩
        clear f371
        refine wp_seq ?_
        refine At.start ?_
        rcases Bool.eq_false_or_eq_true (decide (((bestB (upG g ls at_) (gI g.ow at_) ((gL g.mv at_).take k.toNat)).2 : Int) < 0)) with h374 | h374
        · have q375 := of_decide_eq_true h374
          refine At.rd f373 6 [[], [], [.as_ (.bool true)], [], [], []] [(53, .bool true), (52, undef), (51, undef), (50, .bool true), (49, .bool (decide (((bestB (upG g ls at_) (gI g.ow at_) ((gL g.mv at_).take k.toNat)).2 : Int) < 0))), (48, .int .i64 ((bestB (upG g ls at_) (gI g.ow at_) ((gL g.mv at_).take k.toNat)).2))] [((.bool (decide (((bestB (upG g ls at_) (gI g.ow at_) ((gL g.mv at_).take k.toNat)).2 : Int) < 0)) : Value) = .bool true)] (by kernel_rfl) ⟨(congrArg Value.bool h374), trivial⟩ (fun act377 f376 => ?_)
          clear f373
          refine At.done rfl ?_
          refine t_n ?_
          have f378 := f376.sub (r := [(53, .bool true), (50, .bool true), (49, .bool (decide (((bestB (upG g ls at_) (gI g.ow at_) ((gL g.mv at_).take k.toNat)).2 : Int) < 0))), (48, .int .i64 ((bestB (upG g ls at_) (gI g.ow at_) ((gL g.mv at_).take k.toNat)).2)), (15, .int .i64 (-(cmpT (upG g ls at_ (gI (gL g.mv (at_)) (k))) ((bestB (upG g ls at_) (gI g.ow at_) ((gL g.mv at_).take k.toNat)).1) 0))), (47, .int .i64 (-(cmpT (upG g ls at_ (gI (gL g.mv (at_)) (k))) ((bestB (upG g ls at_) (gI g.ow at_) ((gL g.mv at_).take k.toNat)).1) 0))), (46, .int .i64 (cmpT (upG g ls at_ (gI (gL g.mv (at_)) (k))) ((bestB (upG g ls at_) (gI g.ow at_) ((gL g.mv at_).take k.toNat)).1) 0)), (45, .bool ((gI g.ow (at_) : Int) == 1)), (44, .int .i64 (gI g.ow (at_))), (43, .pointer (some (ad364.add ((at_ : Int).toNat * 1)))), (42, .int .i64 (at_)), (41, .slice Ag0 g.ow.length cg0), (40, .pointer (some ⟨w.heap.size, 0, none⟩)), (39, .int .i64 (cmpT (upG g ls at_ (gI (gL g.mv (at_)) (k))) ((bestB (upG g ls at_) (gI g.ow at_) ((gL g.mv at_).take k.toNat)).1) 0)), (38, tupV ((bestB (upG g ls at_) (gI g.ow at_) ((gL g.mv at_).take k.toNat)).1)), (37, tupV (upG g ls at_ (gI (gL g.mv (at_)) (k)))), (36, tupV (upG g ls at_ (gI (gL g.mv (at_)) (k)))), (14, .pointer (some ⟨w101.heap.size, 0, none⟩)), (35, tupV (gT ls (gI (gL g.mv (at_)) (k)))), (34, .pointer (some (ad92.add ((gI (gL g.mv (at_)) (k) : Int).toNat * 5)))), (33, .int .i64 (gI (gL g.mv (at_)) (k))), (32, .slice As ls.length cs), (31, .int .i64 (gI g.pr (at_))), (30, .pointer (some (ad89.add ((at_ : Int).toNat * 1)))), (29, .int .i64 (at_)), (28, .slice Ag1 g.pr.length cg1), (27, .pointer (some ⟨w.heap.size, 1, none⟩)), (26, .agg #[.int .i64 (cnt g.pr 1), .int .i64 (cnt g.pr 3), .int .i64 (cnt g.pr 5), .int .i64 (cnt g.pr 7)]), (13, .int .i64 (gI (gL g.mv (at_)) (k))), (25, .int .i64 (gI (gL g.mv (at_)) (k))), (24, .pointer (some (ad84.add ((k : Int).toNat * 1)))), (23, .bool (decide ((k : Int) < (((gL g.mv (at_)).length : Nat) : Int)))), (22, .int .i64 (k)), (11, .int .i64 ((bestB (upG g ls at_) (gI g.ow at_) ((gL g.mv at_).take k.toNat)).2)), (21, .int .i64 ((((gL g.mv (at_)).length : Nat) : Int))), (20, .slice R55 ((gL g.mv (at_)).length) C56), (10, .pointer (some ⟨w22.heap.size, 0, none⟩)), (9, .int .i64 (0)), (8, .pointer (some ⟨w11.heap.size, 0, none⟩)), (5, .pointer (some ⟨w1.heap.size, 0, none⟩)), (4, .pointer (some ⟨w.heap.size, 0, none⟩)), (2, .slice As ls.length cs), (3, .int .i64 (at_))]) ⟨rfl, rfl, rfl, rfl, rfl, rfl, rfl, rfl, rfl, rfl, rfl, rfl, rfl, rfl, rfl, rfl, rfl, rfl, rfl, rfl, rfl, rfl, rfl, rfl, rfl, rfl, rfl, rfl, rfl, rfl, rfl, rfl, rfl, rfl, rfl, rfl, rfl, rfl, rfl, rfl, rfl, rfl, rfl, trivial⟩
          clear f376
          refine cond_T f378 rfl ?_
          refine At.start ?_
          refine At.rd f378 2 [[.ld (.bool ((upG g ls at_ (gI (gL g.mv (at_)) (k))).top)), .ld (.int .i64 ((upG g ls at_ (gI (gL g.mv (at_)) (k))).c0)), .ld (.int .i64 ((upG g ls at_ (gI (gL g.mv (at_)) (k))).c1)), .ld (.int .i64 ((upG g ls at_ (gI (gL g.mv (at_)) (k))).c2)), .ld (.int .i64 ((upG g ls at_ (gI (gL g.mv (at_)) (k))).c3))], []] [(55, .int .i64 (gI (gL g.mv (at_)) (k))), (54, tupV (upG g ls at_ (gI (gL g.mv (at_)) (k))))] [(w349.cell? ⟨w101.heap.size, 0, none⟩ = some (.bool ((upG g ls at_ (gI (gL g.mv (at_)) (k))).top))), (w349.cell? ⟨w101.heap.size, 1, none⟩ = some (.int .i64 ((upG g ls at_ (gI (gL g.mv (at_)) (k))).c0))), (w349.cell? ⟨w101.heap.size, 2, none⟩ = some (.int .i64 ((upG g ls at_ (gI (gL g.mv (at_)) (k))).c1))), (w349.cell? ⟨w101.heap.size, 3, none⟩ = some (.int .i64 ((upG g ls at_ (gI (gL g.mv (at_)) (k))).c2))), (w349.cell? ⟨w101.heap.size, 4, none⟩ = some (.int .i64 ((upG g ls at_ (gI (gL g.mv (at_)) (k))).c3)))] (by kernel_rfl) ⟨(bx361.cell (i := 0) rfl), (bx361.cell (i := 1) rfl), (bx361.cell (i := 2) rfl), (bx361.cell (i := 3) rfl), (bx361.cell (i := 4) rfl), trivial⟩ (fun act380 f379 => ?_)
          clear f378
          refine At.store f379 (t := 41) (b := w22.heap.size) (off := 0) (v := tupV (upG g ls at_ (gI (gL g.mv (at_)) (k)))) (by kernel_rfl) bx359 (by kernel_rfl) (fun act385 w381 g382 bx383 f384 => ?_)
          clear f379
          replace bx383 : Bx w381 (w22.heap.size) (tupC (upG g ls at_ (gI (gL g.mv (at_)) (k)))) 41 := bx383
          have szw381 := g382.size
          have e386 := e353.gr g382 (fun k h => by injection h; omega)
          clear e353
          have r387 := r354.gr g382 (fun k h => by injection h; omega)
          clear r354
          have r388 := r355.gr g382 (fun k h => by injection h; omega)
          clear r355
          have bx389 := bx356.gr g382 (fun h => by injection h; omega)
          clear bx356
          have bx390 := bx357.gr g382 (fun h => by injection h; omega)
          clear bx357
          have bx391 := bx358.gr g382 (fun h => by injection h; omega)
          clear bx358
          have r392 := r360.gr g382 (fun k h => by injection h; omega)
          clear r360
          have bx393 := bx361.gr g382 (fun h => by injection h; omega)
          clear bx361
          clear bx359 g382
          refine At.rd f384 1 [[]] [(11, .int .i64 (gI (gL g.mv (at_)) (k)))] [] (by kernel_rfl) trivial (fun act395 f394 => ?_)
          clear f384
          refine At.done rfl ?_
          refine b_n ?_
          refine t_n ?_
          have f396 := f394.sub (r := [(11, .int .i64 (gI (gL g.mv (at_)) (k))), (55, .int .i64 (gI (gL g.mv (at_)) (k))), (54, tupV (upG g ls at_ (gI (gL g.mv (at_)) (k)))), (53, .bool true), (50, .bool true), (49, .bool (decide (((bestB (upG g ls at_) (gI g.ow at_) ((gL g.mv at_).take k.toNat)).2 : Int) < 0))), (48, .int .i64 ((bestB (upG g ls at_) (gI g.ow at_) ((gL g.mv at_).take k.toNat)).2)), (15, .int .i64 (-(cmpT (upG g ls at_ (gI (gL g.mv (at_)) (k))) ((bestB (upG g ls at_) (gI g.ow at_) ((gL g.mv at_).take k.toNat)).1) 0))), (47, .int .i64 (-(cmpT (upG g ls at_ (gI (gL g.mv (at_)) (k))) ((bestB (upG g ls at_) (gI g.ow at_) ((gL g.mv at_).take k.toNat)).1) 0))), (46, .int .i64 (cmpT (upG g ls at_ (gI (gL g.mv (at_)) (k))) ((bestB (upG g ls at_) (gI g.ow at_) ((gL g.mv at_).take k.toNat)).1) 0)), (45, .bool ((gI g.ow (at_) : Int) == 1)), (44, .int .i64 (gI g.ow (at_))), (43, .pointer (some (ad364.add ((at_ : Int).toNat * 1)))), (42, .int .i64 (at_)), (41, .slice Ag0 g.ow.length cg0), (40, .pointer (some ⟨w.heap.size, 0, none⟩)), (39, .int .i64 (cmpT (upG g ls at_ (gI (gL g.mv (at_)) (k))) ((bestB (upG g ls at_) (gI g.ow at_) ((gL g.mv at_).take k.toNat)).1) 0)), (38, tupV ((bestB (upG g ls at_) (gI g.ow at_) ((gL g.mv at_).take k.toNat)).1)), (37, tupV (upG g ls at_ (gI (gL g.mv (at_)) (k)))), (36, tupV (upG g ls at_ (gI (gL g.mv (at_)) (k)))), (14, .pointer (some ⟨w101.heap.size, 0, none⟩)), (35, tupV (gT ls (gI (gL g.mv (at_)) (k)))), (34, .pointer (some (ad92.add ((gI (gL g.mv (at_)) (k) : Int).toNat * 5)))), (33, .int .i64 (gI (gL g.mv (at_)) (k))), (32, .slice As ls.length cs), (31, .int .i64 (gI g.pr (at_))), (30, .pointer (some (ad89.add ((at_ : Int).toNat * 1)))), (29, .int .i64 (at_)), (28, .slice Ag1 g.pr.length cg1), (27, .pointer (some ⟨w.heap.size, 1, none⟩)), (26, .agg #[.int .i64 (cnt g.pr 1), .int .i64 (cnt g.pr 3), .int .i64 (cnt g.pr 5), .int .i64 (cnt g.pr 7)]), (13, .int .i64 (gI (gL g.mv (at_)) (k))), (25, .int .i64 (gI (gL g.mv (at_)) (k))), (24, .pointer (some (ad84.add ((k : Int).toNat * 1)))), (23, .bool (decide ((k : Int) < (((gL g.mv (at_)).length : Nat) : Int)))), (22, .int .i64 (k)), (21, .int .i64 ((((gL g.mv (at_)).length : Nat) : Int))), (20, .slice R55 ((gL g.mv (at_)).length) C56), (10, .pointer (some ⟨w22.heap.size, 0, none⟩)), (9, .int .i64 (0)), (8, .pointer (some ⟨w11.heap.size, 0, none⟩)), (5, .pointer (some ⟨w1.heap.size, 0, none⟩)), (4, .pointer (some ⟨w.heap.size, 0, none⟩)), (2, .slice As ls.length cs), (3, .int .i64 (at_))]) ⟨rfl, rfl, rfl, rfl, rfl, rfl, rfl, rfl, rfl, rfl, rfl, rfl, rfl, rfl, rfl, rfl, rfl, rfl, rfl, rfl, rfl, rfl, rfl, rfl, rfl, rfl, rfl, rfl, rfl, rfl, rfl, rfl, rfl, rfl, rfl, rfl, rfl, rfl, rfl, rfl, rfl, rfl, rfl, rfl, rfl, trivial⟩
          clear f394
          refine At.start ?_
          refine At.rd f396 2 [[.as_ (.int .i64 (k + 1))], []] [(22, .int .i64 (k + 1)), (56, .int .i64 (k + 1))] [((.int .i64 (IntKind.i64.wrap (k + 1)) : Value) = .int .i64 (k + 1))] (by kernel_rfl) ⟨(w64 (by omega) (by omega)), trivial⟩ (fun act398 f397 => ?_)
          clear f396
          refine At.done rfl ?_
          refine t_n ?_
          have f399 := f397.as 11 (.int .i64 (gI (gL g.mv (at_)) (k))) (.int .i64 ((bestB (upG g ls at_) (gI g.ow at_) ((gL g.mv at_).take ((k + 1) : Int).toNat)).2)) rfl (congrArg (Value.int .i64) (by first | exact congrArg Prod.snd (bestB_yes (f := upG g ls at_) (by omega) (by omega) (by first | exact .inl (by omega) | exact .inr (.inl ⟨by omega, by omega⟩) | exact .inr (.inr ⟨by omega, by omega⟩))) | exact congrArg Prod.snd (bestB_no (f := upG g ls at_) (by omega) (by omega) (by omega) (fun _ => by omega) (fun _ => by omega))))
          clear f397
          have f400 := f399.sub (r := [(22, .int .i64 (k + 1)), (11, .int .i64 ((bestB (upG g ls at_) (gI g.ow at_) ((gL g.mv at_).take ((k + 1) : Int).toNat)).2)), (21, .int .i64 ((((gL g.mv (at_)).length : Nat) : Int))), (20, .slice R55 ((gL g.mv (at_)).length) C56), (10, .pointer (some ⟨w22.heap.size, 0, none⟩)), (9, .int .i64 (0)), (8, .pointer (some ⟨w11.heap.size, 0, none⟩)), (5, .pointer (some ⟨w1.heap.size, 0, none⟩)), (4, .pointer (some ⟨w.heap.size, 0, none⟩)), (2, .slice As ls.length cs), (3, .int .i64 (at_))]) ⟨rfl, rfl, rfl, rfl, rfl, rfl, rfl, rfl, rfl, rfl, rfl, trivial⟩
          exact ⟨_, (by omega), (k + 1), rfl, f400, e386, r387, r388, bx389, bx390, bx391, (bx383.as (by first | exact tupC_eq (t := upG g ls at_ (gI (gL g.mv at_) k)) (congrArg Prod.fst (bestB_yes (f := upG g ls at_) (by omega) (by omega) (by first | exact .inl (by omega) | exact .inr (.inl ⟨by omega, by omega⟩) | exact .inr (.inr ⟨by omega, by omega⟩)))) | exact tupC_eq (congrArg Prod.fst (bestB_no (f := upG g ls at_) (by omega) (by omega) (by omega) (fun _ => by omega) (fun _ => by omega))))), r392, (by omega), (by omega)⟩
        · have q401 := of_decide_eq_false h374
          refine At.rd f373 6 [[], [], [.as_ (.bool false)], [], [], []] [(53, .bool (decide ((-(cmpT (upG g ls at_ (gI (gL g.mv (at_)) (k))) ((bestB (upG g ls at_) (gI g.ow at_) ((gL g.mv at_).take k.toNat)).1) 0) : Int) < 0))), (52, .bool (decide ((-(cmpT (upG g ls at_ (gI (gL g.mv (at_)) (k))) ((bestB (upG g ls at_) (gI g.ow at_) ((gL g.mv at_).take k.toNat)).1) 0) : Int) < 0))), (51, .int .i64 (-(cmpT (upG g ls at_ (gI (gL g.mv (at_)) (k))) ((bestB (upG g ls at_) (gI g.ow at_) ((gL g.mv at_).take k.toNat)).1) 0))), (50, .bool false), (49, .bool (decide (((bestB (upG g ls at_) (gI g.ow at_) ((gL g.mv at_).take k.toNat)).2 : Int) < 0))), (48, .int .i64 ((bestB (upG g ls at_) (gI g.ow at_) ((gL g.mv at_).take k.toNat)).2))] [((.bool (decide (((bestB (upG g ls at_) (gI g.ow at_) ((gL g.mv at_).take k.toNat)).2 : Int) < 0)) : Value) = .bool false)] (by kernel_rfl) ⟨(congrArg Value.bool h374), trivial⟩ (fun act403 f402 => ?_)
          clear f373
          refine At.done rfl ?_
          refine t_n ?_
          refine cond_S f402 (t := decide ((-(cmpT (upG g ls at_ (gI (gL g.mv (at_)) (k))) ((bestB (upG g ls at_) (gI g.ow at_) ((gL g.mv at_).take k.toNat)).1) 0) : Int) < 0)) rfl (fun h404 => ?_) (fun h404 => ?_)
          · have q405 := of_decide_eq_true h404
            refine At.start ?_
            refine At.rd f402 2 [[.ld (.bool ((upG g ls at_ (gI (gL g.mv (at_)) (k))).top)), .ld (.int .i64 ((upG g ls at_ (gI (gL g.mv (at_)) (k))).c0)), .ld (.int .i64 ((upG g ls at_ (gI (gL g.mv (at_)) (k))).c1)), .ld (.int .i64 ((upG g ls at_ (gI (gL g.mv (at_)) (k))).c2)), .ld (.int .i64 ((upG g ls at_ (gI (gL g.mv (at_)) (k))).c3))], []] [(55, .int .i64 (gI (gL g.mv (at_)) (k))), (54, tupV (upG g ls at_ (gI (gL g.mv (at_)) (k))))] [(w349.cell? ⟨w101.heap.size, 0, none⟩ = some (.bool ((upG g ls at_ (gI (gL g.mv (at_)) (k))).top))), (w349.cell? ⟨w101.heap.size, 1, none⟩ = some (.int .i64 ((upG g ls at_ (gI (gL g.mv (at_)) (k))).c0))), (w349.cell? ⟨w101.heap.size, 2, none⟩ = some (.int .i64 ((upG g ls at_ (gI (gL g.mv (at_)) (k))).c1))), (w349.cell? ⟨w101.heap.size, 3, none⟩ = some (.int .i64 ((upG g ls at_ (gI (gL g.mv (at_)) (k))).c2))), (w349.cell? ⟨w101.heap.size, 4, none⟩ = some (.int .i64 ((upG g ls at_ (gI (gL g.mv (at_)) (k))).c3)))] (by kernel_rfl) ⟨(bx361.cell (i := 0) rfl), (bx361.cell (i := 1) rfl), (bx361.cell (i := 2) rfl), (bx361.cell (i := 3) rfl), (bx361.cell (i := 4) rfl), trivial⟩ (fun act407 f406 => ?_)
            clear f402
            refine At.store f406 (t := 41) (b := w22.heap.size) (off := 0) (v := tupV (upG g ls at_ (gI (gL g.mv (at_)) (k)))) (by kernel_rfl) bx359 (by kernel_rfl) (fun act412 w408 g409 bx410 f411 => ?_)
            clear f406
            replace bx410 : Bx w408 (w22.heap.size) (tupC (upG g ls at_ (gI (gL g.mv (at_)) (k)))) 41 := bx410
            have szw408 := g409.size
            have e413 := e353.gr g409 (fun k h => by injection h; omega)
            clear e353
            have r414 := r354.gr g409 (fun k h => by injection h; omega)
            clear r354
            have r415 := r355.gr g409 (fun k h => by injection h; omega)
            clear r355
            have bx416 := bx356.gr g409 (fun h => by injection h; omega)
            clear bx356
            have bx417 := bx357.gr g409 (fun h => by injection h; omega)
            clear bx357
            have bx418 := bx358.gr g409 (fun h => by injection h; omega)
            clear bx358
            have r419 := r360.gr g409 (fun k h => by injection h; omega)
            clear r360
            have bx420 := bx361.gr g409 (fun h => by injection h; omega)
            clear bx361
            clear bx359 g409
            refine At.rd f411 1 [[]] [(11, .int .i64 (gI (gL g.mv (at_)) (k)))] [] (by kernel_rfl) trivial (fun act422 f421 => ?_)
            clear f411
            refine At.done rfl ?_
            refine b_n ?_
            refine t_n ?_
            have f423 := f421.sub (r := [(11, .int .i64 (gI (gL g.mv (at_)) (k))), (55, .int .i64 (gI (gL g.mv (at_)) (k))), (54, tupV (upG g ls at_ (gI (gL g.mv (at_)) (k)))), (53, .bool (decide ((-(cmpT (upG g ls at_ (gI (gL g.mv (at_)) (k))) ((bestB (upG g ls at_) (gI g.ow at_) ((gL g.mv at_).take k.toNat)).1) 0) : Int) < 0))), (52, .bool (decide ((-(cmpT (upG g ls at_ (gI (gL g.mv (at_)) (k))) ((bestB (upG g ls at_) (gI g.ow at_) ((gL g.mv at_).take k.toNat)).1) 0) : Int) < 0))), (51, .int .i64 (-(cmpT (upG g ls at_ (gI (gL g.mv (at_)) (k))) ((bestB (upG g ls at_) (gI g.ow at_) ((gL g.mv at_).take k.toNat)).1) 0))), (50, .bool false), (49, .bool (decide (((bestB (upG g ls at_) (gI g.ow at_) ((gL g.mv at_).take k.toNat)).2 : Int) < 0))), (48, .int .i64 ((bestB (upG g ls at_) (gI g.ow at_) ((gL g.mv at_).take k.toNat)).2)), (15, .int .i64 (-(cmpT (upG g ls at_ (gI (gL g.mv (at_)) (k))) ((bestB (upG g ls at_) (gI g.ow at_) ((gL g.mv at_).take k.toNat)).1) 0))), (47, .int .i64 (-(cmpT (upG g ls at_ (gI (gL g.mv (at_)) (k))) ((bestB (upG g ls at_) (gI g.ow at_) ((gL g.mv at_).take k.toNat)).1) 0))), (46, .int .i64 (cmpT (upG g ls at_ (gI (gL g.mv (at_)) (k))) ((bestB (upG g ls at_) (gI g.ow at_) ((gL g.mv at_).take k.toNat)).1) 0)), (45, .bool ((gI g.ow (at_) : Int) == 1)), (44, .int .i64 (gI g.ow (at_))), (43, .pointer (some (ad364.add ((at_ : Int).toNat * 1)))), (42, .int .i64 (at_)), (41, .slice Ag0 g.ow.length cg0), (40, .pointer (some ⟨w.heap.size, 0, none⟩)), (39, .int .i64 (cmpT (upG g ls at_ (gI (gL g.mv (at_)) (k))) ((bestB (upG g ls at_) (gI g.ow at_) ((gL g.mv at_).take k.toNat)).1) 0)), (38, tupV ((bestB (upG g ls at_) (gI g.ow at_) ((gL g.mv at_).take k.toNat)).1)), (37, tupV (upG g ls at_ (gI (gL g.mv (at_)) (k)))), (36, tupV (upG g ls at_ (gI (gL g.mv (at_)) (k)))), (14, .pointer (some ⟨w101.heap.size, 0, none⟩)), (35, tupV (gT ls (gI (gL g.mv (at_)) (k)))), (34, .pointer (some (ad92.add ((gI (gL g.mv (at_)) (k) : Int).toNat * 5)))), (33, .int .i64 (gI (gL g.mv (at_)) (k))), (32, .slice As ls.length cs), (31, .int .i64 (gI g.pr (at_))), (30, .pointer (some (ad89.add ((at_ : Int).toNat * 1)))), (29, .int .i64 (at_)), (28, .slice Ag1 g.pr.length cg1), (27, .pointer (some ⟨w.heap.size, 1, none⟩)), (26, .agg #[.int .i64 (cnt g.pr 1), .int .i64 (cnt g.pr 3), .int .i64 (cnt g.pr 5), .int .i64 (cnt g.pr 7)]), (13, .int .i64 (gI (gL g.mv (at_)) (k))), (25, .int .i64 (gI (gL g.mv (at_)) (k))), (24, .pointer (some (ad84.add ((k : Int).toNat * 1)))), (23, .bool (decide ((k : Int) < (((gL g.mv (at_)).length : Nat) : Int)))), (22, .int .i64 (k)), (21, .int .i64 ((((gL g.mv (at_)).length : Nat) : Int))), (20, .slice R55 ((gL g.mv (at_)).length) C56), (10, .pointer (some ⟨w22.heap.size, 0, none⟩)), (9, .int .i64 (0)), (8, .pointer (some ⟨w11.heap.size, 0, none⟩)), (5, .pointer (some ⟨w1.heap.size, 0, none⟩)), (4, .pointer (some ⟨w.heap.size, 0, none⟩)), (2, .slice As ls.length cs), (3, .int .i64 (at_))]) ⟨rfl, rfl, rfl, rfl, rfl, rfl, rfl, rfl, rfl, rfl, rfl, rfl, rfl, rfl, rfl, rfl, rfl, rfl, rfl, rfl, rfl, rfl, rfl, rfl, rfl, rfl, rfl, rfl, rfl, rfl, rfl, rfl, rfl, rfl, rfl, rfl, rfl, rfl, rfl, rfl, rfl, rfl, rfl, rfl, rfl, rfl, rfl, trivial⟩
            clear f421
            refine At.start ?_
            refine At.rd f423 2 [[.as_ (.int .i64 (k + 1))], []] [(22, .int .i64 (k + 1)), (56, .int .i64 (k + 1))] [((.int .i64 (IntKind.i64.wrap (k + 1)) : Value) = .int .i64 (k + 1))] (by kernel_rfl) ⟨(w64 (by omega) (by omega)), trivial⟩ (fun act425 f424 => ?_)
            clear f423
            refine At.done rfl ?_
            refine t_n ?_
            have f426 := f424.as 11 (.int .i64 (gI (gL g.mv (at_)) (k))) (.int .i64 ((bestB (upG g ls at_) (gI g.ow at_) ((gL g.mv at_).take ((k + 1) : Int).toNat)).2)) rfl (congrArg (Value.int .i64) (by first | exact congrArg Prod.snd (bestB_yes (f := upG g ls at_) (by omega) (by omega) (by first | exact .inl (by omega) | exact .inr (.inl ⟨by omega, by omega⟩) | exact .inr (.inr ⟨by omega, by omega⟩))) | exact congrArg Prod.snd (bestB_no (f := upG g ls at_) (by omega) (by omega) (by omega) (fun _ => by omega) (fun _ => by omega))))
            clear f424
            have f427 := f426.sub (r := [(22, .int .i64 (k + 1)), (11, .int .i64 ((bestB (upG g ls at_) (gI g.ow at_) ((gL g.mv at_).take ((k + 1) : Int).toNat)).2)), (21, .int .i64 ((((gL g.mv (at_)).length : Nat) : Int))), (20, .slice R55 ((gL g.mv (at_)).length) C56), (10, .pointer (some ⟨w22.heap.size, 0, none⟩)), (9, .int .i64 (0)), (8, .pointer (some ⟨w11.heap.size, 0, none⟩)), (5, .pointer (some ⟨w1.heap.size, 0, none⟩)), (4, .pointer (some ⟨w.heap.size, 0, none⟩)), (2, .slice As ls.length cs), (3, .int .i64 (at_))]) ⟨rfl, rfl, rfl, rfl, rfl, rfl, rfl, rfl, rfl, rfl, rfl, trivial⟩
            exact ⟨_, (by omega), (k + 1), rfl, f427, e413, r414, r415, bx416, bx417, bx418, (bx410.as (by first | exact tupC_eq (t := upG g ls at_ (gI (gL g.mv at_) k)) (congrArg Prod.fst (bestB_yes (f := upG g ls at_) (by omega) (by omega) (by first | exact .inl (by omega) | exact .inr (.inl ⟨by omega, by omega⟩) | exact .inr (.inr ⟨by omega, by omega⟩)))) | exact tupC_eq (congrArg Prod.fst (bestB_no (f := upG g ls at_) (by omega) (by omega) (by omega) (fun _ => by omega) (fun _ => by omega))))), r419, (by omega), (by omega)⟩
          · have q428 := of_decide_eq_false h404
            refine wp_skip ?_
            refine b_n ?_
            refine t_n ?_
            refine At.start ?_
            refine At.rd f402 2 [[.as_ (.int .i64 (k + 1))], []] [(22, .int .i64 (k + 1)), (56, .int .i64 (k + 1))] [((.int .i64 (IntKind.i64.wrap (k + 1)) : Value) = .int .i64 (k + 1))] (by kernel_rfl) ⟨(w64 (by omega) (by omega)), trivial⟩ (fun act430 f429 => ?_)
            clear f402
            refine At.done rfl ?_
            refine t_n ?_
            have f431 := f429.as 11 (.int .i64 ((bestB (upG g ls at_) (gI g.ow at_) ((gL g.mv at_).take k.toNat)).2)) (.int .i64 ((bestB (upG g ls at_) (gI g.ow at_) ((gL g.mv at_).take ((k + 1) : Int).toNat)).2)) rfl (congrArg (Value.int .i64) (by first | exact congrArg Prod.snd (bestB_yes (f := upG g ls at_) (by omega) (by omega) (by first | exact .inl (by omega) | exact .inr (.inl ⟨by omega, by omega⟩) | exact .inr (.inr ⟨by omega, by omega⟩))) | exact congrArg Prod.snd (bestB_no (f := upG g ls at_) (by omega) (by omega) (by omega) (fun _ => by omega) (fun _ => by omega))))
            clear f429
            have f432 := f431.sub (r := [(22, .int .i64 (k + 1)), (11, .int .i64 ((bestB (upG g ls at_) (gI g.ow at_) ((gL g.mv at_).take ((k + 1) : Int).toNat)).2)), (21, .int .i64 ((((gL g.mv (at_)).length : Nat) : Int))), (20, .slice R55 ((gL g.mv (at_)).length) C56), (10, .pointer (some ⟨w22.heap.size, 0, none⟩)), (9, .int .i64 (0)), (8, .pointer (some ⟨w11.heap.size, 0, none⟩)), (5, .pointer (some ⟨w1.heap.size, 0, none⟩)), (4, .pointer (some ⟨w.heap.size, 0, none⟩)), (2, .slice As ls.length cs), (3, .int .i64 (at_))]) ⟨rfl, rfl, rfl, rfl, rfl, rfl, rfl, rfl, rfl, rfl, rfl, trivial⟩
            exact ⟨_, (by omega), (k + 1), rfl, f432, e353, r354, r355, bx356, bx357, bx358, (bx359.as (by first | exact tupC_eq (t := upG g ls at_ (gI (gL g.mv at_) k)) (congrArg Prod.fst (bestB_yes (f := upG g ls at_) (by omega) (by omega) (by first | exact .inl (by omega) | exact .inr (.inl ⟨by omega, by omega⟩) | exact .inr (.inr ⟨by omega, by omega⟩)))) | exact tupC_eq (congrArg Prod.fst (bestB_no (f := upG g ls at_) (by omega) (by omega) (by omega) (fun _ => by omega) (fun _ => by omega))))), r360, (by omega), (by omega)⟩
      · have q433 := ne_of_beq_false h369
        refine wp_skip ?_
        refine t_n ?_
        refine wp_seq ?_
        refine At.start ?_
        rcases Bool.eq_false_or_eq_true (decide (((bestB (upG g ls at_) (gI g.ow at_) ((gL g.mv at_).take k.toNat)).2 : Int) < 0)) with h434 | h434
        · have q435 := of_decide_eq_true h434
          refine At.rd f367 6 [[], [], [.as_ (.bool true)], [], [], []] [(53, .bool true), (52, undef), (51, undef), (50, .bool true), (49, .bool (decide (((bestB (upG g ls at_) (gI g.ow at_) ((gL g.mv at_).take k.toNat)).2 : Int) < 0))), (48, .int .i64 ((bestB (upG g ls at_) (gI g.ow at_) ((gL g.mv at_).take k.toNat)).2))] [((.bool (decide (((bestB (upG g ls at_) (gI g.ow at_) ((gL g.mv at_).take k.toNat)).2 : Int) < 0)) : Value) = .bool true)] (by kernel_rfl) ⟨(congrArg Value.bool h434), trivial⟩ (fun act437 f436 => ?_)
          clear f367
          refine At.done rfl ?_
          refine t_n ?_
          have f438 := f436.sub (r := [(53, .bool true), (50, .bool true), (49, .bool (decide (((bestB (upG g ls at_) (gI g.ow at_) ((gL g.mv at_).take k.toNat)).2 : Int) < 0))), (48, .int .i64 ((bestB (upG g ls at_) (gI g.ow at_) ((gL g.mv at_).take k.toNat)).2)), (45, .bool ((gI g.ow (at_) : Int) == 1)), (44, .int .i64 (gI g.ow (at_))), (43, .pointer (some (ad364.add ((at_ : Int).toNat * 1)))), (42, .int .i64 (at_)), (41, .slice Ag0 g.ow.length cg0), (40, .pointer (some ⟨w.heap.size, 0, none⟩)), (15, .int .i64 (cmpT (upG g ls at_ (gI (gL g.mv (at_)) (k))) ((bestB (upG g ls at_) (gI g.ow at_) ((gL g.mv at_).take k.toNat)).1) 0)), (39, .int .i64 (cmpT (upG g ls at_ (gI (gL g.mv (at_)) (k))) ((bestB (upG g ls at_) (gI g.ow at_) ((gL g.mv at_).take k.toNat)).1) 0)), (38, tupV ((bestB (upG g ls at_) (gI g.ow at_) ((gL g.mv at_).take k.toNat)).1)), (37, tupV (upG g ls at_ (gI (gL g.mv (at_)) (k)))), (36, tupV (upG g ls at_ (gI (gL g.mv (at_)) (k)))), (14, .pointer (some ⟨w101.heap.size, 0, none⟩)), (35, tupV (gT ls (gI (gL g.mv (at_)) (k)))), (34, .pointer (some (ad92.add ((gI (gL g.mv (at_)) (k) : Int).toNat * 5)))), (33, .int .i64 (gI (gL g.mv (at_)) (k))), (32, .slice As ls.length cs), (31, .int .i64 (gI g.pr (at_))), (30, .pointer (some (ad89.add ((at_ : Int).toNat * 1)))), (29, .int .i64 (at_)), (28, .slice Ag1 g.pr.length cg1), (27, .pointer (some ⟨w.heap.size, 1, none⟩)), (26, .agg #[.int .i64 (cnt g.pr 1), .int .i64 (cnt g.pr 3), .int .i64 (cnt g.pr 5), .int .i64 (cnt g.pr 7)]), (13, .int .i64 (gI (gL g.mv (at_)) (k))), (25, .int .i64 (gI (gL g.mv (at_)) (k))), (24, .pointer (some (ad84.add ((k : Int).toNat * 1)))), (23, .bool (decide ((k : Int) < (((gL g.mv (at_)).length : Nat) : Int)))), (22, .int .i64 (k)), (11, .int .i64 ((bestB (upG g ls at_) (gI g.ow at_) ((gL g.mv at_).take k.toNat)).2)), (21, .int .i64 ((((gL g.mv (at_)).length : Nat) : Int))), (20, .slice R55 ((gL g.mv (at_)).length) C56), (10, .pointer (some ⟨w22.heap.size, 0, none⟩)), (9, .int .i64 (0)), (8, .pointer (some ⟨w11.heap.size, 0, none⟩)), (5, .pointer (some ⟨w1.heap.size, 0, none⟩)), (4, .pointer (some ⟨w.heap.size, 0, none⟩)), (2, .slice As ls.length cs), (3, .int .i64 (at_))]) ⟨rfl, rfl, rfl, rfl, rfl, rfl, rfl, rfl, rfl, rfl, rfl, rfl, rfl, rfl, rfl, rfl, rfl, rfl, rfl, rfl, rfl, rfl, rfl, rfl, rfl, rfl, rfl, rfl, rfl, rfl, rfl, rfl, rfl, rfl, rfl, rfl, rfl, rfl, rfl, rfl, rfl, trivial⟩
          clear f436
          refine cond_T f438 rfl ?_
          refine At.start ?_
          refine At.rd f438 2 [[.ld (.bool ((upG g ls at_ (gI (gL g.mv (at_)) (k))).top)), .ld (.int .i64 ((upG g ls at_ (gI (gL g.mv (at_)) (k))).c0)), .ld (.int .i64 ((upG g ls at_ (gI (gL g.mv (at_)) (k))).c1)), .ld (.int .i64 ((upG g ls at_ (gI (gL g.mv (at_)) (k))).c2)), .ld (.int .i64 ((upG g ls at_ (gI (gL g.mv (at_)) (k))).c3))], []] [(55, .int .i64 (gI (gL g.mv (at_)) (k))), (54, tupV (upG g ls at_ (gI (gL g.mv (at_)) (k))))] [(w349.cell? ⟨w101.heap.size, 0, none⟩ = some (.bool ((upG g ls at_ (gI (gL g.mv (at_)) (k))).top))), (w349.cell? ⟨w101.heap.size, 1, none⟩ = some (.int .i64 ((upG g ls at_ (gI (gL g.mv (at_)) (k))).c0))), (w349.cell? ⟨w101.heap.size, 2, none⟩ = some (.int .i64 ((upG g ls at_ (gI (gL g.mv (at_)) (k))).c1))), (w349.cell? ⟨w101.heap.size, 3, none⟩ = some (.int .i64 ((upG g ls at_ (gI (gL g.mv (at_)) (k))).c2))), (w349.cell? ⟨w101.heap.size, 4, none⟩ = some (.int .i64 ((upG g ls at_ (gI (gL g.mv (at_)) (k))).c3)))] (by kernel_rfl) ⟨(bx361.cell (i := 0) rfl), (bx361.cell (i := 1) rfl), (bx361.cell (i := 2) rfl), (bx361.cell (i := 3) rfl), (bx361.cell (i := 4) rfl), trivial⟩ (fun act440 f439 => ?_)
          clear f438
          refine At.store f439 (t := 41) (b := w22.heap.size) (off := 0) (v := tupV (upG g ls at_ (gI (gL g.mv (at_)) (k)))) (by kernel_rfl) bx359 (by kernel_rfl) (fun act445 w441 g442 bx443 f444 => ?_)
          clear f439
          replace bx443 : Bx w441 (w22.heap.size) (tupC (upG g ls at_ (gI (gL g.mv (at_)) (k)))) 41 := bx443
          have szw441 := g442.size
          have e446 := e353.gr g442 (fun k h => by injection h; omega)
          clear e353
          have r447 := r354.gr g442 (fun k h => by injection h; omega)
          clear r354
          have r448 := r355.gr g442 (fun k h => by injection h; omega)
          clear r355
          have bx449 := bx356.gr g442 (fun h => by injection h; omega)
          clear bx356
          have bx450 := bx357.gr g442 (fun h => by injection h; omega)
          clear bx357
          have bx451 := bx358.gr g442 (fun h => by injection h; omega)
          clear bx358
          have r452 := r360.gr g442 (fun k h => by injection h; omega)
          clear r360
          have bx453 := bx361.gr g442 (fun h => by injection h; omega)
          clear bx361
          clear bx359 g442
          refine At.rd f444 1 [[]] [(11, .int .i64 (gI (gL g.mv (at_)) (k)))] [] (by kernel_rfl) trivial (fun act455 f454 => ?_)
          clear f444
          refine At.done rfl ?_
          refine b_n ?_
          refine t_n ?_
          have f456 := f454.sub (r := [(11, .int .i64 (gI (gL g.mv (at_)) (k))), (55, .int .i64 (gI (gL g.mv (at_)) (k))), (54, tupV (upG g ls at_ (gI (gL g.mv (at_)) (k)))), (53, .bool true), (50, .bool true), (49, .bool (decide (((bestB (upG g ls at_) (gI g.ow at_) ((gL g.mv at_).take k.toNat)).2 : Int) < 0))), (48, .int .i64 ((bestB (upG g ls at_) (gI g.ow at_) ((gL g.mv at_).take k.toNat)).2)), (45, .bool ((gI g.ow (at_) : Int) == 1)), (44, .int .i64 (gI g.ow (at_))), (43, .pointer (some (ad364.add ((at_ : Int).toNat * 1)))), (42, .int .i64 (at_)), (41, .slice Ag0 g.ow.length cg0), (40, .pointer (some ⟨w.heap.size, 0, none⟩)), (15, .int .i64 (cmpT (upG g ls at_ (gI (gL g.mv (at_)) (k))) ((bestB (upG g ls at_) (gI g.ow at_) ((gL g.mv at_).take k.toNat)).1) 0)), (39, .int .i64 (cmpT (upG g ls at_ (gI (gL g.mv (at_)) (k))) ((bestB (upG g ls at_) (gI g.ow at_) ((gL g.mv at_).take k.toNat)).1) 0)), (38, tupV ((bestB (upG g ls at_) (gI g.ow at_) ((gL g.mv at_).take k.toNat)).1)), (37, tupV (upG g ls at_ (gI (gL g.mv (at_)) (k)))), (36, tupV (upG g ls at_ (gI (gL g.mv (at_)) (k)))), (14, .pointer (some ⟨w101.heap.size, 0, none⟩)), (35, tupV (gT ls (gI (gL g.mv (at_)) (k)))), (34, .pointer (some (ad92.add ((gI (gL g.mv (at_)) (k) : Int).toNat * 5)))), (33, .int .i64 (gI (gL g.mv (at_)) (k))), (32, .slice As ls.length cs), (31, .int .i64 (gI g.pr (at_))), (30, .pointer (some (ad89.add ((at_ : Int).toNat * 1)))), (29, .int .i64 (at_)), (28, .slice Ag1 g.pr.length cg1), (27, .pointer (some ⟨w.heap.size, 1, none⟩)), (26, .agg #[.int .i64 (cnt g.pr 1), .int .i64 (cnt g.pr 3), .int .i64 (cnt g.pr 5), .int .i64 (cnt g.pr 7)]), (13, .int .i64 (gI (gL g.mv (at_)) (k))), (25, .int .i64 (gI (gL g.mv (at_)) (k))), (24, .pointer (some (ad84.add ((k : Int).toNat * 1)))), (23, .bool (decide ((k : Int) < (((gL g.mv (at_)).length : Nat) : Int)))), (22, .int .i64 (k)), (21, .int .i64 ((((gL g.mv (at_)).length : Nat) : Int))), (20, .slice R55 ((gL g.mv (at_)).length) C56), (10, .pointer (some ⟨w22.heap.size, 0, none⟩)), (9, .int .i64 (0)), (8, .pointer (some ⟨w11.heap.size, 0, none⟩)), (5, .pointer (some ⟨w1.heap.size, 0, none⟩)), (4, .pointer (some ⟨w.heap.size, 0, none⟩)), (2, .slice As ls.length cs), (3, .int .i64 (at_))]) ⟨rfl, rfl, rfl, rfl, rfl, rfl, rfl, rfl, rfl, rfl, rfl, rfl, rfl, rfl, rfl, rfl, rfl, rfl, rfl, rfl, rfl, rfl, rfl, rfl, rfl, rfl, rfl, rfl, rfl, rfl, rfl, rfl, rfl, rfl, rfl, rfl, rfl, rfl, rfl, rfl, rfl, rfl, rfl, trivial⟩
          clear f454
          refine At.start ?_
          refine At.rd f456 2 [[.as_ (.int .i64 (k + 1))], []] [(22, .int .i64 (k + 1)), (56, .int .i64 (k + 1))] [((.int .i64 (IntKind.i64.wrap (k + 1)) : Value) = .int .i64 (k + 1))] (by kernel_rfl) ⟨(w64 (by omega) (by omega)), trivial⟩ (fun act458 f457 => ?_)
          clear f456
          refine At.done rfl ?_
          refine t_n ?_
          have f459 := f457.as 11 (.int .i64 (gI (gL g.mv (at_)) (k))) (.int .i64 ((bestB (upG g ls at_) (gI g.ow at_) ((gL g.mv at_).take ((k + 1) : Int).toNat)).2)) rfl (congrArg (Value.int .i64) (by first | exact congrArg Prod.snd (bestB_yes (f := upG g ls at_) (by omega) (by omega) (by first | exact .inl (by omega) | exact .inr (.inl ⟨by omega, by omega⟩) | exact .inr (.inr ⟨by omega, by omega⟩))) | exact congrArg Prod.snd (bestB_no (f := upG g ls at_) (by omega) (by omega) (by omega) (fun _ => by omega) (fun _ => by omega))))
          clear f457
          have f460 := f459.sub (r := [(22, .int .i64 (k + 1)), (11, .int .i64 ((bestB (upG g ls at_) (gI g.ow at_) ((gL g.mv at_).take ((k + 1) : Int).toNat)).2)), (21, .int .i64 ((((gL g.mv (at_)).length : Nat) : Int))), (20, .slice R55 ((gL g.mv (at_)).length) C56), (10, .pointer (some ⟨w22.heap.size, 0, none⟩)), (9, .int .i64 (0)), (8, .pointer (some ⟨w11.heap.size, 0, none⟩)), (5, .pointer (some ⟨w1.heap.size, 0, none⟩)), (4, .pointer (some ⟨w.heap.size, 0, none⟩)), (2, .slice As ls.length cs), (3, .int .i64 (at_))]) ⟨rfl, rfl, rfl, rfl, rfl, rfl, rfl, rfl, rfl, rfl, rfl, trivial⟩
          exact ⟨_, (by omega), (k + 1), rfl, f460, e446, r447, r448, bx449, bx450, bx451, (bx443.as (by first | exact tupC_eq (t := upG g ls at_ (gI (gL g.mv at_) k)) (congrArg Prod.fst (bestB_yes (f := upG g ls at_) (by omega) (by omega) (by first | exact .inl (by omega) | exact .inr (.inl ⟨by omega, by omega⟩) | exact .inr (.inr ⟨by omega, by omega⟩)))) | exact tupC_eq (congrArg Prod.fst (bestB_no (f := upG g ls at_) (by omega) (by omega) (by omega) (fun _ => by omega) (fun _ => by omega))))), r452, (by omega), (by omega)⟩
        · have q461 := of_decide_eq_false h434
          refine At.rd f367 6 [[], [], [.as_ (.bool false)], [], [], []] [(53, .bool (decide ((cmpT (upG g ls at_ (gI (gL g.mv (at_)) (k))) ((bestB (upG g ls at_) (gI g.ow at_) ((gL g.mv at_).take k.toNat)).1) 0 : Int) < 0))), (52, .bool (decide ((cmpT (upG g ls at_ (gI (gL g.mv (at_)) (k))) ((bestB (upG g ls at_) (gI g.ow at_) ((gL g.mv at_).take k.toNat)).1) 0 : Int) < 0))), (51, .int .i64 (cmpT (upG g ls at_ (gI (gL g.mv (at_)) (k))) ((bestB (upG g ls at_) (gI g.ow at_) ((gL g.mv at_).take k.toNat)).1) 0)), (50, .bool false), (49, .bool (decide (((bestB (upG g ls at_) (gI g.ow at_) ((gL g.mv at_).take k.toNat)).2 : Int) < 0))), (48, .int .i64 ((bestB (upG g ls at_) (gI g.ow at_) ((gL g.mv at_).take k.toNat)).2))] [((.bool (decide (((bestB (upG g ls at_) (gI g.ow at_) ((gL g.mv at_).take k.toNat)).2 : Int) < 0)) : Value) = .bool false)] (by kernel_rfl) ⟨(congrArg Value.bool h434), trivial⟩ (fun act463 f462 => ?_)
          clear f367
          refine At.done rfl ?_
          refine t_n ?_
          refine cond_S f462 (t := decide ((cmpT (upG g ls at_ (gI (gL g.mv (at_)) (k))) ((bestB (upG g ls at_) (gI g.ow at_) ((gL g.mv at_).take k.toNat)).1) 0 : Int) < 0)) rfl (fun h464 => ?_) (fun h464 => ?_)
          · have q465 := of_decide_eq_true h464
            refine At.start ?_
            refine At.rd f462 2 [[.ld (.bool ((upG g ls at_ (gI (gL g.mv (at_)) (k))).top)), .ld (.int .i64 ((upG g ls at_ (gI (gL g.mv (at_)) (k))).c0)), .ld (.int .i64 ((upG g ls at_ (gI (gL g.mv (at_)) (k))).c1)), .ld (.int .i64 ((upG g ls at_ (gI (gL g.mv (at_)) (k))).c2)), .ld (.int .i64 ((upG g ls at_ (gI (gL g.mv (at_)) (k))).c3))], []] [(55, .int .i64 (gI (gL g.mv (at_)) (k))), (54, tupV (upG g ls at_ (gI (gL g.mv (at_)) (k))))] [(w349.cell? ⟨w101.heap.size, 0, none⟩ = some (.bool ((upG g ls at_ (gI (gL g.mv (at_)) (k))).top))), (w349.cell? ⟨w101.heap.size, 1, none⟩ = some (.int .i64 ((upG g ls at_ (gI (gL g.mv (at_)) (k))).c0))), (w349.cell? ⟨w101.heap.size, 2, none⟩ = some (.int .i64 ((upG g ls at_ (gI (gL g.mv (at_)) (k))).c1))), (w349.cell? ⟨w101.heap.size, 3, none⟩ = some (.int .i64 ((upG g ls at_ (gI (gL g.mv (at_)) (k))).c2))), (w349.cell? ⟨w101.heap.size, 4, none⟩ = some (.int .i64 ((upG g ls at_ (gI (gL g.mv (at_)) (k))).c3)))] (by kernel_rfl) ⟨(bx361.cell (i := 0) rfl), (bx361.cell (i := 1) rfl), (bx361.cell (i := 2) rfl), (bx361.cell (i := 3) rfl), (bx361.cell (i := 4) rfl), trivial⟩ (fun act467 f466 => ?_)
            clear f462
            refine At.store f466 (t := 41) (b := w22.heap.size) (off := 0) (v := tupV (upG g ls at_ (gI (gL g.mv (at_)) (k)))) (by kernel_rfl) bx359 (by kernel_rfl) (fun act472 w468 g469 bx470 f471 => ?_)
            clear f466
            replace bx470 : Bx w468 (w22.heap.size) (tupC (upG g ls at_ (gI (gL g.mv (at_)) (k)))) 41 := bx470
            have szw468 := g469.size
            have e473 := e353.gr g469 (fun k h => by injection h; omega)
            clear e353
            have r474 := r354.gr g469 (fun k h => by injection h; omega)
            clear r354
            have r475 := r355.gr g469 (fun k h => by injection h; omega)
            clear r355
            have bx476 := bx356.gr g469 (fun h => by injection h; omega)
            clear bx356
            have bx477 := bx357.gr g469 (fun h => by injection h; omega)
            clear bx357
            have bx478 := bx358.gr g469 (fun h => by injection h; omega)
            clear bx358
            have r479 := r360.gr g469 (fun k h => by injection h; omega)
            clear r360
            have bx480 := bx361.gr g469 (fun h => by injection h; omega)
            clear bx361
            clear bx359 g469
            refine At.rd f471 1 [[]] [(11, .int .i64 (gI (gL g.mv (at_)) (k)))] [] (by kernel_rfl) trivial (fun act482 f481 => ?_)
            clear f471
            refine At.done rfl ?_
            refine b_n ?_
            refine t_n ?_
            have f483 := f481.sub (r := [(11, .int .i64 (gI (gL g.mv (at_)) (k))), (55, .int .i64 (gI (gL g.mv (at_)) (k))), (54, tupV (upG g ls at_ (gI (gL g.mv (at_)) (k)))), (53, .bool (decide ((cmpT (upG g ls at_ (gI (gL g.mv (at_)) (k))) ((bestB (upG g ls at_) (gI g.ow at_) ((gL g.mv at_).take k.toNat)).1) 0 : Int) < 0))), (52, .bool (decide ((cmpT (upG g ls at_ (gI (gL g.mv (at_)) (k))) ((bestB (upG g ls at_) (gI g.ow at_) ((gL g.mv at_).take k.toNat)).1) 0 : Int) < 0))), (51, .int .i64 (cmpT (upG g ls at_ (gI (gL g.mv (at_)) (k))) ((bestB (upG g ls at_) (gI g.ow at_) ((gL g.mv at_).take k.toNat)).1) 0)), (50, .bool false), (49, .bool (decide (((bestB (upG g ls at_) (gI g.ow at_) ((gL g.mv at_).take k.toNat)).2 : Int) < 0))), (48, .int .i64 ((bestB (upG g ls at_) (gI g.ow at_) ((gL g.mv at_).take k.toNat)).2)), (45, .bool ((gI g.ow (at_) : Int) == 1)), (44, .int .i64 (gI g.ow (at_))), (43, .pointer (some (ad364.add ((at_ : Int).toNat * 1)))), (42, .int .i64 (at_)), (41, .slice Ag0 g.ow.length cg0), (40, .pointer (some ⟨w.heap.size, 0, none⟩)), (15, .int .i64 (cmpT (upG g ls at_ (gI (gL g.mv (at_)) (k))) ((bestB (upG g ls at_) (gI g.ow at_) ((gL g.mv at_).take k.toNat)).1) 0)), (39, .int .i64 (cmpT (upG g ls at_ (gI (gL g.mv (at_)) (k))) ((bestB (upG g ls at_) (gI g.ow at_) ((gL g.mv at_).take k.toNat)).1) 0)), (38, tupV ((bestB (upG g ls at_) (gI g.ow at_) ((gL g.mv at_).take k.toNat)).1)), (37, tupV (upG g ls at_ (gI (gL g.mv (at_)) (k)))), (36, tupV (upG g ls at_ (gI (gL g.mv (at_)) (k)))), (14, .pointer (some ⟨w101.heap.size, 0, none⟩)), (35, tupV (gT ls (gI (gL g.mv (at_)) (k)))), (34, .pointer (some (ad92.add ((gI (gL g.mv (at_)) (k) : Int).toNat * 5)))), (33, .int .i64 (gI (gL g.mv (at_)) (k))), (32, .slice As ls.length cs), (31, .int .i64 (gI g.pr (at_))), (30, .pointer (some (ad89.add ((at_ : Int).toNat * 1)))), (29, .int .i64 (at_)), (28, .slice Ag1 g.pr.length cg1), (27, .pointer (some ⟨w.heap.size, 1, none⟩)), (26, .agg #[.int .i64 (cnt g.pr 1), .int .i64 (cnt g.pr 3), .int .i64 (cnt g.pr 5), .int .i64 (cnt g.pr 7)]), (13, .int .i64 (gI (gL g.mv (at_)) (k))), (25, .int .i64 (gI (gL g.mv (at_)) (k))), (24, .pointer (some (ad84.add ((k : Int).toNat * 1)))), (23, .bool (decide ((k : Int) < (((gL g.mv (at_)).length : Nat) : Int)))), (22, .int .i64 (k)), (21, .int .i64 ((((gL g.mv (at_)).length : Nat) : Int))), (20, .slice R55 ((gL g.mv (at_)).length) C56), (10, .pointer (some ⟨w22.heap.size, 0, none⟩)), (9, .int .i64 (0)), (8, .pointer (some ⟨w11.heap.size, 0, none⟩)), (5, .pointer (some ⟨w1.heap.size, 0, none⟩)), (4, .pointer (some ⟨w.heap.size, 0, none⟩)), (2, .slice As ls.length cs), (3, .int .i64 (at_))]) ⟨rfl, rfl, rfl, rfl, rfl, rfl, rfl, rfl, rfl, rfl, rfl, rfl, rfl, rfl, rfl, rfl, rfl, rfl, rfl, rfl, rfl, rfl, rfl, rfl, rfl, rfl, rfl, rfl, rfl, rfl, rfl, rfl, rfl, rfl, rfl, rfl, rfl, rfl, rfl, rfl, rfl, rfl, rfl, rfl, rfl, trivial⟩
            clear f481
            refine At.start ?_
            refine At.rd f483 2 [[.as_ (.int .i64 (k + 1))], []] [(22, .int .i64 (k + 1)), (56, .int .i64 (k + 1))] [((.int .i64 (IntKind.i64.wrap (k + 1)) : Value) = .int .i64 (k + 1))] (by kernel_rfl) ⟨(w64 (by omega) (by omega)), trivial⟩ (fun act485 f484 => ?_)
            clear f483
            refine At.done rfl ?_
            refine t_n ?_
            have f486 := f484.as 11 (.int .i64 (gI (gL g.mv (at_)) (k))) (.int .i64 ((bestB (upG g ls at_) (gI g.ow at_) ((gL g.mv at_).take ((k + 1) : Int).toNat)).2)) rfl (congrArg (Value.int .i64) (by first | exact congrArg Prod.snd (bestB_yes (f := upG g ls at_) (by omega) (by omega) (by first | exact .inl (by omega) | exact .inr (.inl ⟨by omega, by omega⟩) | exact .inr (.inr ⟨by omega, by omega⟩))) | exact congrArg Prod.snd (bestB_no (f := upG g ls at_) (by omega) (by omega) (by omega) (fun _ => by omega) (fun _ => by omega))))
            clear f484
            have f487 := f486.sub (r := [(22, .int .i64 (k + 1)), (11, .int .i64 ((bestB (upG g ls at_) (gI g.ow at_) ((gL g.mv at_).take ((k + 1) : Int).toNat)).2)), (21, .int .i64 ((((gL g.mv (at_)).length : Nat) : Int))), (20, .slice R55 ((gL g.mv (at_)).length) C56), (10, .pointer (some ⟨w22.heap.size, 0, none⟩)), (9, .int .i64 (0)), (8, .pointer (some ⟨w11.heap.size, 0, none⟩)), (5, .pointer (some ⟨w1.heap.size, 0, none⟩)), (4, .pointer (some ⟨w.heap.size, 0, none⟩)), (2, .slice As ls.length cs), (3, .int .i64 (at_))]) ⟨rfl, rfl, rfl, rfl, rfl, rfl, rfl, rfl, rfl, rfl, rfl, trivial⟩
            exact ⟨_, (by omega), (k + 1), rfl, f487, e473, r474, r475, bx476, bx477, bx478, (bx470.as (by first | exact tupC_eq (t := upG g ls at_ (gI (gL g.mv at_) k)) (congrArg Prod.fst (bestB_yes (f := upG g ls at_) (by omega) (by omega) (by first | exact .inl (by omega) | exact .inr (.inl ⟨by omega, by omega⟩) | exact .inr (.inr ⟨by omega, by omega⟩)))) | exact tupC_eq (congrArg Prod.fst (bestB_no (f := upG g ls at_) (by omega) (by omega) (by omega) (fun _ => by omega) (fun _ => by omega))))), r479, (by omega), (by omega)⟩
          · have q488 := of_decide_eq_false h464
            refine wp_skip ?_
            refine b_n ?_
            refine t_n ?_
            refine At.start ?_
            refine At.rd f462 2 [[.as_ (.int .i64 (k + 1))], []] [(22, .int .i64 (k + 1)), (56, .int .i64 (k + 1))] [((.int .i64 (IntKind.i64.wrap (k + 1)) : Value) = .int .i64 (k + 1))] (by kernel_rfl) ⟨(w64 (by omega) (by omega)), trivial⟩ (fun act490 f489 => ?_)
            clear f462
            refine At.done rfl ?_
            refine t_n ?_
            have f491 := f489.as 11 (.int .i64 ((bestB (upG g ls at_) (gI g.ow at_) ((gL g.mv at_).take k.toNat)).2)) (.int .i64 ((bestB (upG g ls at_) (gI g.ow at_) ((gL g.mv at_).take ((k + 1) : Int).toNat)).2)) rfl (congrArg (Value.int .i64) (by first | exact congrArg Prod.snd (bestB_yes (f := upG g ls at_) (by omega) (by omega) (by first | exact .inl (by omega) | exact .inr (.inl ⟨by omega, by omega⟩) | exact .inr (.inr ⟨by omega, by omega⟩))) | exact congrArg Prod.snd (bestB_no (f := upG g ls at_) (by omega) (by omega) (by omega) (fun _ => by omega) (fun _ => by omega))))
            clear f489
            have f492 := f491.sub (r := [(22, .int .i64 (k + 1)), (11, .int .i64 ((bestB (upG g ls at_) (gI g.ow at_) ((gL g.mv at_).take ((k + 1) : Int).toNat)).2)), (21, .int .i64 ((((gL g.mv (at_)).length : Nat) : Int))), (20, .slice R55 ((gL g.mv (at_)).length) C56), (10, .pointer (some ⟨w22.heap.size, 0, none⟩)), (9, .int .i64 (0)), (8, .pointer (some ⟨w11.heap.size, 0, none⟩)), (5, .pointer (some ⟨w1.heap.size, 0, none⟩)), (4, .pointer (some ⟨w.heap.size, 0, none⟩)), (2, .slice As ls.length cs), (3, .int .i64 (at_))]) ⟨rfl, rfl, rfl, rfl, rfl, rfl, rfl, rfl, rfl, rfl, rfl, trivial⟩
            exact ⟨_, (by omega), (k + 1), rfl, f492, e353, r354, r355, bx356, bx357, bx358, (bx359.as (by first | exact tupC_eq (t := upG g ls at_ (gI (gL g.mv at_) k)) (congrArg Prod.fst (bestB_yes (f := upG g ls at_) (by omega) (by omega) (by first | exact .inl (by omega) | exact .inr (.inl ⟨by omega, by omega⟩) | exact .inr (.inr ⟨by omega, by omega⟩)))) | exact tupC_eq (congrArg Prod.fst (bestB_no (f := upG g ls at_) (by omega) (by omega) (by omega) (fun _ => by omega) (fun _ => by omega))))), r360, (by omega), (by omega)⟩
  · have q493 := of_decide_eq_false h82
    refine wp_exit ?_
    refine t_e ?_
    refine t_e ?_
    refine b_e ?_
    refine t_n ?_
    have f494 := f80.sub (r := [(11, .int .i64 ((bestB (upG g ls at_) (gI g.ow at_) ((gL g.mv at_).take k.toNat)).2)), (10, .pointer (some ⟨w22.heap.size, 0, none⟩)), (9, .int .i64 (0)), (8, .pointer (some ⟨w11.heap.size, 0, none⟩))]) ⟨rfl, rfl, rfl, rfl, trivial⟩
    clear f80
    refine wp_seq ?_
    refine At.start ?_
    refine At.rd f494 2 [[.ld (.bool ((bestB (upG g ls at_) (gI g.ow at_) ((gL g.mv at_).take k.toNat)).1.top)), .ld (.int .i64 ((bestB (upG g ls at_) (gI g.ow at_) ((gL g.mv at_).take k.toNat)).1.c0)), .ld (.int .i64 ((bestB (upG g ls at_) (gI g.ow at_) ((gL g.mv at_).take k.toNat)).1.c1)), .ld (.int .i64 ((bestB (upG g ls at_) (gI g.ow at_) ((gL g.mv at_).take k.toNat)).1.c2)), .ld (.int .i64 ((bestB (upG g ls at_) (gI g.ow at_) ((gL g.mv at_).take k.toNat)).1.c3))], []] [(58, .int .i64 ((bestB (upG g ls at_) (gI g.ow at_) ((gL g.mv at_).take k.toNat)).2)), (57, tupV ((bestB (upG g ls at_) (gI g.ow at_) ((gL g.mv at_).take k.toNat)).1))] [(w67.cell? ⟨w22.heap.size, 0, none⟩ = some (.bool ((bestB (upG g ls at_) (gI g.ow at_) ((gL g.mv at_).take k.toNat)).1.top))), (w67.cell? ⟨w22.heap.size, 1, none⟩ = some (.int .i64 ((bestB (upG g ls at_) (gI g.ow at_) ((gL g.mv at_).take k.toNat)).1.c0))), (w67.cell? ⟨w22.heap.size, 2, none⟩ = some (.int .i64 ((bestB (upG g ls at_) (gI g.ow at_) ((gL g.mv at_).take k.toNat)).1.c1))), (w67.cell? ⟨w22.heap.size, 3, none⟩ = some (.int .i64 ((bestB (upG g ls at_) (gI g.ow at_) ((gL g.mv at_).take k.toNat)).1.c2))), (w67.cell? ⟨w22.heap.size, 4, none⟩ = some (.int .i64 ((bestB (upG g ls at_) (gI g.ow at_) ((gL g.mv at_).take k.toNat)).1.c3)))] (by kernel_rfl) ⟨(bx76.cell (i := 0) rfl), (bx76.cell (i := 1) rfl), (bx76.cell (i := 2) rfl), (bx76.cell (i := 3) rfl), (bx76.cell (i := 4) rfl), trivial⟩ (fun act496 f495 => ?_)
    clear f494
    refine At.store f495 (t := 41) (b := w11.heap.size) (off := 0) (v := tupV ((bestB (upG g ls at_) (gI g.ow at_) ((gL g.mv at_).take k.toNat)).1)) (by kernel_rfl) bx75 (by kernel_rfl) (fun act501 w497 g498 bx499 f500 => ?_)
    clear f495
    replace bx499 : Bx w497 (w11.heap.size) (tupC ((bestB (upG g ls at_) (gI g.ow at_) ((gL g.mv at_).take k.toNat)).1)) 41 := bx499
    have szw497 := g498.size
    have e502 := e68.gr g498 (fun k h => by injection h; omega)
    clear e68
    have r503 := r71.gr g498 (fun k h => by injection h; omega)
    clear r71
    have r504 := r72.gr g498 (fun k h => by injection h; omega)
    clear r72
    have bx505 := bx73.gr g498 (fun h => by injection h; omega)
    clear bx73
    have bx506 := bx74.gr g498 (fun h => by injection h; omega)
    clear bx74
    have bx507 := bx76.gr g498 (fun h => by injection h; omega)
    clear bx76
    have r508 := r77.gr g498 (fun k h => by injection h; omega)
    clear r77
    clear bx75 g498
    refine At.rd f500 1 [[]] [(9, .int .i64 ((bestB (upG g ls at_) (gI g.ow at_) ((gL g.mv at_).take k.toNat)).2))] [] (by kernel_rfl) trivial (fun act510 f509 => ?_)
    clear f500
    refine At.done rfl ?_
    refine t_n ?_
    have f511 := f509.sub (r := [(9, .int .i64 ((bestB (upG g ls at_) (gI g.ow at_) ((gL g.mv at_).take k.toNat)).2)), (8, .pointer (some ⟨w11.heap.size, 0, none⟩))]) ⟨rfl, rfl, trivial⟩
    clear f509
    refine wp_ret ?_
    refine ret_ f511 [[.bool ((bestB (upG g ls at_) (gI g.ow at_) ((gL g.mv at_).take k.toNat)).1.top), .int .i64 ((bestB (upG g ls at_) (gI g.ow at_) ((gL g.mv at_).take k.toNat)).1.c0), .int .i64 ((bestB (upG g ls at_) (gI g.ow at_) ((gL g.mv at_).take k.toNat)).1.c1), .int .i64 ((bestB (upG g ls at_) (gI g.ow at_) ((gL g.mv at_).take k.toNat)).1.c2), .int .i64 ((bestB (upG g ls at_) (gI g.ow at_) ((gL g.mv at_).take k.toNat)).1.c3)]] [tupV ((bestB (upG g ls at_) (gI g.ow at_) ((gL g.mv at_).take k.toNat)).1), .int .i64 ((bestB (upG g ls at_) (gI g.ow at_) ((gL g.mv at_).take k.toNat)).2)] [(w497.cell? ⟨w11.heap.size, 0, none⟩ = some (.bool ((bestB (upG g ls at_) (gI g.ow at_) ((gL g.mv at_).take k.toNat)).1.top))), (w497.cell? ⟨w11.heap.size, 1, none⟩ = some (.int .i64 ((bestB (upG g ls at_) (gI g.ow at_) ((gL g.mv at_).take k.toNat)).1.c0))), (w497.cell? ⟨w11.heap.size, 2, none⟩ = some (.int .i64 ((bestB (upG g ls at_) (gI g.ow at_) ((gL g.mv at_).take k.toNat)).1.c1))), (w497.cell? ⟨w11.heap.size, 3, none⟩ = some (.int .i64 ((bestB (upG g ls at_) (gI g.ow at_) ((gL g.mv at_).take k.toNat)).1.c2))), (w497.cell? ⟨w11.heap.size, 4, none⟩ = some (.int .i64 ((bestB (upG g ls at_) (gI g.ow at_) ((gL g.mv at_).take k.toNat)).1.c3)))] (by kernel_rfl) ⟨(bx499.cell (i := 0) rfl), (bx499.cell (i := 1) rfl), (bx499.cell (i := 2) rfl), (bx499.cell (i := 3) rfl), (bx499.cell (i := 4) rfl), trivial⟩ ?_
    exact ⟨best_ret (bestB_all (by omega)), e502⟩

end Go.Proofs.Ytklbpajmoklheaa
