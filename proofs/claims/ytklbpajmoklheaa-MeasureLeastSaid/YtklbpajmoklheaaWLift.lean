/-
  A walk of a Go function, printed by a program of this repo. Conditions: what the theorems name.
-/
import Derived.Test.YtklbpajmoklheaaPureBounds
import Derived.Test.YtklbpajmoklheaaWBest
import Derived.Test.YtklbpajmoklheaaFs
set_option linter.unusedVariables false
set_option linter.unusedSimpArgs false
namespace Go.Proofs.Ytklbpajmoklheaa
open Go Go.RowKit

set_option maxHeartbeats 4000000 in
theorem lift_any {Ag0 Ag1 Ag2 : Option Addr} {cg0 cg1 cg2 : Nat} {g : GameL} {As : Option Addr} {cs : Nat} {ls : List Tup} {at_ : Int} {w : World} (rg : RdG w 0 w.heap.size Ag0 Ag1 Ag2 cg0 cg1 cg2 g) (rs : RdR w 0 w.heap.size As ls) (hok : okL ls) :
    Calls Try.prog 37 #[.agg #[.slice Ag0 g.ow.length cg0, .slice Ag1 g.pr.length cg1, .slice Ag2 g.mv.length cg2], .slice As ls.length cs, .int .i64 (at_)] w fun e w' => e = .returned (.agg #[.bool (liftR g ls at_).top, .int .i64 (liftR g ls at_).c0, .int .i64 (liftR g ls at_).c1, .int .i64 (liftR g ls at_).c2, .int .i64 (liftR g ls at_).c3]) ∧ Ext w w' := by
 have hlg0 := rg.ow.len
 have hlg1 := rg.pr.len
 have hlg2 := rg.mv.len
 have hkg0 := rg.k0
 have hkg1 := rg.k1
 have hkg2 := rg.k2
 have hls := rs.len
 simp only [Enc.bytes] at hls
 refine enter_ (args := [.agg #[.slice Ag0 g.ow.length cg0, .slice Ag1 g.pr.length cg1, .slice Ag2 g.mv.length cg2], .slice As ls.length cs, .int .i64 (at_)]) Try.func37 rfl Try.ntmps37 (Nat.le_of_ble_eq_true rfl) (fun act0 f0 => ?_)
 have e0 := Ext.refl w
 refine wp_seq ?_
 refine At.start ?_
 refine At.seq f0 1 [[]] [(3, .pointer (some ⟨w.heap.size, 0, none⟩))] (w.alloc (.cells #[.slice Ag0 g.ow.length cg0, .slice Ag1 g.pr.length cg1, .slice Ag2 g.mv.length cg2] 25 (0, 0))) [] (by kernel_rfl) trivial (fun act4 w1 hw2 f3 => ?_)
 clear f0
 have g5 := gr_alloc hw2
 have szw1 := g5.size
 have e7 := e0.gr g5 no_row
 clear e0
 have r8 := rg.gr g5 (fun _ h => by cases h)
 clear rg
 have r9 := rs.gr g5 (fun _ h => by cases h)
 clear rs
 have bx10 : Bx w1 (w.heap.size) [.slice Ag0 g.ow.length cg0, .slice Ag1 g.pr.length cg1, .slice Ag2 g.mv.length cg2] 25 := Bx.new hw2
 have := bx10.lt
 clear g5 hw2
 refine At.seq f3 1 [[]] [(6, .pointer (some ⟨w1.heap.size, 0, none⟩))] (w1.alloc (.cells #[.bool false, .int .i64 (0), .int .i64 (0), .int .i64 (0), .int .i64 (0)] 41 (0, 0))) [] (by kernel_rfl) trivial (fun act14 w11 hw12 f13 => ?_)
 clear f3
 have g15 := gr_alloc hw12
 have szw11 := g15.size
 have e17 := e7.gr g15 no_row
 clear e7
 have r18 := r8.gr g15 (fun _ h => by cases h)
 clear r8
 have r19 := r9.gr g15 (fun _ h => by cases h)
 clear r9
 have bx20 := bx10.gr g15 (by simp)
 clear bx10
 have bx21 : Bx w11 (w1.heap.size) [.bool false, .int .i64 (0), .int .i64 (0), .int .i64 (0), .int .i64 (0)] 41 := Bx.new hw12
 have := bx21.lt
 clear g15 hw12
 refine At.done rfl ?_
 refine t_n ?_
 have f22 := f13.sub (r := [(6, .pointer (some ⟨w1.heap.size, 0, none⟩)), (3, .pointer (some ⟨w.heap.size, 0, none⟩)), (1, .slice As ls.length cs), (2, .int .i64 (at_))]) ⟨rfl, rfl, rfl, rfl, trivial⟩
 clear f13
 refine wp_seq ?_
 refine wp_seq ?_
 refine At.start ?_
 refine At.rd f22 2 [[.ld (.slice Ag0 g.ow.length cg0), .ld (.slice Ag1 g.pr.length cg1), .ld (.slice Ag2 g.mv.length cg2)], []] [(10, .slice As ls.length cs), (9, .agg #[.slice Ag0 g.ow.length cg0, .slice Ag1 g.pr.length cg1, .slice Ag2 g.mv.length cg2])] [(w11.cell? ⟨w.heap.size, 0, none⟩ = some (.slice Ag0 g.ow.length cg0)), (w11.cell? ⟨w.heap.size, 1, none⟩ = some (.slice Ag1 g.pr.length cg1)), (w11.cell? ⟨w.heap.size, 2, none⟩ = some (.slice Ag2 g.mv.length cg2))] (by kernel_rfl) ⟨(bx20.cell (i := 0) rfl), (bx20.cell (i := 1) rfl), (bx20.cell (i := 2) rfl), trivial⟩ (fun act24 f23 => ?_)
 clear f22
 refine At.call f23 45 #[.agg #[.slice Ag0 g.ow.length cg0, .slice Ag1 g.pr.length cg1, .slice Ag2 g.mv.length cg2], .slice As ls.length cs] (some 11) (by kernel_rfl) (rightM_any (ls := ls) (r18.wide (Nat.zero_le _) (by omega)) (r19.wide (Nat.zero_le _) (by omega))) ?_
 rintro e_ w25 ⟨rfl, he⟩
 refine ⟨_, rfl, _, rfl, fun act26 f27 => ?_⟩
 clear f23
 have g28 := gr_ext he
 have szw25 := g28.size
 have e29 := e17.gr g28 no_row
 clear e17
 have r30 := r18.gr g28 (fun _ h => by cases h)
 clear r18
 have r31 := r19.gr g28 (fun _ h => by cases h)
 clear r19
 have bx32 := bx20.gr g28 (by simp)
 clear bx20
 have bx33 := bx21.gr g28 (by simp)
 clear bx21
 clear g28 he
 rcases Bool.eq_false_or_eq_true (!(isR g && decide ((ls).length = g.ow.length))) with h34 | h34
 ·have q35 : (isR g && decide ((ls).length = g.ow.length)) = false := by first | exact Eq.mp (Bool.not_eq_true' _) h34 | exact Eq.mp (Bool.not_eq_false' _) h34 | simpa using h34
  refine At.rd f27 11 [[], [.as_ (.bool true)], [], [], [], [], [], [], [], [], []] [(22, .bool true), (21, undef), (20, undef), (19, undef), (18, undef), (17, .bool true), (16, .bool true), (15, undef), (14, undef), (13, .bool true), (12, .bool (!(isR g && decide ((ls).length = g.ow.length))))] [((.bool (!(isR g && decide ((ls).length = g.ow.length))) : Value) = .bool true)] (by kernel_rfl) ⟨(congrArg Value.bool h34), trivial⟩ (fun act38 f37 => ?_)
  clear f27
  refine At.done rfl ?_
  refine t_n ?_
  have f39 := f37.sub (r := [(22, .bool true), (6, .pointer (some ⟨w1.heap.size, 0, none⟩)), (3, .pointer (some ⟨w.heap.size, 0, none⟩)), (1, .slice As ls.length cs), (2, .int .i64 (at_))]) ⟨rfl, rfl, rfl, rfl, rfl, trivial⟩
  clear f37
  refine cond_T f39 rfl ?_
  refine wp_seq ?_
  refine At.start ?_
  refine At.rd f39 1 [[]] [(23, .agg #[.bool false, .int .i64 (0), .int .i64 (0), .int .i64 (0), .int .i64 (0)])] [] (by kernel_rfl) trivial (fun act41 f40 => ?_)
  clear f39
  refine At.store f40 (t := 41) (b := w1.heap.size) (off := 0) (v := .agg #[.bool false, .int .i64 (0), .int .i64 (0), .int .i64 (0), .int .i64 (0)]) (by kernel_rfl) bx33 (by kernel_rfl) (fun act46 w42 g43 bx44 f45 => ?_)
  clear f40
  replace bx44 : Bx w42 (w1.heap.size) [.bool false, .int .i64 (0), .int .i64 (0), .int .i64 (0), .int .i64 (0)] 41 := bx44
  have szw42 := g43.size
  have e47 := e29.gr g43 (fun k h => by injection h; omega)
  clear e29
  have r48 := r30.gr g43 (fun k h => by injection h; omega)
  clear r30
  have r49 := r31.gr g43 (fun k h => by injection h; omega)
  clear r31
  have bx50 := bx32.gr g43 (fun h => by injection h; omega)
  clear bx32
  clear bx33 g43
  refine At.done rfl ?_
  refine t_n ?_
  have f51 := f45.sub (r := [(6, .pointer (some ⟨w1.heap.size, 0, none⟩))]) ⟨rfl, trivial⟩
  clear f45
  refine wp_ret ?_
  refine t_r ?_
  refine ret_ f51 [[.bool false, .int .i64 (0), .int .i64 (0), .int .i64 (0), .int .i64 (0)]] [.agg #[.bool false, .int .i64 (0), .int .i64 (0), .int .i64 (0), .int .i64 (0)]] [(w42.cell? ⟨w1.heap.size, 0, none⟩ = some (.bool false)), (w42.cell? ⟨w1.heap.size, 1, none⟩ = some (.int .i64 (0))), (w42.cell? ⟨w1.heap.size, 2, none⟩ = some (.int .i64 (0))), (w42.cell? ⟨w1.heap.size, 3, none⟩ = some (.int .i64 (0))), (w42.cell? ⟨w1.heap.size, 4, none⟩ = some (.int .i64 (0)))] (by kernel_rfl) ⟨(bx44.cell (i := 0) rfl), (bx44.cell (i := 1) rfl), (bx44.cell (i := 2) rfl), (bx44.cell (i := 3) rfl), (bx44.cell (i := 4) rfl), trivial⟩ ?_
  exact ⟨tup_ret (liftR_no (by first | exact .inl (by assumption) | exact .inr (.inl (by omega)) | exact .inr (.inr (by omega)))), e47⟩
 ·have q52 : (isR g && decide ((ls).length = g.ow.length)) = true := by first | exact Eq.mp (Bool.not_eq_true' _) h34 | exact Eq.mp (Bool.not_eq_false' _) h34 | simpa using h34
  rcases Bool.eq_false_or_eq_true (decide ((at_ : Int) < 0)) with h54 | h54
  ·have q55 := of_decide_eq_true h54
   refine At.rd f27 11 [[], [.as_ (.bool false)], [], [], [], [.as_ (.bool true)], [], [], [], [], []] [(22, .bool true), (21, undef), (20, undef), (19, undef), (18, undef), (17, .bool true), (16, .bool (decide ((at_ : Int) < 0))), (15, .bool (decide ((at_ : Int) < 0))), (14, .int .i64 (at_)), (13, .bool false), (12, .bool (!(isR g && decide ((ls).length = g.ow.length))))] [((.bool (!(isR g && decide ((ls).length = g.ow.length))) : Value) = .bool false), ((.bool (decide ((at_ : Int) < 0)) : Value) = .bool true)] (by kernel_rfl) ⟨(congrArg Value.bool h34), (congrArg Value.bool h54), trivial⟩ (fun act57 f56 => ?_)
   clear f27
   refine At.done rfl ?_
   refine t_n ?_
   have f58 := f56.sub (r := [(22, .bool true), (6, .pointer (some ⟨w1.heap.size, 0, none⟩)), (3, .pointer (some ⟨w.heap.size, 0, none⟩)), (1, .slice As ls.length cs), (2, .int .i64 (at_))]) ⟨rfl, rfl, rfl, rfl, rfl, trivial⟩
   clear f56
   refine cond_T f58 rfl ?_
   refine wp_seq ?_
   refine At.start ?_
   refine At.rd f58 1 [[]] [(23, .agg #[.bool false, .int .i64 (0), .int .i64 (0), .int .i64 (0), .int .i64 (0)])] [] (by kernel_rfl) trivial (fun act60 f59 => ?_)
   clear f58
   refine At.store f59 (t := 41) (b := w1.heap.size) (off := 0) (v := .agg #[.bool false, .int .i64 (0), .int .i64 (0), .int .i64 (0), .int .i64 (0)]) (by kernel_rfl) bx33 (by kernel_rfl) (fun act65 w61 g62 bx63 f64 => ?_)
   clear f59
   replace bx63 : Bx w61 (w1.heap.size) [.bool false, .int .i64 (0), .int .i64 (0), .int .i64 (0), .int .i64 (0)] 41 := bx63
   have szw61 := g62.size
   have e66 := e29.gr g62 (fun k h => by injection h; omega)
   clear e29
   have r67 := r30.gr g62 (fun k h => by injection h; omega)
   clear r30
   have r68 := r31.gr g62 (fun k h => by injection h; omega)
   clear r31
   have bx69 := bx32.gr g62 (fun h => by injection h; omega)
   clear bx32
   clear bx33 g62
   refine At.done rfl ?_
   refine t_n ?_
   have f70 := f64.sub (r := [(6, .pointer (some ⟨w1.heap.size, 0, none⟩))]) ⟨rfl, trivial⟩
   clear f64
   refine wp_ret ?_
   refine t_r ?_
   refine ret_ f70 [[.bool false, .int .i64 (0), .int .i64 (0), .int .i64 (0), .int .i64 (0)]] [.agg #[.bool false, .int .i64 (0), .int .i64 (0), .int .i64 (0), .int .i64 (0)]] [(w61.cell? ⟨w1.heap.size, 0, none⟩ = some (.bool false)), (w61.cell? ⟨w1.heap.size, 1, none⟩ = some (.int .i64 (0))), (w61.cell? ⟨w1.heap.size, 2, none⟩ = some (.int .i64 (0))), (w61.cell? ⟨w1.heap.size, 3, none⟩ = some (.int .i64 (0))), (w61.cell? ⟨w1.heap.size, 4, none⟩ = some (.int .i64 (0)))] (by kernel_rfl) ⟨(bx63.cell (i := 0) rfl), (bx63.cell (i := 1) rfl), (bx63.cell (i := 2) rfl), (bx63.cell (i := 3) rfl), (bx63.cell (i := 4) rfl), trivial⟩ ?_
   exact ⟨tup_ret (liftR_no (by first | exact .inl (by assumption) | exact .inr (.inl (by omega)) | exact .inr (.inr (by omega)))), e66⟩
  ·have q71 := of_decide_eq_false h54
   refine At.rd f27 11 [[], [.as_ (.bool false)], [], [], [], [.as_ (.bool false)], [], [], [], [], []] [(22, .bool (decide ((at_ : Int) ≥ ((ls.length : Nat) : Int)))), (21, .bool (decide ((at_ : Int) ≥ ((ls.length : Nat) : Int)))), (20, .int .i64 (((ls.length : Nat) : Int))), (19, .slice As ls.length cs), (18, .int .i64 (at_)), (17, .bool false), (16, .bool (decide ((at_ : Int) < 0))), (15, .bool (decide ((at_ : Int) < 0))), (14, .int .i64 (at_)), (13, .bool false), (12, .bool (!(isR g && decide ((ls).length = g.ow.length))))] [((.bool (!(isR g && decide ((ls).length = g.ow.length))) : Value) = .bool false), ((.bool (decide ((at_ : Int) < 0)) : Value) = .bool false)] (by kernel_rfl) ⟨(congrArg Value.bool h34), (congrArg Value.bool h54), trivial⟩ (fun act73 f72 => ?_)
   clear f27
   refine At.done rfl ?_
   refine t_n ?_
   have f74 := f72.sub (r := [(22, .bool (decide ((at_ : Int) ≥ ((ls.length : Nat) : Int)))), (6, .pointer (some ⟨w1.heap.size, 0, none⟩)), (3, .pointer (some ⟨w.heap.size, 0, none⟩)), (1, .slice As ls.length cs), (2, .int .i64 (at_))]) ⟨rfl, rfl, rfl, rfl, rfl, trivial⟩
   clear f72
   refine cond_S f74 (t := decide ((at_ : Int) ≥ ((ls.length : Nat) : Int))) rfl (fun h75 => ?_) (fun h75 => ?_)
   ·have q76 := of_decide_eq_true h75
    refine wp_seq ?_
    refine At.start ?_
    refine At.rd f74 1 [[]] [(23, .agg #[.bool false, .int .i64 (0), .int .i64 (0), .int .i64 (0), .int .i64 (0)])] [] (by kernel_rfl) trivial (fun act78 f77 => ?_)
    clear f74
    refine At.store f77 (t := 41) (b := w1.heap.size) (off := 0) (v := .agg #[.bool false, .int .i64 (0), .int .i64 (0), .int .i64 (0), .int .i64 (0)]) (by kernel_rfl) bx33 (by kernel_rfl) (fun act83 w79 g80 bx81 f82 => ?_)
    clear f77
    replace bx81 : Bx w79 (w1.heap.size) [.bool false, .int .i64 (0), .int .i64 (0), .int .i64 (0), .int .i64 (0)] 41 := bx81
    have szw79 := g80.size
    have e84 := e29.gr g80 (fun k h => by injection h; omega)
    clear e29
    have r85 := r30.gr g80 (fun k h => by injection h; omega)
    clear r30
    have r86 := r31.gr g80 (fun k h => by injection h; omega)
    clear r31
    have bx87 := bx32.gr g80 (fun h => by injection h; omega)
    clear bx32
    clear bx33 g80
    refine At.done rfl ?_
    refine t_n ?_
    have f88 := f82.sub (r := [(6, .pointer (some ⟨w1.heap.size, 0, none⟩))]) ⟨rfl, trivial⟩
    clear f82
    refine wp_ret ?_
    refine t_r ?_
    refine ret_ f88 [[.bool false, .int .i64 (0), .int .i64 (0), .int .i64 (0), .int .i64 (0)]] [.agg #[.bool false, .int .i64 (0), .int .i64 (0), .int .i64 (0), .int .i64 (0)]] [(w79.cell? ⟨w1.heap.size, 0, none⟩ = some (.bool false)), (w79.cell? ⟨w1.heap.size, 1, none⟩ = some (.int .i64 (0))), (w79.cell? ⟨w1.heap.size, 2, none⟩ = some (.int .i64 (0))), (w79.cell? ⟨w1.heap.size, 3, none⟩ = some (.int .i64 (0))), (w79.cell? ⟨w1.heap.size, 4, none⟩ = some (.int .i64 (0)))] (by kernel_rfl) ⟨(bx81.cell (i := 0) rfl), (bx81.cell (i := 1) rfl), (bx81.cell (i := 2) rfl), (bx81.cell (i := 3) rfl), (bx81.cell (i := 4) rfl), trivial⟩ ?_
    exact ⟨tup_ret (liftR_no (by first | exact .inl (by assumption) | exact .inr (.inl (by omega)) | exact .inr (.inr (by omega)))), e84⟩
   ·have q89 := of_decide_eq_false h75
    refine wp_skip ?_
    refine t_n ?_
    have f90 := f74.sub (r := [(6, .pointer (some ⟨w1.heap.size, 0, none⟩)), (3, .pointer (some ⟨w.heap.size, 0, none⟩)), (1, .slice As ls.length cs), (2, .int .i64 (at_))]) ⟨rfl, rfl, rfl, rfl, trivial⟩
    clear f74
    refine wp_seq ?_
    have hRR : (isR g && decide (ls.length = g.ow.length)) = true := by assumption
    have hG := isR_ok (right_yes2 hRR)
    have hln := right_len hRR
    have hn1 := hG.n1
    have hpl := hG.pl
    have hml := hG.ml
    refine wp_seq (cut (fun a_ w_ => ∃ (b_91 : Nat), (Frm 45 a_ [(7, .pointer (some ⟨b_91, 0, none⟩)), (6, .pointer (some ⟨w1.heap.size, 0, none⟩)), (1, .slice As ls.length cs), (2, .int .i64 (at_))]) ∧ (Ext w w_) ∧ (RdG w_ 0 w.heap.size Ag0 Ag1 Ag2 cg0 cg1 cg2 g) ∧ (RdR w_ 0 w.heap.size As (ls : List Tup)) ∧ (Bx w_ (w.heap.size) [.slice Ag0 g.ow.length cg0, .slice Ag1 g.pr.length cg1, .slice Ag2 g.mv.length cg2] 25) ∧ (Bx w_ (w1.heap.size) [.bool false, .int .i64 (0), .int .i64 (0), .int .i64 (0), .int .i64 (0)] 41) ∧ (Bx w_ (b_91) (tupC ((bestB (upG g ls at_) (gI g.ow at_) (gL g.mv at_)).1)) 41) ∧ (w25.heap.size ≤ b_91) ∧ (w25.heap.size ≤ w_.heap.size)) ?_ ?_)
    ·obtain ⟨Cs92, hCs93⟩ : ∃ c : List (Addr × Value), c = [(⟨w.heap.size, 0, none⟩, (.slice Ag0 g.ow.length cg0)), (⟨w.heap.size, 1, none⟩, (.slice Ag1 g.pr.length cg1)), (⟨w.heap.size, 2, none⟩, (.slice Ag2 g.mv.length cg2)), (⟨w.heap.size, 0, none⟩, (.slice Ag0 g.ow.length cg0)), (⟨w.heap.size, 1, none⟩, (.slice Ag1 g.pr.length cg1)), (⟨w.heap.size, 2, none⟩, (.slice Ag2 g.mv.length cg2))] := ⟨_, rfl⟩
     have hS94 : HoldsC Cs92 w25 := by rw [hCs93]; exact ⟨(bx32.cell (i := 0) rfl), (bx32.cell (i := 1) rfl), (bx32.cell (i := 2) rfl), (bx32.cell (i := 0) rfl), (bx32.cell (i := 1) rfl), (bx32.cell (i := 2) rfl), trivial⟩
     refine AtH.start Cs92 12 #[false, false, false, false, false, false, false, false, false, false, false, false] (by kernel_rfl) rfl rfl (fun w96 hw97 => ?_)
     have g95 := gr_drew hw97
     have hS98 := hS94.gr g95
     have szw96 := g95.size
     have e99 := e29.gr g95 no_row
     clear e29
     have r100 := r30.gr g95 (fun _ h => by cases h)
     clear r30
     have r101 := r31.gr g95 (fun _ h => by cases h)
     clear r31
     have bx102 := bx32.gr g95 (by simp)
     clear bx32
     have bx103 := bx33.gr g95 (by simp)
     clear bx33
     clear g95 hw97 hS94
     refine AtH.rd (by kernel_rfl) (fun d v c a w h => by cases d <;> exact h) hS98 [0, 1, 3, 4] [[.ld (.slice Ag0 g.ow.length cg0), .ld (.slice Ag1 g.pr.length cg1), .ld (.slice Ag2 g.mv.length cg2)], [.ld (.slice Ag0 g.ow.length cg0), .ld (.slice Ag1 g.pr.length cg1), .ld (.slice Ag2 g.mv.length cg2)], [], []] [(29, .int .i64 (at_)), (28, .slice As ls.length cs), (26, .agg #[.slice Ag0 g.ow.length cg0, .slice Ag1 g.pr.length cg1, .slice Ag2 g.mv.length cg2]), (25, .agg #[.slice Ag0 g.ow.length cg0, .slice Ag1 g.pr.length cg1, .slice Ag2 g.mv.length cg2])] #[true, true, false, true, true, false, false, false, false, false, false, false] [(∃ j_ : Nat, Cs92[j_]? = some (⟨w.heap.size, 0, none⟩, (.slice Ag0 g.ow.length cg0))), (∃ j_ : Nat, Cs92[j_]? = some (⟨w.heap.size, 1, none⟩, (.slice Ag1 g.pr.length cg1))), (∃ j_ : Nat, Cs92[j_]? = some (⟨w.heap.size, 2, none⟩, (.slice Ag2 g.mv.length cg2))), (∃ j_ : Nat, Cs92[j_]? = some (⟨w.heap.size, 0, none⟩, (.slice Ag0 g.ow.length cg0))), (∃ j_ : Nat, Cs92[j_]? = some (⟨w.heap.size, 1, none⟩, (.slice Ag1 g.pr.length cg1))), (∃ j_ : Nat, Cs92[j_]? = some (⟨w.heap.size, 2, none⟩, (.slice Ag2 g.mv.length cg2)))] 8 f90 (by kernel_rfl) ⟨⟨0, by rw [hCs93]; rfl⟩, ⟨1, by rw [hCs93]; rfl⟩, ⟨2, by rw [hCs93]; rfl⟩, ⟨3, by rw [hCs93]; rfl⟩, ⟨4, by rw [hCs93]; rfl⟩, ⟨5, by rw [hCs93]; rfl⟩, trivial⟩ (fun act105 f104 => ?_)
     clear f90
     refine AtH.all [2, 9] 7 (by kernel_rfl) (by simp) ⟨?_, ?_, trivial⟩
     ·refine OneH.call f104 46 #[.agg #[.slice Ag0 g.ow.length cg0, .slice Ag1 g.pr.length cg1, .slice Ag2 g.mv.length cg2]] (some 27) #[true, true, true, true, true, false, false, false, false, false, false, false] (by kernel_rfl) (by kernel_rfl) (counts_any (r100.wide (Nat.zero_le _) (by omega))) ?_
      rintro e_ w107 ⟨rfl, he⟩
      refine ⟨_, rfl, _, rfl, fun act108 f109 => ?_⟩
      clear f104
      have g110 := gr_ext he
      have hS106 := hS98.gr g110
      have szw107 := g110.size
      have e111 := e99.gr g110 no_row
      clear e99
      have r112 := r100.gr g110 (fun _ h => by cases h)
      clear r100
      have r113 := r101.gr g110 (fun _ h => by cases h)
      clear r101
      have bx114 := bx102.gr g110 (by simp)
      clear bx102
      have bx115 := bx103.gr g110 (by simp)
      clear bx103
      clear g110 he
      refine ⟨hS106, ?_⟩
      refine AtH.all [5, 9] 6 (by kernel_rfl) (by simp) ⟨?_, ?_, trivial⟩
      ·refine OneH.call f109 47 #[.agg #[.slice Ag0 g.ow.length cg0, .slice Ag1 g.pr.length cg1, .slice Ag2 g.mv.length cg2], .agg #[.int .i64 (cnt g.pr 1), .int .i64 (cnt g.pr 3), .int .i64 (cnt g.pr 5), .int .i64 (cnt g.pr 7)], .slice As ls.length cs, .int .i64 (at_)] (some 30) #[true, true, true, true, true, true, false, false, false, false, false, false] (by kernel_rfl) (by kernel_rfl) (best_any (ls := ls) (at_ := at_) (r112.wide (Nat.zero_le _) (by omega)) (r113.wide (Nat.zero_le _) (by omega)) hG (by omega) (by assumption) (by omega) (by omega)) ?_
       rintro e_ w117 ⟨rfl, he⟩
       refine ⟨_, rfl, _, rfl, fun act118 f119 => ?_⟩
       clear f109
       have g120 := gr_ext he
       have hS116 := hS106.gr g120
       have szw117 := g120.size
       have e121 := e111.gr g120 no_row
       clear e111
       have r122 := r112.gr g120 (fun _ h => by cases h)
       clear r112
       have r123 := r113.gr g120 (fun _ h => by cases h)
       clear r113
       have bx124 := bx114.gr g120 (by simp)
       clear bx114
       have bx125 := bx115.gr g120 (by simp)
       clear bx115
       clear g120 he
       refine ⟨hS116, ?_⟩
       refine AtH.rd (by kernel_rfl) (fun d v c a w h => by cases d <;> exact h) hS116 [6] [[]] [(24, .tuple #[tupV ((bestB (upG g ls at_) (gI g.ow at_) (gL g.mv at_)).1), .int .i64 ((bestB (upG g ls at_) (gI g.ow at_) (gL g.mv at_)).2)])] #[true, true, true, true, true, true, true, false, false, false, false, false] [] 5 f119 (by kernel_rfl) trivial (fun act127 f126 => ?_)
       clear f119
       refine AtH.rd (by kernel_rfl) (fun d v c a w h => by cases d <;> exact h) hS116 [7] [[]] [(31, tupV ((bestB (upG g ls at_) (gI g.ow at_) (gL g.mv at_)).1))] #[true, true, true, true, true, true, true, true, false, false, false, false] [] 4 f126 (by kernel_rfl) trivial (fun act129 f128 => ?_)
       clear f126
       refine AtH.rd (by kernel_rfl) (fun d v c a w h => by cases d <;> exact h) hS116 [8] [[]] [(32, .int .i64 ((bestB (upG g ls at_) (gI g.ow at_) (gL g.mv at_)).2))] #[true, true, true, true, true, true, true, true, true, false, false, false] [] 3 f128 (by kernel_rfl) trivial (fun act131 f130 => ?_)
       clear f128
       refine AtH.all [9] 2 (by kernel_rfl) (by simp) ⟨?_, trivial⟩
       refine OneH.seq f130 [[]] [(7, .pointer (some ⟨w117.heap.size, 0, none⟩))] (w117.alloc (.cells #[.bool false, .int .i64 (0), .int .i64 (0), .int .i64 (0), .int .i64 (0)] 41 (0, 0))) [] #[true, true, true, true, true, true, true, true, true, true, false, false] (by kernel_rfl) (by kernel_rfl) (by kernel_rfl) trivial (fun act136 w133 hw134 f135 => ?_)
       clear f130
       have g137 := gr_alloc hw134
       have hS132 := hS116.gr g137
       have szw133 := g137.size
       have e139 := e121.gr g137 no_row
       clear e121
       have r140 := r122.gr g137 (fun _ h => by cases h)
       clear r122
       have r141 := r123.gr g137 (fun _ h => by cases h)
       clear r123
       have bx142 := bx124.gr g137 (by simp)
       clear bx124
       have bx143 := bx125.gr g137 (by simp)
       clear bx125
       have bx144 : Bx w133 (w117.heap.size) [.bool false, .int .i64 (0), .int .i64 (0), .int .i64 (0), .int .i64 (0)] 41 := Bx.new hw134
       have := bx144.lt
       clear g137 hw134
       refine ⟨hS132, ?_⟩
       refine AtH.all [10] 1 (by kernel_rfl) (by simp) ⟨?_, trivial⟩
       refine OneH.store f135 (t := 41) (b := w117.heap.size) (off := 0) (v := tupV ((bestB (upG g ls at_) (gI g.ow at_) (gL g.mv at_)).1)) #[true, true, true, true, true, true, true, true, true, true, true, false] (by kernel_rfl) (by kernel_rfl) bx144 (by kernel_rfl) (fun act150 w146 g147 bx148 f149 => ?_)
       clear f135
       replace bx148 : Bx w146 (w117.heap.size) (tupC ((bestB (upG g ls at_) (gI g.ow at_) (gL g.mv at_)).1)) 41 := bx148
       have hS145 := hS132.gr' g147 (by rw [hCs93]; exact ⟨(by simp only [add_block]; omega), (by simp only [add_block]; omega), (by simp only [add_block]; omega), (by simp only [add_block]; omega), (by simp only [add_block]; omega), (by simp only [add_block]; omega), trivial⟩)
       have szw146 := g147.size
       have e151 := e139.gr g147 (fun k h => by injection h; omega)
       clear e139
       have r152 := r140.gr g147 (fun k h => by injection h; omega)
       clear r140
       have r153 := r141.gr g147 (fun k h => by injection h; omega)
       clear r141
       have bx154 := bx142.gr g147 (fun h => by injection h; omega)
       clear bx142
       have bx155 := bx143.gr g147 (fun h => by injection h; omega)
       clear bx143
       clear bx144 g147
       refine ⟨hS145, ?_⟩
       refine AtH.rd (by kernel_rfl) (fun d v c a w h => by cases d <;> exact h) hS145 [11] [[]] [(8, .int .i64 ((bestB (upG g ls at_) (gI g.ow at_) (gL g.mv at_)).2))] #[true, true, true, true, true, true, true, true, true, true, true, true] [] 0 f149 (by kernel_rfl) trivial (fun act157 f156 => ?_)
       clear f149
       refine AtH.done (by kernel_rfl) ?_
       clear hS145
       refine t_n ?_
       have f158 := f156.sub (r := [(7, .pointer (some ⟨w117.heap.size, 0, none⟩)), (6, .pointer (some ⟨w1.heap.size, 0, none⟩)), (1, .slice As ls.length cs), (2, .int .i64 (at_))]) ⟨rfl, rfl, rfl, rfl, trivial⟩
       exact ⟨w117.heap.size, f158, e151, r152, r153, bx154, bx155, bx148, (by omega), (by omega)⟩
      ·refine OneH.seq f109 [[]] [(7, .pointer (some ⟨w107.heap.size, 0, none⟩))] (w107.alloc (.cells #[.bool false, .int .i64 (0), .int .i64 (0), .int .i64 (0), .int .i64 (0)] 41 (0, 0))) [] #[true, true, true, true, true, false, false, false, false, true, false, false] (by kernel_rfl) (by kernel_rfl) (by kernel_rfl) trivial (fun act163 w160 hw161 f162 => ?_)
       clear f109
       have g164 := gr_alloc hw161
       have hS159 := hS106.gr g164
       have szw160 := g164.size
       have e166 := e111.gr g164 no_row
       clear e111
       have r167 := r112.gr g164 (fun _ h => by cases h)
       clear r112
       have r168 := r113.gr g164 (fun _ h => by cases h)
       clear r113
       have bx169 := bx114.gr g164 (by simp)
       clear bx114
       have bx170 := bx115.gr g164 (by simp)
       clear bx115
       have bx171 : Bx w160 (w107.heap.size) [.bool false, .int .i64 (0), .int .i64 (0), .int .i64 (0), .int .i64 (0)] 41 := Bx.new hw161
       have := bx171.lt
       clear g164 hw161
       refine ⟨hS159, ?_⟩
       refine AtH.all [5] 5 (by kernel_rfl) (by simp) ⟨?_, trivial⟩
       refine OneH.call f162 47 #[.agg #[.slice Ag0 g.ow.length cg0, .slice Ag1 g.pr.length cg1, .slice Ag2 g.mv.length cg2], .agg #[.int .i64 (cnt g.pr 1), .int .i64 (cnt g.pr 3), .int .i64 (cnt g.pr 5), .int .i64 (cnt g.pr 7)], .slice As ls.length cs, .int .i64 (at_)] (some 30) #[true, true, true, true, true, true, false, false, false, true, false, false] (by kernel_rfl) (by kernel_rfl) (best_any (ls := ls) (at_ := at_) (r167.wide (Nat.zero_le _) (by omega)) (r168.wide (Nat.zero_le _) (by omega)) hG (by omega) (by assumption) (by omega) (by omega)) ?_
       rintro e_ w173 ⟨rfl, he⟩
       refine ⟨_, rfl, _, rfl, fun act174 f175 => ?_⟩
       clear f162
       have g176 := gr_ext he
       have hS172 := hS159.gr g176
       have szw173 := g176.size
       have e177 := e166.gr g176 no_row
       clear e166
       have r178 := r167.gr g176 (fun _ h => by cases h)
       clear r167
       have r179 := r168.gr g176 (fun _ h => by cases h)
       clear r168
       have bx180 := bx169.gr g176 (by simp)
       clear bx169
       have bx181 := bx170.gr g176 (by simp)
       clear bx170
       have bx182 := bx171.gr g176 (by simp)
       clear bx171
       clear g176 he
       refine ⟨hS172, ?_⟩
       refine AtH.rd (by kernel_rfl) (fun d v c a w h => by cases d <;> exact h) hS172 [6] [[]] [(24, .tuple #[tupV ((bestB (upG g ls at_) (gI g.ow at_) (gL g.mv at_)).1), .int .i64 ((bestB (upG g ls at_) (gI g.ow at_) (gL g.mv at_)).2)])] #[true, true, true, true, true, true, true, false, false, true, false, false] [] 4 f175 (by kernel_rfl) trivial (fun act184 f183 => ?_)
       clear f175
       refine AtH.rd (by kernel_rfl) (fun d v c a w h => by cases d <;> exact h) hS172 [7] [[]] [(31, tupV ((bestB (upG g ls at_) (gI g.ow at_) (gL g.mv at_)).1))] #[true, true, true, true, true, true, true, true, false, true, false, false] [] 3 f183 (by kernel_rfl) trivial (fun act186 f185 => ?_)
       clear f183
       refine AtH.rd (by kernel_rfl) (fun d v c a w h => by cases d <;> exact h) hS172 [8] [[]] [(32, .int .i64 ((bestB (upG g ls at_) (gI g.ow at_) (gL g.mv at_)).2))] #[true, true, true, true, true, true, true, true, true, true, false, false] [] 2 f185 (by kernel_rfl) trivial (fun act188 f187 => ?_)
       clear f185
       refine AtH.all [10] 1 (by kernel_rfl) (by simp) ⟨?_, trivial⟩
       refine OneH.store f187 (t := 41) (b := w107.heap.size) (off := 0) (v := tupV ((bestB (upG g ls at_) (gI g.ow at_) (gL g.mv at_)).1)) #[true, true, true, true, true, true, true, true, true, true, true, false] (by kernel_rfl) (by kernel_rfl) bx182 (by kernel_rfl) (fun act194 w190 g191 bx192 f193 => ?_)
       clear f187
       replace bx192 : Bx w190 (w107.heap.size) (tupC ((bestB (upG g ls at_) (gI g.ow at_) (gL g.mv at_)).1)) 41 := bx192
       have hS189 := hS172.gr' g191 (by rw [hCs93]; exact ⟨(by simp only [add_block]; omega), (by simp only [add_block]; omega), (by simp only [add_block]; omega), (by simp only [add_block]; omega), (by simp only [add_block]; omega), (by simp only [add_block]; omega), trivial⟩)
       have szw190 := g191.size
       have e195 := e177.gr g191 (fun k h => by injection h; omega)
       clear e177
       have r196 := r178.gr g191 (fun k h => by injection h; omega)
       clear r178
       have r197 := r179.gr g191 (fun k h => by injection h; omega)
       clear r179
       have bx198 := bx180.gr g191 (fun h => by injection h; omega)
       clear bx180
       have bx199 := bx181.gr g191 (fun h => by injection h; omega)
       clear bx181
       clear bx182 g191
       refine ⟨hS189, ?_⟩
       refine AtH.rd (by kernel_rfl) (fun d v c a w h => by cases d <;> exact h) hS189 [11] [[]] [(8, .int .i64 ((bestB (upG g ls at_) (gI g.ow at_) (gL g.mv at_)).2))] #[true, true, true, true, true, true, true, true, true, true, true, true] [] 0 f193 (by kernel_rfl) trivial (fun act201 f200 => ?_)
       clear f193
       refine AtH.done (by kernel_rfl) ?_
       clear hS189
       refine t_n ?_
       have f202 := f200.sub (r := [(7, .pointer (some ⟨w107.heap.size, 0, none⟩)), (6, .pointer (some ⟨w1.heap.size, 0, none⟩)), (1, .slice As ls.length cs), (2, .int .i64 (at_))]) ⟨rfl, rfl, rfl, rfl, trivial⟩
       exact ⟨w107.heap.size, f202, e195, r196, r197, bx198, bx199, bx192, (by omega), (by omega)⟩
     ·refine OneH.seq f104 [[]] [(7, .pointer (some ⟨w96.heap.size, 0, none⟩))] (w96.alloc (.cells #[.bool false, .int .i64 (0), .int .i64 (0), .int .i64 (0), .int .i64 (0)] 41 (0, 0))) [] #[true, true, false, true, true, false, false, false, false, true, false, false] (by kernel_rfl) (by kernel_rfl) (by kernel_rfl) trivial (fun act207 w204 hw205 f206 => ?_)
      clear f104
      have g208 := gr_alloc hw205
      have hS203 := hS98.gr g208
      have szw204 := g208.size
      have e210 := e99.gr g208 no_row
      clear e99
      have r211 := r100.gr g208 (fun _ h => by cases h)
      clear r100
      have r212 := r101.gr g208 (fun _ h => by cases h)
      clear r101
      have bx213 := bx102.gr g208 (by simp)
      clear bx102
      have bx214 := bx103.gr g208 (by simp)
      clear bx103
      have bx215 : Bx w204 (w96.heap.size) [.bool false, .int .i64 (0), .int .i64 (0), .int .i64 (0), .int .i64 (0)] 41 := Bx.new hw205
      have := bx215.lt
      clear g208 hw205
      refine ⟨hS203, ?_⟩
      refine AtH.all [2] 6 (by kernel_rfl) (by simp) ⟨?_, trivial⟩
      refine OneH.call f206 46 #[.agg #[.slice Ag0 g.ow.length cg0, .slice Ag1 g.pr.length cg1, .slice Ag2 g.mv.length cg2]] (some 27) #[true, true, true, true, true, false, false, false, false, true, false, false] (by kernel_rfl) (by kernel_rfl) (counts_any (r211.wide (Nat.zero_le _) (by omega))) ?_
      rintro e_ w217 ⟨rfl, he⟩
      refine ⟨_, rfl, _, rfl, fun act218 f219 => ?_⟩
      clear f206
      have g220 := gr_ext he
      have hS216 := hS203.gr g220
      have szw217 := g220.size
      have e221 := e210.gr g220 no_row
      clear e210
      have r222 := r211.gr g220 (fun _ h => by cases h)
      clear r211
      have r223 := r212.gr g220 (fun _ h => by cases h)
      clear r212
      have bx224 := bx213.gr g220 (by simp)
      clear bx213
      have bx225 := bx214.gr g220 (by simp)
      clear bx214
      have bx226 := bx215.gr g220 (by simp)
      clear bx215
      clear g220 he
      refine ⟨hS216, ?_⟩
      refine AtH.all [5] 5 (by kernel_rfl) (by simp) ⟨?_, trivial⟩
      refine OneH.call f219 47 #[.agg #[.slice Ag0 g.ow.length cg0, .slice Ag1 g.pr.length cg1, .slice Ag2 g.mv.length cg2], .agg #[.int .i64 (cnt g.pr 1), .int .i64 (cnt g.pr 3), .int .i64 (cnt g.pr 5), .int .i64 (cnt g.pr 7)], .slice As ls.length cs, .int .i64 (at_)] (some 30) #[true, true, true, true, true, true, false, false, false, true, false, false] (by kernel_rfl) (by kernel_rfl) (best_any (ls := ls) (at_ := at_) (r222.wide (Nat.zero_le _) (by omega)) (r223.wide (Nat.zero_le _) (by omega)) hG (by omega) (by assumption) (by omega) (by omega)) ?_
      rintro e_ w228 ⟨rfl, he⟩
      refine ⟨_, rfl, _, rfl, fun act229 f230 => ?_⟩
      clear f219
      have g231 := gr_ext he
      have hS227 := hS216.gr g231
      have szw228 := g231.size
      have e232 := e221.gr g231 no_row
      clear e221
      have r233 := r222.gr g231 (fun _ h => by cases h)
      clear r222
      have r234 := r223.gr g231 (fun _ h => by cases h)
      clear r223
      have bx235 := bx224.gr g231 (by simp)
      clear bx224
      have bx236 := bx225.gr g231 (by simp)
      clear bx225
      have bx237 := bx226.gr g231 (by simp)
      clear bx226
      clear g231 he
      refine ⟨hS227, ?_⟩
      refine AtH.rd (by kernel_rfl) (fun d v c a w h => by cases d <;> exact h) hS227 [6] [[]] [(24, .tuple #[tupV ((bestB (upG g ls at_) (gI g.ow at_) (gL g.mv at_)).1), .int .i64 ((bestB (upG g ls at_) (gI g.ow at_) (gL g.mv at_)).2)])] #[true, true, true, true, true, true, true, false, false, true, false, false] [] 4 f230 (by kernel_rfl) trivial (fun act239 f238 => ?_)
      clear f230
      refine AtH.rd (by kernel_rfl) (fun d v c a w h => by cases d <;> exact h) hS227 [7] [[]] [(31, tupV ((bestB (upG g ls at_) (gI g.ow at_) (gL g.mv at_)).1))] #[true, true, true, true, true, true, true, true, false, true, false, false] [] 3 f238 (by kernel_rfl) trivial (fun act241 f240 => ?_)
      clear f238
      refine AtH.rd (by kernel_rfl) (fun d v c a w h => by cases d <;> exact h) hS227 [8] [[]] [(32, .int .i64 ((bestB (upG g ls at_) (gI g.ow at_) (gL g.mv at_)).2))] #[true, true, true, true, true, true, true, true, true, true, false, false] [] 2 f240 (by kernel_rfl) trivial (fun act243 f242 => ?_)
      clear f240
      refine AtH.all [10] 1 (by kernel_rfl) (by simp) ⟨?_, trivial⟩
      refine OneH.store f242 (t := 41) (b := w96.heap.size) (off := 0) (v := tupV ((bestB (upG g ls at_) (gI g.ow at_) (gL g.mv at_)).1)) #[true, true, true, true, true, true, true, true, true, true, true, false] (by kernel_rfl) (by kernel_rfl) bx237 (by kernel_rfl) (fun act249 w245 g246 bx247 f248 => ?_)
      clear f242
      replace bx247 : Bx w245 (w96.heap.size) (tupC ((bestB (upG g ls at_) (gI g.ow at_) (gL g.mv at_)).1)) 41 := bx247
      have hS244 := hS227.gr' g246 (by rw [hCs93]; exact ⟨(by simp only [add_block]; omega), (by simp only [add_block]; omega), (by simp only [add_block]; omega), (by simp only [add_block]; omega), (by simp only [add_block]; omega), (by simp only [add_block]; omega), trivial⟩)
      have szw245 := g246.size
      have e250 := e232.gr g246 (fun k h => by injection h; omega)
      clear e232
      have r251 := r233.gr g246 (fun k h => by injection h; omega)
      clear r233
      have r252 := r234.gr g246 (fun k h => by injection h; omega)
      clear r234
      have bx253 := bx235.gr g246 (fun h => by injection h; omega)
      clear bx235
      have bx254 := bx236.gr g246 (fun h => by injection h; omega)
      clear bx236
      clear bx237 g246
      refine ⟨hS244, ?_⟩
      refine AtH.rd (by kernel_rfl) (fun d v c a w h => by cases d <;> exact h) hS244 [11] [[]] [(8, .int .i64 ((bestB (upG g ls at_) (gI g.ow at_) (gL g.mv at_)).2))] #[true, true, true, true, true, true, true, true, true, true, true, true] [] 0 f248 (by kernel_rfl) trivial (fun act256 f255 => ?_)
      clear f248
      refine AtH.done (by kernel_rfl) ?_
      clear hS244
      refine t_n ?_
      have f257 := f255.sub (r := [(7, .pointer (some ⟨w96.heap.size, 0, none⟩)), (6, .pointer (some ⟨w1.heap.size, 0, none⟩)), (1, .slice As ls.length cs), (2, .int .i64 (at_))]) ⟨rfl, rfl, rfl, rfl, trivial⟩
      exact ⟨w96.heap.size, f257, e250, r251, r252, bx253, bx254, bx247, (by omega), (by omega)⟩
    ·clear r30
     clear r31
     clear bx32
     clear bx33
     clear f90 e29
     intro act258 w259 ⟨b_91, f260, e261, r262, r263, bx264, bx265, bx266, hb267, szz268⟩
     have szw259 := e261.size
     have := bx264.lt
     have := bx265.lt
     have := bx266.lt
     refine wp_seq ?_
     obtain ⟨ad270, hA271, hb274, hc273, hc272⟩ := r263.get (at_) (by omega) (by omega) (sz := 5) rfl
     obtain ⟨Cs275, hCs276⟩ : ∃ c : List (Addr × Value), c = [((ad270.add ((at_ : Int).toNat * 5)), (.bool ((gT ls at_).top))), (((ad270.add ((at_ : Int).toNat * 5)).add 1), (.int .i64 ((gT ls at_).c0))), (((ad270.add ((at_ : Int).toNat * 5)).add 2), (.int .i64 ((gT ls at_).c1))), (((ad270.add ((at_ : Int).toNat * 5)).add 3), (.int .i64 ((gT ls at_).c2))), (((ad270.add ((at_ : Int).toNat * 5)).add 4), (.int .i64 ((gT ls at_).c3))), (⟨b_91, 0, none⟩, (.bool ((bestB (upG g ls at_) (gI g.ow at_) (gL g.mv at_)).1.top))), (⟨b_91, 1, none⟩, (.int .i64 ((bestB (upG g ls at_) (gI g.ow at_) (gL g.mv at_)).1.c0))), (⟨b_91, 2, none⟩, (.int .i64 ((bestB (upG g ls at_) (gI g.ow at_) (gL g.mv at_)).1.c1))), (⟨b_91, 3, none⟩, (.int .i64 ((bestB (upG g ls at_) (gI g.ow at_) (gL g.mv at_)).1.c2))), (⟨b_91, 4, none⟩, (.int .i64 ((bestB (upG g ls at_) (gI g.ow at_) (gL g.mv at_)).1.c3)))] := ⟨_, rfl⟩
     have hS277 : HoldsC Cs275 w259 := by rw [hCs276]; exact ⟨hc273, (hc272 1 _ rfl), (hc272 2 _ rfl), (hc272 3 _ rfl), (hc272 4 _ rfl), (bx266.cell (i := 0) rfl), (bx266.cell (i := 1) rfl), (bx266.cell (i := 2) rfl), (bx266.cell (i := 3) rfl), (bx266.cell (i := 4) rfl), trivial⟩
     refine AtH.start Cs275 7 #[false, false, false, false, false, false, false] (by kernel_rfl) rfl rfl (fun w279 hw280 => ?_)
     have g278 := gr_drew hw280
     have hS281 := hS277.gr g278
     have szw279 := g278.size
     have e282 := e261.gr g278 no_row
     clear e261
     have r283 := r262.gr g278 (fun _ h => by cases h)
     clear r262
     have r284 := r263.gr g278 (fun _ h => by cases h)
     clear r263
     have bx285 := bx264.gr g278 (by simp)
     clear bx264
     have bx286 := bx265.gr g278 (by simp)
     clear bx265
     have bx287 := bx266.gr g278 (by simp)
     clear bx266
     clear g278 hw280 hS277
     refine AtH.rd (by kernel_rfl) (fun d v c a w h => by cases d <;> exact h) hS281 [0, 1, 2, 3, 4] [[], [], [.ad ad270], [.ld (.bool ((gT ls at_).top)), .ld (.int .i64 ((gT ls at_).c0)), .ld (.int .i64 ((gT ls at_).c1)), .ld (.int .i64 ((gT ls at_).c2)), .ld (.int .i64 ((gT ls at_).c3))], [.ld (.bool ((bestB (upG g ls at_) (gI g.ow at_) (gL g.mv at_)).1.top)), .ld (.int .i64 ((bestB (upG g ls at_) (gI g.ow at_) (gL g.mv at_)).1.c0)), .ld (.int .i64 ((bestB (upG g ls at_) (gI g.ow at_) (gL g.mv at_)).1.c1)), .ld (.int .i64 ((bestB (upG g ls at_) (gI g.ow at_) (gL g.mv at_)).1.c2)), .ld (.int .i64 ((bestB (upG g ls at_) (gI g.ow at_) (gL g.mv at_)).1.c3))]] [(37, tupV ((bestB (upG g ls at_) (gI g.ow at_) (gL g.mv at_)).1)), (36, tupV (gT ls at_)), (35, .pointer (some (ad270.add ((at_ : Int).toNat * 5)))), (34, .int .i64 (at_)), (33, .slice As ls.length cs)] #[true, true, true, true, true, false, false] [(As = some ad270), (0 ≤ (at_ : Int)), ((at_ : Int) < (ls.length : Nat)), (∃ j_ : Nat, Cs275[j_]? = some ((ad270.add ((at_ : Int).toNat * 5)), (.bool ((gT ls at_).top)))), (∃ j_ : Nat, Cs275[j_]? = some (((ad270.add ((at_ : Int).toNat * 5)).add 1), (.int .i64 ((gT ls at_).c0)))), (∃ j_ : Nat, Cs275[j_]? = some (((ad270.add ((at_ : Int).toNat * 5)).add 2), (.int .i64 ((gT ls at_).c1)))), (∃ j_ : Nat, Cs275[j_]? = some (((ad270.add ((at_ : Int).toNat * 5)).add 3), (.int .i64 ((gT ls at_).c2)))), (∃ j_ : Nat, Cs275[j_]? = some (((ad270.add ((at_ : Int).toNat * 5)).add 4), (.int .i64 ((gT ls at_).c3)))), (∃ j_ : Nat, Cs275[j_]? = some (⟨b_91, 0, none⟩, (.bool ((bestB (upG g ls at_) (gI g.ow at_) (gL g.mv at_)).1.top)))), (∃ j_ : Nat, Cs275[j_]? = some (⟨b_91, 1, none⟩, (.int .i64 ((bestB (upG g ls at_) (gI g.ow at_) (gL g.mv at_)).1.c0)))), (∃ j_ : Nat, Cs275[j_]? = some (⟨b_91, 2, none⟩, (.int .i64 ((bestB (upG g ls at_) (gI g.ow at_) (gL g.mv at_)).1.c1)))), (∃ j_ : Nat, Cs275[j_]? = some (⟨b_91, 3, none⟩, (.int .i64 ((bestB (upG g ls at_) (gI g.ow at_) (gL g.mv at_)).1.c2)))), (∃ j_ : Nat, Cs275[j_]? = some (⟨b_91, 4, none⟩, (.int .i64 ((bestB (upG g ls at_) (gI g.ow at_) (gL g.mv at_)).1.c3))))] 2 f260 (by kernel_rfl) ⟨hA271, (by omega), (by omega), ⟨0, by rw [hCs276]; rfl⟩, ⟨1, by rw [hCs276]; rfl⟩, ⟨2, by rw [hCs276]; rfl⟩, ⟨3, by rw [hCs276]; rfl⟩, ⟨4, by rw [hCs276]; rfl⟩, ⟨5, by rw [hCs276]; rfl⟩, ⟨6, by rw [hCs276]; rfl⟩, ⟨7, by rw [hCs276]; rfl⟩, ⟨8, by rw [hCs276]; rfl⟩, ⟨9, by rw [hCs276]; rfl⟩, trivial⟩ (fun act289 f288 => ?_)
     clear f260
     refine AtH.all [5] 1 (by kernel_rfl) (by simp) ⟨?_, trivial⟩
     refine OneH.call f288 23 #[tupV (gT ls at_), tupV ((bestB (upG g ls at_) (gI g.ow at_) (gL g.mv at_)).1), .int .i64 (0)] (some 38) #[true, true, true, true, true, true, false] (by kernel_rfl) (by kernel_rfl) (cmpM_any (a := (gT ls at_)) (b := (bestB (upG g ls at_) (gI g.ow at_) (gL g.mv at_)).1) (p := 0)) ?_
     rintro e_ w291 ⟨rfl, he⟩
     have := cmp_rng (gT ls at_) ((bestB (upG g ls at_) (gI g.ow at_) (gL g.mv at_)).1) 0
     refine ⟨_, rfl, _, rfl, fun act292 f293 => ?_⟩
     clear f288
     have g294 := gr_ext he
     have hS290 := hS281.gr g294
     have szw291 := g294.size
     have e295 := e282.gr g294 no_row
     clear e282
     have r296 := r283.gr g294 (fun _ h => by cases h)
     clear r283
     have r297 := r284.gr g294 (fun _ h => by cases h)
     clear r284
     have bx298 := bx285.gr g294 (by simp)
     clear bx285
     have bx299 := bx286.gr g294 (by simp)
     clear bx286
     have bx300 := bx287.gr g294 (by simp)
     clear bx287
     clear g294 he
     refine ⟨hS290, ?_⟩
     refine AtH.rd (by kernel_rfl) (fun d v c a w h => by cases d <;> exact h) hS290 [6] [[]] [(39, .bool (decide ((cmpT (gT ls at_) ((bestB (upG g ls at_) (gI g.ow at_) (gL g.mv at_)).1) 0 : Int) < 0)))] #[true, true, true, true, true, true, true] [] 0 f293 (by kernel_rfl) trivial (fun act302 f301 => ?_)
     clear f293
     refine AtH.done (by kernel_rfl) ?_
     clear hS290
     refine t_n ?_
     have f303 := f301.sub (r := [(39, .bool (decide ((cmpT (gT ls at_) ((bestB (upG g ls at_) (gI g.ow at_) (gL g.mv at_)).1) 0 : Int) < 0))), (7, .pointer (some ⟨b_91, 0, none⟩)), (6, .pointer (some ⟨w1.heap.size, 0, none⟩)), (1, .slice As ls.length cs), (2, .int .i64 (at_))]) ⟨rfl, rfl, rfl, rfl, rfl, trivial⟩
     clear f301
     refine cond_S f303 (t := decide ((cmpT (gT ls at_) ((bestB (upG g ls at_) (gI g.ow at_) (gL g.mv at_)).1) 0 : Int) < 0)) rfl (fun h304 => ?_) (fun h304 => ?_)
     ·have q305 := of_decide_eq_true h304
      refine wp_seq ?_
      refine At.start ?_
      refine At.rd f303 1 [[.ld (.bool ((bestB (upG g ls at_) (gI g.ow at_) (gL g.mv at_)).1.top)), .ld (.int .i64 ((bestB (upG g ls at_) (gI g.ow at_) (gL g.mv at_)).1.c0)), .ld (.int .i64 ((bestB (upG g ls at_) (gI g.ow at_) (gL g.mv at_)).1.c1)), .ld (.int .i64 ((bestB (upG g ls at_) (gI g.ow at_) (gL g.mv at_)).1.c2)), .ld (.int .i64 ((bestB (upG g ls at_) (gI g.ow at_) (gL g.mv at_)).1.c3))]] [(40, tupV ((bestB (upG g ls at_) (gI g.ow at_) (gL g.mv at_)).1))] [(w291.cell? ⟨b_91, 0, none⟩ = some (.bool ((bestB (upG g ls at_) (gI g.ow at_) (gL g.mv at_)).1.top))), (w291.cell? ⟨b_91, 1, none⟩ = some (.int .i64 ((bestB (upG g ls at_) (gI g.ow at_) (gL g.mv at_)).1.c0))), (w291.cell? ⟨b_91, 2, none⟩ = some (.int .i64 ((bestB (upG g ls at_) (gI g.ow at_) (gL g.mv at_)).1.c1))), (w291.cell? ⟨b_91, 3, none⟩ = some (.int .i64 ((bestB (upG g ls at_) (gI g.ow at_) (gL g.mv at_)).1.c2))), (w291.cell? ⟨b_91, 4, none⟩ = some (.int .i64 ((bestB (upG g ls at_) (gI g.ow at_) (gL g.mv at_)).1.c3)))] (by kernel_rfl) ⟨(bx300.cell (i := 0) rfl), (bx300.cell (i := 1) rfl), (bx300.cell (i := 2) rfl), (bx300.cell (i := 3) rfl), (bx300.cell (i := 4) rfl), trivial⟩ (fun act307 f306 => ?_)
      clear f303
      refine At.store f306 (t := 41) (b := w1.heap.size) (off := 0) (v := tupV ((bestB (upG g ls at_) (gI g.ow at_) (gL g.mv at_)).1)) (by kernel_rfl) bx299 (by kernel_rfl) (fun act312 w308 g309 bx310 f311 => ?_)
      clear f306
      replace bx310 : Bx w308 (w1.heap.size) (tupC ((bestB (upG g ls at_) (gI g.ow at_) (gL g.mv at_)).1)) 41 := bx310
      have szw308 := g309.size
      have e313 := e295.gr g309 (fun k h => by injection h; omega)
      clear e295
      have r314 := r296.gr g309 (fun k h => by injection h; omega)
      clear r296
      have r315 := r297.gr g309 (fun k h => by injection h; omega)
      clear r297
      have bx316 := bx298.gr g309 (fun h => by injection h; omega)
      clear bx298
      have bx317 := bx300.gr g309 (fun h => by injection h; omega)
      clear bx300
      clear bx299 g309
      refine At.done rfl ?_
      refine t_n ?_
      have f318 := f311.sub (r := [(6, .pointer (some ⟨w1.heap.size, 0, none⟩))]) ⟨rfl, trivial⟩
      clear f311
      refine wp_ret ?_
      refine t_r ?_
      refine ret_ f318 [[.bool ((bestB (upG g ls at_) (gI g.ow at_) (gL g.mv at_)).1.top), .int .i64 ((bestB (upG g ls at_) (gI g.ow at_) (gL g.mv at_)).1.c0), .int .i64 ((bestB (upG g ls at_) (gI g.ow at_) (gL g.mv at_)).1.c1), .int .i64 ((bestB (upG g ls at_) (gI g.ow at_) (gL g.mv at_)).1.c2), .int .i64 ((bestB (upG g ls at_) (gI g.ow at_) (gL g.mv at_)).1.c3)]] [tupV ((bestB (upG g ls at_) (gI g.ow at_) (gL g.mv at_)).1)] [(w308.cell? ⟨w1.heap.size, 0, none⟩ = some (.bool ((bestB (upG g ls at_) (gI g.ow at_) (gL g.mv at_)).1.top))), (w308.cell? ⟨w1.heap.size, 1, none⟩ = some (.int .i64 ((bestB (upG g ls at_) (gI g.ow at_) (gL g.mv at_)).1.c0))), (w308.cell? ⟨w1.heap.size, 2, none⟩ = some (.int .i64 ((bestB (upG g ls at_) (gI g.ow at_) (gL g.mv at_)).1.c1))), (w308.cell? ⟨w1.heap.size, 3, none⟩ = some (.int .i64 ((bestB (upG g ls at_) (gI g.ow at_) (gL g.mv at_)).1.c2))), (w308.cell? ⟨w1.heap.size, 4, none⟩ = some (.int .i64 ((bestB (upG g ls at_) (gI g.ow at_) (gL g.mv at_)).1.c3)))] (by kernel_rfl) ⟨(bx310.cell (i := 0) rfl), (bx310.cell (i := 1) rfl), (bx310.cell (i := 2) rfl), (bx310.cell (i := 3) rfl), (bx310.cell (i := 4) rfl), trivial⟩ ?_
      exact ⟨tup_ret (by first | exact liftR_up hRR (by omega) (by omega) (by omega) | exact liftR_stay hRR (by omega) (by omega) (by omega)), e313⟩
     ·have q319 := of_decide_eq_false h304
      refine wp_skip ?_
      refine t_n ?_
      have f320 := f303.sub (r := [(6, .pointer (some ⟨w1.heap.size, 0, none⟩)), (1, .slice As ls.length cs), (2, .int .i64 (at_))]) ⟨rfl, rfl, rfl, trivial⟩
      clear f303
      refine wp_seq ?_
      refine At.start ?_
      obtain ⟨ad321, hA322, hb325, hc324, hc323⟩ := r297.get (at_) (by omega) (by omega) (sz := 5) rfl
      refine At.rd f320 4 [[], [], [.ad ad321], [.ld (.bool ((gT ls at_).top)), .ld (.int .i64 ((gT ls at_).c0)), .ld (.int .i64 ((gT ls at_).c1)), .ld (.int .i64 ((gT ls at_).c2)), .ld (.int .i64 ((gT ls at_).c3))]] [(44, tupV (gT ls at_)), (43, .pointer (some (ad321.add ((at_ : Int).toNat * 5)))), (42, .int .i64 (at_)), (41, .slice As ls.length cs)] [(As = some ad321), (0 ≤ (at_ : Int)), ((at_ : Int) < (ls.length : Nat)), (w291.cell? (ad321.add ((at_ : Int).toNat * 5)) = some (.bool ((gT ls at_).top))), (w291.cell? ((ad321.add ((at_ : Int).toNat * 5)).add 1) = some (.int .i64 ((gT ls at_).c0))), (w291.cell? ((ad321.add ((at_ : Int).toNat * 5)).add 2) = some (.int .i64 ((gT ls at_).c1))), (w291.cell? ((ad321.add ((at_ : Int).toNat * 5)).add 3) = some (.int .i64 ((gT ls at_).c2))), (w291.cell? ((ad321.add ((at_ : Int).toNat * 5)).add 4) = some (.int .i64 ((gT ls at_).c3)))] (by kernel_rfl) ⟨hA322, (by omega), (by omega), hc324, (hc323 1 _ rfl), (hc323 2 _ rfl), (hc323 3 _ rfl), (hc323 4 _ rfl), trivial⟩ (fun act327 f326 => ?_)
      clear f320
      refine At.store f326 (t := 41) (b := w1.heap.size) (off := 0) (v := tupV (gT ls at_)) (by kernel_rfl) bx299 (by kernel_rfl) (fun act332 w328 g329 bx330 f331 => ?_)
      clear f326
      replace bx330 : Bx w328 (w1.heap.size) (tupC (gT ls at_)) 41 := bx330
      have szw328 := g329.size
      have e333 := e295.gr g329 (fun k h => by injection h; omega)
      clear e295
      have r334 := r296.gr g329 (fun k h => by injection h; omega)
      clear r296
      have r335 := r297.gr g329 (fun k h => by injection h; omega)
      clear r297
      have bx336 := bx298.gr g329 (fun h => by injection h; omega)
      clear bx298
      have bx337 := bx300.gr g329 (fun h => by injection h; omega)
      clear bx300
      clear bx299 g329
      refine At.done rfl ?_
      refine t_n ?_
      have f338 := f331.sub (r := [(6, .pointer (some ⟨w1.heap.size, 0, none⟩))]) ⟨rfl, trivial⟩
      clear f331
      refine wp_ret ?_
      refine ret_ f338 [[.bool ((gT ls at_).top), .int .i64 ((gT ls at_).c0), .int .i64 ((gT ls at_).c1), .int .i64 ((gT ls at_).c2), .int .i64 ((gT ls at_).c3)]] [tupV (gT ls at_)] [(w328.cell? ⟨w1.heap.size, 0, none⟩ = some (.bool ((gT ls at_).top))), (w328.cell? ⟨w1.heap.size, 1, none⟩ = some (.int .i64 ((gT ls at_).c0))), (w328.cell? ⟨w1.heap.size, 2, none⟩ = some (.int .i64 ((gT ls at_).c1))), (w328.cell? ⟨w1.heap.size, 3, none⟩ = some (.int .i64 ((gT ls at_).c2))), (w328.cell? ⟨w1.heap.size, 4, none⟩ = some (.int .i64 ((gT ls at_).c3)))] (by kernel_rfl) ⟨(bx330.cell (i := 0) rfl), (bx330.cell (i := 1) rfl), (bx330.cell (i := 2) rfl), (bx330.cell (i := 3) rfl), (bx330.cell (i := 4) rfl), trivial⟩ ?_
      exact ⟨tup_ret (by first | exact liftR_up hRR (by omega) (by omega) (by omega) | exact liftR_stay hRR (by omega) (by omega) (by omega)), e333⟩

end Go.Proofs.Ytklbpajmoklheaa
