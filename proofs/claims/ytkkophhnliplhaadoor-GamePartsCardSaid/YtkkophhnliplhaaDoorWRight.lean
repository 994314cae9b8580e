/-
  A walk of a Go function, printed by a program of this repo. Conditions: what the theorems name.
-/
import Derived.Test.YtkkophhnliplhaaDoorPureGame
import Derived.Test.YtkkophhnliplhaaDoorFy
set_option linter.unusedVariables false
set_option linter.unusedSimpArgs false
namespace Go.Proofs.YtkkophhnliplhaaDoor
open Go Go.RowKit

set_option maxHeartbeats 4000000 in
theorem rightR_any {Ag0 Ag1 Ag2 : Option Addr} {cg0 cg1 cg2 : Nat} {g : GameL} {w : World} (rg : RdG w 0 w.heap.size Ag0 Ag1 Ag2 cg0 cg1 cg2 g) :
    Calls Tryd.prog 15 #[.agg #[.slice Ag0 g.ow.length cg0, .slice Ag1 g.pr.length cg1, .slice Ag2 g.mv.length cg2]] w fun e w' => e = .returned (.tuple #[.int .i64 (rightP g).1, .int .i64 (rightP g).2]) ∧ Ext w w' := by
 have hlg0 := rg.ow.len
 have hlg1 := rg.pr.len
 have hlg2 := rg.mv.len
 have hkg0 := rg.k0
 have hkg1 := rg.k1
 have hkg2 := rg.k2
 refine enter_ (args := [.agg #[.slice Ag0 g.ow.length cg0, .slice Ag1 g.pr.length cg1, .slice Ag2 g.mv.length cg2]]) Tryd.func15 rfl Tryd.ntmps15 (Nat.le_of_ble_eq_true rfl) (fun act0 f0 => ?_)
 have e0 : Ext w w := Ext.refl w
 refine wp_seq ?_
 refine At.start ?_
 refine At.seq f0 1 [[]] [(1, .pointer (some ⟨w.heap.size, 0, none⟩))] (w.alloc (.cells #[.slice Ag0 g.ow.length cg0, .slice Ag1 g.pr.length cg1, .slice Ag2 g.mv.length cg2] 25 (0, 0))) [] (by kernel_rfl) trivial (fun act4 w1 hw2 f3 => ?_)
 clear f0
 have g5 := gr_alloc hw2
 have szw1 := g5.size
 replace e0 := e0.gr g5 no_row
 have r8 := rg.gr g5 (fun _ h => by cases h)
 clear rg
 have bx9 : Bx w1 (w.heap.size) [.slice Ag0 g.ow.length cg0, .slice Ag1 g.pr.length cg1, .slice Ag2 g.mv.length cg2] 25 := Bx.new hw2
 have := bx9.lt
 clear g5 hw2
 refine At.rd f3 2 [[], []] [(3, .int .i64 (0)), (2, .int .i64 (0))] [] (by kernel_rfl) trivial (fun act11 f10 => ?_)
 clear f3
 refine At.done rfl ?_
 refine t_n ?_
 refine wp_seq ?_
 refine At.start ?_
 refine At.rd f10 4 [[], [.ld (.slice Ag0 g.ow.length cg0)], [], []] [(4, .int .i64 (((g.ow.length : Nat) : Int))), (11, .int .i64 (((g.ow.length : Nat) : Int))), (10, .slice Ag0 g.ow.length cg0), (9, .pointer (some ⟨w.heap.size, 0, none⟩))] [(w1.cell? ⟨w.heap.size, 0, none⟩ = some (.slice Ag0 g.ow.length cg0))] (by kernel_rfl) ⟨(bx9.cell (i := 0) rfl), trivial⟩ (fun act13 f12 => ?_)
 clear f10
 refine At.done rfl ?_
 refine t_n ?_
 refine wp_seq ?_
 refine wp_seq ?_
 refine At.start ?_
 rcases Bool.eq_false_or_eq_true ((((g.pr.length : Nat) : Int) : Int) != ((g.ow.length : Nat) : Int)) with h14 | h14
 ·have q15 := bne_iff_ne.1 h14
  refine At.rd f12 12 [[], [.ld (.slice Ag1 g.pr.length cg1)], [], [], [], [.as_ (.bool true)], [], [], [], [], [], []] [(23, .bool true), (22, undef), (21, undef), (20, undef), (19, undef), (18, undef), (17, .bool true), (16, .bool ((((g.pr.length : Nat) : Int) : Int) != ((g.ow.length : Nat) : Int))), (15, .int .i64 (((g.ow.length : Nat) : Int))), (14, .int .i64 (((g.pr.length : Nat) : Int))), (13, .slice Ag1 g.pr.length cg1), (12, .pointer (some ⟨w.heap.size, 1, none⟩))] [(w1.cell? ⟨w.heap.size, 1, none⟩ = some (.slice Ag1 g.pr.length cg1)), ((.bool ((((g.pr.length : Nat) : Int) : Int) != ((g.ow.length : Nat) : Int)) : Value) = .bool true)] (by kernel_rfl) ⟨(bx9.cell (i := 1) rfl), (congrArg Value.bool h14), trivial⟩ (fun act17 f16 => ?_)
  clear f12
  refine At.done rfl ?_
  refine t_n ?_
  refine cond_T f16 rfl ?_
  refine wp_seq ?_
  refine At.start ?_
  refine At.rd f16 2 [[], []] [(3, .int .i64 (1)), (2, .int .i64 (0))] [] (by kernel_rfl) trivial (fun act19 f18 => ?_)
  clear f16
  refine At.done rfl ?_
  refine t_n ?_
  have f20 := f18.sub (r := [(3, .int .i64 (1)), (2, .int .i64 (0))]) ⟨rfl, rfl, trivial⟩
  clear f18
  refine wp_ret ?_
  refine t_r ?_
  refine ret_ f20 [] [.int .i64 (0), .int .i64 (1)] [] (by kernel_rfl) trivial ?_
  exact ⟨ret2_ii (right_lens (by omega)) rfl rfl, e0⟩
 ·have q21 := bne_eq_false_iff_eq.1 h14
  refine At.rd f12 12 [[], [.ld (.slice Ag1 g.pr.length cg1)], [], [], [], [.as_ (.bool false)], [], [.ld (.slice Ag2 g.mv.length cg2)], [], [], [], []] [(23, .bool ((((g.mv.length : Nat) : Int) : Int) != ((g.ow.length : Nat) : Int))), (22, .bool ((((g.mv.length : Nat) : Int) : Int) != ((g.ow.length : Nat) : Int))), (21, .int .i64 (((g.ow.length : Nat) : Int))), (20, .int .i64 (((g.mv.length : Nat) : Int))), (19, .slice Ag2 g.mv.length cg2), (18, .pointer (some ⟨w.heap.size, 2, none⟩)), (17, .bool false), (16, .bool ((((g.pr.length : Nat) : Int) : Int) != ((g.ow.length : Nat) : Int))), (15, .int .i64 (((g.ow.length : Nat) : Int))), (14, .int .i64 (((g.pr.length : Nat) : Int))), (13, .slice Ag1 g.pr.length cg1), (12, .pointer (some ⟨w.heap.size, 1, none⟩))] [(w1.cell? ⟨w.heap.size, 1, none⟩ = some (.slice Ag1 g.pr.length cg1)), ((.bool ((((g.pr.length : Nat) : Int) : Int) != ((g.ow.length : Nat) : Int)) : Value) = .bool false), (w1.cell? ⟨w.heap.size, 2, none⟩ = some (.slice Ag2 g.mv.length cg2))] (by kernel_rfl) ⟨(bx9.cell (i := 1) rfl), (congrArg Value.bool h14), (bx9.cell (i := 2) rfl), trivial⟩ (fun act23 f22 => ?_)
  clear f12
  refine At.done rfl ?_
  refine t_n ?_
  refine cond_S f22 (t := (((g.mv.length : Nat) : Int) : Int) != ((g.ow.length : Nat) : Int)) rfl (fun h24 => ?_) (fun h24 => ?_)
  ·have q25 := bne_iff_ne.1 h24
   refine wp_seq ?_
   refine At.start ?_
   refine At.rd f22 2 [[], []] [(3, .int .i64 (1)), (2, .int .i64 (0))] [] (by kernel_rfl) trivial (fun act27 f26 => ?_)
   clear f22
   refine At.done rfl ?_
   refine t_n ?_
   have f28 := f26.sub (r := [(3, .int .i64 (1)), (2, .int .i64 (0))]) ⟨rfl, rfl, trivial⟩
   clear f26
   refine wp_ret ?_
   refine t_r ?_
   refine ret_ f28 [] [.int .i64 (0), .int .i64 (1)] [] (by kernel_rfl) trivial ?_
   exact ⟨ret2_ii (right_lens (by omega)) rfl rfl, e0⟩
  ·have q29 := bne_eq_false_iff_eq.1 h24
   refine wp_skip ?_
   refine t_n ?_
   have f30 := f22.sub (r := [(4, .int .i64 (((g.ow.length : Nat) : Int))), (3, .int .i64 (0)), (2, .int .i64 (0)), (1, .pointer (some ⟨w.heap.size, 0, none⟩))]) ⟨rfl, rfl, rfl, rfl, trivial⟩
   clear f22
   refine wp_seq ?_
   refine wp_seq ?_
   refine At.start ?_
   rcases Bool.eq_false_or_eq_true ((((g.ow.length : Nat) : Int) : Int) == 0) with h31 | h31
   ·have q32 := eq_of_beq h31
    refine At.rd f30 6 [[], [], [.as_ (.bool true)], [], [], []] [(29, .bool true), (28, undef), (27, undef), (26, .bool true), (25, .bool ((((g.ow.length : Nat) : Int) : Int) == 0)), (24, .int .i64 (((g.ow.length : Nat) : Int)))] [((.bool ((((g.ow.length : Nat) : Int) : Int) == 0) : Value) = .bool true)] (by kernel_rfl) ⟨(congrArg Value.bool h31), trivial⟩ (fun act34 f33 => ?_)
    clear f30
    refine At.done rfl ?_
    refine t_n ?_
    refine cond_T f33 rfl ?_
    refine wp_seq ?_
    refine At.start ?_
    refine At.rd f33 2 [[], []] [(3, .int .i64 (10)), (2, .int .i64 (0))] [] (by kernel_rfl) trivial (fun act36 f35 => ?_)
    clear f33
    refine At.done rfl ?_
    refine t_n ?_
    refine wp_ret ?_
    refine t_r ?_
    refine ret_ f35 [] [.int .i64 (0), .int .i64 (10)] [] (by kernel_rfl) trivial ?_
    exact ⟨ret2_ii (right_many (by omega) (by omega)) rfl rfl, e0⟩
   ·have q37 := ne_of_beq_false h31
    refine At.rd f30 6 [[], [], [.as_ (.bool false)], [], [], []] [(29, .bool (decide ((((g.ow.length : Nat) : Int) : Int) > 200))), (28, .bool (decide ((((g.ow.length : Nat) : Int) : Int) > 200))), (27, .int .i64 (((g.ow.length : Nat) : Int))), (26, .bool false), (25, .bool ((((g.ow.length : Nat) : Int) : Int) == 0)), (24, .int .i64 (((g.ow.length : Nat) : Int)))] [((.bool ((((g.ow.length : Nat) : Int) : Int) == 0) : Value) = .bool false)] (by kernel_rfl) ⟨(congrArg Value.bool h31), trivial⟩ (fun act39 f38 => ?_)
    clear f30
    refine At.done rfl ?_
    refine t_n ?_
    refine cond_S f38 (t := decide ((((g.ow.length : Nat) : Int) : Int) > 200)) rfl (fun h40 => ?_) (fun h40 => ?_)
    ·have q41 := of_decide_eq_true h40
     refine wp_seq ?_
     refine At.start ?_
     refine At.rd f38 2 [[], []] [(3, .int .i64 (10)), (2, .int .i64 (0))] [] (by kernel_rfl) trivial (fun act43 f42 => ?_)
     clear f38
     refine At.done rfl ?_
     refine t_n ?_
     refine wp_ret ?_
     refine t_r ?_
     refine ret_ f42 [] [.int .i64 (0), .int .i64 (10)] [] (by kernel_rfl) trivial ?_
     exact ⟨ret2_ii (right_many (by omega) (by omega)) rfl rfl, e0⟩
    ·have q44 := of_decide_eq_false h40
     refine wp_skip ?_
     refine t_n ?_
     refine wp_seq ?_
     refine wp_seq ?_
     refine At.start ?_
     refine At.rd f38 1 [[]] [(5, .int .i64 (0))] [] (by kernel_rfl) trivial (fun act46 f45 => ?_)
     clear f38
     refine At.done rfl ?_
     refine t_n ?_
     refine wp_block ?_
     have f47 := f45.sub (r := [(5, .int .i64 (0)), (4, .int .i64 (((g.ow.length : Nat) : Int))), (1, .pointer (some ⟨w.heap.size, 0, none⟩))]) ⟨rfl, rfl, rfl, trivial⟩
     refine loop_g (fun (m_ : Nat) a_ w_ => ∃ (k : Int), m_ = ((g.ow.length : Int) - k).toNat ∧ (Frm 101 a_ [(5, .int .i64 (k)), (4, .int .i64 (((g.ow.length : Nat) : Int))), (1, .pointer (some ⟨w.heap.size, 0, none⟩))]) ∧ (Ext w w_) ∧ (RdG w_ 0 w.heap.size Ag0 Ag1 Ag2 cg0 cg1 cg2 g) ∧ (Bx w_ (w.heap.size) [.slice Ag0 g.ow.length cg0, .slice Ag1 g.pr.length cg1, .slice Ag2 g.mv.length cg2] 25) ∧ (0 ≤ k) ∧ (k ≤ (g.ow.length : Int)) ∧ (∀ j : Nat, (j : Int) < k → g.err j = 0)) _ ⟨0, rfl, f47, e0, r8, bx9, (by omega), (by omega), (fun j hj => by omega)⟩ ?_
     clear f47 f45
     clear r8
     clear bx9
     clear e0
     intro m_ act48 w49 ⟨k, hm51, f52, e50, r53, bx54, i55, i56, hp⟩
     have szw49 := e50.size
     have := bx54.lt
     refine wp_seq ?_
     refine wp_seq ?_
     refine At.start ?_
     refine At.rd f52 3 [[], [], []] [(32, .bool (decide ((k : Int) < ((g.ow.length : Nat) : Int)))), (31, .int .i64 (((g.ow.length : Nat) : Int))), (30, .int .i64 (k))] [] (by kernel_rfl) trivial (fun act58 f57 => ?_)
     clear f52
     refine At.done rfl ?_
     refine t_n ?_
     refine cond_S f57 (t := decide ((k : Int) < ((g.ow.length : Nat) : Int))) rfl (fun h59 => ?_) (fun h59 => ?_)
     ·have q60 := of_decide_eq_true h59
      refine wp_skip ?_
      refine t_n ?_
      refine wp_seq ?_
      refine wp_block ?_
      refine wp_seq (cut (fun a_ w_ => (Frm 101 a_ [(5, .int .i64 (k)), (4, .int .i64 (((g.ow.length : Nat) : Int))), (1, .pointer (some ⟨w.heap.size, 0, none⟩))]) ∧ (Ext w w_) ∧ (RdG w_ 0 w.heap.size Ag0 Ag1 Ag2 cg0 cg1 cg2 g) ∧ (Bx w_ (w.heap.size) [.slice Ag0 g.ow.length cg0, .slice Ag1 g.pr.length cg1, .slice Ag2 g.mv.length cg2] 25) ∧ (gI g.ow k = 0 ∨ gI g.ow k = 1) ∧ (w49.heap.size ≤ w_.heap.size)) ?_ ?_)
      ·refine wp_seq ?_
       refine At.start ?_
       obtain ⟨ad61, hA62, _, _, hc63⟩ := RdI.get r53.ow (k) (by omega) (by omega)
       rcases Bool.eq_false_or_eq_true ((gI g.ow (k) : Int) != 0) with h64 | h64
       ·have q65 := bne_iff_ne.1 h64
        obtain ⟨ad66, hA67, _, _, hc68⟩ := RdI.get r53.ow (k) (by omega) (by omega)
        refine At.rd f57 14 [[], [.ld (.slice Ag0 g.ow.length cg0)], [], [.ad ad61], [.ld (.int .i64 (gI g.ow (k)))], [], [.as_ (.bool true)], [], [.ld (.slice Ag0 g.ow.length cg0)], [], [.ad ad66], [.ld (.int .i64 (gI g.ow (k)))], [], []] [(48, .bool ((gI g.ow (k) : Int) != 1)), (47, .bool ((gI g.ow (k) : Int) != 1)), (46, .int .i64 (gI g.ow (k))), (45, .pointer (some (ad66.add ((k : Int).toNat * 1)))), (44, .int .i64 (k)), (43, .slice Ag0 g.ow.length cg0), (42, .pointer (some ⟨w.heap.size, 0, none⟩)), (41, .bool true), (40, .bool ((gI g.ow (k) : Int) != 0)), (39, .int .i64 (gI g.ow (k))), (38, .pointer (some (ad61.add ((k : Int).toNat * 1)))), (37, .int .i64 (k)), (36, .slice Ag0 g.ow.length cg0), (35, .pointer (some ⟨w.heap.size, 0, none⟩))] [(w49.cell? ⟨w.heap.size, 0, none⟩ = some (.slice Ag0 g.ow.length cg0)), (Ag0 = some ad61), (0 ≤ (k : Int)), ((k : Int) < (g.ow.length : Nat)), (w49.cell? (ad61.add ((k : Int).toNat * 1)) = some (.int .i64 (gI g.ow (k)))), ((.bool ((gI g.ow (k) : Int) != 0) : Value) = .bool true), (w49.cell? ⟨w.heap.size, 0, none⟩ = some (.slice Ag0 g.ow.length cg0)), (Ag0 = some ad66), (0 ≤ (k : Int)), ((k : Int) < (g.ow.length : Nat)), (w49.cell? (ad66.add ((k : Int).toNat * 1)) = some (.int .i64 (gI g.ow (k))))] (by kernel_rfl) ⟨(bx54.cell (i := 0) rfl), hA62, (by omega), (by omega), hc63, (congrArg Value.bool h64), (bx54.cell (i := 0) rfl), hA67, (by omega), (by omega), hc68, trivial⟩ (fun act70 f69 => ?_)
        clear f57
        refine At.done rfl ?_
        refine t_n ?_
        refine cond_S f69 (t := (gI g.ow (k) : Int) != 1) rfl (fun h71 => ?_) (fun h71 => ?_)
        ·have q72 := bne_iff_ne.1 h71
         refine wp_seq ?_
         refine At.start ?_
         refine At.rd f69 3 [[], [], []] [(3, .int .i64 (14)), (2, .int .i64 (k)), (49, .int .i64 (k))] [] (by kernel_rfl) trivial (fun act74 f73 => ?_)
         clear f69
         refine At.done rfl ?_
         refine t_n ?_
         have f75 := f73.sub (r := [(3, .int .i64 (14)), (2, .int .i64 (k))]) ⟨rfl, rfl, trivial⟩
         clear f73
         refine wp_ret ?_
         refine t_r ?_
         refine b_r ?_
         refine t_r ?_
         refine t_r ?_
         refine b_r ?_
         refine t_r ?_
         refine ret_ f75 [] [.int .i64 (k), .int .i64 (14)] [] (by kernel_rfl) trivial ?_
         exact ⟨ret2_ii (right_at' (by omega) (by omega) (by omega) (by omega) (by assumption) (err_14 (by omega) (by omega)) (by decide)) rfl rfl, e50⟩
        ·have q76 := bne_eq_false_iff_eq.1 h71
         refine wp_skip ?_
         refine t_n ?_
         have f77 := f69.sub (r := [(5, .int .i64 (k)), (4, .int .i64 (((g.ow.length : Nat) : Int))), (1, .pointer (some ⟨w.heap.size, 0, none⟩))]) ⟨rfl, rfl, rfl, trivial⟩
         exact ⟨f77, e50, r53, bx54, (by omega), (by omega)⟩
       ·have q78 := bne_eq_false_iff_eq.1 h64
        refine At.rd f57 14 [[], [.ld (.slice Ag0 g.ow.length cg0)], [], [.ad ad61], [.ld (.int .i64 (gI g.ow (k)))], [], [.as_ (.bool false)], [], [], [], [], [], [], []] [(48, .bool false), (47, undef), (46, undef), (45, undef), (44, undef), (43, undef), (42, undef), (41, .bool false), (40, .bool ((gI g.ow (k) : Int) != 0)), (39, .int .i64 (gI g.ow (k))), (38, .pointer (some (ad61.add ((k : Int).toNat * 1)))), (37, .int .i64 (k)), (36, .slice Ag0 g.ow.length cg0), (35, .pointer (some ⟨w.heap.size, 0, none⟩))] [(w49.cell? ⟨w.heap.size, 0, none⟩ = some (.slice Ag0 g.ow.length cg0)), (Ag0 = some ad61), (0 ≤ (k : Int)), ((k : Int) < (g.ow.length : Nat)), (w49.cell? (ad61.add ((k : Int).toNat * 1)) = some (.int .i64 (gI g.ow (k)))), ((.bool ((gI g.ow (k) : Int) != 0) : Value) = .bool false)] (by kernel_rfl) ⟨(bx54.cell (i := 0) rfl), hA62, (by omega), (by omega), hc63, (congrArg Value.bool h64), trivial⟩ (fun act80 f79 => ?_)
        clear f57
        refine At.done rfl ?_
        refine t_n ?_
        have f81 := f79.sub (r := [(48, .bool false), (5, .int .i64 (k)), (4, .int .i64 (((g.ow.length : Nat) : Int))), (1, .pointer (some ⟨w.heap.size, 0, none⟩))]) ⟨rfl, rfl, rfl, rfl, trivial⟩
        clear f79
        refine cond_F f81 rfl ?_
        refine wp_skip ?_
        refine t_n ?_
        have f82 := f81.sub (r := [(5, .int .i64 (k)), (4, .int .i64 (((g.ow.length : Nat) : Int))), (1, .pointer (some ⟨w.heap.size, 0, none⟩))]) ⟨rfl, rfl, rfl, trivial⟩
        exact ⟨f82, e50, r53, bx54, (by omega), (by omega)⟩
      ·clear r53
       clear bx54
       clear f57 e50
       intro act83 w84 ⟨f85, e86, r87, bx88, i89, i90⟩
       have szw84 := e86.size
       have := bx88.lt
       refine wp_seq ?_
       refine wp_seq ?_
       refine At.start ?_
       obtain ⟨ad91, hA92, _, _, hc93⟩ := RdI.get r87.pr (k) (by omega) (by omega)
       rcases Bool.eq_false_or_eq_true (decide ((gI g.pr (k) : Int) < 0)) with h94 | h94
       ·have q95 := of_decide_eq_true h94
        refine At.rd f85 14 [[], [.ld (.slice Ag1 g.pr.length cg1)], [], [.ad ad91], [.ld (.int .i64 (gI g.pr (k)))], [], [.as_ (.bool true)], [], [], [], [], [], [], []] [(63, .bool true), (62, undef), (61, undef), (60, undef), (59, undef), (58, undef), (57, undef), (56, .bool true), (55, .bool (decide ((gI g.pr (k) : Int) < 0))), (54, .int .i64 (gI g.pr (k))), (53, .pointer (some (ad91.add ((k : Int).toNat * 1)))), (52, .int .i64 (k)), (51, .slice Ag1 g.pr.length cg1), (50, .pointer (some ⟨w.heap.size, 1, none⟩))] [(w84.cell? ⟨w.heap.size, 1, none⟩ = some (.slice Ag1 g.pr.length cg1)), (Ag1 = some ad91), (0 ≤ (k : Int)), ((k : Int) < (g.pr.length : Nat)), (w84.cell? (ad91.add ((k : Int).toNat * 1)) = some (.int .i64 (gI g.pr (k)))), ((.bool (decide ((gI g.pr (k) : Int) < 0)) : Value) = .bool true)] (by kernel_rfl) ⟨(bx88.cell (i := 1) rfl), hA92, (by omega), (by omega), hc93, (congrArg Value.bool h94), trivial⟩ (fun act97 f96 => ?_)
        clear f85
        refine At.done rfl ?_
        refine t_n ?_
        refine cond_T f96 rfl ?_
        refine wp_seq ?_
        refine At.start ?_
        refine At.rd f96 3 [[], [], []] [(3, .int .i64 (15)), (2, .int .i64 (k)), (64, .int .i64 (k))] [] (by kernel_rfl) trivial (fun act99 f98 => ?_)
        clear f96
        refine At.done rfl ?_
        refine t_n ?_
        have f100 := f98.sub (r := [(3, .int .i64 (15)), (2, .int .i64 (k))]) ⟨rfl, rfl, trivial⟩
        clear f98
        refine wp_ret ?_
        refine t_r ?_
        refine b_r ?_
        refine t_r ?_
        refine t_r ?_
        refine b_r ?_
        refine t_r ?_
        refine ret_ f100 [] [.int .i64 (k), .int .i64 (15)] [] (by kernel_rfl) trivial ?_
        exact ⟨ret2_ii (right_at' (by omega) (by omega) (by omega) (by omega) (by assumption) (err_15 (by omega) (by omega)) (by decide)) rfl rfl, e86⟩
       ·have q101 := of_decide_eq_false h94
        obtain ⟨ad102, hA103, _, _, hc104⟩ := RdI.get r87.pr (k) (by omega) (by omega)
        refine At.rd f85 14 [[], [.ld (.slice Ag1 g.pr.length cg1)], [], [.ad ad91], [.ld (.int .i64 (gI g.pr (k)))], [], [.as_ (.bool false)], [], [.ld (.slice Ag1 g.pr.length cg1)], [], [.ad ad102], [.ld (.int .i64 (gI g.pr (k)))], [], []] [(63, .bool (decide ((gI g.pr (k) : Int) > 7))), (62, .bool (decide ((gI g.pr (k) : Int) > 7))), (61, .int .i64 (gI g.pr (k))), (60, .pointer (some (ad102.add ((k : Int).toNat * 1)))), (59, .int .i64 (k)), (58, .slice Ag1 g.pr.length cg1), (57, .pointer (some ⟨w.heap.size, 1, none⟩)), (56, .bool false), (55, .bool (decide ((gI g.pr (k) : Int) < 0))), (54, .int .i64 (gI g.pr (k))), (53, .pointer (some (ad91.add ((k : Int).toNat * 1)))), (52, .int .i64 (k)), (51, .slice Ag1 g.pr.length cg1), (50, .pointer (some ⟨w.heap.size, 1, none⟩))] [(w84.cell? ⟨w.heap.size, 1, none⟩ = some (.slice Ag1 g.pr.length cg1)), (Ag1 = some ad91), (0 ≤ (k : Int)), ((k : Int) < (g.pr.length : Nat)), (w84.cell? (ad91.add ((k : Int).toNat * 1)) = some (.int .i64 (gI g.pr (k)))), ((.bool (decide ((gI g.pr (k) : Int) < 0)) : Value) = .bool false), (w84.cell? ⟨w.heap.size, 1, none⟩ = some (.slice Ag1 g.pr.length cg1)), (Ag1 = some ad102), (0 ≤ (k : Int)), ((k : Int) < (g.pr.length : Nat)), (w84.cell? (ad102.add ((k : Int).toNat * 1)) = some (.int .i64 (gI g.pr (k))))] (by kernel_rfl) ⟨(bx88.cell (i := 1) rfl), hA92, (by omega), (by omega), hc93, (congrArg Value.bool h94), (bx88.cell (i := 1) rfl), hA103, (by omega), (by omega), hc104, trivial⟩ (fun act106 f105 => ?_)
        clear f85
        refine At.done rfl ?_
        refine t_n ?_
        refine cond_S f105 (t := decide ((gI g.pr (k) : Int) > 7)) rfl (fun h107 => ?_) (fun h107 => ?_)
        ·have q108 := of_decide_eq_true h107
         refine wp_seq ?_
         refine At.start ?_
         refine At.rd f105 3 [[], [], []] [(3, .int .i64 (15)), (2, .int .i64 (k)), (64, .int .i64 (k))] [] (by kernel_rfl) trivial (fun act110 f109 => ?_)
         clear f105
         refine At.done rfl ?_
         refine t_n ?_
         have f111 := f109.sub (r := [(3, .int .i64 (15)), (2, .int .i64 (k))]) ⟨rfl, rfl, trivial⟩
         clear f109
         refine wp_ret ?_
         refine t_r ?_
         refine b_r ?_
         refine t_r ?_
         refine t_r ?_
         refine b_r ?_
         refine t_r ?_
         refine ret_ f111 [] [.int .i64 (k), .int .i64 (15)] [] (by kernel_rfl) trivial ?_
         exact ⟨ret2_ii (right_at' (by omega) (by omega) (by omega) (by omega) (by assumption) (err_15 (by omega) (by omega)) (by decide)) rfl rfl, e86⟩
        ·have q112 := of_decide_eq_false h107
         refine wp_skip ?_
         refine t_n ?_
         refine wp_seq ?_
         refine wp_seq ?_
         refine At.start ?_
         obtain ⟨ad113, R116, C117, hA114, _, _, hc115, hC118, r119⟩ := RdII.get r87.mv (k) (by omega) (by omega)
         have hl120 := r119.len
         refine At.rd f105 7 [[], [.ld (.slice Ag2 g.mv.length cg2)], [], [.ad ad113], [.ld (.slice R116 ((gL g.mv (k)).length) C117)], [], []] [(71, .bool (((((gL g.mv (k)).length : Nat) : Int) : Int) == 0)), (70, .int .i64 ((((gL g.mv (k)).length : Nat) : Int))), (69, .slice R116 ((gL g.mv (k)).length) C117), (68, .pointer (some (ad113.add ((k : Int).toNat * 1)))), (67, .int .i64 (k)), (66, .slice Ag2 g.mv.length cg2), (65, .pointer (some ⟨w.heap.size, 2, none⟩))] [(w84.cell? ⟨w.heap.size, 2, none⟩ = some (.slice Ag2 g.mv.length cg2)), (Ag2 = some ad113), (0 ≤ (k : Int)), ((k : Int) < (g.mv.length : Nat)), (w84.cell? (ad113.add ((k : Int).toNat * 1)) = some (.slice R116 ((gL g.mv (k)).length) C117))] (by kernel_rfl) ⟨(bx88.cell (i := 2) rfl), hA114, (by omega), (by omega), hc115, trivial⟩ (fun act123 f122 => ?_)
         clear f105
         refine At.done rfl ?_
         refine t_n ?_
         refine cond_S f122 (t := ((((gL g.mv (k)).length : Nat) : Int) : Int) == 0) rfl (fun h124 => ?_) (fun h124 => ?_)
         ·have q125 := eq_of_beq h124
          refine wp_seq ?_
          refine At.start ?_
          refine At.rd f122 3 [[], [], []] [(3, .int .i64 (17)), (2, .int .i64 (k)), (72, .int .i64 (k))] [] (by kernel_rfl) trivial (fun act127 f126 => ?_)
          clear f122
          refine At.done rfl ?_
          refine t_n ?_
          have f128 := f126.sub (r := [(3, .int .i64 (17)), (2, .int .i64 (k))]) ⟨rfl, rfl, trivial⟩
          clear f126
          refine wp_ret ?_
          refine t_r ?_
          refine b_r ?_
          refine t_r ?_
          refine t_r ?_
          refine b_r ?_
          refine t_r ?_
          refine ret_ f128 [] [.int .i64 (k), .int .i64 (17)] [] (by kernel_rfl) trivial ?_
          exact ⟨ret2_ii (right_at' (by omega) (by omega) (by omega) (by omega) (by assumption) (err_17 (by omega) (by omega) (by omega)) (by decide)) rfl rfl, e86⟩
         ·have q129 := ne_of_beq_false h124
          refine wp_skip ?_
          refine t_n ?_
          refine wp_seq ?_
          refine At.start ?_
          refine At.rd f122 1 [[]] [(6, .int .i64 (-1))] [] (by kernel_rfl) trivial (fun act131 f130 => ?_)
          clear f122
          refine At.done rfl ?_
          refine t_n ?_
          refine wp_seq ?_
          refine At.start ?_
          refine At.rd f130 1 [[]] [(7, .int .i64 (0))] [] (by kernel_rfl) trivial (fun act133 f132 => ?_)
          clear f130
          refine At.done rfl ?_
          refine t_n ?_
          refine wp_block ?_
          have f135 := f132.as 6 (.int .i64 (-1)) (.int .i64 (lastOf (gL g.mv k) (0 : Int).toNat)) rfl (congrArg (Value.int .i64) (last_0.symm))
          clear f132
          have f134 := f135.sub (r := [(7, .int .i64 (0)), (6, .int .i64 (lastOf (gL g.mv k) (0 : Int).toNat)), (62, .bool (decide ((gI g.pr (k) : Int) > 7))), (61, .int .i64 (gI g.pr (k))), (60, .pointer (some (ad102.add ((k : Int).toNat * 1)))), (59, .int .i64 (k)), (58, .slice Ag1 g.pr.length cg1), (57, .pointer (some ⟨w.heap.size, 1, none⟩)), (5, .int .i64 (k)), (4, .int .i64 (((g.ow.length : Nat) : Int))), (1, .pointer (some ⟨w.heap.size, 0, none⟩))]) ⟨rfl, rfl, rfl, rfl, rfl, rfl, rfl, rfl, rfl, rfl, rfl, trivial⟩
          refine loop_g (fun (m_ : Nat) a_ w_ => ∃ (q : Int), m_ = (((gL g.mv k).length : Int) - q).toNat ∧ (Frm 101 a_ [(7, .int .i64 (q)), (6, .int .i64 (lastOf (gL g.mv k) q.toNat)), (62, .bool (decide ((gI g.pr (k) : Int) > 7))), (61, .int .i64 (gI g.pr (k))), (60, .pointer (some (ad102.add ((k : Int).toNat * 1)))), (59, .int .i64 (k)), (58, .slice Ag1 g.pr.length cg1), (57, .pointer (some ⟨w.heap.size, 1, none⟩)), (5, .int .i64 (k)), (4, .int .i64 (((g.ow.length : Nat) : Int))), (1, .pointer (some ⟨w.heap.size, 0, none⟩))]) ∧ (Ext w w_) ∧ (RdG w_ 0 w.heap.size Ag0 Ag1 Ag2 cg0 cg1 cg2 g) ∧ (Bx w_ (w.heap.size) [.slice Ag0 g.ow.length cg0, .slice Ag1 g.pr.length cg1, .slice Ag2 g.mv.length cg2] 25) ∧ (0 ≤ q) ∧ (q ≤ ((gL g.mv k).length : Int)) ∧ (rowBad g.ow.length (-1) ((gL g.mv k).take q.toNat) = false)) _ ⟨0, rfl, f134, e86, r87, bx88, (by omega), (by omega), rfl⟩ ?_
          clear f134 f135
          clear r87
          clear bx88
          clear e86
          intro m_ act136 w137 ⟨q, hm139, f140, e138, r141, bx142, i143, i144, i145⟩
          have szw137 := e138.size
          have := bx142.lt
          refine wp_seq ?_
          refine wp_seq ?_
          refine At.start ?_
          obtain ⟨ad146, R149, C150, hA147, _, _, hc148, hC151, r152⟩ := RdII.get r141.mv (k) (by omega) (by omega)
          have hl153 := r152.len
          refine At.rd f140 8 [[], [], [.ld (.slice Ag2 g.mv.length cg2)], [], [.ad ad146], [.ld (.slice R149 ((gL g.mv (k)).length) C150)], [], []] [(80, .bool (decide ((q : Int) < (((gL g.mv (k)).length : Nat) : Int)))), (79, .int .i64 ((((gL g.mv (k)).length : Nat) : Int))), (78, .slice R149 ((gL g.mv (k)).length) C150), (77, .pointer (some (ad146.add ((k : Int).toNat * 1)))), (76, .int .i64 (k)), (75, .slice Ag2 g.mv.length cg2), (74, .pointer (some ⟨w.heap.size, 2, none⟩)), (73, .int .i64 (q))] [(w137.cell? ⟨w.heap.size, 2, none⟩ = some (.slice Ag2 g.mv.length cg2)), (Ag2 = some ad146), (0 ≤ (k : Int)), ((k : Int) < (g.mv.length : Nat)), (w137.cell? (ad146.add ((k : Int).toNat * 1)) = some (.slice R149 ((gL g.mv (k)).length) C150))] (by kernel_rfl) ⟨(bx142.cell (i := 2) rfl), hA147, (by omega), (by omega), hc148, trivial⟩ (fun act156 f155 => ?_)
          clear f140
          refine At.done rfl ?_
          refine t_n ?_
          refine cond_S f155 (t := decide ((q : Int) < (((gL g.mv (k)).length : Nat) : Int))) rfl (fun h157 => ?_) (fun h157 => ?_)
          ·have q158 := of_decide_eq_true h157
           refine wp_skip ?_
           refine t_n ?_
           refine wp_seq ?_
           refine wp_block ?_
           refine wp_seq ?_
           refine At.start ?_
           obtain ⟨ad159, R162, C163, hA160, _, _, hc161, hC164, r165⟩ := RdII.get r141.mv (k) (by omega) (by omega)
           have hl166 := r165.len
           obtain ⟨ad168, hA169, _, _, hc170⟩ := RdI.get r165 (q) (by omega) (by omega)
           refine At.rd f155 9 [[], [.ld (.slice Ag2 g.mv.length cg2)], [], [.ad ad159], [.ld (.slice R162 ((gL g.mv (k)).length) C163)], [], [.ad ad168], [.ld (.int .i64 (gI (gL g.mv (k)) (q)))], []] [(8, .int .i64 (gI (gL g.mv (k)) (q))), (90, .int .i64 (gI (gL g.mv (k)) (q))), (89, .pointer (some (ad168.add ((q : Int).toNat * 1)))), (88, .int .i64 (q)), (87, .slice R162 ((gL g.mv (k)).length) C163), (86, .pointer (some (ad159.add ((k : Int).toNat * 1)))), (85, .int .i64 (k)), (84, .slice Ag2 g.mv.length cg2), (83, .pointer (some ⟨w.heap.size, 2, none⟩))] [(w137.cell? ⟨w.heap.size, 2, none⟩ = some (.slice Ag2 g.mv.length cg2)), (Ag2 = some ad159), (0 ≤ (k : Int)), ((k : Int) < (g.mv.length : Nat)), (w137.cell? (ad159.add ((k : Int).toNat * 1)) = some (.slice R162 ((gL g.mv (k)).length) C163)), (R162 = some ad168), (0 ≤ (q : Int)), ((q : Int) < ((gL g.mv (k)).length : Nat)), (w137.cell? (ad168.add ((q : Int).toNat * 1)) = some (.int .i64 (gI (gL g.mv (k)) (q))))] (by kernel_rfl) ⟨(bx142.cell (i := 2) rfl), hA160, (by omega), (by omega), hc161, hA169, (by omega), (by omega), hc170, trivial⟩ (fun act172 f171 => ?_)
           clear f155
           refine At.done rfl ?_
           refine t_n ?_
           have f173 := f171.sub (r := [(8, .int .i64 (gI (gL g.mv (k)) (q))), (7, .int .i64 (q)), (6, .int .i64 (lastOf (gL g.mv k) q.toNat)), (62, .bool (decide ((gI g.pr (k) : Int) > 7))), (61, .int .i64 (gI g.pr (k))), (60, .pointer (some (ad102.add ((k : Int).toNat * 1)))), (59, .int .i64 (k)), (58, .slice Ag1 g.pr.length cg1), (57, .pointer (some ⟨w.heap.size, 1, none⟩)), (5, .int .i64 (k)), (4, .int .i64 (((g.ow.length : Nat) : Int))), (1, .pointer (some ⟨w.heap.size, 0, none⟩))]) ⟨rfl, rfl, rfl, rfl, rfl, rfl, rfl, rfl, rfl, rfl, rfl, rfl, trivial⟩
           clear f171
           refine wp_seq ?_
           refine wp_seq ?_
           refine At.start ?_
           rcases Bool.eq_false_or_eq_true (decide ((gI (gL g.mv (k)) (q) : Int) ≤ (lastOf (gL g.mv k) q.toNat))) with h174 | h174
           ·have q175 := of_decide_eq_true h174
            refine At.rd f173 8 [[], [], [], [.as_ (.bool true)], [], [], [], []] [(98, .bool true), (97, undef), (96, undef), (95, undef), (94, .bool true), (93, .bool (decide ((gI (gL g.mv (k)) (q) : Int) ≤ (lastOf (gL g.mv k) q.toNat)))), (92, .int .i64 (lastOf (gL g.mv k) q.toNat)), (91, .int .i64 (gI (gL g.mv (k)) (q)))] [((.bool (decide ((gI (gL g.mv (k)) (q) : Int) ≤ (lastOf (gL g.mv k) q.toNat))) : Value) = .bool true)] (by kernel_rfl) ⟨(congrArg Value.bool h174), trivial⟩ (fun act177 f176 => ?_)
            clear f173
            refine At.done rfl ?_
            refine t_n ?_
            refine cond_T f176 rfl ?_
            refine wp_seq ?_
            refine At.start ?_
            refine At.rd f176 3 [[], [], []] [(3, .int .i64 (16)), (2, .int .i64 (k)), (99, .int .i64 (k))] [] (by kernel_rfl) trivial (fun act179 f178 => ?_)
            clear f176
            refine At.done rfl ?_
            refine t_n ?_
            have f180 := f178.sub (r := [(3, .int .i64 (16)), (2, .int .i64 (k))]) ⟨rfl, rfl, trivial⟩
            clear f178
            refine wp_ret ?_
            refine t_r ?_
            refine b_r ?_
            refine t_r ?_
            refine t_r ?_
            refine b_r ?_
            refine b_r ?_
            refine t_r ?_
            refine t_r ?_
            refine b_r ?_
            refine t_r ?_
            refine ret_ f180 [] [.int .i64 (k), .int .i64 (16)] [] (by kernel_rfl) trivial ?_
            exact ⟨ret2_ii (right_at' (by omega) (by omega) (by omega) (by omega) (by assumption) (err_16 (by omega) (by omega) (by omega) (bad_at (q := q) (by omega) (by omega) (by omega))) (by decide)) rfl rfl, e138⟩
           ·have q181 := of_decide_eq_false h174
            refine At.rd f173 8 [[], [], [], [.as_ (.bool false)], [], [], [], []] [(98, .bool (decide ((gI (gL g.mv (k)) (q) : Int) ≥ ((g.ow.length : Nat) : Int)))), (97, .bool (decide ((gI (gL g.mv (k)) (q) : Int) ≥ ((g.ow.length : Nat) : Int)))), (96, .int .i64 (((g.ow.length : Nat) : Int))), (95, .int .i64 (gI (gL g.mv (k)) (q))), (94, .bool false), (93, .bool (decide ((gI (gL g.mv (k)) (q) : Int) ≤ (lastOf (gL g.mv k) q.toNat)))), (92, .int .i64 (lastOf (gL g.mv k) q.toNat)), (91, .int .i64 (gI (gL g.mv (k)) (q)))] [((.bool (decide ((gI (gL g.mv (k)) (q) : Int) ≤ (lastOf (gL g.mv k) q.toNat))) : Value) = .bool false)] (by kernel_rfl) ⟨(congrArg Value.bool h174), trivial⟩ (fun act183 f182 => ?_)
            clear f173
            refine At.done rfl ?_
            refine t_n ?_
            refine cond_S f182 (t := decide ((gI (gL g.mv (k)) (q) : Int) ≥ ((g.ow.length : Nat) : Int))) rfl (fun h184 => ?_) (fun h184 => ?_)
            ·have q185 := of_decide_eq_true h184
             refine wp_seq ?_
             refine At.start ?_
             refine At.rd f182 3 [[], [], []] [(3, .int .i64 (16)), (2, .int .i64 (k)), (99, .int .i64 (k))] [] (by kernel_rfl) trivial (fun act187 f186 => ?_)
             clear f182
             refine At.done rfl ?_
             refine t_n ?_
             have f188 := f186.sub (r := [(3, .int .i64 (16)), (2, .int .i64 (k))]) ⟨rfl, rfl, trivial⟩
             clear f186
             refine wp_ret ?_
             refine t_r ?_
             refine b_r ?_
             refine t_r ?_
             refine t_r ?_
             refine b_r ?_
             refine b_r ?_
             refine t_r ?_
             refine t_r ?_
             refine b_r ?_
             refine t_r ?_
             refine ret_ f188 [] [.int .i64 (k), .int .i64 (16)] [] (by kernel_rfl) trivial ?_
             exact ⟨ret2_ii (right_at' (by omega) (by omega) (by omega) (by omega) (by assumption) (err_16 (by omega) (by omega) (by omega) (bad_at (q := q) (by omega) (by omega) (by omega))) (by decide)) rfl rfl, e138⟩
            ·have q189 := of_decide_eq_false h184
             refine wp_skip ?_
             refine t_n ?_
             refine At.start ?_
             refine At.rd f182 2 [[], []] [(6, .int .i64 (gI (gL g.mv (k)) (q))), (100, .int .i64 (gI (gL g.mv (k)) (q)))] [] (by kernel_rfl) trivial (fun act191 f190 => ?_)
             clear f182
             refine At.done rfl ?_
             refine b_n ?_
             refine t_n ?_
             refine At.start ?_
             refine At.rd f190 3 [[], [.as_ (.int .i64 (q + 1))], []] [(7, .int .i64 (q + 1)), (82, .int .i64 (q + 1)), (81, .int .i64 (q))] [((.int .i64 (IntKind.i64.wrap (q + 1)) : Value) = .int .i64 (q + 1))] (by kernel_rfl) ⟨(w64 (by omega) (by omega)), trivial⟩ (fun act193 f192 => ?_)
             clear f190
             refine At.done rfl ?_
             refine t_n ?_
             have f194 := f192.as 6 (.int .i64 (gI (gL g.mv (k)) (q))) (.int .i64 (lastOf (gL g.mv k) ((q + 1) : Int).toNat)) rfl (congrArg (Value.int .i64) (last_next (by omega) (by omega)))
             clear f192
             have f195 := f194.sub (r := [(7, .int .i64 (q + 1)), (6, .int .i64 (lastOf (gL g.mv k) ((q + 1) : Int).toNat)), (62, .bool (decide ((gI g.pr (k) : Int) > 7))), (61, .int .i64 (gI g.pr (k))), (60, .pointer (some (ad102.add ((k : Int).toNat * 1)))), (59, .int .i64 (k)), (58, .slice Ag1 g.pr.length cg1), (57, .pointer (some ⟨w.heap.size, 1, none⟩)), (5, .int .i64 (k)), (4, .int .i64 (((g.ow.length : Nat) : Int))), (1, .pointer (some ⟨w.heap.size, 0, none⟩))]) ⟨rfl, rfl, rfl, rfl, rfl, rfl, rfl, rfl, rfl, rfl, rfl, trivial⟩
             exact ⟨_, (by omega), (q + 1), rfl, f195, e138, r141, bx142, (by omega), (by omega), (bad_next (by omega) (by omega) (by assumption) (by omega) (by omega))⟩
          ·have q196 := of_decide_eq_false h157
           refine wp_exit ?_
           refine t_e ?_
           refine t_e ?_
           refine b_e ?_
           refine b_n ?_
           refine t_n ?_
           refine At.start ?_
           refine At.rd f155 3 [[], [.as_ (.int .i64 (k + 1))], []] [(5, .int .i64 (k + 1)), (34, .int .i64 (k + 1)), (33, .int .i64 (k))] [((.int .i64 (IntKind.i64.wrap (k + 1)) : Value) = .int .i64 (k + 1))] (by kernel_rfl) ⟨(w64 (by omega) (by omega)), trivial⟩ (fun act198 f197 => ?_)
           clear f155
           refine At.done rfl ?_
           refine t_n ?_
           have f199 := f197.sub (r := [(5, .int .i64 (k + 1)), (4, .int .i64 (((g.ow.length : Nat) : Int))), (1, .pointer (some ⟨w.heap.size, 0, none⟩))]) ⟨rfl, rfl, rfl, trivial⟩
           exact ⟨_, (by omega), (k + 1), rfl, f199, e138, r141, bx142, (by omega), (by omega), (err_next (by omega) hp (err_0 (by omega) (by omega) (by omega) (bad_all (by assumption) (by omega))))⟩
     ·have q200 := of_decide_eq_false h59
      refine wp_exit ?_
      refine t_e ?_
      refine t_e ?_
      refine b_e ?_
      refine t_n ?_
      refine wp_seq ?_
      refine At.start ?_
      refine At.rd f57 2 [[], []] [(3, .int .i64 (0)), (2, .int .i64 (0))] [] (by kernel_rfl) trivial (fun act202 f201 => ?_)
      clear f57
      refine At.done rfl ?_
      refine t_n ?_
      refine wp_ret ?_
      refine ret_ f201 [] [.int .i64 (0), .int .i64 (0)] [] (by kernel_rfl) trivial ?_
      exact ⟨ret2_ii (right_ok' (k := k) (by omega) (by omega) (by omega) (by assumption)) rfl rfl, e50⟩

end Go.Proofs.YtkkophhnliplhaaDoor
