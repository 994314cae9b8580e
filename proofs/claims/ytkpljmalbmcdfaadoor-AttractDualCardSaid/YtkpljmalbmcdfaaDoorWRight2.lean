/-
  A walk of a Go function, printed by a program of this repo. Conditions: what the theorems name.
-/
import Derived.Test.YtkpljmalbmcdfaaDoorPureGame
import Derived.Test.YtkpljmalbmcdfaaDoorFz
set_option linter.unusedVariables false
set_option linter.unusedSimpArgs false
namespace Go.Proofs.YtkpljmalbmcdfaaDoor
open Go Go.RowKit

set_option maxHeartbeats 4000000 in
theorem right_any {Ag0 Ag1 Ag2 : Option Addr} {cg0 cg1 cg2 : Nat} {g : GameL} {w : World} (rg : RdG w 0 w.heap.size Ag0 Ag1 Ag2 cg0 cg1 cg2 g) :
    Calls Tryd.prog 18 #[.agg #[.slice Ag0 g.ow.length cg0, .slice Ag1 g.pr.length cg1, .slice Ag2 g.mv.length cg2]] w fun e w' => e = .returned (.tuple #[.int .i64 (rightP g).1, .int .i64 (rightP g).2]) ∧ Ext w w' := by
 have hlg0 := rg.ow.len
 have hlg1 := rg.pr.len
 have hlg2 := rg.mv.len
 have hkg0 := rg.k0
 have hkg1 := rg.k1
 have hkg2 := rg.k2
 refine enter_ (args := [.agg #[.slice Ag0 g.ow.length cg0, .slice Ag1 g.pr.length cg1, .slice Ag2 g.mv.length cg2]]) Tryd.func18 rfl Tryd.ntmps18 (Nat.le_of_ble_eq_true rfl) (fun act0 f0 => ?_)
 have e0 := Ext.refl w
 refine wp_seq ?_
 refine At.start ?_
 refine At.seq f0 1 [[]] [(1, .pointer (some ⟨w.heap.size, 0, none⟩))] (w.alloc (.cells #[.slice Ag0 g.ow.length cg0, .slice Ag1 g.pr.length cg1, .slice Ag2 g.mv.length cg2] 25 (0, 0))) [] (by kernel_rfl) trivial (fun act4 w1 hw2 f3 => ?_)
 clear f0
 have g5 := gr_alloc hw2
 have szw1 := g5.size
 have e7 := e0.gr g5 no_row
 clear e0
 have r8 := rg.gr g5 (fun _ h => by cases h)
 clear rg
 have bx9 : Bx w1 (w.heap.size) [.slice Ag0 g.ow.length cg0, .slice Ag1 g.pr.length cg1, .slice Ag2 g.mv.length cg2] 25 := Bx.new hw2
 have := bx9.lt
 clear g5 hw2
 refine At.rd f3 2 [[], []] [(3, .int .i64 (0)), (2, .int .i64 (0))] [] (by kernel_rfl) trivial (fun act11 f10 => ?_)
 clear f3
 refine At.done rfl ?_
 refine t_n ?_
 have f12 := f10.sub (r := [(3, .int .i64 (0)), (2, .int .i64 (0)), (1, .pointer (some ⟨w.heap.size, 0, none⟩))]) ⟨rfl, rfl, rfl, trivial⟩
 clear f10
 refine wp_seq ?_
 refine At.start ?_
 refine At.rd f12 4 [[], [.ld (.slice Ag2 g.mv.length cg2)], [], []] [(4, .int .i64 (((g.mv.length : Nat) : Int))), (11, .int .i64 (((g.mv.length : Nat) : Int))), (10, .slice Ag2 g.mv.length cg2), (9, .pointer (some ⟨w.heap.size, 2, none⟩))] [(w1.cell? ⟨w.heap.size, 2, none⟩ = some (.slice Ag2 g.mv.length cg2))] (by kernel_rfl) ⟨(bx9.cell (i := 2) rfl), trivial⟩ (fun act14 f13 => ?_)
 clear f12
 refine At.done rfl ?_
 refine t_n ?_
 have f15 := f13.sub (r := [(4, .int .i64 (((g.mv.length : Nat) : Int))), (3, .int .i64 (0)), (2, .int .i64 (0)), (1, .pointer (some ⟨w.heap.size, 0, none⟩))]) ⟨rfl, rfl, rfl, rfl, trivial⟩
 clear f13
 refine wp_seq ?_
 refine wp_block ?_
 refine wp_seq ?_
 refine At.start ?_
 rcases Bool.eq_false_or_eq_true ((((g.ow.length : Nat) : Int) : Int) != ((g.mv.length : Nat) : Int)) with h16 | h16
 ·have q17 := bne_iff_ne.1 h16
  refine At.rd f15 13 [[], [.ld (.slice Ag0 g.ow.length cg0)], [], [], [], [.as_ (.bool true)], [], [], [], [], [], [], []] [(12, .bool true), (24, .bool true), (23, undef), (22, undef), (21, undef), (20, undef), (19, undef), (18, .bool true), (17, .bool ((((g.ow.length : Nat) : Int) : Int) != ((g.mv.length : Nat) : Int))), (16, .int .i64 (((g.mv.length : Nat) : Int))), (15, .int .i64 (((g.ow.length : Nat) : Int))), (14, .slice Ag0 g.ow.length cg0), (13, .pointer (some ⟨w.heap.size, 0, none⟩))] [(w1.cell? ⟨w.heap.size, 0, none⟩ = some (.slice Ag0 g.ow.length cg0)), ((.bool ((((g.ow.length : Nat) : Int) : Int) != ((g.mv.length : Nat) : Int)) : Value) = .bool true)] (by kernel_rfl) ⟨(bx9.cell (i := 0) rfl), (congrArg Value.bool h16), trivial⟩ (fun act19 f18 => ?_)
  clear f15
  refine At.done rfl ?_
  refine t_n ?_
  have f20 := f18.sub (r := [(12, .bool true), (4, .int .i64 (((g.mv.length : Nat) : Int))), (3, .int .i64 (0)), (2, .int .i64 (0)), (1, .pointer (some ⟨w.heap.size, 0, none⟩))]) ⟨rfl, rfl, rfl, rfl, rfl, trivial⟩
  clear f18
  refine cond_T f20 rfl ?_
  refine wp_seq ?_
  refine At.start ?_
  refine At.rd f20 2 [[], []] [(3, .int .i64 (1)), (2, .int .i64 (0))] [] (by kernel_rfl) trivial (fun act22 f21 => ?_)
  clear f20
  refine At.done rfl ?_
  refine t_n ?_
  have f23 := f21.sub (r := [(3, .int .i64 (1)), (2, .int .i64 (0))]) ⟨rfl, rfl, trivial⟩
  clear f21
  refine wp_ret ?_
  refine b_r ?_
  refine t_r ?_
  refine ret_ f23 [] [.int .i64 (0), .int .i64 (1)] [] (by kernel_rfl) trivial ?_
  exact ⟨ret2_ii (right_lens (by omega)) rfl rfl, e7⟩
 ·have q24 := bne_eq_false_iff_eq.1 h16
  refine At.rd f15 13 [[], [.ld (.slice Ag0 g.ow.length cg0)], [], [], [], [.as_ (.bool false)], [], [.ld (.slice Ag1 g.pr.length cg1)], [], [], [], [], []] [(12, .bool ((((g.pr.length : Nat) : Int) : Int) != ((g.mv.length : Nat) : Int))), (24, .bool ((((g.pr.length : Nat) : Int) : Int) != ((g.mv.length : Nat) : Int))), (23, .bool ((((g.pr.length : Nat) : Int) : Int) != ((g.mv.length : Nat) : Int))), (22, .int .i64 (((g.mv.length : Nat) : Int))), (21, .int .i64 (((g.pr.length : Nat) : Int))), (20, .slice Ag1 g.pr.length cg1), (19, .pointer (some ⟨w.heap.size, 1, none⟩)), (18, .bool false), (17, .bool ((((g.ow.length : Nat) : Int) : Int) != ((g.mv.length : Nat) : Int))), (16, .int .i64 (((g.mv.length : Nat) : Int))), (15, .int .i64 (((g.ow.length : Nat) : Int))), (14, .slice Ag0 g.ow.length cg0), (13, .pointer (some ⟨w.heap.size, 0, none⟩))] [(w1.cell? ⟨w.heap.size, 0, none⟩ = some (.slice Ag0 g.ow.length cg0)), ((.bool ((((g.ow.length : Nat) : Int) : Int) != ((g.mv.length : Nat) : Int)) : Value) = .bool false), (w1.cell? ⟨w.heap.size, 1, none⟩ = some (.slice Ag1 g.pr.length cg1))] (by kernel_rfl) ⟨(bx9.cell (i := 0) rfl), (congrArg Value.bool h16), (bx9.cell (i := 1) rfl), trivial⟩ (fun act26 f25 => ?_)
  clear f15
  refine At.done rfl ?_
  refine t_n ?_
  have f27 := f25.sub (r := [(12, .bool ((((g.pr.length : Nat) : Int) : Int) != ((g.mv.length : Nat) : Int))), (4, .int .i64 (((g.mv.length : Nat) : Int))), (3, .int .i64 (0)), (2, .int .i64 (0)), (1, .pointer (some ⟨w.heap.size, 0, none⟩))]) ⟨rfl, rfl, rfl, rfl, rfl, trivial⟩
  clear f25
  refine cond_S f27 (t := (((g.pr.length : Nat) : Int) : Int) != ((g.mv.length : Nat) : Int)) rfl (fun h28 => ?_) (fun h28 => ?_)
  ·have q29 := bne_iff_ne.1 h28
   refine wp_seq ?_
   refine At.start ?_
   refine At.rd f27 2 [[], []] [(3, .int .i64 (1)), (2, .int .i64 (0))] [] (by kernel_rfl) trivial (fun act31 f30 => ?_)
   clear f27
   refine At.done rfl ?_
   refine t_n ?_
   have f32 := f30.sub (r := [(3, .int .i64 (1)), (2, .int .i64 (0))]) ⟨rfl, rfl, trivial⟩
   clear f30
   refine wp_ret ?_
   refine b_r ?_
   refine t_r ?_
   refine ret_ f32 [] [.int .i64 (0), .int .i64 (1)] [] (by kernel_rfl) trivial ?_
   exact ⟨ret2_ii (right_lens (by omega)) rfl rfl, e7⟩
  ·have q33 := bne_eq_false_iff_eq.1 h28
   refine wp_seq ?_
   refine At.start ?_
   rcases Bool.eq_false_or_eq_true (decide ((((g.mv.length : Nat) : Int) : Int) < 1)) with h34 | h34
   ·have q35 := of_decide_eq_true h34
    refine At.rd f27 7 [[], [], [.as_ (.bool true)], [], [], [], []] [(25, .bool true), (31, .bool true), (30, undef), (29, undef), (28, .bool true), (27, .bool (decide ((((g.mv.length : Nat) : Int) : Int) < 1))), (26, .int .i64 (((g.mv.length : Nat) : Int)))] [((.bool (decide ((((g.mv.length : Nat) : Int) : Int) < 1)) : Value) = .bool true)] (by kernel_rfl) ⟨(congrArg Value.bool h34), trivial⟩ (fun act37 f36 => ?_)
    clear f27
    refine At.done rfl ?_
    refine t_n ?_
    have f38 := f36.sub (r := [(25, .bool true), (4, .int .i64 (((g.mv.length : Nat) : Int))), (3, .int .i64 (0)), (2, .int .i64 (0)), (1, .pointer (some ⟨w.heap.size, 0, none⟩))]) ⟨rfl, rfl, rfl, rfl, rfl, trivial⟩
    clear f36
    refine cond_T f38 rfl ?_
    refine wp_seq ?_
    refine At.start ?_
    refine At.rd f38 2 [[], []] [(3, .int .i64 (10)), (2, .int .i64 (0))] [] (by kernel_rfl) trivial (fun act40 f39 => ?_)
    clear f38
    refine At.done rfl ?_
    refine t_n ?_
    have f41 := f39.sub (r := [(3, .int .i64 (10)), (2, .int .i64 (0))]) ⟨rfl, rfl, trivial⟩
    clear f39
    refine wp_ret ?_
    refine b_r ?_
    refine t_r ?_
    refine ret_ f41 [] [.int .i64 (0), .int .i64 (10)] [] (by kernel_rfl) trivial ?_
    exact ⟨ret2_ii (right_many (by omega) (by omega)) rfl rfl, e7⟩
   ·have q42 := of_decide_eq_false h34
    refine At.rd f27 7 [[], [], [.as_ (.bool false)], [], [], [], []] [(25, .bool (decide ((((g.mv.length : Nat) : Int) : Int) > 200))), (31, .bool (decide ((((g.mv.length : Nat) : Int) : Int) > 200))), (30, .bool (decide ((((g.mv.length : Nat) : Int) : Int) > 200))), (29, .int .i64 (((g.mv.length : Nat) : Int))), (28, .bool false), (27, .bool (decide ((((g.mv.length : Nat) : Int) : Int) < 1))), (26, .int .i64 (((g.mv.length : Nat) : Int)))] [((.bool (decide ((((g.mv.length : Nat) : Int) : Int) < 1)) : Value) = .bool false)] (by kernel_rfl) ⟨(congrArg Value.bool h34), trivial⟩ (fun act44 f43 => ?_)
    clear f27
    refine At.done rfl ?_
    refine t_n ?_
    have f45 := f43.sub (r := [(25, .bool (decide ((((g.mv.length : Nat) : Int) : Int) > 200))), (4, .int .i64 (((g.mv.length : Nat) : Int))), (3, .int .i64 (0)), (2, .int .i64 (0)), (1, .pointer (some ⟨w.heap.size, 0, none⟩))]) ⟨rfl, rfl, rfl, rfl, rfl, trivial⟩
    clear f43
    refine cond_S f45 (t := decide ((((g.mv.length : Nat) : Int) : Int) > 200)) rfl (fun h46 => ?_) (fun h46 => ?_)
    ·have q47 := of_decide_eq_true h46
     refine wp_seq ?_
     refine At.start ?_
     refine At.rd f45 2 [[], []] [(3, .int .i64 (10)), (2, .int .i64 (0))] [] (by kernel_rfl) trivial (fun act49 f48 => ?_)
     clear f45
     refine At.done rfl ?_
     refine t_n ?_
     have f50 := f48.sub (r := [(3, .int .i64 (10)), (2, .int .i64 (0))]) ⟨rfl, rfl, trivial⟩
     clear f48
     refine wp_ret ?_
     refine b_r ?_
     refine t_r ?_
     refine ret_ f50 [] [.int .i64 (0), .int .i64 (10)] [] (by kernel_rfl) trivial ?_
     exact ⟨ret2_ii (right_many (by omega) (by omega)) rfl rfl, e7⟩
    ·have q51 := of_decide_eq_false h46
     refine wp_skip ?_
     refine b_n ?_
     refine t_n ?_
     have f52 := f45.sub (r := [(4, .int .i64 (((g.mv.length : Nat) : Int))), (3, .int .i64 (0)), (2, .int .i64 (0)), (1, .pointer (some ⟨w.heap.size, 0, none⟩))]) ⟨rfl, rfl, rfl, rfl, trivial⟩
     clear f45
     refine wp_seq ?_
     refine wp_seq ?_
     refine At.start ?_
     refine At.rd f52 4 [[], [.ld (.slice Ag2 g.mv.length cg2)], [], []] [(35, .int .i64 (0)), (34, .int .i64 (((g.mv.length : Nat) : Int))), (33, .slice Ag2 g.mv.length cg2), (32, .pointer (some ⟨w.heap.size, 2, none⟩))] [(w1.cell? ⟨w.heap.size, 2, none⟩ = some (.slice Ag2 g.mv.length cg2))] (by kernel_rfl) ⟨(bx9.cell (i := 2) rfl), trivial⟩ (fun act54 f53 => ?_)
     clear f52
     refine At.done rfl ?_
     refine t_n ?_
     have f55 := f53.sub (r := [(35, .int .i64 (0)), (34, .int .i64 (((g.mv.length : Nat) : Int))), (33, .slice Ag2 g.mv.length cg2), (4, .int .i64 (((g.mv.length : Nat) : Int))), (3, .int .i64 (0)), (2, .int .i64 (0)), (1, .pointer (some ⟨w.heap.size, 0, none⟩))]) ⟨rfl, rfl, rfl, rfl, rfl, rfl, rfl, trivial⟩
     clear f53
     refine wp_block ?_
     have f56 := f55.sub (r := [(35, .int .i64 (0)), (34, .int .i64 (((g.mv.length : Nat) : Int))), (33, .slice Ag2 g.mv.length cg2), (4, .int .i64 (((g.mv.length : Nat) : Int))), (1, .pointer (some ⟨w.heap.size, 0, none⟩))]) ⟨rfl, rfl, rfl, rfl, rfl, trivial⟩
     refine loop_g (fun (m_ : Nat) a_ w_ => ∃ (k : Int), m_ = ((g.ow.length : Int) - k).toNat ∧ (Frm 107 a_ [(35, .int .i64 (k)), (34, .int .i64 (((g.mv.length : Nat) : Int))), (33, .slice Ag2 g.mv.length cg2), (4, .int .i64 (((g.mv.length : Nat) : Int))), (1, .pointer (some ⟨w.heap.size, 0, none⟩))]) ∧ (Ext w w_) ∧ (RdG w_ 0 w.heap.size Ag0 Ag1 Ag2 cg0 cg1 cg2 g) ∧ (Bx w_ (w.heap.size) [.slice Ag0 g.ow.length cg0, .slice Ag1 g.pr.length cg1, .slice Ag2 g.mv.length cg2] 25) ∧ (0 ≤ k) ∧ (k ≤ (g.ow.length : Int)) ∧ (∀ j : Nat, (j : Int) < k → g.err j = 0)) _ ⟨0, rfl, f56, e7, r8, bx9, (by omega), (by omega), (fun j hj => by omega)⟩ ?_
     clear f56 f55
     clear r8
     clear bx9
     clear e7
     intro m_ act57 w58 ⟨k, hm60, f61, e59, r62, bx63, i64, i65, hp⟩
     have szw58 := e59.size
     have := bx63.lt
     refine wp_seq ?_
     refine At.start ?_
     refine At.rd f61 1 [[]] [(36, .bool (decide ((k : Int) < ((g.mv.length : Nat) : Int))))] [] (by kernel_rfl) trivial (fun act67 f66 => ?_)
     clear f61
     refine At.done rfl ?_
     refine t_n ?_
     refine wp_seq ?_
     refine cond_S f66 (t := decide ((k : Int) < ((g.mv.length : Nat) : Int))) rfl (fun h68 => ?_) (fun h68 => ?_)
     ·have q69 := of_decide_eq_true h68
      refine wp_skip ?_
      refine t_n ?_
      have f70 := f66.sub (r := [(35, .int .i64 (k)), (34, .int .i64 (((g.mv.length : Nat) : Int))), (33, .slice Ag2 g.mv.length cg2), (4, .int .i64 (((g.mv.length : Nat) : Int))), (1, .pointer (some ⟨w.heap.size, 0, none⟩))]) ⟨rfl, rfl, rfl, rfl, rfl, trivial⟩
      clear f66
      refine wp_seq ?_
      refine wp_block ?_
      refine wp_seq ?_
      refine At.start ?_
      obtain ⟨ad71, R74, C75, hA72, _, _, hc73, hC76, r77⟩ := RdII.get r62.mv (k) (by omega) (by omega)
      have hl78 := r77.len
      refine At.rd f70 5 [[], [.ad ad71], [.ld (.slice R74 ((gL g.mv (k)).length) C75)], [], []] [(6, .slice R74 ((gL g.mv (k)).length) C75), (5, .int .i64 (k)), (39, .slice R74 ((gL g.mv (k)).length) C75), (38, .pointer (some (ad71.add ((k : Int).toNat * 1)))), (37, .int .i64 (k))] [(Ag2 = some ad71), (0 ≤ (k : Int)), ((k : Int) < (g.mv.length : Nat)), (w58.cell? (ad71.add ((k : Int).toNat * 1)) = some (.slice R74 ((gL g.mv (k)).length) C75))] (by kernel_rfl) ⟨hA72, (by omega), (by omega), hc73, trivial⟩ (fun act81 f80 => ?_)
      clear f70
      refine At.done rfl ?_
      refine t_n ?_
      have f82 := f80.sub (r := [(6, .slice R74 ((gL g.mv (k)).length) C75), (5, .int .i64 (k)), (35, .int .i64 (k)), (34, .int .i64 (((g.mv.length : Nat) : Int))), (33, .slice Ag2 g.mv.length cg2), (4, .int .i64 (((g.mv.length : Nat) : Int))), (1, .pointer (some ⟨w.heap.size, 0, none⟩))]) ⟨rfl, rfl, rfl, rfl, rfl, rfl, rfl, trivial⟩
      clear f80
      refine wp_seq ?_
      refine wp_block ?_
      refine wp_seq ?_
      refine At.start ?_
      obtain ⟨ad83, hA84, _, _, hc85⟩ := RdI.get r62.ow (k) (by omega) (by omega)
      rcases Bool.eq_false_or_eq_true (decide ((gI g.ow (k) : Int) < 0)) with h86 | h86
      ·have q87 := of_decide_eq_true h86
       refine At.rd f82 15 [[], [.ld (.slice Ag0 g.ow.length cg0)], [], [.ad ad83], [.ld (.int .i64 (gI g.ow (k)))], [], [.as_ (.bool true)], [], [], [], [], [], [], [], []] [(40, .bool true), (54, .bool true), (53, undef), (52, undef), (51, undef), (50, undef), (49, undef), (48, undef), (47, .bool true), (46, .bool (decide ((gI g.ow (k) : Int) < 0))), (45, .int .i64 (gI g.ow (k))), (44, .pointer (some (ad83.add ((k : Int).toNat * 1)))), (43, .int .i64 (k)), (42, .slice Ag0 g.ow.length cg0), (41, .pointer (some ⟨w.heap.size, 0, none⟩))] [(w58.cell? ⟨w.heap.size, 0, none⟩ = some (.slice Ag0 g.ow.length cg0)), (Ag0 = some ad83), (0 ≤ (k : Int)), ((k : Int) < (g.ow.length : Nat)), (w58.cell? (ad83.add ((k : Int).toNat * 1)) = some (.int .i64 (gI g.ow (k)))), ((.bool (decide ((gI g.ow (k) : Int) < 0)) : Value) = .bool true)] (by kernel_rfl) ⟨(bx63.cell (i := 0) rfl), hA84, (by omega), (by omega), hc85, (congrArg Value.bool h86), trivial⟩ (fun act89 f88 => ?_)
       clear f82
       refine At.done rfl ?_
       refine t_n ?_
       have f90 := f88.sub (r := [(40, .bool true), (6, .slice R74 ((gL g.mv (k)).length) C75), (5, .int .i64 (k)), (35, .int .i64 (k)), (34, .int .i64 (((g.mv.length : Nat) : Int))), (33, .slice Ag2 g.mv.length cg2), (4, .int .i64 (((g.mv.length : Nat) : Int))), (1, .pointer (some ⟨w.heap.size, 0, none⟩))]) ⟨rfl, rfl, rfl, rfl, rfl, rfl, rfl, rfl, trivial⟩
       clear f88
       refine cond_T f90 rfl ?_
       refine wp_seq ?_
       refine At.start ?_
       refine At.rd f90 3 [[], [], []] [(3, .int .i64 (14)), (2, .int .i64 (k)), (55, .int .i64 (k))] [] (by kernel_rfl) trivial (fun act92 f91 => ?_)
       clear f90
       refine At.done rfl ?_
       refine t_n ?_
       have f93 := f91.sub (r := [(3, .int .i64 (14)), (2, .int .i64 (k))]) ⟨rfl, rfl, trivial⟩
       clear f91
       refine wp_ret ?_
       refine b_r ?_
       refine t_r ?_
       refine b_r ?_
       refine t_r ?_
       refine t_r ?_
       refine b_r ?_
       refine t_r ?_
       refine ret_ f93 [] [.int .i64 (k), .int .i64 (14)] [] (by kernel_rfl) trivial ?_
       exact ⟨ret2_ii (right_at' (by omega) (by omega) (by omega) (by omega) (by assumption) (err_14 (by omega) (by omega)) (by decide)) rfl rfl, e59⟩
      ·have q94 := of_decide_eq_false h86
       obtain ⟨ad95, hA96, _, _, hc97⟩ := RdI.get r62.ow (k) (by omega) (by omega)
       refine At.rd f82 15 [[], [.ld (.slice Ag0 g.ow.length cg0)], [], [.ad ad83], [.ld (.int .i64 (gI g.ow (k)))], [], [.as_ (.bool false)], [], [.ld (.slice Ag0 g.ow.length cg0)], [], [.ad ad95], [.ld (.int .i64 (gI g.ow (k)))], [], [], []] [(40, .bool (decide ((gI g.ow (k) : Int) > 1))), (54, .bool (decide ((gI g.ow (k) : Int) > 1))), (53, .bool (decide ((gI g.ow (k) : Int) > 1))), (52, .int .i64 (gI g.ow (k))), (51, .pointer (some (ad95.add ((k : Int).toNat * 1)))), (50, .int .i64 (k)), (49, .slice Ag0 g.ow.length cg0), (48, .pointer (some ⟨w.heap.size, 0, none⟩)), (47, .bool false), (46, .bool (decide ((gI g.ow (k) : Int) < 0))), (45, .int .i64 (gI g.ow (k))), (44, .pointer (some (ad83.add ((k : Int).toNat * 1)))), (43, .int .i64 (k)), (42, .slice Ag0 g.ow.length cg0), (41, .pointer (some ⟨w.heap.size, 0, none⟩))] [(w58.cell? ⟨w.heap.size, 0, none⟩ = some (.slice Ag0 g.ow.length cg0)), (Ag0 = some ad83), (0 ≤ (k : Int)), ((k : Int) < (g.ow.length : Nat)), (w58.cell? (ad83.add ((k : Int).toNat * 1)) = some (.int .i64 (gI g.ow (k)))), ((.bool (decide ((gI g.ow (k) : Int) < 0)) : Value) = .bool false), (w58.cell? ⟨w.heap.size, 0, none⟩ = some (.slice Ag0 g.ow.length cg0)), (Ag0 = some ad95), (0 ≤ (k : Int)), ((k : Int) < (g.ow.length : Nat)), (w58.cell? (ad95.add ((k : Int).toNat * 1)) = some (.int .i64 (gI g.ow (k))))] (by kernel_rfl) ⟨(bx63.cell (i := 0) rfl), hA84, (by omega), (by omega), hc85, (congrArg Value.bool h86), (bx63.cell (i := 0) rfl), hA96, (by omega), (by omega), hc97, trivial⟩ (fun act99 f98 => ?_)
       clear f82
       refine At.done rfl ?_
       refine t_n ?_
       have f100 := f98.sub (r := [(40, .bool (decide ((gI g.ow (k) : Int) > 1))), (53, .bool (decide ((gI g.ow (k) : Int) > 1))), (52, .int .i64 (gI g.ow (k))), (51, .pointer (some (ad95.add ((k : Int).toNat * 1)))), (50, .int .i64 (k)), (49, .slice Ag0 g.ow.length cg0), (48, .pointer (some ⟨w.heap.size, 0, none⟩)), (6, .slice R74 ((gL g.mv (k)).length) C75), (5, .int .i64 (k)), (35, .int .i64 (k)), (34, .int .i64 (((g.mv.length : Nat) : Int))), (33, .slice Ag2 g.mv.length cg2), (4, .int .i64 (((g.mv.length : Nat) : Int))), (1, .pointer (some ⟨w.heap.size, 0, none⟩))]) ⟨rfl, rfl, rfl, rfl, rfl, rfl, rfl, rfl, rfl, rfl, rfl, rfl, rfl, rfl, trivial⟩
       clear f98
       refine cond_S f100 (t := decide ((gI g.ow (k) : Int) > 1)) rfl (fun h101 => ?_) (fun h101 => ?_)
       ·have q102 := of_decide_eq_true h101
        refine wp_seq ?_
        refine At.start ?_
        refine At.rd f100 3 [[], [], []] [(3, .int .i64 (14)), (2, .int .i64 (k)), (55, .int .i64 (k))] [] (by kernel_rfl) trivial (fun act104 f103 => ?_)
        clear f100
        refine At.done rfl ?_
        refine t_n ?_
        have f105 := f103.sub (r := [(3, .int .i64 (14)), (2, .int .i64 (k))]) ⟨rfl, rfl, trivial⟩
        clear f103
        refine wp_ret ?_
        refine b_r ?_
        refine t_r ?_
        refine b_r ?_
        refine t_r ?_
        refine t_r ?_
        refine b_r ?_
        refine t_r ?_
        refine ret_ f105 [] [.int .i64 (k), .int .i64 (14)] [] (by kernel_rfl) trivial ?_
        exact ⟨ret2_ii (right_at' (by omega) (by omega) (by omega) (by omega) (by assumption) (err_14 (by omega) (by omega)) (by decide)) rfl rfl, e59⟩
       ·have q106 := of_decide_eq_false h101
        refine wp_seq ?_
        refine At.start ?_
        obtain ⟨ad107, hA108, _, _, hc109⟩ := RdI.get r62.pr (k) (by omega) (by omega)
        rcases Bool.eq_false_or_eq_true (decide ((gI g.pr (k) : Int) < 0)) with h110 | h110
        ·have q111 := of_decide_eq_true h110
         refine At.rd f100 15 [[], [.ld (.slice Ag1 g.pr.length cg1)], [], [.ad ad107], [.ld (.int .i64 (gI g.pr (k)))], [], [.as_ (.bool true)], [], [], [], [], [], [], [], []] [(56, .bool true), (70, .bool true), (69, undef), (68, undef), (67, undef), (66, undef), (65, undef), (64, undef), (63, .bool true), (62, .bool (decide ((gI g.pr (k) : Int) < 0))), (61, .int .i64 (gI g.pr (k))), (60, .pointer (some (ad107.add ((k : Int).toNat * 1)))), (59, .int .i64 (k)), (58, .slice Ag1 g.pr.length cg1), (57, .pointer (some ⟨w.heap.size, 1, none⟩))] [(w58.cell? ⟨w.heap.size, 1, none⟩ = some (.slice Ag1 g.pr.length cg1)), (Ag1 = some ad107), (0 ≤ (k : Int)), ((k : Int) < (g.pr.length : Nat)), (w58.cell? (ad107.add ((k : Int).toNat * 1)) = some (.int .i64 (gI g.pr (k)))), ((.bool (decide ((gI g.pr (k) : Int) < 0)) : Value) = .bool true)] (by kernel_rfl) ⟨(bx63.cell (i := 1) rfl), hA108, (by omega), (by omega), hc109, (congrArg Value.bool h110), trivial⟩ (fun act113 f112 => ?_)
         clear f100
         refine At.done rfl ?_
         refine t_n ?_
         have f114 := f112.sub (r := [(56, .bool true), (53, .bool (decide ((gI g.ow (k) : Int) > 1))), (52, .int .i64 (gI g.ow (k))), (51, .pointer (some (ad95.add ((k : Int).toNat * 1)))), (50, .int .i64 (k)), (49, .slice Ag0 g.ow.length cg0), (48, .pointer (some ⟨w.heap.size, 0, none⟩)), (6, .slice R74 ((gL g.mv (k)).length) C75), (5, .int .i64 (k)), (35, .int .i64 (k)), (34, .int .i64 (((g.mv.length : Nat) : Int))), (33, .slice Ag2 g.mv.length cg2), (4, .int .i64 (((g.mv.length : Nat) : Int))), (1, .pointer (some ⟨w.heap.size, 0, none⟩))]) ⟨rfl, rfl, rfl, rfl, rfl, rfl, rfl, rfl, rfl, rfl, rfl, rfl, rfl, rfl, trivial⟩
         clear f112
         refine cond_T f114 rfl ?_
         refine wp_seq ?_
         refine At.start ?_
         refine At.rd f114 3 [[], [], []] [(3, .int .i64 (15)), (2, .int .i64 (k)), (71, .int .i64 (k))] [] (by kernel_rfl) trivial (fun act116 f115 => ?_)
         clear f114
         refine At.done rfl ?_
         refine t_n ?_
         have f117 := f115.sub (r := [(3, .int .i64 (15)), (2, .int .i64 (k))]) ⟨rfl, rfl, trivial⟩
         clear f115
         refine wp_ret ?_
         refine b_r ?_
         refine t_r ?_
         refine b_r ?_
         refine t_r ?_
         refine t_r ?_
         refine b_r ?_
         refine t_r ?_
         refine ret_ f117 [] [.int .i64 (k), .int .i64 (15)] [] (by kernel_rfl) trivial ?_
         exact ⟨ret2_ii (right_at' (by omega) (by omega) (by omega) (by omega) (by assumption) (err_15 (by omega) (by omega)) (by decide)) rfl rfl, e59⟩
        ·have q118 := of_decide_eq_false h110
         obtain ⟨ad119, hA120, _, _, hc121⟩ := RdI.get r62.pr (k) (by omega) (by omega)
         refine At.rd f100 15 [[], [.ld (.slice Ag1 g.pr.length cg1)], [], [.ad ad107], [.ld (.int .i64 (gI g.pr (k)))], [], [.as_ (.bool false)], [], [.ld (.slice Ag1 g.pr.length cg1)], [], [.ad ad119], [.ld (.int .i64 (gI g.pr (k)))], [], [], []] [(56, .bool (decide ((gI g.pr (k) : Int) > 7))), (70, .bool (decide ((gI g.pr (k) : Int) > 7))), (69, .bool (decide ((gI g.pr (k) : Int) > 7))), (68, .int .i64 (gI g.pr (k))), (67, .pointer (some (ad119.add ((k : Int).toNat * 1)))), (66, .int .i64 (k)), (65, .slice Ag1 g.pr.length cg1), (64, .pointer (some ⟨w.heap.size, 1, none⟩)), (63, .bool false), (62, .bool (decide ((gI g.pr (k) : Int) < 0))), (61, .int .i64 (gI g.pr (k))), (60, .pointer (some (ad107.add ((k : Int).toNat * 1)))), (59, .int .i64 (k)), (58, .slice Ag1 g.pr.length cg1), (57, .pointer (some ⟨w.heap.size, 1, none⟩))] [(w58.cell? ⟨w.heap.size, 1, none⟩ = some (.slice Ag1 g.pr.length cg1)), (Ag1 = some ad107), (0 ≤ (k : Int)), ((k : Int) < (g.pr.length : Nat)), (w58.cell? (ad107.add ((k : Int).toNat * 1)) = some (.int .i64 (gI g.pr (k)))), ((.bool (decide ((gI g.pr (k) : Int) < 0)) : Value) = .bool false), (w58.cell? ⟨w.heap.size, 1, none⟩ = some (.slice Ag1 g.pr.length cg1)), (Ag1 = some ad119), (0 ≤ (k : Int)), ((k : Int) < (g.pr.length : Nat)), (w58.cell? (ad119.add ((k : Int).toNat * 1)) = some (.int .i64 (gI g.pr (k))))] (by kernel_rfl) ⟨(bx63.cell (i := 1) rfl), hA108, (by omega), (by omega), hc109, (congrArg Value.bool h110), (bx63.cell (i := 1) rfl), hA120, (by omega), (by omega), hc121, trivial⟩ (fun act123 f122 => ?_)
         clear f100
         refine At.done rfl ?_
         refine t_n ?_
         have f124 := f122.sub (r := [(56, .bool (decide ((gI g.pr (k) : Int) > 7))), (69, .bool (decide ((gI g.pr (k) : Int) > 7))), (68, .int .i64 (gI g.pr (k))), (67, .pointer (some (ad119.add ((k : Int).toNat * 1)))), (66, .int .i64 (k)), (65, .slice Ag1 g.pr.length cg1), (64, .pointer (some ⟨w.heap.size, 1, none⟩)), (53, .bool (decide ((gI g.ow (k) : Int) > 1))), (52, .int .i64 (gI g.ow (k))), (51, .pointer (some (ad95.add ((k : Int).toNat * 1)))), (50, .int .i64 (k)), (49, .slice Ag0 g.ow.length cg0), (48, .pointer (some ⟨w.heap.size, 0, none⟩)), (6, .slice R74 ((gL g.mv (k)).length) C75), (5, .int .i64 (k)), (35, .int .i64 (k)), (34, .int .i64 (((g.mv.length : Nat) : Int))), (33, .slice Ag2 g.mv.length cg2), (4, .int .i64 (((g.mv.length : Nat) : Int))), (1, .pointer (some ⟨w.heap.size, 0, none⟩))]) ⟨rfl, rfl, rfl, rfl, rfl, rfl, rfl, rfl, rfl, rfl, rfl, rfl, rfl, rfl, rfl, rfl, rfl, rfl, rfl, rfl, trivial⟩
         clear f122
         refine cond_S f124 (t := decide ((gI g.pr (k) : Int) > 7)) rfl (fun h125 => ?_) (fun h125 => ?_)
         ·have q126 := of_decide_eq_true h125
          refine wp_seq ?_
          refine At.start ?_
          refine At.rd f124 3 [[], [], []] [(3, .int .i64 (15)), (2, .int .i64 (k)), (71, .int .i64 (k))] [] (by kernel_rfl) trivial (fun act128 f127 => ?_)
          clear f124
          refine At.done rfl ?_
          refine t_n ?_
          have f129 := f127.sub (r := [(3, .int .i64 (15)), (2, .int .i64 (k))]) ⟨rfl, rfl, trivial⟩
          clear f127
          refine wp_ret ?_
          refine b_r ?_
          refine t_r ?_
          refine b_r ?_
          refine t_r ?_
          refine t_r ?_
          refine b_r ?_
          refine t_r ?_
          refine ret_ f129 [] [.int .i64 (k), .int .i64 (15)] [] (by kernel_rfl) trivial ?_
          exact ⟨ret2_ii (right_at' (by omega) (by omega) (by omega) (by omega) (by assumption) (err_15 (by omega) (by omega)) (by decide)) rfl rfl, e59⟩
         ·have q130 := of_decide_eq_false h125
          refine wp_seq ?_
          refine At.start ?_
          refine At.rd f124 4 [[], [], [], []] [(72, .bool (((((gL g.mv (k)).length : Nat) : Int) : Int) == 0)), (75, .bool (((((gL g.mv (k)).length : Nat) : Int) : Int) == 0)), (74, .int .i64 ((((gL g.mv (k)).length : Nat) : Int))), (73, .slice R74 ((gL g.mv (k)).length) C75)] [] (by kernel_rfl) trivial (fun act132 f131 => ?_)
          clear f124
          refine At.done rfl ?_
          refine t_n ?_
          have f133 := f131.sub (r := [(72, .bool (((((gL g.mv (k)).length : Nat) : Int) : Int) == 0)), (69, .bool (decide ((gI g.pr (k) : Int) > 7))), (68, .int .i64 (gI g.pr (k))), (67, .pointer (some (ad119.add ((k : Int).toNat * 1)))), (66, .int .i64 (k)), (65, .slice Ag1 g.pr.length cg1), (64, .pointer (some ⟨w.heap.size, 1, none⟩)), (53, .bool (decide ((gI g.ow (k) : Int) > 1))), (52, .int .i64 (gI g.ow (k))), (51, .pointer (some (ad95.add ((k : Int).toNat * 1)))), (50, .int .i64 (k)), (49, .slice Ag0 g.ow.length cg0), (48, .pointer (some ⟨w.heap.size, 0, none⟩)), (6, .slice R74 ((gL g.mv (k)).length) C75), (5, .int .i64 (k)), (35, .int .i64 (k)), (34, .int .i64 (((g.mv.length : Nat) : Int))), (33, .slice Ag2 g.mv.length cg2), (4, .int .i64 (((g.mv.length : Nat) : Int))), (1, .pointer (some ⟨w.heap.size, 0, none⟩))]) ⟨rfl, rfl, rfl, rfl, rfl, rfl, rfl, rfl, rfl, rfl, rfl, rfl, rfl, rfl, rfl, rfl, rfl, rfl, rfl, rfl, trivial⟩
          clear f131
          refine cond_S f133 (t := ((((gL g.mv (k)).length : Nat) : Int) : Int) == 0) rfl (fun h134 => ?_) (fun h134 => ?_)
          ·have q135 := eq_of_beq h134
           refine wp_seq ?_
           refine At.start ?_
           refine At.rd f133 3 [[], [], []] [(3, .int .i64 (17)), (2, .int .i64 (k)), (76, .int .i64 (k))] [] (by kernel_rfl) trivial (fun act137 f136 => ?_)
           clear f133
           refine At.done rfl ?_
           refine t_n ?_
           have f138 := f136.sub (r := [(3, .int .i64 (17)), (2, .int .i64 (k))]) ⟨rfl, rfl, trivial⟩
           clear f136
           refine wp_ret ?_
           refine b_r ?_
           refine t_r ?_
           refine b_r ?_
           refine t_r ?_
           refine t_r ?_
           refine b_r ?_
           refine t_r ?_
           refine ret_ f138 [] [.int .i64 (k), .int .i64 (17)] [] (by kernel_rfl) trivial ?_
           exact ⟨ret2_ii (right_at' (by omega) (by omega) (by omega) (by omega) (by assumption) (err_17 (by omega) (by omega) (by omega)) (by decide)) rfl rfl, e59⟩
          ·have q139 := ne_of_beq_false h134
           refine wp_skip ?_
           refine b_n ?_
           refine t_n ?_
           have f140 := f133.sub (r := [(69, .bool (decide ((gI g.pr (k) : Int) > 7))), (68, .int .i64 (gI g.pr (k))), (67, .pointer (some (ad119.add ((k : Int).toNat * 1)))), (66, .int .i64 (k)), (65, .slice Ag1 g.pr.length cg1), (64, .pointer (some ⟨w.heap.size, 1, none⟩)), (53, .bool (decide ((gI g.ow (k) : Int) > 1))), (52, .int .i64 (gI g.ow (k))), (51, .pointer (some (ad95.add ((k : Int).toNat * 1)))), (50, .int .i64 (k)), (49, .slice Ag0 g.ow.length cg0), (48, .pointer (some ⟨w.heap.size, 0, none⟩)), (6, .slice R74 ((gL g.mv (k)).length) C75), (5, .int .i64 (k)), (35, .int .i64 (k)), (34, .int .i64 (((g.mv.length : Nat) : Int))), (33, .slice Ag2 g.mv.length cg2), (4, .int .i64 (((g.mv.length : Nat) : Int))), (1, .pointer (some ⟨w.heap.size, 0, none⟩))]) ⟨rfl, rfl, rfl, rfl, rfl, rfl, rfl, rfl, rfl, rfl, rfl, rfl, rfl, rfl, rfl, rfl, rfl, rfl, rfl, trivial⟩
           clear f133
           refine wp_seq ?_
           refine At.start ?_
           refine At.rd f140 3 [[], [], []] [(79, .int .i64 (0)), (78, .int .i64 ((((gL g.mv (k)).length : Nat) : Int))), (77, .slice R74 ((gL g.mv (k)).length) C75)] [] (by kernel_rfl) trivial (fun act142 f141 => ?_)
           clear f140
           refine At.done rfl ?_
           refine t_n ?_
           refine wp_block ?_
           have f143 := f141.sub (r := [(79, .int .i64 (0)), (78, .int .i64 ((((gL g.mv (k)).length : Nat) : Int))), (77, .slice R74 ((gL g.mv (k)).length) C75), (69, .bool (decide ((gI g.pr (k) : Int) > 7))), (68, .int .i64 (gI g.pr (k))), (67, .pointer (some (ad119.add ((k : Int).toNat * 1)))), (66, .int .i64 (k)), (65, .slice Ag1 g.pr.length cg1), (64, .pointer (some ⟨w.heap.size, 1, none⟩)), (53, .bool (decide ((gI g.ow (k) : Int) > 1))), (52, .int .i64 (gI g.ow (k))), (51, .pointer (some (ad95.add ((k : Int).toNat * 1)))), (50, .int .i64 (k)), (49, .slice Ag0 g.ow.length cg0), (48, .pointer (some ⟨w.heap.size, 0, none⟩)), (6, .slice R74 ((gL g.mv (k)).length) C75), (5, .int .i64 (k)), (35, .int .i64 (k)), (34, .int .i64 (((g.mv.length : Nat) : Int))), (33, .slice Ag2 g.mv.length cg2), (4, .int .i64 (((g.mv.length : Nat) : Int))), (1, .pointer (some ⟨w.heap.size, 0, none⟩))]) ⟨rfl, rfl, rfl, rfl, rfl, rfl, rfl, rfl, rfl, rfl, rfl, rfl, rfl, rfl, rfl, rfl, rfl, rfl, rfl, rfl, rfl, rfl, trivial⟩
           refine loop_g (fun (m_ : Nat) a_ w_ => ∃ (q : Int), m_ = (((gL g.mv k).length : Int) - q).toNat ∧ (Frm 107 a_ [(79, .int .i64 (q)), (78, .int .i64 ((((gL g.mv (k)).length : Nat) : Int))), (77, .slice R74 ((gL g.mv (k)).length) C75), (69, .bool (decide ((gI g.pr (k) : Int) > 7))), (68, .int .i64 (gI g.pr (k))), (67, .pointer (some (ad119.add ((k : Int).toNat * 1)))), (66, .int .i64 (k)), (65, .slice Ag1 g.pr.length cg1), (64, .pointer (some ⟨w.heap.size, 1, none⟩)), (53, .bool (decide ((gI g.ow (k) : Int) > 1))), (52, .int .i64 (gI g.ow (k))), (51, .pointer (some (ad95.add ((k : Int).toNat * 1)))), (50, .int .i64 (k)), (49, .slice Ag0 g.ow.length cg0), (48, .pointer (some ⟨w.heap.size, 0, none⟩)), (6, .slice R74 ((gL g.mv (k)).length) C75), (5, .int .i64 (k)), (35, .int .i64 (k)), (34, .int .i64 (((g.mv.length : Nat) : Int))), (33, .slice Ag2 g.mv.length cg2), (4, .int .i64 (((g.mv.length : Nat) : Int))), (1, .pointer (some ⟨w.heap.size, 0, none⟩))]) ∧ (Ext w w_) ∧ (RdG w_ 0 w.heap.size Ag0 Ag1 Ag2 cg0 cg1 cg2 g) ∧ (Bx w_ (w.heap.size) [.slice Ag0 g.ow.length cg0, .slice Ag1 g.pr.length cg1, .slice Ag2 g.mv.length cg2] 25) ∧ (RdI w_ 0 w.heap.size R74 (gL g.mv (k))) ∧ (0 ≤ q) ∧ (q ≤ ((gL g.mv k).length : Int)) ∧ (rowBad g.ow.length (-1) ((gL g.mv k).take q.toNat) = false)) _ ⟨0, rfl, f143, e59, r62, bx63, r77, (by omega), (by omega), rfl⟩ ?_
           clear f143 f141
           clear r62
           clear bx63
           clear r77
           clear e59
           intro m_ act144 w145 ⟨q, hm147, f148, e146, r149, bx150, r151, i152, i153, i154⟩
           have szw145 := e146.size
           have := bx150.lt
           refine wp_seq ?_
           refine At.start ?_
           refine At.rd f148 1 [[]] [(80, .bool (decide ((q : Int) < (((gL g.mv (k)).length : Nat) : Int))))] [] (by kernel_rfl) trivial (fun act156 f155 => ?_)
           clear f148
           refine At.done rfl ?_
           refine t_n ?_
           refine wp_seq ?_
           refine cond_S f155 (t := decide ((q : Int) < (((gL g.mv (k)).length : Nat) : Int))) rfl (fun h157 => ?_) (fun h157 => ?_)
           ·have q158 := of_decide_eq_true h157
            refine wp_skip ?_
            refine t_n ?_
            have f159 := f155.sub (r := [(79, .int .i64 (q)), (78, .int .i64 ((((gL g.mv (k)).length : Nat) : Int))), (77, .slice R74 ((gL g.mv (k)).length) C75), (69, .bool (decide ((gI g.pr (k) : Int) > 7))), (68, .int .i64 (gI g.pr (k))), (67, .pointer (some (ad119.add ((k : Int).toNat * 1)))), (66, .int .i64 (k)), (65, .slice Ag1 g.pr.length cg1), (64, .pointer (some ⟨w.heap.size, 1, none⟩)), (53, .bool (decide ((gI g.ow (k) : Int) > 1))), (52, .int .i64 (gI g.ow (k))), (51, .pointer (some (ad95.add ((k : Int).toNat * 1)))), (50, .int .i64 (k)), (49, .slice Ag0 g.ow.length cg0), (48, .pointer (some ⟨w.heap.size, 0, none⟩)), (6, .slice R74 ((gL g.mv (k)).length) C75), (5, .int .i64 (k)), (35, .int .i64 (k)), (34, .int .i64 (((g.mv.length : Nat) : Int))), (33, .slice Ag2 g.mv.length cg2), (4, .int .i64 (((g.mv.length : Nat) : Int))), (1, .pointer (some ⟨w.heap.size, 0, none⟩))]) ⟨rfl, rfl, rfl, rfl, rfl, rfl, rfl, rfl, rfl, rfl, rfl, rfl, rfl, rfl, rfl, rfl, rfl, rfl, rfl, rfl, rfl, rfl, trivial⟩
            clear f155
            refine wp_seq ?_
            refine wp_block ?_
            refine wp_seq ?_
            refine At.start ?_
            obtain ⟨ad160, hA161, _, _, hc162⟩ := RdI.get r151 (q) (by omega) (by omega)
            refine At.rd f159 5 [[], [.ad ad160], [.ld (.int .i64 (gI (gL g.mv (k)) (q)))], [], []] [(8, .int .i64 (gI (gL g.mv (k)) (q))), (7, .int .i64 (q)), (83, .int .i64 (gI (gL g.mv (k)) (q))), (82, .pointer (some (ad160.add ((q : Int).toNat * 1)))), (81, .int .i64 (q))] [(R74 = some ad160), (0 ≤ (q : Int)), ((q : Int) < ((gL g.mv (k)).length : Nat)), (w145.cell? (ad160.add ((q : Int).toNat * 1)) = some (.int .i64 (gI (gL g.mv (k)) (q))))] (by kernel_rfl) ⟨hA161, (by omega), (by omega), hc162, trivial⟩ (fun act164 f163 => ?_)
            clear f159
            refine At.done rfl ?_
            refine t_n ?_
            have f165 := f163.sub (r := [(8, .int .i64 (gI (gL g.mv (k)) (q))), (7, .int .i64 (q)), (79, .int .i64 (q)), (78, .int .i64 ((((gL g.mv (k)).length : Nat) : Int))), (77, .slice R74 ((gL g.mv (k)).length) C75), (69, .bool (decide ((gI g.pr (k) : Int) > 7))), (68, .int .i64 (gI g.pr (k))), (67, .pointer (some (ad119.add ((k : Int).toNat * 1)))), (66, .int .i64 (k)), (65, .slice Ag1 g.pr.length cg1), (64, .pointer (some ⟨w.heap.size, 1, none⟩)), (53, .bool (decide ((gI g.ow (k) : Int) > 1))), (52, .int .i64 (gI g.ow (k))), (51, .pointer (some (ad95.add ((k : Int).toNat * 1)))), (50, .int .i64 (k)), (49, .slice Ag0 g.ow.length cg0), (48, .pointer (some ⟨w.heap.size, 0, none⟩)), (6, .slice R74 ((gL g.mv (k)).length) C75), (5, .int .i64 (k)), (35, .int .i64 (k)), (34, .int .i64 (((g.mv.length : Nat) : Int))), (33, .slice Ag2 g.mv.length cg2), (4, .int .i64 (((g.mv.length : Nat) : Int))), (1, .pointer (some ⟨w.heap.size, 0, none⟩))]) ⟨rfl, rfl, rfl, rfl, rfl, rfl, rfl, rfl, rfl, rfl, rfl, rfl, rfl, rfl, rfl, rfl, rfl, rfl, rfl, rfl, rfl, rfl, rfl, rfl, trivial⟩
            clear f163
            refine wp_seq ?_
            refine At.start ?_
            rcases Bool.eq_false_or_eq_true (decide ((gI (gL g.mv (k)) (q) : Int) < 0)) with h166 | h166
            ·have q167 := of_decide_eq_true h166
             refine At.rd f165 20 [[], [], [.as_ (.bool true)], [], [], [], [], [], [], [], [], [], [], [], [], [], [], [], [], []] [(103, .bool true), (102, undef), (101, undef), (100, undef), (99, undef), (98, undef), (97, undef), (96, undef), (95, undef), (94, undef), (93, undef), (92, undef), (91, .bool true), (90, .bool true), (89, undef), (88, undef), (87, undef), (86, .bool true), (85, .bool (decide ((gI (gL g.mv (k)) (q) : Int) < 0))), (84, .int .i64 (gI (gL g.mv (k)) (q)))] [((.bool (decide ((gI (gL g.mv (k)) (q) : Int) < 0)) : Value) = .bool true)] (by kernel_rfl) ⟨(congrArg Value.bool h166), trivial⟩ (fun act169 f168 => ?_)
             clear f165
             refine At.done rfl ?_
             refine t_n ?_
             have f170 := f168.sub (r := [(103, .bool true), (79, .int .i64 (q)), (78, .int .i64 ((((gL g.mv (k)).length : Nat) : Int))), (77, .slice R74 ((gL g.mv (k)).length) C75), (69, .bool (decide ((gI g.pr (k) : Int) > 7))), (68, .int .i64 (gI g.pr (k))), (67, .pointer (some (ad119.add ((k : Int).toNat * 1)))), (66, .int .i64 (k)), (65, .slice Ag1 g.pr.length cg1), (64, .pointer (some ⟨w.heap.size, 1, none⟩)), (53, .bool (decide ((gI g.ow (k) : Int) > 1))), (52, .int .i64 (gI g.ow (k))), (51, .pointer (some (ad95.add ((k : Int).toNat * 1)))), (50, .int .i64 (k)), (49, .slice Ag0 g.ow.length cg0), (48, .pointer (some ⟨w.heap.size, 0, none⟩)), (6, .slice R74 ((gL g.mv (k)).length) C75), (5, .int .i64 (k)), (35, .int .i64 (k)), (34, .int .i64 (((g.mv.length : Nat) : Int))), (33, .slice Ag2 g.mv.length cg2), (4, .int .i64 (((g.mv.length : Nat) : Int))), (1, .pointer (some ⟨w.heap.size, 0, none⟩))]) ⟨rfl, rfl, rfl, rfl, rfl, rfl, rfl, rfl, rfl, rfl, rfl, rfl, rfl, rfl, rfl, rfl, rfl, rfl, rfl, rfl, rfl, rfl, rfl, trivial⟩
             clear f168
             refine cond_T f170 rfl ?_
             refine wp_seq ?_
             refine At.start ?_
             refine At.rd f170 3 [[], [], []] [(3, .int .i64 (16)), (2, .int .i64 (k)), (104, .int .i64 (k))] [] (by kernel_rfl) trivial (fun act172 f171 => ?_)
             clear f170
             refine At.done rfl ?_
             refine t_n ?_
             have f173 := f171.sub (r := [(3, .int .i64 (16)), (2, .int .i64 (k))]) ⟨rfl, rfl, trivial⟩
             clear f171
             refine wp_ret ?_
             refine b_r ?_
             refine t_r ?_
             refine t_r ?_
             refine b_r ?_
             refine b_r ?_
             refine t_r ?_
             refine t_r ?_
             refine b_r ?_
             refine t_r ?_
             refine ret_ f173 [] [.int .i64 (k), .int .i64 (16)] [] (by kernel_rfl) trivial ?_
             exact ⟨ret2_ii (right_at' (by omega) (by omega) (by omega) (by omega) (by assumption) (err_16 (by omega) (by omega) (by omega) (bad_at2 (q := q) (by omega) (by omega) (by assumption) (by omega))) (by decide)) rfl rfl, e146⟩
            ·have q174 := of_decide_eq_false h166
             rcases Bool.eq_false_or_eq_true (decide ((gI (gL g.mv (k)) (q) : Int) ≥ ((g.mv.length : Nat) : Int))) with h175 | h175
             ·have q176 := of_decide_eq_true h175
              refine At.rd f165 20 [[], [], [.as_ (.bool false)], [], [], [], [], [.as_ (.bool true)], [], [], [], [], [], [], [], [], [], [], [], []] [(103, .bool true), (102, undef), (101, undef), (100, undef), (99, undef), (98, undef), (97, undef), (96, undef), (95, undef), (94, undef), (93, undef), (92, undef), (91, .bool true), (90, .bool (decide ((gI (gL g.mv (k)) (q) : Int) ≥ ((g.mv.length : Nat) : Int)))), (89, .bool (decide ((gI (gL g.mv (k)) (q) : Int) ≥ ((g.mv.length : Nat) : Int)))), (88, .int .i64 (((g.mv.length : Nat) : Int))), (87, .int .i64 (gI (gL g.mv (k)) (q))), (86, .bool false), (85, .bool (decide ((gI (gL g.mv (k)) (q) : Int) < 0))), (84, .int .i64 (gI (gL g.mv (k)) (q)))] [((.bool (decide ((gI (gL g.mv (k)) (q) : Int) < 0)) : Value) = .bool false), ((.bool (decide ((gI (gL g.mv (k)) (q) : Int) ≥ ((g.mv.length : Nat) : Int))) : Value) = .bool true)] (by kernel_rfl) ⟨(congrArg Value.bool h166), (congrArg Value.bool h175), trivial⟩ (fun act178 f177 => ?_)
              clear f165
              refine At.done rfl ?_
              refine t_n ?_
              have f179 := f177.sub (r := [(103, .bool true), (89, .bool (decide ((gI (gL g.mv (k)) (q) : Int) ≥ ((g.mv.length : Nat) : Int)))), (88, .int .i64 (((g.mv.length : Nat) : Int))), (87, .int .i64 (gI (gL g.mv (k)) (q))), (79, .int .i64 (q)), (78, .int .i64 ((((gL g.mv (k)).length : Nat) : Int))), (77, .slice R74 ((gL g.mv (k)).length) C75), (69, .bool (decide ((gI g.pr (k) : Int) > 7))), (68, .int .i64 (gI g.pr (k))), (67, .pointer (some (ad119.add ((k : Int).toNat * 1)))), (66, .int .i64 (k)), (65, .slice Ag1 g.pr.length cg1), (64, .pointer (some ⟨w.heap.size, 1, none⟩)), (53, .bool (decide ((gI g.ow (k) : Int) > 1))), (52, .int .i64 (gI g.ow (k))), (51, .pointer (some (ad95.add ((k : Int).toNat * 1)))), (50, .int .i64 (k)), (49, .slice Ag0 g.ow.length cg0), (48, .pointer (some ⟨w.heap.size, 0, none⟩)), (6, .slice R74 ((gL g.mv (k)).length) C75), (5, .int .i64 (k)), (35, .int .i64 (k)), (34, .int .i64 (((g.mv.length : Nat) : Int))), (33, .slice Ag2 g.mv.length cg2), (4, .int .i64 (((g.mv.length : Nat) : Int))), (1, .pointer (some ⟨w.heap.size, 0, none⟩))]) ⟨rfl, rfl, rfl, rfl, rfl, rfl, rfl, rfl, rfl, rfl, rfl, rfl, rfl, rfl, rfl, rfl, rfl, rfl, rfl, rfl, rfl, rfl, rfl, rfl, rfl, rfl, trivial⟩
              clear f177
              refine cond_T f179 rfl ?_
              refine wp_seq ?_
              refine At.start ?_
              refine At.rd f179 3 [[], [], []] [(3, .int .i64 (16)), (2, .int .i64 (k)), (104, .int .i64 (k))] [] (by kernel_rfl) trivial (fun act181 f180 => ?_)
              clear f179
              refine At.done rfl ?_
              refine t_n ?_
              have f182 := f180.sub (r := [(3, .int .i64 (16)), (2, .int .i64 (k))]) ⟨rfl, rfl, trivial⟩
              clear f180
              refine wp_ret ?_
              refine b_r ?_
              refine t_r ?_
              refine t_r ?_
              refine b_r ?_
              refine b_r ?_
              refine t_r ?_
              refine t_r ?_
              refine b_r ?_
              refine t_r ?_
              refine ret_ f182 [] [.int .i64 (k), .int .i64 (16)] [] (by kernel_rfl) trivial ?_
              exact ⟨ret2_ii (right_at' (by omega) (by omega) (by omega) (by omega) (by assumption) (err_16 (by omega) (by omega) (by omega) (bad_at2 (q := q) (by omega) (by omega) (by assumption) (by omega))) (by decide)) rfl rfl, e146⟩
             ·have q183 := of_decide_eq_false h175
              rcases Bool.eq_false_or_eq_true (decide ((q : Int) > 0)) with h184 | h184
              ·have q185 := of_decide_eq_true h184
               obtain ⟨ad186, hA187, _, _, hc188⟩ := RdI.get r151 (q - 1) (by omega) (by omega)
               refine At.rd f165 20 [[], [], [.as_ (.bool false)], [], [], [], [], [.as_ (.bool false)], [], [], [.as_ (.bool true)], [], [], [], [.as_ (.int .i64 (q - 1))], [.ad ad186], [.ld (.int .i64 (gI (gL g.mv (k)) (q - 1)))], [], [], []] [(103, .bool (decide ((gI (gL g.mv (k)) (q) : Int) ≤ (gI (gL g.mv (k)) (q - 1))))), (102, .bool (decide ((gI (gL g.mv (k)) (q) : Int) ≤ (gI (gL g.mv (k)) (q - 1))))), (101, .bool (decide ((gI (gL g.mv (k)) (q) : Int) ≤ (gI (gL g.mv (k)) (q - 1))))), (100, .int .i64 (gI (gL g.mv (k)) (q - 1))), (99, .pointer (some (ad186.add ((q - 1 : Int).toNat * 1)))), (98, .int .i64 (q - 1)), (97, .int .i64 (q)), (96, .slice R74 ((gL g.mv (k)).length) C75), (95, .int .i64 (gI (gL g.mv (k)) (q))), (94, .bool true), (93, .bool (decide ((q : Int) > 0))), (92, .int .i64 (q)), (91, .bool false), (90, .bool (decide ((gI (gL g.mv (k)) (q) : Int) ≥ ((g.mv.length : Nat) : Int)))), (89, .bool (decide ((gI (gL g.mv (k)) (q) : Int) ≥ ((g.mv.length : Nat) : Int)))), (88, .int .i64 (((g.mv.length : Nat) : Int))), (87, .int .i64 (gI (gL g.mv (k)) (q))), (86, .bool false), (85, .bool (decide ((gI (gL g.mv (k)) (q) : Int) < 0))), (84, .int .i64 (gI (gL g.mv (k)) (q)))] [((.bool (decide ((gI (gL g.mv (k)) (q) : Int) < 0)) : Value) = .bool false), ((.bool (decide ((gI (gL g.mv (k)) (q) : Int) ≥ ((g.mv.length : Nat) : Int))) : Value) = .bool false), ((.bool (decide ((q : Int) > 0)) : Value) = .bool true), ((.int .i64 (IntKind.i64.wrap (q - 1)) : Value) = .int .i64 (q - 1)), (R74 = some ad186), (0 ≤ (q - 1 : Int)), ((q - 1 : Int) < ((gL g.mv (k)).length : Nat)), (w145.cell? (ad186.add ((q - 1 : Int).toNat * 1)) = some (.int .i64 (gI (gL g.mv (k)) (q - 1))))] (by kernel_rfl) ⟨(congrArg Value.bool h166), (congrArg Value.bool h175), (congrArg Value.bool h184), (w64 (by omega) (by omega)), hA187, (by omega), (by omega), hc188, trivial⟩ (fun act190 f189 => ?_)
               clear f165
               refine At.done rfl ?_
               refine t_n ?_
               have f191 := f189.sub (r := [(103, .bool (decide ((gI (gL g.mv (k)) (q) : Int) ≤ (gI (gL g.mv (k)) (q - 1))))), (102, .bool (decide ((gI (gL g.mv (k)) (q) : Int) ≤ (gI (gL g.mv (k)) (q - 1))))), (101, .bool (decide ((gI (gL g.mv (k)) (q) : Int) ≤ (gI (gL g.mv (k)) (q - 1))))), (100, .int .i64 (gI (gL g.mv (k)) (q - 1))), (99, .pointer (some (ad186.add ((q - 1 : Int).toNat * 1)))), (98, .int .i64 (q - 1)), (97, .int .i64 (q)), (96, .slice R74 ((gL g.mv (k)).length) C75), (95, .int .i64 (gI (gL g.mv (k)) (q))), (94, .bool true), (93, .bool (decide ((q : Int) > 0))), (92, .int .i64 (q)), (89, .bool (decide ((gI (gL g.mv (k)) (q) : Int) ≥ ((g.mv.length : Nat) : Int)))), (88, .int .i64 (((g.mv.length : Nat) : Int))), (87, .int .i64 (gI (gL g.mv (k)) (q))), (79, .int .i64 (q)), (78, .int .i64 ((((gL g.mv (k)).length : Nat) : Int))), (77, .slice R74 ((gL g.mv (k)).length) C75), (69, .bool (decide ((gI g.pr (k) : Int) > 7))), (68, .int .i64 (gI g.pr (k))), (67, .pointer (some (ad119.add ((k : Int).toNat * 1)))), (66, .int .i64 (k)), (65, .slice Ag1 g.pr.length cg1), (64, .pointer (some ⟨w.heap.size, 1, none⟩)), (53, .bool (decide ((gI g.ow (k) : Int) > 1))), (52, .int .i64 (gI g.ow (k))), (51, .pointer (some (ad95.add ((k : Int).toNat * 1)))), (50, .int .i64 (k)), (49, .slice Ag0 g.ow.length cg0), (48, .pointer (some ⟨w.heap.size, 0, none⟩)), (6, .slice R74 ((gL g.mv (k)).length) C75), (5, .int .i64 (k)), (35, .int .i64 (k)), (34, .int .i64 (((g.mv.length : Nat) : Int))), (33, .slice Ag2 g.mv.length cg2), (4, .int .i64 (((g.mv.length : Nat) : Int))), (1, .pointer (some ⟨w.heap.size, 0, none⟩))]) ⟨rfl, rfl, rfl, rfl, rfl, rfl, rfl, rfl, rfl, rfl, rfl, rfl, rfl, rfl, rfl, rfl, rfl, rfl, rfl, rfl, rfl, rfl, rfl, rfl, rfl, rfl, rfl, rfl, rfl, rfl, rfl, rfl, rfl, rfl, rfl, rfl, rfl, trivial⟩
               clear f189
               refine cond_S f191 (t := decide ((gI (gL g.mv (k)) (q) : Int) ≤ (gI (gL g.mv (k)) (q - 1)))) rfl (fun h192 => ?_) (fun h192 => ?_)
               ·have q193 := of_decide_eq_true h192
                refine wp_seq ?_
                refine At.start ?_
                refine At.rd f191 3 [[], [], []] [(3, .int .i64 (16)), (2, .int .i64 (k)), (104, .int .i64 (k))] [] (by kernel_rfl) trivial (fun act195 f194 => ?_)
                clear f191
                refine At.done rfl ?_
                refine t_n ?_
                have f196 := f194.sub (r := [(3, .int .i64 (16)), (2, .int .i64 (k))]) ⟨rfl, rfl, trivial⟩
                clear f194
                refine wp_ret ?_
                refine b_r ?_
                refine t_r ?_
                refine t_r ?_
                refine b_r ?_
                refine b_r ?_
                refine t_r ?_
                refine t_r ?_
                refine b_r ?_
                refine t_r ?_
                refine ret_ f196 [] [.int .i64 (k), .int .i64 (16)] [] (by kernel_rfl) trivial ?_
                exact ⟨ret2_ii (right_at' (by omega) (by omega) (by omega) (by omega) (by assumption) (err_16 (by omega) (by omega) (by omega) (bad_at2 (q := q) (by omega) (by omega) (by assumption) (by omega))) (by decide)) rfl rfl, e146⟩
               ·have q197 := of_decide_eq_false h192
                refine wp_skip ?_
                refine b_n ?_
                refine t_n ?_
                have f198 := f191.sub (r := [(102, .bool (decide ((gI (gL g.mv (k)) (q) : Int) ≤ (gI (gL g.mv (k)) (q - 1))))), (101, .bool (decide ((gI (gL g.mv (k)) (q) : Int) ≤ (gI (gL g.mv (k)) (q - 1))))), (100, .int .i64 (gI (gL g.mv (k)) (q - 1))), (99, .pointer (some (ad186.add ((q - 1 : Int).toNat * 1)))), (98, .int .i64 (q - 1)), (97, .int .i64 (q)), (96, .slice R74 ((gL g.mv (k)).length) C75), (95, .int .i64 (gI (gL g.mv (k)) (q))), (94, .bool true), (93, .bool (decide ((q : Int) > 0))), (92, .int .i64 (q)), (89, .bool (decide ((gI (gL g.mv (k)) (q) : Int) ≥ ((g.mv.length : Nat) : Int)))), (88, .int .i64 (((g.mv.length : Nat) : Int))), (87, .int .i64 (gI (gL g.mv (k)) (q))), (79, .int .i64 (q)), (78, .int .i64 ((((gL g.mv (k)).length : Nat) : Int))), (77, .slice R74 ((gL g.mv (k)).length) C75), (69, .bool (decide ((gI g.pr (k) : Int) > 7))), (68, .int .i64 (gI g.pr (k))), (67, .pointer (some (ad119.add ((k : Int).toNat * 1)))), (66, .int .i64 (k)), (65, .slice Ag1 g.pr.length cg1), (64, .pointer (some ⟨w.heap.size, 1, none⟩)), (53, .bool (decide ((gI g.ow (k) : Int) > 1))), (52, .int .i64 (gI g.ow (k))), (51, .pointer (some (ad95.add ((k : Int).toNat * 1)))), (50, .int .i64 (k)), (49, .slice Ag0 g.ow.length cg0), (48, .pointer (some ⟨w.heap.size, 0, none⟩)), (6, .slice R74 ((gL g.mv (k)).length) C75), (5, .int .i64 (k)), (35, .int .i64 (k)), (34, .int .i64 (((g.mv.length : Nat) : Int))), (33, .slice Ag2 g.mv.length cg2), (4, .int .i64 (((g.mv.length : Nat) : Int))), (1, .pointer (some ⟨w.heap.size, 0, none⟩))]) ⟨rfl, rfl, rfl, rfl, rfl, rfl, rfl, rfl, rfl, rfl, rfl, rfl, rfl, rfl, rfl, rfl, rfl, rfl, rfl, rfl, rfl, rfl, rfl, rfl, rfl, rfl, rfl, rfl, rfl, rfl, rfl, rfl, rfl, rfl, rfl, rfl, trivial⟩
                clear f191
                refine At.start ?_
                refine At.rd f198 2 [[.as_ (.int .i64 (q + 1))], []] [(79, .int .i64 (q + 1)), (105, .int .i64 (q + 1))] [((.int .i64 (IntKind.i64.wrap (q + 1)) : Value) = .int .i64 (q + 1))] (by kernel_rfl) ⟨(w64 (by omega) (by omega)), trivial⟩ (fun act200 f199 => ?_)
                clear f198
                refine At.done rfl ?_
                refine t_n ?_
                have f201 := f199.sub (r := [(79, .int .i64 (q + 1)), (78, .int .i64 ((((gL g.mv (k)).length : Nat) : Int))), (77, .slice R74 ((gL g.mv (k)).length) C75), (69, .bool (decide ((gI g.pr (k) : Int) > 7))), (68, .int .i64 (gI g.pr (k))), (67, .pointer (some (ad119.add ((k : Int).toNat * 1)))), (66, .int .i64 (k)), (65, .slice Ag1 g.pr.length cg1), (64, .pointer (some ⟨w.heap.size, 1, none⟩)), (53, .bool (decide ((gI g.ow (k) : Int) > 1))), (52, .int .i64 (gI g.ow (k))), (51, .pointer (some (ad95.add ((k : Int).toNat * 1)))), (50, .int .i64 (k)), (49, .slice Ag0 g.ow.length cg0), (48, .pointer (some ⟨w.heap.size, 0, none⟩)), (6, .slice R74 ((gL g.mv (k)).length) C75), (5, .int .i64 (k)), (35, .int .i64 (k)), (34, .int .i64 (((g.mv.length : Nat) : Int))), (33, .slice Ag2 g.mv.length cg2), (4, .int .i64 (((g.mv.length : Nat) : Int))), (1, .pointer (some ⟨w.heap.size, 0, none⟩))]) ⟨rfl, rfl, rfl, rfl, rfl, rfl, rfl, rfl, rfl, rfl, rfl, rfl, rfl, rfl, rfl, rfl, rfl, rfl, rfl, rfl, rfl, rfl, trivial⟩
                exact ⟨_, (by omega), (q + 1), rfl, f201, e146, r149, bx150, r151, (by omega), (by omega), (bad_next2 (by omega) (by omega) (by assumption) (by omega) (by omega) (by omega))⟩
              ·have q202 := of_decide_eq_false h184
               refine At.rd f165 20 [[], [], [.as_ (.bool false)], [], [], [], [], [.as_ (.bool false)], [], [], [.as_ (.bool false)], [], [], [], [], [], [], [], [], []] [(103, .bool false), (102, .bool false), (101, undef), (100, undef), (99, undef), (98, undef), (97, undef), (96, undef), (95, undef), (94, .bool false), (93, .bool (decide ((q : Int) > 0))), (92, .int .i64 (q)), (91, .bool false), (90, .bool (decide ((gI (gL g.mv (k)) (q) : Int) ≥ ((g.mv.length : Nat) : Int)))), (89, .bool (decide ((gI (gL g.mv (k)) (q) : Int) ≥ ((g.mv.length : Nat) : Int)))), (88, .int .i64 (((g.mv.length : Nat) : Int))), (87, .int .i64 (gI (gL g.mv (k)) (q))), (86, .bool false), (85, .bool (decide ((gI (gL g.mv (k)) (q) : Int) < 0))), (84, .int .i64 (gI (gL g.mv (k)) (q)))] [((.bool (decide ((gI (gL g.mv (k)) (q) : Int) < 0)) : Value) = .bool false), ((.bool (decide ((gI (gL g.mv (k)) (q) : Int) ≥ ((g.mv.length : Nat) : Int))) : Value) = .bool false), ((.bool (decide ((q : Int) > 0)) : Value) = .bool false)] (by kernel_rfl) ⟨(congrArg Value.bool h166), (congrArg Value.bool h175), (congrArg Value.bool h184), trivial⟩ (fun act204 f203 => ?_)
               clear f165
               refine At.done rfl ?_
               refine t_n ?_
               have f205 := f203.sub (r := [(103, .bool false), (102, .bool false), (94, .bool false), (93, .bool (decide ((q : Int) > 0))), (92, .int .i64 (q)), (89, .bool (decide ((gI (gL g.mv (k)) (q) : Int) ≥ ((g.mv.length : Nat) : Int)))), (88, .int .i64 (((g.mv.length : Nat) : Int))), (87, .int .i64 (gI (gL g.mv (k)) (q))), (79, .int .i64 (q)), (78, .int .i64 ((((gL g.mv (k)).length : Nat) : Int))), (77, .slice R74 ((gL g.mv (k)).length) C75), (69, .bool (decide ((gI g.pr (k) : Int) > 7))), (68, .int .i64 (gI g.pr (k))), (67, .pointer (some (ad119.add ((k : Int).toNat * 1)))), (66, .int .i64 (k)), (65, .slice Ag1 g.pr.length cg1), (64, .pointer (some ⟨w.heap.size, 1, none⟩)), (53, .bool (decide ((gI g.ow (k) : Int) > 1))), (52, .int .i64 (gI g.ow (k))), (51, .pointer (some (ad95.add ((k : Int).toNat * 1)))), (50, .int .i64 (k)), (49, .slice Ag0 g.ow.length cg0), (48, .pointer (some ⟨w.heap.size, 0, none⟩)), (6, .slice R74 ((gL g.mv (k)).length) C75), (5, .int .i64 (k)), (35, .int .i64 (k)), (34, .int .i64 (((g.mv.length : Nat) : Int))), (33, .slice Ag2 g.mv.length cg2), (4, .int .i64 (((g.mv.length : Nat) : Int))), (1, .pointer (some ⟨w.heap.size, 0, none⟩))]) ⟨rfl, rfl, rfl, rfl, rfl, rfl, rfl, rfl, rfl, rfl, rfl, rfl, rfl, rfl, rfl, rfl, rfl, rfl, rfl, rfl, rfl, rfl, rfl, rfl, rfl, rfl, rfl, rfl, rfl, rfl, trivial⟩
               clear f203
               refine cond_F f205 rfl ?_
               refine wp_skip ?_
               refine b_n ?_
               refine t_n ?_
               have f206 := f205.sub (r := [(102, .bool false), (94, .bool false), (93, .bool (decide ((q : Int) > 0))), (92, .int .i64 (q)), (89, .bool (decide ((gI (gL g.mv (k)) (q) : Int) ≥ ((g.mv.length : Nat) : Int)))), (88, .int .i64 (((g.mv.length : Nat) : Int))), (87, .int .i64 (gI (gL g.mv (k)) (q))), (79, .int .i64 (q)), (78, .int .i64 ((((gL g.mv (k)).length : Nat) : Int))), (77, .slice R74 ((gL g.mv (k)).length) C75), (69, .bool (decide ((gI g.pr (k) : Int) > 7))), (68, .int .i64 (gI g.pr (k))), (67, .pointer (some (ad119.add ((k : Int).toNat * 1)))), (66, .int .i64 (k)), (65, .slice Ag1 g.pr.length cg1), (64, .pointer (some ⟨w.heap.size, 1, none⟩)), (53, .bool (decide ((gI g.ow (k) : Int) > 1))), (52, .int .i64 (gI g.ow (k))), (51, .pointer (some (ad95.add ((k : Int).toNat * 1)))), (50, .int .i64 (k)), (49, .slice Ag0 g.ow.length cg0), (48, .pointer (some ⟨w.heap.size, 0, none⟩)), (6, .slice R74 ((gL g.mv (k)).length) C75), (5, .int .i64 (k)), (35, .int .i64 (k)), (34, .int .i64 (((g.mv.length : Nat) : Int))), (33, .slice Ag2 g.mv.length cg2), (4, .int .i64 (((g.mv.length : Nat) : Int))), (1, .pointer (some ⟨w.heap.size, 0, none⟩))]) ⟨rfl, rfl, rfl, rfl, rfl, rfl, rfl, rfl, rfl, rfl, rfl, rfl, rfl, rfl, rfl, rfl, rfl, rfl, rfl, rfl, rfl, rfl, rfl, rfl, rfl, rfl, rfl, rfl, rfl, trivial⟩
               clear f205
               refine At.start ?_
               refine At.rd f206 2 [[.as_ (.int .i64 (q + 1))], []] [(79, .int .i64 (q + 1)), (105, .int .i64 (q + 1))] [((.int .i64 (IntKind.i64.wrap (q + 1)) : Value) = .int .i64 (q + 1))] (by kernel_rfl) ⟨(w64 (by omega) (by omega)), trivial⟩ (fun act208 f207 => ?_)
               clear f206
               refine At.done rfl ?_
               refine t_n ?_
               have f209 := f207.sub (r := [(79, .int .i64 (q + 1)), (78, .int .i64 ((((gL g.mv (k)).length : Nat) : Int))), (77, .slice R74 ((gL g.mv (k)).length) C75), (69, .bool (decide ((gI g.pr (k) : Int) > 7))), (68, .int .i64 (gI g.pr (k))), (67, .pointer (some (ad119.add ((k : Int).toNat * 1)))), (66, .int .i64 (k)), (65, .slice Ag1 g.pr.length cg1), (64, .pointer (some ⟨w.heap.size, 1, none⟩)), (53, .bool (decide ((gI g.ow (k) : Int) > 1))), (52, .int .i64 (gI g.ow (k))), (51, .pointer (some (ad95.add ((k : Int).toNat * 1)))), (50, .int .i64 (k)), (49, .slice Ag0 g.ow.length cg0), (48, .pointer (some ⟨w.heap.size, 0, none⟩)), (6, .slice R74 ((gL g.mv (k)).length) C75), (5, .int .i64 (k)), (35, .int .i64 (k)), (34, .int .i64 (((g.mv.length : Nat) : Int))), (33, .slice Ag2 g.mv.length cg2), (4, .int .i64 (((g.mv.length : Nat) : Int))), (1, .pointer (some ⟨w.heap.size, 0, none⟩))]) ⟨rfl, rfl, rfl, rfl, rfl, rfl, rfl, rfl, rfl, rfl, rfl, rfl, rfl, rfl, rfl, rfl, rfl, rfl, rfl, rfl, rfl, rfl, trivial⟩
               exact ⟨_, (by omega), (q + 1), rfl, f209, e146, r149, bx150, r151, (by omega), (by omega), (bad_next2 (by omega) (by omega) (by assumption) (by omega) (by omega) (by omega))⟩
           ·have q210 := of_decide_eq_false h157
            refine wp_exit ?_
            refine t_e ?_
            refine t_e ?_
            refine b_e ?_
            refine b_n ?_
            refine t_n ?_
            have f211 := f155.sub (r := [(69, .bool (decide ((gI g.pr (k) : Int) > 7))), (68, .int .i64 (gI g.pr (k))), (67, .pointer (some (ad119.add ((k : Int).toNat * 1)))), (66, .int .i64 (k)), (65, .slice Ag1 g.pr.length cg1), (64, .pointer (some ⟨w.heap.size, 1, none⟩)), (53, .bool (decide ((gI g.ow (k) : Int) > 1))), (52, .int .i64 (gI g.ow (k))), (51, .pointer (some (ad95.add ((k : Int).toNat * 1)))), (50, .int .i64 (k)), (49, .slice Ag0 g.ow.length cg0), (48, .pointer (some ⟨w.heap.size, 0, none⟩)), (35, .int .i64 (k)), (34, .int .i64 (((g.mv.length : Nat) : Int))), (33, .slice Ag2 g.mv.length cg2), (4, .int .i64 (((g.mv.length : Nat) : Int))), (1, .pointer (some ⟨w.heap.size, 0, none⟩))]) ⟨rfl, rfl, rfl, rfl, rfl, rfl, rfl, rfl, rfl, rfl, rfl, rfl, rfl, rfl, rfl, rfl, rfl, trivial⟩
            clear f155
            refine At.start ?_
            refine At.rd f211 2 [[.as_ (.int .i64 (k + 1))], []] [(35, .int .i64 (k + 1)), (106, .int .i64 (k + 1))] [((.int .i64 (IntKind.i64.wrap (k + 1)) : Value) = .int .i64 (k + 1))] (by kernel_rfl) ⟨(w64 (by omega) (by omega)), trivial⟩ (fun act213 f212 => ?_)
            clear f211
            refine At.done rfl ?_
            refine t_n ?_
            have f214 := f212.sub (r := [(35, .int .i64 (k + 1)), (34, .int .i64 (((g.mv.length : Nat) : Int))), (33, .slice Ag2 g.mv.length cg2), (4, .int .i64 (((g.mv.length : Nat) : Int))), (1, .pointer (some ⟨w.heap.size, 0, none⟩))]) ⟨rfl, rfl, rfl, rfl, rfl, trivial⟩
            exact ⟨_, (by omega), (k + 1), rfl, f214, e146, r149, bx150, (by omega), (by omega), (err_next (by omega) hp (err_0 (by omega) (by omega) (by omega) (bad_all (by assumption) (by omega))))⟩
     ·have q215 := of_decide_eq_false h68
      refine wp_exit ?_
      refine t_e ?_
      refine t_e ?_
      refine b_e ?_
      refine t_n ?_
      have f216 := f66.sub (r := []) trivial
      clear f66
      refine wp_seq ?_
      refine At.start ?_
      refine At.rd f216 2 [[], []] [(3, .int .i64 (0)), (2, .int .i64 (0))] [] (by kernel_rfl) trivial (fun act218 f217 => ?_)
      clear f216
      refine At.done rfl ?_
      refine t_n ?_
      refine wp_ret ?_
      refine ret_ f217 [] [.int .i64 (0), .int .i64 (0)] [] (by kernel_rfl) trivial ?_
      exact ⟨ret2_ii (right_ok' (k := k) (by omega) (by omega) (by omega) (by assumption)) rfl rfl, e59⟩

end Go.Proofs.YtkpljmalbmcdfaaDoor
