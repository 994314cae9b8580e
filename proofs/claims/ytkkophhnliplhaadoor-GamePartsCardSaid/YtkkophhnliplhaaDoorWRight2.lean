/-
  A walk of a Go function, printed by a program of this repo. Conditions: what the theorems name.
-/
import Derived.Test.YtkkophhnliplhaaDoorPureGame
import Derived.Test.YtkkophhnliplhaaDoorFy
set_option linter.unusedVariables false
set_option linter.unusedSimpArgs false
namespace Go.Proofs.YtkkophhnliplhaaDoor
open Go Go.RowKit

set_option maxHeartbeats 4000000 in
theorem right_any {Ag0 Ag1 Ag2 : Option Addr} {cg0 cg1 cg2 : Nat} {g : GameL} {w : World} (rg : RdG w 0 w.heap.size Ag0 Ag1 Ag2 cg0 cg1 cg2 g) :
    Calls Tryd.prog 14 #[.agg #[.slice Ag0 g.ow.length cg0, .slice Ag1 g.pr.length cg1, .slice Ag2 g.mv.length cg2]] w fun e w' => e = .returned (.tuple #[.int .i64 (rightP g).1, .int .i64 (rightP g).2]) ∧ Ext w w' := by
 have hlg0 := rg.ow.len
 have hlg1 := rg.pr.len
 have hlg2 := rg.mv.len
 have hkg0 := rg.k0
 have hkg1 := rg.k1
 have hkg2 := rg.k2
 refine enter_ (args := [.agg #[.slice Ag0 g.ow.length cg0, .slice Ag1 g.pr.length cg1, .slice Ag2 g.mv.length cg2]]) Tryd.func14 rfl Tryd.ntmps14 (Nat.le_of_ble_eq_true rfl) (fun act0 f0 => ?_)
 have e0 : Ext w w := Ext.refl w
 refine wp_seq ?_
 refine At.start ?_
 refine At.seq f0 1 [[]] [(1, .pointer (some ⟨w.heap.size, 0, none⟩))] (w.alloc (.cells #[.slice Ag0 g.ow.length cg0, .slice Ag1 g.pr.length cg1, .slice Ag2 g.mv.length cg2] 25 (0, 0))) [] (by kernel_rfl) trivial (fun act4 w1 hw2 f3 => ?_)
 clear f0
 have g5 := gr_alloc hw2
 have szw1 := g5.size
 replace e0 := e0.gr g5 no_row
 have r8 := rg.gr g5 (fun _ h => by cases h)
 clear rg
 have bx9 : Bx w1 (w.heap.size) [.slice Ag0 g.ow.length cg0, .slice Ag1 g.pr.length cg1, .slice Ag2 g.mv.length cg2] 25 := Bx.new hw2
 have := bx9.lt
 clear g5 hw2
 refine At.rd f3 2 [[], []] [(3, .int .i64 (0)), (2, .int .i64 (0))] [] (by kernel_rfl) trivial (fun act11 f10 => ?_)
 clear f3
 refine At.done rfl ?_
 refine t_n ?_
 refine wp_seq ?_
 refine At.start ?_
 refine At.rd f10 4 [[], [.ld (.slice Ag2 g.mv.length cg2)], [], []] [(4, .int .i64 (((g.mv.length : Nat) : Int))), (11, .int .i64 (((g.mv.length : Nat) : Int))), (10, .slice Ag2 g.mv.length cg2), (9, .pointer (some ⟨w.heap.size, 2, none⟩))] [(w1.cell? ⟨w.heap.size, 2, none⟩ = some (.slice Ag2 g.mv.length cg2))] (by kernel_rfl) ⟨(bx9.cell (i := 2) rfl), trivial⟩ (fun act13 f12 => ?_)
 clear f10
 refine At.done rfl ?_
 refine t_n ?_
 refine wp_seq ?_
 refine wp_block ?_
 refine wp_seq ?_
 refine At.start ?_
 rcases Bool.eq_false_or_eq_true ((((g.ow.length : Nat) : Int) : Int) != ((g.mv.length : Nat) : Int)) with h14 | h14
 ·have q15 := bne_iff_ne.1 h14
  refine At.rd f12 13 [[], [.ld (.slice Ag0 g.ow.length cg0)], [], [], [], [.as_ (.bool true)], [], [], [], [], [], [], []] [(12, .bool true), (24, .bool true), (23, undef), (22, undef), (21, undef), (20, undef), (19, undef), (18, .bool true), (17, .bool ((((g.ow.length : Nat) : Int) : Int) != ((g.mv.length : Nat) : Int))), (16, .int .i64 (((g.mv.length : Nat) : Int))), (15, .int .i64 (((g.ow.length : Nat) : Int))), (14, .slice Ag0 g.ow.length cg0), (13, .pointer (some ⟨w.heap.size, 0, none⟩))] [(w1.cell? ⟨w.heap.size, 0, none⟩ = some (.slice Ag0 g.ow.length cg0)), ((.bool ((((g.ow.length : Nat) : Int) : Int) != ((g.mv.length : Nat) : Int)) : Value) = .bool true)] (by kernel_rfl) ⟨(bx9.cell (i := 0) rfl), (congrArg Value.bool h14), trivial⟩ (fun act17 f16 => ?_)
  clear f12
  refine At.done rfl ?_
  refine t_n ?_
  have f18 := f16.sub (r := [(12, .bool true), (4, .int .i64 (((g.mv.length : Nat) : Int))), (3, .int .i64 (0)), (2, .int .i64 (0)), (1, .pointer (some ⟨w.heap.size, 0, none⟩))]) ⟨rfl, rfl, rfl, rfl, rfl, trivial⟩
  clear f16
  refine cond_T f18 rfl ?_
  refine wp_seq ?_
  refine At.start ?_
  refine At.rd f18 2 [[], []] [(3, .int .i64 (1)), (2, .int .i64 (0))] [] (by kernel_rfl) trivial (fun act20 f19 => ?_)
  clear f18
  refine At.done rfl ?_
  refine t_n ?_
  refine wp_ret ?_
  refine b_r ?_
  refine t_r ?_
  refine ret_ f19 [] [.int .i64 (0), .int .i64 (1)] [] (by kernel_rfl) trivial ?_
  exact ⟨ret2_ii (right_lens (by omega)) rfl rfl, e0⟩
 ·have q21 := bne_eq_false_iff_eq.1 h14
  refine At.rd f12 13 [[], [.ld (.slice Ag0 g.ow.length cg0)], [], [], [], [.as_ (.bool false)], [], [.ld (.slice Ag1 g.pr.length cg1)], [], [], [], [], []] [(12, .bool ((((g.pr.length : Nat) : Int) : Int) != ((g.mv.length : Nat) : Int))), (24, .bool ((((g.pr.length : Nat) : Int) : Int) != ((g.mv.length : Nat) : Int))), (23, .bool ((((g.pr.length : Nat) : Int) : Int) != ((g.mv.length : Nat) : Int))), (22, .int .i64 (((g.mv.length : Nat) : Int))), (21, .int .i64 (((g.pr.length : Nat) : Int))), (20, .slice Ag1 g.pr.length cg1), (19, .pointer (some ⟨w.heap.size, 1, none⟩)), (18, .bool false), (17, .bool ((((g.ow.length : Nat) : Int) : Int) != ((g.mv.length : Nat) : Int))), (16, .int .i64 (((g.mv.length : Nat) : Int))), (15, .int .i64 (((g.ow.length : Nat) : Int))), (14, .slice Ag0 g.ow.length cg0), (13, .pointer (some ⟨w.heap.size, 0, none⟩))] [(w1.cell? ⟨w.heap.size, 0, none⟩ = some (.slice Ag0 g.ow.length cg0)), ((.bool ((((g.ow.length : Nat) : Int) : Int) != ((g.mv.length : Nat) : Int)) : Value) = .bool false), (w1.cell? ⟨w.heap.size, 1, none⟩ = some (.slice Ag1 g.pr.length cg1))] (by kernel_rfl) ⟨(bx9.cell (i := 0) rfl), (congrArg Value.bool h14), (bx9.cell (i := 1) rfl), trivial⟩ (fun act23 f22 => ?_)
  clear f12
  refine At.done rfl ?_
  refine t_n ?_
  have f24 := f22.sub (r := [(12, .bool ((((g.pr.length : Nat) : Int) : Int) != ((g.mv.length : Nat) : Int))), (4, .int .i64 (((g.mv.length : Nat) : Int))), (3, .int .i64 (0)), (2, .int .i64 (0)), (1, .pointer (some ⟨w.heap.size, 0, none⟩))]) ⟨rfl, rfl, rfl, rfl, rfl, trivial⟩
  clear f22
  refine cond_S f24 (t := (((g.pr.length : Nat) : Int) : Int) != ((g.mv.length : Nat) : Int)) rfl (fun h25 => ?_) (fun h25 => ?_)
  ·have q26 := bne_iff_ne.1 h25
   refine wp_seq ?_
   refine At.start ?_
   refine At.rd f24 2 [[], []] [(3, .int .i64 (1)), (2, .int .i64 (0))] [] (by kernel_rfl) trivial (fun act28 f27 => ?_)
   clear f24
   refine At.done rfl ?_
   refine t_n ?_
   refine wp_ret ?_
   refine b_r ?_
   refine t_r ?_
   refine ret_ f27 [] [.int .i64 (0), .int .i64 (1)] [] (by kernel_rfl) trivial ?_
   exact ⟨ret2_ii (right_lens (by omega)) rfl rfl, e0⟩
  ·have q29 := bne_eq_false_iff_eq.1 h25
   refine wp_seq ?_
   refine At.start ?_
   rcases Bool.eq_false_or_eq_true (decide ((((g.mv.length : Nat) : Int) : Int) < 1)) with h30 | h30
   ·have q31 := of_decide_eq_true h30
    refine At.rd f24 7 [[], [], [.as_ (.bool true)], [], [], [], []] [(25, .bool true), (31, .bool true), (30, undef), (29, undef), (28, .bool true), (27, .bool (decide ((((g.mv.length : Nat) : Int) : Int) < 1))), (26, .int .i64 (((g.mv.length : Nat) : Int)))] [((.bool (decide ((((g.mv.length : Nat) : Int) : Int) < 1)) : Value) = .bool true)] (by kernel_rfl) ⟨(congrArg Value.bool h30), trivial⟩ (fun act33 f32 => ?_)
    clear f24
    refine At.done rfl ?_
    refine t_n ?_
    refine cond_T f32 rfl ?_
    refine wp_seq ?_
    refine At.start ?_
    refine At.rd f32 2 [[], []] [(3, .int .i64 (10)), (2, .int .i64 (0))] [] (by kernel_rfl) trivial (fun act35 f34 => ?_)
    clear f32
    refine At.done rfl ?_
    refine t_n ?_
    refine wp_ret ?_
    refine b_r ?_
    refine t_r ?_
    refine ret_ f34 [] [.int .i64 (0), .int .i64 (10)] [] (by kernel_rfl) trivial ?_
    exact ⟨ret2_ii (right_many (by omega) (by omega)) rfl rfl, e0⟩
   ·have q36 := of_decide_eq_false h30
    refine At.rd f24 7 [[], [], [.as_ (.bool false)], [], [], [], []] [(25, .bool (decide ((((g.mv.length : Nat) : Int) : Int) > 200))), (31, .bool (decide ((((g.mv.length : Nat) : Int) : Int) > 200))), (30, .bool (decide ((((g.mv.length : Nat) : Int) : Int) > 200))), (29, .int .i64 (((g.mv.length : Nat) : Int))), (28, .bool false), (27, .bool (decide ((((g.mv.length : Nat) : Int) : Int) < 1))), (26, .int .i64 (((g.mv.length : Nat) : Int)))] [((.bool (decide ((((g.mv.length : Nat) : Int) : Int) < 1)) : Value) = .bool false)] (by kernel_rfl) ⟨(congrArg Value.bool h30), trivial⟩ (fun act38 f37 => ?_)
    clear f24
    refine At.done rfl ?_
    refine t_n ?_
    refine cond_S f37 (t := decide ((((g.mv.length : Nat) : Int) : Int) > 200)) rfl (fun h39 => ?_) (fun h39 => ?_)
    ·have q40 := of_decide_eq_true h39
     refine wp_seq ?_
     refine At.start ?_
     refine At.rd f37 2 [[], []] [(3, .int .i64 (10)), (2, .int .i64 (0))] [] (by kernel_rfl) trivial (fun act42 f41 => ?_)
     clear f37
     refine At.done rfl ?_
     refine t_n ?_
     refine wp_ret ?_
     refine b_r ?_
     refine t_r ?_
     refine ret_ f41 [] [.int .i64 (0), .int .i64 (10)] [] (by kernel_rfl) trivial ?_
     exact ⟨ret2_ii (right_many (by omega) (by omega)) rfl rfl, e0⟩
    ·have q43 := of_decide_eq_false h39
     refine wp_skip ?_
     refine b_n ?_
     refine t_n ?_
     refine wp_seq ?_
     refine wp_seq ?_
     refine At.start ?_
     refine At.rd f37 4 [[], [.ld (.slice Ag2 g.mv.length cg2)], [], []] [(35, .int .i64 (0)), (34, .int .i64 (((g.mv.length : Nat) : Int))), (33, .slice Ag2 g.mv.length cg2), (32, .pointer (some ⟨w.heap.size, 2, none⟩))] [(w1.cell? ⟨w.heap.size, 2, none⟩ = some (.slice Ag2 g.mv.length cg2))] (by kernel_rfl) ⟨(bx9.cell (i := 2) rfl), trivial⟩ (fun act45 f44 => ?_)
     clear f37
     refine At.done rfl ?_
     refine t_n ?_
     refine wp_block ?_
     have f46 := f44.sub (r := [(35, .int .i64 (0)), (34, .int .i64 (((g.mv.length : Nat) : Int))), (33, .slice Ag2 g.mv.length cg2), (4, .int .i64 (((g.mv.length : Nat) : Int))), (1, .pointer (some ⟨w.heap.size, 0, none⟩))]) ⟨rfl, rfl, rfl, rfl, rfl, trivial⟩
     refine loop_g (fun (m_ : Nat) a_ w_ => ∃ (k : Int), m_ = ((g.ow.length : Int) - k).toNat ∧ (Frm 107 a_ [(35, .int .i64 (k)), (34, .int .i64 (((g.mv.length : Nat) : Int))), (33, .slice Ag2 g.mv.length cg2), (4, .int .i64 (((g.mv.length : Nat) : Int))), (1, .pointer (some ⟨w.heap.size, 0, none⟩))]) ∧ (Ext w w_) ∧ (RdG w_ 0 w.heap.size Ag0 Ag1 Ag2 cg0 cg1 cg2 g) ∧ (Bx w_ (w.heap.size) [.slice Ag0 g.ow.length cg0, .slice Ag1 g.pr.length cg1, .slice Ag2 g.mv.length cg2] 25) ∧ (0 ≤ k) ∧ (k ≤ (g.ow.length : Int)) ∧ (∀ j : Nat, (j : Int) < k → g.err j = 0)) _ ⟨0, rfl, f46, e0, r8, bx9, (by omega), (by omega), (fun j hj => by omega)⟩ ?_
     clear f46 f44
     clear r8
     clear bx9
     clear e0
     intro m_ act47 w48 ⟨k, hm50, f51, e49, r52, bx53, i54, i55, hp⟩
     have szw48 := e49.size
     have := bx53.lt
     refine wp_seq ?_
     refine At.start ?_
     refine At.rd f51 1 [[]] [(36, .bool (decide ((k : Int) < ((g.mv.length : Nat) : Int))))] [] (by kernel_rfl) trivial (fun act57 f56 => ?_)
     clear f51
     refine At.done rfl ?_
     refine t_n ?_
     refine wp_seq ?_
     refine cond_S f56 (t := decide ((k : Int) < ((g.mv.length : Nat) : Int))) rfl (fun h58 => ?_) (fun h58 => ?_)
     ·have q59 := of_decide_eq_true h58
      refine wp_skip ?_
      refine t_n ?_
      refine wp_seq ?_
      refine wp_block ?_
      refine wp_seq ?_
      refine At.start ?_
      obtain ⟨ad60, R63, C64, hA61, _, _, hc62, hC65, r66⟩ := RdII.get r52.mv (k) (by omega) (by omega)
      have hl67 := r66.len
      refine At.rd f56 5 [[], [.ad ad60], [.ld (.slice R63 ((gL g.mv (k)).length) C64)], [], []] [(6, .slice R63 ((gL g.mv (k)).length) C64), (5, .int .i64 (k)), (39, .slice R63 ((gL g.mv (k)).length) C64), (38, .pointer (some (ad60.add ((k : Int).toNat * 1)))), (37, .int .i64 (k))] [(Ag2 = some ad60), (0 ≤ (k : Int)), ((k : Int) < (g.mv.length : Nat)), (w48.cell? (ad60.add ((k : Int).toNat * 1)) = some (.slice R63 ((gL g.mv (k)).length) C64))] (by kernel_rfl) ⟨hA61, (by omega), (by omega), hc62, trivial⟩ (fun act70 f69 => ?_)
      clear f56
      refine At.done rfl ?_
      refine t_n ?_
      refine wp_seq ?_
      refine wp_block ?_
      refine wp_seq ?_
      refine At.start ?_
      obtain ⟨ad71, hA72, _, _, hc73⟩ := RdI.get r52.ow (k) (by omega) (by omega)
      rcases Bool.eq_false_or_eq_true (decide ((gI g.ow (k) : Int) < 0)) with h74 | h74
      ·have q75 := of_decide_eq_true h74
       refine At.rd f69 15 [[], [.ld (.slice Ag0 g.ow.length cg0)], [], [.ad ad71], [.ld (.int .i64 (gI g.ow (k)))], [], [.as_ (.bool true)], [], [], [], [], [], [], [], []] [(40, .bool true), (54, .bool true), (53, undef), (52, undef), (51, undef), (50, undef), (49, undef), (48, undef), (47, .bool true), (46, .bool (decide ((gI g.ow (k) : Int) < 0))), (45, .int .i64 (gI g.ow (k))), (44, .pointer (some (ad71.add ((k : Int).toNat * 1)))), (43, .int .i64 (k)), (42, .slice Ag0 g.ow.length cg0), (41, .pointer (some ⟨w.heap.size, 0, none⟩))] [(w48.cell? ⟨w.heap.size, 0, none⟩ = some (.slice Ag0 g.ow.length cg0)), (Ag0 = some ad71), (0 ≤ (k : Int)), ((k : Int) < (g.ow.length : Nat)), (w48.cell? (ad71.add ((k : Int).toNat * 1)) = some (.int .i64 (gI g.ow (k)))), ((.bool (decide ((gI g.ow (k) : Int) < 0)) : Value) = .bool true)] (by kernel_rfl) ⟨(bx53.cell (i := 0) rfl), hA72, (by omega), (by omega), hc73, (congrArg Value.bool h74), trivial⟩ (fun act77 f76 => ?_)
       clear f69
       refine At.done rfl ?_
       refine t_n ?_
       have f78 := f76.sub (r := [(40, .bool true), (6, .slice R63 ((gL g.mv (k)).length) C64), (5, .int .i64 (k)), (35, .int .i64 (k)), (34, .int .i64 (((g.mv.length : Nat) : Int))), (33, .slice Ag2 g.mv.length cg2), (4, .int .i64 (((g.mv.length : Nat) : Int))), (1, .pointer (some ⟨w.heap.size, 0, none⟩))]) ⟨rfl, rfl, rfl, rfl, rfl, rfl, rfl, rfl, trivial⟩
       clear f76
       refine cond_T f78 rfl ?_
       refine wp_seq ?_
       refine At.start ?_
       refine At.rd f78 3 [[], [], []] [(3, .int .i64 (14)), (2, .int .i64 (k)), (55, .int .i64 (k))] [] (by kernel_rfl) trivial (fun act80 f79 => ?_)
       clear f78
       refine At.done rfl ?_
       refine t_n ?_
       refine wp_ret ?_
       refine b_r ?_
       refine t_r ?_
       refine b_r ?_
       refine t_r ?_
       refine t_r ?_
       refine b_r ?_
       refine t_r ?_
       refine ret_ f79 [] [.int .i64 (k), .int .i64 (14)] [] (by kernel_rfl) trivial ?_
       exact ⟨ret2_ii (right_at' (by omega) (by omega) (by omega) (by omega) (by assumption) (err_14 (by omega) (by omega)) (by decide)) rfl rfl, e49⟩
      ·have q81 := of_decide_eq_false h74
       obtain ⟨ad82, hA83, _, _, hc84⟩ := RdI.get r52.ow (k) (by omega) (by omega)
       refine At.rd f69 15 [[], [.ld (.slice Ag0 g.ow.length cg0)], [], [.ad ad71], [.ld (.int .i64 (gI g.ow (k)))], [], [.as_ (.bool false)], [], [.ld (.slice Ag0 g.ow.length cg0)], [], [.ad ad82], [.ld (.int .i64 (gI g.ow (k)))], [], [], []] [(40, .bool (decide ((gI g.ow (k) : Int) > 1))), (54, .bool (decide ((gI g.ow (k) : Int) > 1))), (53, .bool (decide ((gI g.ow (k) : Int) > 1))), (52, .int .i64 (gI g.ow (k))), (51, .pointer (some (ad82.add ((k : Int).toNat * 1)))), (50, .int .i64 (k)), (49, .slice Ag0 g.ow.length cg0), (48, .pointer (some ⟨w.heap.size, 0, none⟩)), (47, .bool false), (46, .bool (decide ((gI g.ow (k) : Int) < 0))), (45, .int .i64 (gI g.ow (k))), (44, .pointer (some (ad71.add ((k : Int).toNat * 1)))), (43, .int .i64 (k)), (42, .slice Ag0 g.ow.length cg0), (41, .pointer (some ⟨w.heap.size, 0, none⟩))] [(w48.cell? ⟨w.heap.size, 0, none⟩ = some (.slice Ag0 g.ow.length cg0)), (Ag0 = some ad71), (0 ≤ (k : Int)), ((k : Int) < (g.ow.length : Nat)), (w48.cell? (ad71.add ((k : Int).toNat * 1)) = some (.int .i64 (gI g.ow (k)))), ((.bool (decide ((gI g.ow (k) : Int) < 0)) : Value) = .bool false), (w48.cell? ⟨w.heap.size, 0, none⟩ = some (.slice Ag0 g.ow.length cg0)), (Ag0 = some ad82), (0 ≤ (k : Int)), ((k : Int) < (g.ow.length : Nat)), (w48.cell? (ad82.add ((k : Int).toNat * 1)) = some (.int .i64 (gI g.ow (k))))] (by kernel_rfl) ⟨(bx53.cell (i := 0) rfl), hA72, (by omega), (by omega), hc73, (congrArg Value.bool h74), (bx53.cell (i := 0) rfl), hA83, (by omega), (by omega), hc84, trivial⟩ (fun act86 f85 => ?_)
       clear f69
       refine At.done rfl ?_
       refine t_n ?_
       refine cond_S f85 (t := decide ((gI g.ow (k) : Int) > 1)) rfl (fun h87 => ?_) (fun h87 => ?_)
       ·have q88 := of_decide_eq_true h87
        refine wp_seq ?_
        refine At.start ?_
        refine At.rd f85 3 [[], [], []] [(3, .int .i64 (14)), (2, .int .i64 (k)), (55, .int .i64 (k))] [] (by kernel_rfl) trivial (fun act90 f89 => ?_)
        clear f85
        refine At.done rfl ?_
        refine t_n ?_
        have f91 := f89.sub (r := [(3, .int .i64 (14)), (2, .int .i64 (k))]) ⟨rfl, rfl, trivial⟩
        clear f89
        refine wp_ret ?_
        refine b_r ?_
        refine t_r ?_
        refine b_r ?_
        refine t_r ?_
        refine t_r ?_
        refine b_r ?_
        refine t_r ?_
        refine ret_ f91 [] [.int .i64 (k), .int .i64 (14)] [] (by kernel_rfl) trivial ?_
        exact ⟨ret2_ii (right_at' (by omega) (by omega) (by omega) (by omega) (by assumption) (err_14 (by omega) (by omega)) (by decide)) rfl rfl, e49⟩
       ·have q92 := of_decide_eq_false h87
        refine wp_seq ?_
        refine At.start ?_
        obtain ⟨ad93, hA94, _, _, hc95⟩ := RdI.get r52.pr (k) (by omega) (by omega)
        rcases Bool.eq_false_or_eq_true (decide ((gI g.pr (k) : Int) < 0)) with h96 | h96
        ·have q97 := of_decide_eq_true h96
         refine At.rd f85 15 [[], [.ld (.slice Ag1 g.pr.length cg1)], [], [.ad ad93], [.ld (.int .i64 (gI g.pr (k)))], [], [.as_ (.bool true)], [], [], [], [], [], [], [], []] [(56, .bool true), (70, .bool true), (69, undef), (68, undef), (67, undef), (66, undef), (65, undef), (64, undef), (63, .bool true), (62, .bool (decide ((gI g.pr (k) : Int) < 0))), (61, .int .i64 (gI g.pr (k))), (60, .pointer (some (ad93.add ((k : Int).toNat * 1)))), (59, .int .i64 (k)), (58, .slice Ag1 g.pr.length cg1), (57, .pointer (some ⟨w.heap.size, 1, none⟩))] [(w48.cell? ⟨w.heap.size, 1, none⟩ = some (.slice Ag1 g.pr.length cg1)), (Ag1 = some ad93), (0 ≤ (k : Int)), ((k : Int) < (g.pr.length : Nat)), (w48.cell? (ad93.add ((k : Int).toNat * 1)) = some (.int .i64 (gI g.pr (k)))), ((.bool (decide ((gI g.pr (k) : Int) < 0)) : Value) = .bool true)] (by kernel_rfl) ⟨(bx53.cell (i := 1) rfl), hA94, (by omega), (by omega), hc95, (congrArg Value.bool h96), trivial⟩ (fun act99 f98 => ?_)
         clear f85
         refine At.done rfl ?_
         refine t_n ?_
         have f100 := f98.sub (r := [(56, .bool true), (53, .bool (decide ((gI g.ow (k) : Int) > 1))), (52, .int .i64 (gI g.ow (k))), (51, .pointer (some (ad82.add ((k : Int).toNat * 1)))), (50, .int .i64 (k)), (49, .slice Ag0 g.ow.length cg0), (48, .pointer (some ⟨w.heap.size, 0, none⟩)), (6, .slice R63 ((gL g.mv (k)).length) C64), (5, .int .i64 (k)), (35, .int .i64 (k)), (34, .int .i64 (((g.mv.length : Nat) : Int))), (33, .slice Ag2 g.mv.length cg2), (4, .int .i64 (((g.mv.length : Nat) : Int))), (1, .pointer (some ⟨w.heap.size, 0, none⟩))]) ⟨rfl, rfl, rfl, rfl, rfl, rfl, rfl, rfl, rfl, rfl, rfl, rfl, rfl, rfl, trivial⟩
         clear f98
         refine cond_T f100 rfl ?_
         refine wp_seq ?_
         refine At.start ?_
         refine At.rd f100 3 [[], [], []] [(3, .int .i64 (15)), (2, .int .i64 (k)), (71, .int .i64 (k))] [] (by kernel_rfl) trivial (fun act102 f101 => ?_)
         clear f100
         refine At.done rfl ?_
         refine t_n ?_
         refine wp_ret ?_
         refine b_r ?_
         refine t_r ?_
         refine b_r ?_
         refine t_r ?_
         refine t_r ?_
         refine b_r ?_
         refine t_r ?_
         refine ret_ f101 [] [.int .i64 (k), .int .i64 (15)] [] (by kernel_rfl) trivial ?_
         exact ⟨ret2_ii (right_at' (by omega) (by omega) (by omega) (by omega) (by assumption) (err_15 (by omega) (by omega)) (by decide)) rfl rfl, e49⟩
        ·have q103 := of_decide_eq_false h96
         obtain ⟨ad104, hA105, _, _, hc106⟩ := RdI.get r52.pr (k) (by omega) (by omega)
         refine At.rd f85 15 [[], [.ld (.slice Ag1 g.pr.length cg1)], [], [.ad ad93], [.ld (.int .i64 (gI g.pr (k)))], [], [.as_ (.bool false)], [], [.ld (.slice Ag1 g.pr.length cg1)], [], [.ad ad104], [.ld (.int .i64 (gI g.pr (k)))], [], [], []] [(56, .bool (decide ((gI g.pr (k) : Int) > 7))), (70, .bool (decide ((gI g.pr (k) : Int) > 7))), (69, .bool (decide ((gI g.pr (k) : Int) > 7))), (68, .int .i64 (gI g.pr (k))), (67, .pointer (some (ad104.add ((k : Int).toNat * 1)))), (66, .int .i64 (k)), (65, .slice Ag1 g.pr.length cg1), (64, .pointer (some ⟨w.heap.size, 1, none⟩)), (63, .bool false), (62, .bool (decide ((gI g.pr (k) : Int) < 0))), (61, .int .i64 (gI g.pr (k))), (60, .pointer (some (ad93.add ((k : Int).toNat * 1)))), (59, .int .i64 (k)), (58, .slice Ag1 g.pr.length cg1), (57, .pointer (some ⟨w.heap.size, 1, none⟩))] [(w48.cell? ⟨w.heap.size, 1, none⟩ = some (.slice Ag1 g.pr.length cg1)), (Ag1 = some ad93), (0 ≤ (k : Int)), ((k : Int) < (g.pr.length : Nat)), (w48.cell? (ad93.add ((k : Int).toNat * 1)) = some (.int .i64 (gI g.pr (k)))), ((.bool (decide ((gI g.pr (k) : Int) < 0)) : Value) = .bool false), (w48.cell? ⟨w.heap.size, 1, none⟩ = some (.slice Ag1 g.pr.length cg1)), (Ag1 = some ad104), (0 ≤ (k : Int)), ((k : Int) < (g.pr.length : Nat)), (w48.cell? (ad104.add ((k : Int).toNat * 1)) = some (.int .i64 (gI g.pr (k))))] (by kernel_rfl) ⟨(bx53.cell (i := 1) rfl), hA94, (by omega), (by omega), hc95, (congrArg Value.bool h96), (bx53.cell (i := 1) rfl), hA105, (by omega), (by omega), hc106, trivial⟩ (fun act108 f107 => ?_)
         clear f85
         refine At.done rfl ?_
         refine t_n ?_
         have f109 := f107.sub (r := [(56, .bool (decide ((gI g.pr (k) : Int) > 7))), (69, .bool (decide ((gI g.pr (k) : Int) > 7))), (68, .int .i64 (gI g.pr (k))), (67, .pointer (some (ad104.add ((k : Int).toNat * 1)))), (66, .int .i64 (k)), (65, .slice Ag1 g.pr.length cg1), (64, .pointer (some ⟨w.heap.size, 1, none⟩)), (53, .bool (decide ((gI g.ow (k) : Int) > 1))), (52, .int .i64 (gI g.ow (k))), (51, .pointer (some (ad82.add ((k : Int).toNat * 1)))), (50, .int .i64 (k)), (49, .slice Ag0 g.ow.length cg0), (48, .pointer (some ⟨w.heap.size, 0, none⟩)), (6, .slice R63 ((gL g.mv (k)).length) C64), (5, .int .i64 (k)), (35, .int .i64 (k)), (34, .int .i64 (((g.mv.length : Nat) : Int))), (33, .slice Ag2 g.mv.length cg2), (4, .int .i64 (((g.mv.length : Nat) : Int))), (1, .pointer (some ⟨w.heap.size, 0, none⟩))]) ⟨rfl, rfl, rfl, rfl, rfl, rfl, rfl, rfl, rfl, rfl, rfl, rfl, rfl, rfl, rfl, rfl, rfl, rfl, rfl, rfl, trivial⟩
         clear f107
         refine cond_S f109 (t := decide ((gI g.pr (k) : Int) > 7)) rfl (fun h110 => ?_) (fun h110 => ?_)
         ·have q111 := of_decide_eq_true h110
          refine wp_seq ?_
          refine At.start ?_
          refine At.rd f109 3 [[], [], []] [(3, .int .i64 (15)), (2, .int .i64 (k)), (71, .int .i64 (k))] [] (by kernel_rfl) trivial (fun act113 f112 => ?_)
          clear f109
          refine At.done rfl ?_
          refine t_n ?_
          have f114 := f112.sub (r := [(3, .int .i64 (15)), (2, .int .i64 (k))]) ⟨rfl, rfl, trivial⟩
          clear f112
          refine wp_ret ?_
          refine b_r ?_
          refine t_r ?_
          refine b_r ?_
          refine t_r ?_
          refine t_r ?_
          refine b_r ?_
          refine t_r ?_
          refine ret_ f114 [] [.int .i64 (k), .int .i64 (15)] [] (by kernel_rfl) trivial ?_
          exact ⟨ret2_ii (right_at' (by omega) (by omega) (by omega) (by omega) (by assumption) (err_15 (by omega) (by omega)) (by decide)) rfl rfl, e49⟩
         ·have q115 := of_decide_eq_false h110
          refine wp_seq ?_
          refine At.start ?_
          refine At.rd f109 4 [[], [], [], []] [(72, .bool (((((gL g.mv (k)).length : Nat) : Int) : Int) == 0)), (75, .bool (((((gL g.mv (k)).length : Nat) : Int) : Int) == 0)), (74, .int .i64 ((((gL g.mv (k)).length : Nat) : Int))), (73, .slice R63 ((gL g.mv (k)).length) C64)] [] (by kernel_rfl) trivial (fun act117 f116 => ?_)
          clear f109
          refine At.done rfl ?_
          refine t_n ?_
          refine cond_S f116 (t := ((((gL g.mv (k)).length : Nat) : Int) : Int) == 0) rfl (fun h118 => ?_) (fun h118 => ?_)
          ·have q119 := eq_of_beq h118
           refine wp_seq ?_
           refine At.start ?_
           refine At.rd f116 3 [[], [], []] [(3, .int .i64 (17)), (2, .int .i64 (k)), (76, .int .i64 (k))] [] (by kernel_rfl) trivial (fun act121 f120 => ?_)
           clear f116
           refine At.done rfl ?_
           refine t_n ?_
           have f122 := f120.sub (r := [(3, .int .i64 (17)), (2, .int .i64 (k))]) ⟨rfl, rfl, trivial⟩
           clear f120
           refine wp_ret ?_
           refine b_r ?_
           refine t_r ?_
           refine b_r ?_
           refine t_r ?_
           refine t_r ?_
           refine b_r ?_
           refine t_r ?_
           refine ret_ f122 [] [.int .i64 (k), .int .i64 (17)] [] (by kernel_rfl) trivial ?_
           exact ⟨ret2_ii (right_at' (by omega) (by omega) (by omega) (by omega) (by assumption) (err_17 (by omega) (by omega) (by omega)) (by decide)) rfl rfl, e49⟩
          ·have q123 := ne_of_beq_false h118
           refine wp_skip ?_
           refine b_n ?_
           refine t_n ?_
           refine wp_seq ?_
           refine At.start ?_
           refine At.rd f116 3 [[], [], []] [(79, .int .i64 (0)), (78, .int .i64 ((((gL g.mv (k)).length : Nat) : Int))), (77, .slice R63 ((gL g.mv (k)).length) C64)] [] (by kernel_rfl) trivial (fun act125 f124 => ?_)
           clear f116
           refine At.done rfl ?_
           refine t_n ?_
           refine wp_block ?_
           have f126 := f124.sub (r := [(79, .int .i64 (0)), (78, .int .i64 ((((gL g.mv (k)).length : Nat) : Int))), (77, .slice R63 ((gL g.mv (k)).length) C64), (69, .bool (decide ((gI g.pr (k) : Int) > 7))), (68, .int .i64 (gI g.pr (k))), (67, .pointer (some (ad104.add ((k : Int).toNat * 1)))), (66, .int .i64 (k)), (65, .slice Ag1 g.pr.length cg1), (64, .pointer (some ⟨w.heap.size, 1, none⟩)), (53, .bool (decide ((gI g.ow (k) : Int) > 1))), (52, .int .i64 (gI g.ow (k))), (51, .pointer (some (ad82.add ((k : Int).toNat * 1)))), (50, .int .i64 (k)), (49, .slice Ag0 g.ow.length cg0), (48, .pointer (some ⟨w.heap.size, 0, none⟩)), (6, .slice R63 ((gL g.mv (k)).length) C64), (5, .int .i64 (k)), (35, .int .i64 (k)), (34, .int .i64 (((g.mv.length : Nat) : Int))), (33, .slice Ag2 g.mv.length cg2), (4, .int .i64 (((g.mv.length : Nat) : Int))), (1, .pointer (some ⟨w.heap.size, 0, none⟩))]) ⟨rfl, rfl, rfl, rfl, rfl, rfl, rfl, rfl, rfl, rfl, rfl, rfl, rfl, rfl, rfl, rfl, rfl, rfl, rfl, rfl, rfl, rfl, trivial⟩
           refine loop_g (fun (m_ : Nat) a_ w_ => ∃ (q : Int), m_ = (((gL g.mv k).length : Int) - q).toNat ∧ (Frm 107 a_ [(79, .int .i64 (q)), (78, .int .i64 ((((gL g.mv (k)).length : Nat) : Int))), (77, .slice R63 ((gL g.mv (k)).length) C64), (69, .bool (decide ((gI g.pr (k) : Int) > 7))), (68, .int .i64 (gI g.pr (k))), (67, .pointer (some (ad104.add ((k : Int).toNat * 1)))), (66, .int .i64 (k)), (65, .slice Ag1 g.pr.length cg1), (64, .pointer (some ⟨w.heap.size, 1, none⟩)), (53, .bool (decide ((gI g.ow (k) : Int) > 1))), (52, .int .i64 (gI g.ow (k))), (51, .pointer (some (ad82.add ((k : Int).toNat * 1)))), (50, .int .i64 (k)), (49, .slice Ag0 g.ow.length cg0), (48, .pointer (some ⟨w.heap.size, 0, none⟩)), (6, .slice R63 ((gL g.mv (k)).length) C64), (5, .int .i64 (k)), (35, .int .i64 (k)), (34, .int .i64 (((g.mv.length : Nat) : Int))), (33, .slice Ag2 g.mv.length cg2), (4, .int .i64 (((g.mv.length : Nat) : Int))), (1, .pointer (some ⟨w.heap.size, 0, none⟩))]) ∧ (Ext w w_) ∧ (RdG w_ 0 w.heap.size Ag0 Ag1 Ag2 cg0 cg1 cg2 g) ∧ (Bx w_ (w.heap.size) [.slice Ag0 g.ow.length cg0, .slice Ag1 g.pr.length cg1, .slice Ag2 g.mv.length cg2] 25) ∧ (RdI w_ 0 w.heap.size R63 (gL g.mv (k))) ∧ (0 ≤ q) ∧ (q ≤ ((gL g.mv k).length : Int)) ∧ (rowBad g.ow.length (-1) ((gL g.mv k).take q.toNat) = false)) _ ⟨0, rfl, f126, e49, r52, bx53, r66, (by omega), (by omega), rfl⟩ ?_
           clear f126 f124
           clear r52
           clear bx53
           clear r66
           clear e49
           intro m_ act127 w128 ⟨q, hm130, f131, e129, r132, bx133, r134, i135, i136, i137⟩
           have szw128 := e129.size
           have := bx133.lt
           refine wp_seq ?_
           refine At.start ?_
           refine At.rd f131 1 [[]] [(80, .bool (decide ((q : Int) < (((gL g.mv (k)).length : Nat) : Int))))] [] (by kernel_rfl) trivial (fun act139 f138 => ?_)
           clear f131
           refine At.done rfl ?_
           refine t_n ?_
           refine wp_seq ?_
           refine cond_S f138 (t := decide ((q : Int) < (((gL g.mv (k)).length : Nat) : Int))) rfl (fun h140 => ?_) (fun h140 => ?_)
           ·have q141 := of_decide_eq_true h140
            refine wp_skip ?_
            refine t_n ?_
            refine wp_seq ?_
            refine wp_block ?_
            refine wp_seq ?_
            refine At.start ?_
            obtain ⟨ad142, hA143, _, _, hc144⟩ := RdI.get r134 (q) (by omega) (by omega)
            refine At.rd f138 5 [[], [.ad ad142], [.ld (.int .i64 (gI (gL g.mv (k)) (q)))], [], []] [(8, .int .i64 (gI (gL g.mv (k)) (q))), (7, .int .i64 (q)), (83, .int .i64 (gI (gL g.mv (k)) (q))), (82, .pointer (some (ad142.add ((q : Int).toNat * 1)))), (81, .int .i64 (q))] [(R63 = some ad142), (0 ≤ (q : Int)), ((q : Int) < ((gL g.mv (k)).length : Nat)), (w128.cell? (ad142.add ((q : Int).toNat * 1)) = some (.int .i64 (gI (gL g.mv (k)) (q))))] (by kernel_rfl) ⟨hA143, (by omega), (by omega), hc144, trivial⟩ (fun act146 f145 => ?_)
            clear f138
            refine At.done rfl ?_
            refine t_n ?_
            refine wp_seq ?_
            refine At.start ?_
            rcases Bool.eq_false_or_eq_true (decide ((gI (gL g.mv (k)) (q) : Int) < 0)) with h147 | h147
            ·have q148 := of_decide_eq_true h147
             refine At.rd f145 20 [[], [], [.as_ (.bool true)], [], [], [], [], [], [], [], [], [], [], [], [], [], [], [], [], []] [(103, .bool true), (102, undef), (101, undef), (100, undef), (99, undef), (98, undef), (97, undef), (96, undef), (95, undef), (94, undef), (93, undef), (92, undef), (91, .bool true), (90, .bool true), (89, undef), (88, undef), (87, undef), (86, .bool true), (85, .bool (decide ((gI (gL g.mv (k)) (q) : Int) < 0))), (84, .int .i64 (gI (gL g.mv (k)) (q)))] [((.bool (decide ((gI (gL g.mv (k)) (q) : Int) < 0)) : Value) = .bool true)] (by kernel_rfl) ⟨(congrArg Value.bool h147), trivial⟩ (fun act150 f149 => ?_)
             clear f145
             refine At.done rfl ?_
             refine t_n ?_
             have f151 := f149.sub (r := [(103, .bool true), (79, .int .i64 (q)), (78, .int .i64 ((((gL g.mv (k)).length : Nat) : Int))), (77, .slice R63 ((gL g.mv (k)).length) C64), (69, .bool (decide ((gI g.pr (k) : Int) > 7))), (68, .int .i64 (gI g.pr (k))), (67, .pointer (some (ad104.add ((k : Int).toNat * 1)))), (66, .int .i64 (k)), (65, .slice Ag1 g.pr.length cg1), (64, .pointer (some ⟨w.heap.size, 1, none⟩)), (53, .bool (decide ((gI g.ow (k) : Int) > 1))), (52, .int .i64 (gI g.ow (k))), (51, .pointer (some (ad82.add ((k : Int).toNat * 1)))), (50, .int .i64 (k)), (49, .slice Ag0 g.ow.length cg0), (48, .pointer (some ⟨w.heap.size, 0, none⟩)), (6, .slice R63 ((gL g.mv (k)).length) C64), (5, .int .i64 (k)), (35, .int .i64 (k)), (34, .int .i64 (((g.mv.length : Nat) : Int))), (33, .slice Ag2 g.mv.length cg2), (4, .int .i64 (((g.mv.length : Nat) : Int))), (1, .pointer (some ⟨w.heap.size, 0, none⟩))]) ⟨rfl, rfl, rfl, rfl, rfl, rfl, rfl, rfl, rfl, rfl, rfl, rfl, rfl, rfl, rfl, rfl, rfl, rfl, rfl, rfl, rfl, rfl, rfl, trivial⟩
             clear f149
             refine cond_T f151 rfl ?_
             refine wp_seq ?_
             refine At.start ?_
             refine At.rd f151 3 [[], [], []] [(3, .int .i64 (16)), (2, .int .i64 (k)), (104, .int .i64 (k))] [] (by kernel_rfl) trivial (fun act153 f152 => ?_)
             clear f151
             refine At.done rfl ?_
             refine t_n ?_
             have f154 := f152.sub (r := [(3, .int .i64 (16)), (2, .int .i64 (k))]) ⟨rfl, rfl, trivial⟩
             clear f152
             refine wp_ret ?_
             refine b_r ?_
             refine t_r ?_
             refine t_r ?_
             refine b_r ?_
             refine b_r ?_
             refine t_r ?_
             refine t_r ?_
             refine b_r ?_
             refine t_r ?_
             refine ret_ f154 [] [.int .i64 (k), .int .i64 (16)] [] (by kernel_rfl) trivial ?_
             exact ⟨ret2_ii (right_at' (by omega) (by omega) (by omega) (by omega) (by assumption) (err_16 (by omega) (by omega) (by omega) (bad_at2 (q := q) (by omega) (by omega) (by assumption) (by omega))) (by decide)) rfl rfl, e129⟩
            ·have q155 := of_decide_eq_false h147
             rcases Bool.eq_false_or_eq_true (decide ((gI (gL g.mv (k)) (q) : Int) ≥ ((g.mv.length : Nat) : Int))) with h156 | h156
             ·have q157 := of_decide_eq_true h156
              refine At.rd f145 20 [[], [], [.as_ (.bool false)], [], [], [], [], [.as_ (.bool true)], [], [], [], [], [], [], [], [], [], [], [], []] [(103, .bool true), (102, undef), (101, undef), (100, undef), (99, undef), (98, undef), (97, undef), (96, undef), (95, undef), (94, undef), (93, undef), (92, undef), (91, .bool true), (90, .bool (decide ((gI (gL g.mv (k)) (q) : Int) ≥ ((g.mv.length : Nat) : Int)))), (89, .bool (decide ((gI (gL g.mv (k)) (q) : Int) ≥ ((g.mv.length : Nat) : Int)))), (88, .int .i64 (((g.mv.length : Nat) : Int))), (87, .int .i64 (gI (gL g.mv (k)) (q))), (86, .bool false), (85, .bool (decide ((gI (gL g.mv (k)) (q) : Int) < 0))), (84, .int .i64 (gI (gL g.mv (k)) (q)))] [((.bool (decide ((gI (gL g.mv (k)) (q) : Int) < 0)) : Value) = .bool false), ((.bool (decide ((gI (gL g.mv (k)) (q) : Int) ≥ ((g.mv.length : Nat) : Int))) : Value) = .bool true)] (by kernel_rfl) ⟨(congrArg Value.bool h147), (congrArg Value.bool h156), trivial⟩ (fun act159 f158 => ?_)
              clear f145
              refine At.done rfl ?_
              refine t_n ?_
              have f160 := f158.sub (r := [(103, .bool true), (89, .bool (decide ((gI (gL g.mv (k)) (q) : Int) ≥ ((g.mv.length : Nat) : Int)))), (88, .int .i64 (((g.mv.length : Nat) : Int))), (87, .int .i64 (gI (gL g.mv (k)) (q))), (79, .int .i64 (q)), (78, .int .i64 ((((gL g.mv (k)).length : Nat) : Int))), (77, .slice R63 ((gL g.mv (k)).length) C64), (69, .bool (decide ((gI g.pr (k) : Int) > 7))), (68, .int .i64 (gI g.pr (k))), (67, .pointer (some (ad104.add ((k : Int).toNat * 1)))), (66, .int .i64 (k)), (65, .slice Ag1 g.pr.length cg1), (64, .pointer (some ⟨w.heap.size, 1, none⟩)), (53, .bool (decide ((gI g.ow (k) : Int) > 1))), (52, .int .i64 (gI g.ow (k))), (51, .pointer (some (ad82.add ((k : Int).toNat * 1)))), (50, .int .i64 (k)), (49, .slice Ag0 g.ow.length cg0), (48, .pointer (some ⟨w.heap.size, 0, none⟩)), (6, .slice R63 ((gL g.mv (k)).length) C64), (5, .int .i64 (k)), (35, .int .i64 (k)), (34, .int .i64 (((g.mv.length : Nat) : Int))), (33, .slice Ag2 g.mv.length cg2), (4, .int .i64 (((g.mv.length : Nat) : Int))), (1, .pointer (some ⟨w.heap.size, 0, none⟩))]) ⟨rfl, rfl, rfl, rfl, rfl, rfl, rfl, rfl, rfl, rfl, rfl, rfl, rfl, rfl, rfl, rfl, rfl, rfl, rfl, rfl, rfl, rfl, rfl, rfl, rfl, rfl, trivial⟩
              clear f158
              refine cond_T f160 rfl ?_
              refine wp_seq ?_
              refine At.start ?_
              refine At.rd f160 3 [[], [], []] [(3, .int .i64 (16)), (2, .int .i64 (k)), (104, .int .i64 (k))] [] (by kernel_rfl) trivial (fun act162 f161 => ?_)
              clear f160
              refine At.done rfl ?_
              refine t_n ?_
              have f163 := f161.sub (r := [(3, .int .i64 (16)), (2, .int .i64 (k))]) ⟨rfl, rfl, trivial⟩
              clear f161
              refine wp_ret ?_
              refine b_r ?_
              refine t_r ?_
              refine t_r ?_
              refine b_r ?_
              refine b_r ?_
              refine t_r ?_
              refine t_r ?_
              refine b_r ?_
              refine t_r ?_
              refine ret_ f163 [] [.int .i64 (k), .int .i64 (16)] [] (by kernel_rfl) trivial ?_
              exact ⟨ret2_ii (right_at' (by omega) (by omega) (by omega) (by omega) (by assumption) (err_16 (by omega) (by omega) (by omega) (bad_at2 (q := q) (by omega) (by omega) (by assumption) (by omega))) (by decide)) rfl rfl, e129⟩
             ·have q164 := of_decide_eq_false h156
              rcases Bool.eq_false_or_eq_true (decide ((q : Int) > 0)) with h165 | h165
              ·have q166 := of_decide_eq_true h165
               obtain ⟨ad167, hA168, _, _, hc169⟩ := RdI.get r134 (q - 1) (by omega) (by omega)
               refine At.rd f145 20 [[], [], [.as_ (.bool false)], [], [], [], [], [.as_ (.bool false)], [], [], [.as_ (.bool true)], [], [], [], [.as_ (.int .i64 (q - 1))], [.ad ad167], [.ld (.int .i64 (gI (gL g.mv (k)) (q - 1)))], [], [], []] [(103, .bool (decide ((gI (gL g.mv (k)) (q) : Int) ≤ (gI (gL g.mv (k)) (q - 1))))), (102, .bool (decide ((gI (gL g.mv (k)) (q) : Int) ≤ (gI (gL g.mv (k)) (q - 1))))), (101, .bool (decide ((gI (gL g.mv (k)) (q) : Int) ≤ (gI (gL g.mv (k)) (q - 1))))), (100, .int .i64 (gI (gL g.mv (k)) (q - 1))), (99, .pointer (some (ad167.add ((q - 1 : Int).toNat * 1)))), (98, .int .i64 (q - 1)), (97, .int .i64 (q)), (96, .slice R63 ((gL g.mv (k)).length) C64), (95, .int .i64 (gI (gL g.mv (k)) (q))), (94, .bool true), (93, .bool (decide ((q : Int) > 0))), (92, .int .i64 (q)), (91, .bool false), (90, .bool (decide ((gI (gL g.mv (k)) (q) : Int) ≥ ((g.mv.length : Nat) : Int)))), (89, .bool (decide ((gI (gL g.mv (k)) (q) : Int) ≥ ((g.mv.length : Nat) : Int)))), (88, .int .i64 (((g.mv.length : Nat) : Int))), (87, .int .i64 (gI (gL g.mv (k)) (q))), (86, .bool false), (85, .bool (decide ((gI (gL g.mv (k)) (q) : Int) < 0))), (84, .int .i64 (gI (gL g.mv (k)) (q)))] [((.bool (decide ((gI (gL g.mv (k)) (q) : Int) < 0)) : Value) = .bool false), ((.bool (decide ((gI (gL g.mv (k)) (q) : Int) ≥ ((g.mv.length : Nat) : Int))) : Value) = .bool false), ((.bool (decide ((q : Int) > 0)) : Value) = .bool true), ((.int .i64 (IntKind.i64.wrap (q - 1)) : Value) = .int .i64 (q - 1)), (R63 = some ad167), (0 ≤ (q - 1 : Int)), ((q - 1 : Int) < ((gL g.mv (k)).length : Nat)), (w128.cell? (ad167.add ((q - 1 : Int).toNat * 1)) = some (.int .i64 (gI (gL g.mv (k)) (q - 1))))] (by kernel_rfl) ⟨(congrArg Value.bool h147), (congrArg Value.bool h156), (congrArg Value.bool h165), (w64 (by omega) (by omega)), hA168, (by omega), (by omega), hc169, trivial⟩ (fun act171 f170 => ?_)
               clear f145
               refine At.done rfl ?_
               refine t_n ?_
               refine cond_S f170 (t := decide ((gI (gL g.mv (k)) (q) : Int) ≤ (gI (gL g.mv (k)) (q - 1)))) rfl (fun h172 => ?_) (fun h172 => ?_)
               ·have q173 := of_decide_eq_true h172
                refine wp_seq ?_
                refine At.start ?_
                refine At.rd f170 3 [[], [], []] [(3, .int .i64 (16)), (2, .int .i64 (k)), (104, .int .i64 (k))] [] (by kernel_rfl) trivial (fun act175 f174 => ?_)
                clear f170
                refine At.done rfl ?_
                refine t_n ?_
                have f176 := f174.sub (r := [(3, .int .i64 (16)), (2, .int .i64 (k))]) ⟨rfl, rfl, trivial⟩
                clear f174
                refine wp_ret ?_
                refine b_r ?_
                refine t_r ?_
                refine t_r ?_
                refine b_r ?_
                refine b_r ?_
                refine t_r ?_
                refine t_r ?_
                refine b_r ?_
                refine t_r ?_
                refine ret_ f176 [] [.int .i64 (k), .int .i64 (16)] [] (by kernel_rfl) trivial ?_
                exact ⟨ret2_ii (right_at' (by omega) (by omega) (by omega) (by omega) (by assumption) (err_16 (by omega) (by omega) (by omega) (bad_at2 (q := q) (by omega) (by omega) (by assumption) (by omega))) (by decide)) rfl rfl, e129⟩
               ·have q177 := of_decide_eq_false h172
                refine wp_skip ?_
                refine b_n ?_
                refine t_n ?_
                refine At.start ?_
                refine At.rd f170 2 [[.as_ (.int .i64 (q + 1))], []] [(79, .int .i64 (q + 1)), (105, .int .i64 (q + 1))] [((.int .i64 (IntKind.i64.wrap (q + 1)) : Value) = .int .i64 (q + 1))] (by kernel_rfl) ⟨(w64 (by omega) (by omega)), trivial⟩ (fun act179 f178 => ?_)
                clear f170
                refine At.done rfl ?_
                refine t_n ?_
                have f180 := f178.sub (r := [(79, .int .i64 (q + 1)), (78, .int .i64 ((((gL g.mv (k)).length : Nat) : Int))), (77, .slice R63 ((gL g.mv (k)).length) C64), (69, .bool (decide ((gI g.pr (k) : Int) > 7))), (68, .int .i64 (gI g.pr (k))), (67, .pointer (some (ad104.add ((k : Int).toNat * 1)))), (66, .int .i64 (k)), (65, .slice Ag1 g.pr.length cg1), (64, .pointer (some ⟨w.heap.size, 1, none⟩)), (53, .bool (decide ((gI g.ow (k) : Int) > 1))), (52, .int .i64 (gI g.ow (k))), (51, .pointer (some (ad82.add ((k : Int).toNat * 1)))), (50, .int .i64 (k)), (49, .slice Ag0 g.ow.length cg0), (48, .pointer (some ⟨w.heap.size, 0, none⟩)), (6, .slice R63 ((gL g.mv (k)).length) C64), (5, .int .i64 (k)), (35, .int .i64 (k)), (34, .int .i64 (((g.mv.length : Nat) : Int))), (33, .slice Ag2 g.mv.length cg2), (4, .int .i64 (((g.mv.length : Nat) : Int))), (1, .pointer (some ⟨w.heap.size, 0, none⟩))]) ⟨rfl, rfl, rfl, rfl, rfl, rfl, rfl, rfl, rfl, rfl, rfl, rfl, rfl, rfl, rfl, rfl, rfl, rfl, rfl, rfl, rfl, rfl, trivial⟩
                exact ⟨_, (by omega), (q + 1), rfl, f180, e129, r132, bx133, r134, (by omega), (by omega), (bad_next2 (by omega) (by omega) (by assumption) (by omega) (by omega) (by omega))⟩
              ·have q181 := of_decide_eq_false h165
               refine At.rd f145 20 [[], [], [.as_ (.bool false)], [], [], [], [], [.as_ (.bool false)], [], [], [.as_ (.bool false)], [], [], [], [], [], [], [], [], []] [(103, .bool false), (102, .bool false), (101, undef), (100, undef), (99, undef), (98, undef), (97, undef), (96, undef), (95, undef), (94, .bool false), (93, .bool (decide ((q : Int) > 0))), (92, .int .i64 (q)), (91, .bool false), (90, .bool (decide ((gI (gL g.mv (k)) (q) : Int) ≥ ((g.mv.length : Nat) : Int)))), (89, .bool (decide ((gI (gL g.mv (k)) (q) : Int) ≥ ((g.mv.length : Nat) : Int)))), (88, .int .i64 (((g.mv.length : Nat) : Int))), (87, .int .i64 (gI (gL g.mv (k)) (q))), (86, .bool false), (85, .bool (decide ((gI (gL g.mv (k)) (q) : Int) < 0))), (84, .int .i64 (gI (gL g.mv (k)) (q)))] [((.bool (decide ((gI (gL g.mv (k)) (q) : Int) < 0)) : Value) = .bool false), ((.bool (decide ((gI (gL g.mv (k)) (q) : Int) ≥ ((g.mv.length : Nat) : Int))) : Value) = .bool false), ((.bool (decide ((q : Int) > 0)) : Value) = .bool false)] (by kernel_rfl) ⟨(congrArg Value.bool h147), (congrArg Value.bool h156), (congrArg Value.bool h165), trivial⟩ (fun act183 f182 => ?_)
               clear f145
               refine At.done rfl ?_
               refine t_n ?_
               have f184 := f182.sub (r := [(103, .bool false), (102, .bool false), (94, .bool false), (93, .bool (decide ((q : Int) > 0))), (92, .int .i64 (q)), (89, .bool (decide ((gI (gL g.mv (k)) (q) : Int) ≥ ((g.mv.length : Nat) : Int)))), (88, .int .i64 (((g.mv.length : Nat) : Int))), (87, .int .i64 (gI (gL g.mv (k)) (q))), (79, .int .i64 (q)), (78, .int .i64 ((((gL g.mv (k)).length : Nat) : Int))), (77, .slice R63 ((gL g.mv (k)).length) C64), (69, .bool (decide ((gI g.pr (k) : Int) > 7))), (68, .int .i64 (gI g.pr (k))), (67, .pointer (some (ad104.add ((k : Int).toNat * 1)))), (66, .int .i64 (k)), (65, .slice Ag1 g.pr.length cg1), (64, .pointer (some ⟨w.heap.size, 1, none⟩)), (53, .bool (decide ((gI g.ow (k) : Int) > 1))), (52, .int .i64 (gI g.ow (k))), (51, .pointer (some (ad82.add ((k : Int).toNat * 1)))), (50, .int .i64 (k)), (49, .slice Ag0 g.ow.length cg0), (48, .pointer (some ⟨w.heap.size, 0, none⟩)), (6, .slice R63 ((gL g.mv (k)).length) C64), (5, .int .i64 (k)), (35, .int .i64 (k)), (34, .int .i64 (((g.mv.length : Nat) : Int))), (33, .slice Ag2 g.mv.length cg2), (4, .int .i64 (((g.mv.length : Nat) : Int))), (1, .pointer (some ⟨w.heap.size, 0, none⟩))]) ⟨rfl, rfl, rfl, rfl, rfl, rfl, rfl, rfl, rfl, rfl, rfl, rfl, rfl, rfl, rfl, rfl, rfl, rfl, rfl, rfl, rfl, rfl, rfl, rfl, rfl, rfl, rfl, rfl, rfl, rfl, trivial⟩
               clear f182
               refine cond_F f184 rfl ?_
               refine wp_skip ?_
               refine b_n ?_
               refine t_n ?_
               refine At.start ?_
               refine At.rd f184 2 [[.as_ (.int .i64 (q + 1))], []] [(79, .int .i64 (q + 1)), (105, .int .i64 (q + 1))] [((.int .i64 (IntKind.i64.wrap (q + 1)) : Value) = .int .i64 (q + 1))] (by kernel_rfl) ⟨(w64 (by omega) (by omega)), trivial⟩ (fun act186 f185 => ?_)
               clear f184
               refine At.done rfl ?_
               refine t_n ?_
               have f187 := f185.sub (r := [(79, .int .i64 (q + 1)), (78, .int .i64 ((((gL g.mv (k)).length : Nat) : Int))), (77, .slice R63 ((gL g.mv (k)).length) C64), (69, .bool (decide ((gI g.pr (k) : Int) > 7))), (68, .int .i64 (gI g.pr (k))), (67, .pointer (some (ad104.add ((k : Int).toNat * 1)))), (66, .int .i64 (k)), (65, .slice Ag1 g.pr.length cg1), (64, .pointer (some ⟨w.heap.size, 1, none⟩)), (53, .bool (decide ((gI g.ow (k) : Int) > 1))), (52, .int .i64 (gI g.ow (k))), (51, .pointer (some (ad82.add ((k : Int).toNat * 1)))), (50, .int .i64 (k)), (49, .slice Ag0 g.ow.length cg0), (48, .pointer (some ⟨w.heap.size, 0, none⟩)), (6, .slice R63 ((gL g.mv (k)).length) C64), (5, .int .i64 (k)), (35, .int .i64 (k)), (34, .int .i64 (((g.mv.length : Nat) : Int))), (33, .slice Ag2 g.mv.length cg2), (4, .int .i64 (((g.mv.length : Nat) : Int))), (1, .pointer (some ⟨w.heap.size, 0, none⟩))]) ⟨rfl, rfl, rfl, rfl, rfl, rfl, rfl, rfl, rfl, rfl, rfl, rfl, rfl, rfl, rfl, rfl, rfl, rfl, rfl, rfl, rfl, rfl, trivial⟩
               exact ⟨_, (by omega), (q + 1), rfl, f187, e129, r132, bx133, r134, (by omega), (by omega), (bad_next2 (by omega) (by omega) (by assumption) (by omega) (by omega) (by omega))⟩
           ·have q188 := of_decide_eq_false h140
            refine wp_exit ?_
            refine t_e ?_
            refine t_e ?_
            refine b_e ?_
            refine b_n ?_
            refine t_n ?_
            refine At.start ?_
            refine At.rd f138 2 [[.as_ (.int .i64 (k + 1))], []] [(35, .int .i64 (k + 1)), (106, .int .i64 (k + 1))] [((.int .i64 (IntKind.i64.wrap (k + 1)) : Value) = .int .i64 (k + 1))] (by kernel_rfl) ⟨(w64 (by omega) (by omega)), trivial⟩ (fun act190 f189 => ?_)
            clear f138
            refine At.done rfl ?_
            refine t_n ?_
            have f191 := f189.sub (r := [(35, .int .i64 (k + 1)), (34, .int .i64 (((g.mv.length : Nat) : Int))), (33, .slice Ag2 g.mv.length cg2), (4, .int .i64 (((g.mv.length : Nat) : Int))), (1, .pointer (some ⟨w.heap.size, 0, none⟩))]) ⟨rfl, rfl, rfl, rfl, rfl, trivial⟩
            exact ⟨_, (by omega), (k + 1), rfl, f191, e129, r132, bx133, (by omega), (by omega), (err_next (by omega) hp (err_0 (by omega) (by omega) (by omega) (bad_all (by assumption) (by omega))))⟩
     ·have q192 := of_decide_eq_false h58
      refine wp_exit ?_
      refine t_e ?_
      refine t_e ?_
      refine b_e ?_
      refine t_n ?_
      refine wp_seq ?_
      refine At.start ?_
      refine At.rd f56 2 [[], []] [(3, .int .i64 (0)), (2, .int .i64 (0))] [] (by kernel_rfl) trivial (fun act194 f193 => ?_)
      clear f56
      refine At.done rfl ?_
      refine t_n ?_
      refine wp_ret ?_
      refine ret_ f193 [] [.int .i64 (0), .int .i64 (0)] [] (by kernel_rfl) trivial ?_
      exact ⟨ret2_ii (right_ok' (k := k) (by omega) (by omega) (by omega) (by assumption)) rfl rfl, e49⟩

end Go.Proofs.YtkkophhnliplhaaDoor
