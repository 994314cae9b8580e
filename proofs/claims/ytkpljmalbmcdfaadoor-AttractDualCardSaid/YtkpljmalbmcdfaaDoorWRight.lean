/-
  A walk of a Go function, printed by a program of this repo. Conditions: what the theorems name.
-/
import Derived.Test.YtkpljmalbmcdfaaDoorPureGame
import Derived.Test.YtkpljmalbmcdfaaDoorFz
set_option linter.unusedVariables false
set_option linter.unusedSimpArgs false
namespace Go.Proofs.YtkpljmalbmcdfaaDoor
open Go Go.RowKit

set_option maxHeartbeats 4000000 in
theorem rightR_any {Ag0 Ag1 Ag2 : Option Addr} {cg0 cg1 cg2 : Nat} {g : GameL} {w : World} (rg : RdG w 0 w.heap.size Ag0 Ag1 Ag2 cg0 cg1 cg2 g) :
    Calls Tryd.prog 30 #[.agg #[.slice Ag0 g.ow.length cg0, .slice Ag1 g.pr.length cg1, .slice Ag2 g.mv.length cg2]] w fun e w' => e = .returned (.tuple #[.int .i64 (rightP g).1, .int .i64 (rightP g).2]) ∧ Ext w w' := by
 have hlg0 := rg.ow.len
 have hlg1 := rg.pr.len
 have hlg2 := rg.mv.len
 have hkg0 := rg.k0
 have hkg1 := rg.k1
 have hkg2 := rg.k2
 refine enter_ (args := [.agg #[.slice Ag0 g.ow.length cg0, .slice Ag1 g.pr.length cg1, .slice Ag2 g.mv.length cg2]]) Tryd.func30 rfl Tryd.ntmps30 (Nat.le_of_ble_eq_true rfl) (fun act0 f0 => ?_)
 have e0 := Ext.refl w
 refine wp_seq ?_
 refine At.start ?_
 refine At.seq f0 1 [[]] [(1, .pointer (some ⟨w.heap.size, 0, none⟩))] (w.alloc (.cells #[.slice Ag0 g.ow.length cg0, .slice Ag1 g.pr.length cg1, .slice Ag2 g.mv.length cg2] 25 (0, 0))) [] (by kernel_rfl) trivial (fun act4 w1 hw2 f3 => ?_)
 clear f0
 have g5 := gr_alloc hw2
 have szw1 := g5.size
 have e7 := e0.gr g5 no_row
 clear e0
 have r8 := rg.gr g5 (fun _ h => by cases h)
 clear rg
 have bx9 : Bx w1 (w.heap.size) [.slice Ag0 g.ow.length cg0, .slice Ag1 g.pr.length cg1, .slice Ag2 g.mv.length cg2] 25 := Bx.new hw2
 have := bx9.lt
 clear g5 hw2
 refine At.rd f3 2 [[], []] [(3, .int .i64 (0)), (2, .int .i64 (0))] [] (by kernel_rfl) trivial (fun act11 f10 => ?_)
 clear f3
 refine At.done rfl ?_
 refine t_n ?_
 have f12 := f10.sub (r := [(3, .int .i64 (0)), (2, .int .i64 (0)), (1, .pointer (some ⟨w.heap.size, 0, none⟩))]) ⟨rfl, rfl, rfl, trivial⟩
 clear f10
 refine wp_seq ?_
 refine At.start ?_
 refine At.rd f12 4 [[], [.ld (.slice Ag0 g.ow.length cg0)], [], []] [(4, .int .i64 (((g.ow.length : Nat) : Int))), (11, .int .i64 (((g.ow.length : Nat) : Int))), (10, .slice Ag0 g.ow.length cg0), (9, .pointer (some ⟨w.heap.size, 0, none⟩))] [(w1.cell? ⟨w.heap.size, 0, none⟩ = some (.slice Ag0 g.ow.length cg0))] (by kernel_rfl) ⟨(bx9.cell (i := 0) rfl), trivial⟩ (fun act14 f13 => ?_)
 clear f12
 refine At.done rfl ?_
 refine t_n ?_
 have f15 := f13.sub (r := [(4, .int .i64 (((g.ow.length : Nat) : Int))), (3, .int .i64 (0)), (2, .int .i64 (0)), (1, .pointer (some ⟨w.heap.size, 0, none⟩))]) ⟨rfl, rfl, rfl, rfl, trivial⟩
 clear f13
 refine wp_seq ?_
 refine wp_seq ?_
 refine At.start ?_
 rcases Bool.eq_false_or_eq_true ((((g.pr.length : Nat) : Int) : Int) != ((g.ow.length : Nat) : Int)) with h16 | h16
 ·have q17 := bne_iff_ne.1 h16
  refine At.rd f15 12 [[], [.ld (.slice Ag1 g.pr.length cg1)], [], [], [], [.as_ (.bool true)], [], [], [], [], [], []] [(23, .bool true), (22, undef), (21, undef), (20, undef), (19, undef), (18, undef), (17, .bool true), (16, .bool ((((g.pr.length : Nat) : Int) : Int) != ((g.ow.length : Nat) : Int))), (15, .int .i64 (((g.ow.length : Nat) : Int))), (14, .int .i64 (((g.pr.length : Nat) : Int))), (13, .slice Ag1 g.pr.length cg1), (12, .pointer (some ⟨w.heap.size, 1, none⟩))] [(w1.cell? ⟨w.heap.size, 1, none⟩ = some (.slice Ag1 g.pr.length cg1)), ((.bool ((((g.pr.length : Nat) : Int) : Int) != ((g.ow.length : Nat) : Int)) : Value) = .bool true)] (by kernel_rfl) ⟨(bx9.cell (i := 1) rfl), (congrArg Value.bool h16), trivial⟩ (fun act19 f18 => ?_)
  clear f15
  refine At.done rfl ?_
  refine t_n ?_
  have f20 := f18.sub (r := [(23, .bool true), (4, .int .i64 (((g.ow.length : Nat) : Int))), (3, .int .i64 (0)), (2, .int .i64 (0)), (1, .pointer (some ⟨w.heap.size, 0, none⟩))]) ⟨rfl, rfl, rfl, rfl, rfl, trivial⟩
  clear f18
  refine cond_T f20 rfl ?_
  refine wp_seq ?_
  refine At.start ?_
  refine At.rd f20 2 [[], []] [(3, .int .i64 (1)), (2, .int .i64 (0))] [] (by kernel_rfl) trivial (fun act22 f21 => ?_)
  clear f20
  refine At.done rfl ?_
  refine t_n ?_
  have f23 := f21.sub (r := [(3, .int .i64 (1)), (2, .int .i64 (0))]) ⟨rfl, rfl, trivial⟩
  clear f21
  refine wp_ret ?_
  refine t_r ?_
  refine ret_ f23 [] [.int .i64 (0), .int .i64 (1)] [] (by kernel_rfl) trivial ?_
  exact ⟨ret2_ii (right_lens (by omega)) rfl rfl, e7⟩
 ·have q24 := bne_eq_false_iff_eq.1 h16
  refine At.rd f15 12 [[], [.ld (.slice Ag1 g.pr.length cg1)], [], [], [], [.as_ (.bool false)], [], [.ld (.slice Ag2 g.mv.length cg2)], [], [], [], []] [(23, .bool ((((g.mv.length : Nat) : Int) : Int) != ((g.ow.length : Nat) : Int))), (22, .bool ((((g.mv.length : Nat) : Int) : Int) != ((g.ow.length : Nat) : Int))), (21, .int .i64 (((g.ow.length : Nat) : Int))), (20, .int .i64 (((g.mv.length : Nat) : Int))), (19, .slice Ag2 g.mv.length cg2), (18, .pointer (some ⟨w.heap.size, 2, none⟩)), (17, .bool false), (16, .bool ((((g.pr.length : Nat) : Int) : Int) != ((g.ow.length : Nat) : Int))), (15, .int .i64 (((g.ow.length : Nat) : Int))), (14, .int .i64 (((g.pr.length : Nat) : Int))), (13, .slice Ag1 g.pr.length cg1), (12, .pointer (some ⟨w.heap.size, 1, none⟩))] [(w1.cell? ⟨w.heap.size, 1, none⟩ = some (.slice Ag1 g.pr.length cg1)), ((.bool ((((g.pr.length : Nat) : Int) : Int) != ((g.ow.length : Nat) : Int)) : Value) = .bool false), (w1.cell? ⟨w.heap.size, 2, none⟩ = some (.slice Ag2 g.mv.length cg2))] (by kernel_rfl) ⟨(bx9.cell (i := 1) rfl), (congrArg Value.bool h16), (bx9.cell (i := 2) rfl), trivial⟩ (fun act26 f25 => ?_)
  clear f15
  refine At.done rfl ?_
  refine t_n ?_
  have f27 := f25.sub (r := [(23, .bool ((((g.mv.length : Nat) : Int) : Int) != ((g.ow.length : Nat) : Int))), (4, .int .i64 (((g.ow.length : Nat) : Int))), (3, .int .i64 (0)), (2, .int .i64 (0)), (1, .pointer (some ⟨w.heap.size, 0, none⟩))]) ⟨rfl, rfl, rfl, rfl, rfl, trivial⟩
  clear f25
  refine cond_S f27 (t := (((g.mv.length : Nat) : Int) : Int) != ((g.ow.length : Nat) : Int)) rfl (fun h28 => ?_) (fun h28 => ?_)
  ·have q29 := bne_iff_ne.1 h28
   refine wp_seq ?_
   refine At.start ?_
   refine At.rd f27 2 [[], []] [(3, .int .i64 (1)), (2, .int .i64 (0))] [] (by kernel_rfl) trivial (fun act31 f30 => ?_)
   clear f27
   refine At.done rfl ?_
   refine t_n ?_
   have f32 := f30.sub (r := [(3, .int .i64 (1)), (2, .int .i64 (0))]) ⟨rfl, rfl, trivial⟩
   clear f30
   refine wp_ret ?_
   refine t_r ?_
   refine ret_ f32 [] [.int .i64 (0), .int .i64 (1)] [] (by kernel_rfl) trivial ?_
   exact ⟨ret2_ii (right_lens (by omega)) rfl rfl, e7⟩
  ·have q33 := bne_eq_false_iff_eq.1 h28
   refine wp_skip ?_
   refine t_n ?_
   have f34 := f27.sub (r := [(4, .int .i64 (((g.ow.length : Nat) : Int))), (3, .int .i64 (0)), (2, .int .i64 (0)), (1, .pointer (some ⟨w.heap.size, 0, none⟩))]) ⟨rfl, rfl, rfl, rfl, trivial⟩
   clear f27
   refine wp_seq ?_
   refine wp_seq ?_
   refine At.start ?_
   rcases Bool.eq_false_or_eq_true ((((g.ow.length : Nat) : Int) : Int) == 0) with h35 | h35
   ·have q36 := eq_of_beq h35
    refine At.rd f34 6 [[], [], [.as_ (.bool true)], [], [], []] [(29, .bool true), (28, undef), (27, undef), (26, .bool true), (25, .bool ((((g.ow.length : Nat) : Int) : Int) == 0)), (24, .int .i64 (((g.ow.length : Nat) : Int)))] [((.bool ((((g.ow.length : Nat) : Int) : Int) == 0) : Value) = .bool true)] (by kernel_rfl) ⟨(congrArg Value.bool h35), trivial⟩ (fun act38 f37 => ?_)
    clear f34
    refine At.done rfl ?_
    refine t_n ?_
    have f39 := f37.sub (r := [(29, .bool true), (4, .int .i64 (((g.ow.length : Nat) : Int))), (3, .int .i64 (0)), (2, .int .i64 (0)), (1, .pointer (some ⟨w.heap.size, 0, none⟩))]) ⟨rfl, rfl, rfl, rfl, rfl, trivial⟩
    clear f37
    refine cond_T f39 rfl ?_
    refine wp_seq ?_
    refine At.start ?_
    refine At.rd f39 2 [[], []] [(3, .int .i64 (10)), (2, .int .i64 (0))] [] (by kernel_rfl) trivial (fun act41 f40 => ?_)
    clear f39
    refine At.done rfl ?_
    refine t_n ?_
    have f42 := f40.sub (r := [(3, .int .i64 (10)), (2, .int .i64 (0))]) ⟨rfl, rfl, trivial⟩
    clear f40
    refine wp_ret ?_
    refine t_r ?_
    refine ret_ f42 [] [.int .i64 (0), .int .i64 (10)] [] (by kernel_rfl) trivial ?_
    exact ⟨ret2_ii (right_many (by omega) (by omega)) rfl rfl, e7⟩
   ·have q43 := ne_of_beq_false h35
    refine At.rd f34 6 [[], [], [.as_ (.bool false)], [], [], []] [(29, .bool (decide ((((g.ow.length : Nat) : Int) : Int) > 200))), (28, .bool (decide ((((g.ow.length : Nat) : Int) : Int) > 200))), (27, .int .i64 (((g.ow.length : Nat) : Int))), (26, .bool false), (25, .bool ((((g.ow.length : Nat) : Int) : Int) == 0)), (24, .int .i64 (((g.ow.length : Nat) : Int)))] [((.bool ((((g.ow.length : Nat) : Int) : Int) == 0) : Value) = .bool false)] (by kernel_rfl) ⟨(congrArg Value.bool h35), trivial⟩ (fun act45 f44 => ?_)
    clear f34
    refine At.done rfl ?_
    refine t_n ?_
    have f46 := f44.sub (r := [(29, .bool (decide ((((g.ow.length : Nat) : Int) : Int) > 200))), (4, .int .i64 (((g.ow.length : Nat) : Int))), (3, .int .i64 (0)), (2, .int .i64 (0)), (1, .pointer (some ⟨w.heap.size, 0, none⟩))]) ⟨rfl, rfl, rfl, rfl, rfl, trivial⟩
    clear f44
    refine cond_S f46 (t := decide ((((g.ow.length : Nat) : Int) : Int) > 200)) rfl (fun h47 => ?_) (fun h47 => ?_)
    ·have q48 := of_decide_eq_true h47
     refine wp_seq ?_
     refine At.start ?_
     refine At.rd f46 2 [[], []] [(3, .int .i64 (10)), (2, .int .i64 (0))] [] (by kernel_rfl) trivial (fun act50 f49 => ?_)
     clear f46
     refine At.done rfl ?_
     refine t_n ?_
     have f51 := f49.sub (r := [(3, .int .i64 (10)), (2, .int .i64 (0))]) ⟨rfl, rfl, trivial⟩
     clear f49
     refine wp_ret ?_
     refine t_r ?_
     refine ret_ f51 [] [.int .i64 (0), .int .i64 (10)] [] (by kernel_rfl) trivial ?_
     exact ⟨ret2_ii (right_many (by omega) (by omega)) rfl rfl, e7⟩
    ·have q52 := of_decide_eq_false h47
     refine wp_skip ?_
     refine t_n ?_
     have f53 := f46.sub (r := [(4, .int .i64 (((g.ow.length : Nat) : Int))), (3, .int .i64 (0)), (2, .int .i64 (0)), (1, .pointer (some ⟨w.heap.size, 0, none⟩))]) ⟨rfl, rfl, rfl, rfl, trivial⟩
     clear f46
     refine wp_seq ?_
     refine wp_seq ?_
     refine At.start ?_
     refine At.rd f53 1 [[]] [(5, .int .i64 (0))] [] (by kernel_rfl) trivial (fun act55 f54 => ?_)
     clear f53
     refine At.done rfl ?_
     refine t_n ?_
     refine wp_block ?_
     have f56 := f54.sub (r := [(5, .int .i64 (0)), (4, .int .i64 (((g.ow.length : Nat) : Int))), (1, .pointer (some ⟨w.heap.size, 0, none⟩))]) ⟨rfl, rfl, rfl, trivial⟩
     refine loop_g (fun (m_ : Nat) a_ w_ => ∃ (k : Int), m_ = ((g.ow.length : Int) - k).toNat ∧ (Frm 101 a_ [(5, .int .i64 (k)), (4, .int .i64 (((g.ow.length : Nat) : Int))), (1, .pointer (some ⟨w.heap.size, 0, none⟩))]) ∧ (Ext w w_) ∧ (RdG w_ 0 w.heap.size Ag0 Ag1 Ag2 cg0 cg1 cg2 g) ∧ (Bx w_ (w.heap.size) [.slice Ag0 g.ow.length cg0, .slice Ag1 g.pr.length cg1, .slice Ag2 g.mv.length cg2] 25) ∧ (0 ≤ k) ∧ (k ≤ (g.ow.length : Int)) ∧ (∀ j : Nat, (j : Int) < k → g.err j = 0)) _ ⟨0, rfl, f56, e7, r8, bx9, (by omega), (by omega), (fun j hj => by omega)⟩ ?_
     clear f56 f54
     clear r8
     clear bx9
     clear e7
     intro m_ act57 w58 ⟨k, hm60, f61, e59, r62, bx63, i64, i65, hp⟩
     have szw58 := e59.size
     have := bx63.lt
     refine wp_seq ?_
     refine wp_seq ?_
     refine At.start ?_
     refine At.rd f61 3 [[], [], []] [(32, .bool (decide ((k : Int) < ((g.ow.length : Nat) : Int)))), (31, .int .i64 (((g.ow.length : Nat) : Int))), (30, .int .i64 (k))] [] (by kernel_rfl) trivial (fun act67 f66 => ?_)
     clear f61
     refine At.done rfl ?_
     refine t_n ?_
     have f68 := f66.sub (r := [(32, .bool (decide ((k : Int) < ((g.ow.length : Nat) : Int)))), (5, .int .i64 (k)), (4, .int .i64 (((g.ow.length : Nat) : Int))), (1, .pointer (some ⟨w.heap.size, 0, none⟩))]) ⟨rfl, rfl, rfl, rfl, trivial⟩
     clear f66
     refine cond_S f68 (t := decide ((k : Int) < ((g.ow.length : Nat) : Int))) rfl (fun h69 => ?_) (fun h69 => ?_)
     ·have q70 := of_decide_eq_true h69
      refine wp_skip ?_
      refine t_n ?_
      have f71 := f68.sub (r := [(5, .int .i64 (k)), (4, .int .i64 (((g.ow.length : Nat) : Int))), (1, .pointer (some ⟨w.heap.size, 0, none⟩))]) ⟨rfl, rfl, rfl, trivial⟩
      clear f68
      refine wp_seq ?_
      refine wp_block ?_
      refine wp_seq (cut (fun a_ w_ => (Frm 101 a_ [(5, .int .i64 (k)), (4, .int .i64 (((g.ow.length : Nat) : Int))), (1, .pointer (some ⟨w.heap.size, 0, none⟩))]) ∧ (Ext w w_) ∧ (RdG w_ 0 w.heap.size Ag0 Ag1 Ag2 cg0 cg1 cg2 g) ∧ (Bx w_ (w.heap.size) [.slice Ag0 g.ow.length cg0, .slice Ag1 g.pr.length cg1, .slice Ag2 g.mv.length cg2] 25) ∧ (gI g.ow k = 0 ∨ gI g.ow k = 1) ∧ (w58.heap.size ≤ w_.heap.size)) ?_ ?_)
      ·refine wp_seq ?_
       refine At.start ?_
       obtain ⟨ad72, hA73, _, _, hc74⟩ := RdI.get r62.ow (k) (by omega) (by omega)
       rcases Bool.eq_false_or_eq_true ((gI g.ow (k) : Int) != 0) with h75 | h75
       ·have q76 := bne_iff_ne.1 h75
        obtain ⟨ad77, hA78, _, _, hc79⟩ := RdI.get r62.ow (k) (by omega) (by omega)
        refine At.rd f71 14 [[], [.ld (.slice Ag0 g.ow.length cg0)], [], [.ad ad72], [.ld (.int .i64 (gI g.ow (k)))], [], [.as_ (.bool true)], [], [.ld (.slice Ag0 g.ow.length cg0)], [], [.ad ad77], [.ld (.int .i64 (gI g.ow (k)))], [], []] [(48, .bool ((gI g.ow (k) : Int) != 1)), (47, .bool ((gI g.ow (k) : Int) != 1)), (46, .int .i64 (gI g.ow (k))), (45, .pointer (some (ad77.add ((k : Int).toNat * 1)))), (44, .int .i64 (k)), (43, .slice Ag0 g.ow.length cg0), (42, .pointer (some ⟨w.heap.size, 0, none⟩)), (41, .bool true), (40, .bool ((gI g.ow (k) : Int) != 0)), (39, .int .i64 (gI g.ow (k))), (38, .pointer (some (ad72.add ((k : Int).toNat * 1)))), (37, .int .i64 (k)), (36, .slice Ag0 g.ow.length cg0), (35, .pointer (some ⟨w.heap.size, 0, none⟩))] [(w58.cell? ⟨w.heap.size, 0, none⟩ = some (.slice Ag0 g.ow.length cg0)), (Ag0 = some ad72), (0 ≤ (k : Int)), ((k : Int) < (g.ow.length : Nat)), (w58.cell? (ad72.add ((k : Int).toNat * 1)) = some (.int .i64 (gI g.ow (k)))), ((.bool ((gI g.ow (k) : Int) != 0) : Value) = .bool true), (w58.cell? ⟨w.heap.size, 0, none⟩ = some (.slice Ag0 g.ow.length cg0)), (Ag0 = some ad77), (0 ≤ (k : Int)), ((k : Int) < (g.ow.length : Nat)), (w58.cell? (ad77.add ((k : Int).toNat * 1)) = some (.int .i64 (gI g.ow (k))))] (by kernel_rfl) ⟨(bx63.cell (i := 0) rfl), hA73, (by omega), (by omega), hc74, (congrArg Value.bool h75), (bx63.cell (i := 0) rfl), hA78, (by omega), (by omega), hc79, trivial⟩ (fun act81 f80 => ?_)
        clear f71
        refine At.done rfl ?_
        refine t_n ?_
        have f82 := f80.sub (r := [(48, .bool ((gI g.ow (k) : Int) != 1)), (47, .bool ((gI g.ow (k) : Int) != 1)), (46, .int .i64 (gI g.ow (k))), (45, .pointer (some (ad77.add ((k : Int).toNat * 1)))), (44, .int .i64 (k)), (43, .slice Ag0 g.ow.length cg0), (42, .pointer (some ⟨w.heap.size, 0, none⟩)), (5, .int .i64 (k)), (4, .int .i64 (((g.ow.length : Nat) : Int))), (1, .pointer (some ⟨w.heap.size, 0, none⟩))]) ⟨rfl, rfl, rfl, rfl, rfl, rfl, rfl, rfl, rfl, rfl, trivial⟩
        clear f80
        refine cond_S f82 (t := (gI g.ow (k) : Int) != 1) rfl (fun h83 => ?_) (fun h83 => ?_)
        ·have q84 := bne_iff_ne.1 h83
         refine wp_seq ?_
         refine At.start ?_
         refine At.rd f82 3 [[], [], []] [(3, .int .i64 (14)), (2, .int .i64 (k)), (49, .int .i64 (k))] [] (by kernel_rfl) trivial (fun act86 f85 => ?_)
         clear f82
         refine At.done rfl ?_
         refine t_n ?_
         have f87 := f85.sub (r := [(3, .int .i64 (14)), (2, .int .i64 (k))]) ⟨rfl, rfl, trivial⟩
         clear f85
         refine wp_ret ?_
         refine t_r ?_
         refine b_r ?_
         refine t_r ?_
         refine t_r ?_
         refine b_r ?_
         refine t_r ?_
         refine ret_ f87 [] [.int .i64 (k), .int .i64 (14)] [] (by kernel_rfl) trivial ?_
         exact ⟨ret2_ii (right_at' (by omega) (by omega) (by omega) (by omega) (by assumption) (err_14 (by omega) (by omega)) (by decide)) rfl rfl, e59⟩
        ·have q88 := bne_eq_false_iff_eq.1 h83
         refine wp_skip ?_
         refine t_n ?_
         have f89 := f82.sub (r := [(5, .int .i64 (k)), (4, .int .i64 (((g.ow.length : Nat) : Int))), (1, .pointer (some ⟨w.heap.size, 0, none⟩))]) ⟨rfl, rfl, rfl, trivial⟩
         exact ⟨f89, e59, r62, bx63, (by omega), (by omega)⟩
       ·have q90 := bne_eq_false_iff_eq.1 h75
        refine At.rd f71 14 [[], [.ld (.slice Ag0 g.ow.length cg0)], [], [.ad ad72], [.ld (.int .i64 (gI g.ow (k)))], [], [.as_ (.bool false)], [], [], [], [], [], [], []] [(48, .bool false), (47, undef), (46, undef), (45, undef), (44, undef), (43, undef), (42, undef), (41, .bool false), (40, .bool ((gI g.ow (k) : Int) != 0)), (39, .int .i64 (gI g.ow (k))), (38, .pointer (some (ad72.add ((k : Int).toNat * 1)))), (37, .int .i64 (k)), (36, .slice Ag0 g.ow.length cg0), (35, .pointer (some ⟨w.heap.size, 0, none⟩))] [(w58.cell? ⟨w.heap.size, 0, none⟩ = some (.slice Ag0 g.ow.length cg0)), (Ag0 = some ad72), (0 ≤ (k : Int)), ((k : Int) < (g.ow.length : Nat)), (w58.cell? (ad72.add ((k : Int).toNat * 1)) = some (.int .i64 (gI g.ow (k)))), ((.bool ((gI g.ow (k) : Int) != 0) : Value) = .bool false)] (by kernel_rfl) ⟨(bx63.cell (i := 0) rfl), hA73, (by omega), (by omega), hc74, (congrArg Value.bool h75), trivial⟩ (fun act92 f91 => ?_)
        clear f71
        refine At.done rfl ?_
        refine t_n ?_
        have f93 := f91.sub (r := [(48, .bool false), (5, .int .i64 (k)), (4, .int .i64 (((g.ow.length : Nat) : Int))), (1, .pointer (some ⟨w.heap.size, 0, none⟩))]) ⟨rfl, rfl, rfl, rfl, trivial⟩
        clear f91
        refine cond_F f93 rfl ?_
        refine wp_skip ?_
        refine t_n ?_
        have f94 := f93.sub (r := [(5, .int .i64 (k)), (4, .int .i64 (((g.ow.length : Nat) : Int))), (1, .pointer (some ⟨w.heap.size, 0, none⟩))]) ⟨rfl, rfl, rfl, trivial⟩
        exact ⟨f94, e59, r62, bx63, (by omega), (by omega)⟩
      ·clear r62
       clear bx63
       clear f71 e59
       intro act95 w96 ⟨f97, e98, r99, bx100, i101, i102⟩
       have szw96 := e98.size
       have := bx100.lt
       refine wp_seq ?_
       refine wp_seq ?_
       refine At.start ?_
       obtain ⟨ad103, hA104, _, _, hc105⟩ := RdI.get r99.pr (k) (by omega) (by omega)
       rcases Bool.eq_false_or_eq_true (decide ((gI g.pr (k) : Int) < 0)) with h106 | h106
       ·have q107 := of_decide_eq_true h106
        refine At.rd f97 14 [[], [.ld (.slice Ag1 g.pr.length cg1)], [], [.ad ad103], [.ld (.int .i64 (gI g.pr (k)))], [], [.as_ (.bool true)], [], [], [], [], [], [], []] [(63, .bool true), (62, undef), (61, undef), (60, undef), (59, undef), (58, undef), (57, undef), (56, .bool true), (55, .bool (decide ((gI g.pr (k) : Int) < 0))), (54, .int .i64 (gI g.pr (k))), (53, .pointer (some (ad103.add ((k : Int).toNat * 1)))), (52, .int .i64 (k)), (51, .slice Ag1 g.pr.length cg1), (50, .pointer (some ⟨w.heap.size, 1, none⟩))] [(w96.cell? ⟨w.heap.size, 1, none⟩ = some (.slice Ag1 g.pr.length cg1)), (Ag1 = some ad103), (0 ≤ (k : Int)), ((k : Int) < (g.pr.length : Nat)), (w96.cell? (ad103.add ((k : Int).toNat * 1)) = some (.int .i64 (gI g.pr (k)))), ((.bool (decide ((gI g.pr (k) : Int) < 0)) : Value) = .bool true)] (by kernel_rfl) ⟨(bx100.cell (i := 1) rfl), hA104, (by omega), (by omega), hc105, (congrArg Value.bool h106), trivial⟩ (fun act109 f108 => ?_)
        clear f97
        refine At.done rfl ?_
        refine t_n ?_
        have f110 := f108.sub (r := [(63, .bool true), (5, .int .i64 (k)), (4, .int .i64 (((g.ow.length : Nat) : Int))), (1, .pointer (some ⟨w.heap.size, 0, none⟩))]) ⟨rfl, rfl, rfl, rfl, trivial⟩
        clear f108
        refine cond_T f110 rfl ?_
        refine wp_seq ?_
        refine At.start ?_
        refine At.rd f110 3 [[], [], []] [(3, .int .i64 (15)), (2, .int .i64 (k)), (64, .int .i64 (k))] [] (by kernel_rfl) trivial (fun act112 f111 => ?_)
        clear f110
        refine At.done rfl ?_
        refine t_n ?_
        have f113 := f111.sub (r := [(3, .int .i64 (15)), (2, .int .i64 (k))]) ⟨rfl, rfl, trivial⟩
        clear f111
        refine wp_ret ?_
        refine t_r ?_
        refine b_r ?_
        refine t_r ?_
        refine t_r ?_
        refine b_r ?_
        refine t_r ?_
        refine ret_ f113 [] [.int .i64 (k), .int .i64 (15)] [] (by kernel_rfl) trivial ?_
        exact ⟨ret2_ii (right_at' (by omega) (by omega) (by omega) (by omega) (by assumption) (err_15 (by omega) (by omega)) (by decide)) rfl rfl, e98⟩
       ·have q114 := of_decide_eq_false h106
        obtain ⟨ad115, hA116, _, _, hc117⟩ := RdI.get r99.pr (k) (by omega) (by omega)
        refine At.rd f97 14 [[], [.ld (.slice Ag1 g.pr.length cg1)], [], [.ad ad103], [.ld (.int .i64 (gI g.pr (k)))], [], [.as_ (.bool false)], [], [.ld (.slice Ag1 g.pr.length cg1)], [], [.ad ad115], [.ld (.int .i64 (gI g.pr (k)))], [], []] [(63, .bool (decide ((gI g.pr (k) : Int) > 7))), (62, .bool (decide ((gI g.pr (k) : Int) > 7))), (61, .int .i64 (gI g.pr (k))), (60, .pointer (some (ad115.add ((k : Int).toNat * 1)))), (59, .int .i64 (k)), (58, .slice Ag1 g.pr.length cg1), (57, .pointer (some ⟨w.heap.size, 1, none⟩)), (56, .bool false), (55, .bool (decide ((gI g.pr (k) : Int) < 0))), (54, .int .i64 (gI g.pr (k))), (53, .pointer (some (ad103.add ((k : Int).toNat * 1)))), (52, .int .i64 (k)), (51, .slice Ag1 g.pr.length cg1), (50, .pointer (some ⟨w.heap.size, 1, none⟩))] [(w96.cell? ⟨w.heap.size, 1, none⟩ = some (.slice Ag1 g.pr.length cg1)), (Ag1 = some ad103), (0 ≤ (k : Int)), ((k : Int) < (g.pr.length : Nat)), (w96.cell? (ad103.add ((k : Int).toNat * 1)) = some (.int .i64 (gI g.pr (k)))), ((.bool (decide ((gI g.pr (k) : Int) < 0)) : Value) = .bool false), (w96.cell? ⟨w.heap.size, 1, none⟩ = some (.slice Ag1 g.pr.length cg1)), (Ag1 = some ad115), (0 ≤ (k : Int)), ((k : Int) < (g.pr.length : Nat)), (w96.cell? (ad115.add ((k : Int).toNat * 1)) = some (.int .i64 (gI g.pr (k))))] (by kernel_rfl) ⟨(bx100.cell (i := 1) rfl), hA104, (by omega), (by omega), hc105, (congrArg Value.bool h106), (bx100.cell (i := 1) rfl), hA116, (by omega), (by omega), hc117, trivial⟩ (fun act119 f118 => ?_)
        clear f97
        refine At.done rfl ?_
        refine t_n ?_
        have f120 := f118.sub (r := [(63, .bool (decide ((gI g.pr (k) : Int) > 7))), (62, .bool (decide ((gI g.pr (k) : Int) > 7))), (61, .int .i64 (gI g.pr (k))), (60, .pointer (some (ad115.add ((k : Int).toNat * 1)))), (59, .int .i64 (k)), (58, .slice Ag1 g.pr.length cg1), (57, .pointer (some ⟨w.heap.size, 1, none⟩)), (5, .int .i64 (k)), (4, .int .i64 (((g.ow.length : Nat) : Int))), (1, .pointer (some ⟨w.heap.size, 0, none⟩))]) ⟨rfl, rfl, rfl, rfl, rfl, rfl, rfl, rfl, rfl, rfl, trivial⟩
        clear f118
        refine cond_S f120 (t := decide ((gI g.pr (k) : Int) > 7)) rfl (fun h121 => ?_) (fun h121 => ?_)
        ·have q122 := of_decide_eq_true h121
         refine wp_seq ?_
         refine At.start ?_
         refine At.rd f120 3 [[], [], []] [(3, .int .i64 (15)), (2, .int .i64 (k)), (64, .int .i64 (k))] [] (by kernel_rfl) trivial (fun act124 f123 => ?_)
         clear f120
         refine At.done rfl ?_
         refine t_n ?_
         have f125 := f123.sub (r := [(3, .int .i64 (15)), (2, .int .i64 (k))]) ⟨rfl, rfl, trivial⟩
         clear f123
         refine wp_ret ?_
         refine t_r ?_
         refine b_r ?_
         refine t_r ?_
         refine t_r ?_
         refine b_r ?_
         refine t_r ?_
         refine ret_ f125 [] [.int .i64 (k), .int .i64 (15)] [] (by kernel_rfl) trivial ?_
         exact ⟨ret2_ii (right_at' (by omega) (by omega) (by omega) (by omega) (by assumption) (err_15 (by omega) (by omega)) (by decide)) rfl rfl, e98⟩
        ·have q126 := of_decide_eq_false h121
         refine wp_skip ?_
         refine t_n ?_
         have f127 := f120.sub (r := [(62, .bool (decide ((gI g.pr (k) : Int) > 7))), (61, .int .i64 (gI g.pr (k))), (60, .pointer (some (ad115.add ((k : Int).toNat * 1)))), (59, .int .i64 (k)), (58, .slice Ag1 g.pr.length cg1), (57, .pointer (some ⟨w.heap.size, 1, none⟩)), (5, .int .i64 (k)), (4, .int .i64 (((g.ow.length : Nat) : Int))), (1, .pointer (some ⟨w.heap.size, 0, none⟩))]) ⟨rfl, rfl, rfl, rfl, rfl, rfl, rfl, rfl, rfl, trivial⟩
         clear f120
         refine wp_seq ?_
         refine wp_seq ?_
         refine At.start ?_
         obtain ⟨ad128, R131, C132, hA129, _, _, hc130, hC133, r134⟩ := RdII.get r99.mv (k) (by omega) (by omega)
         have hl135 := r134.len
         refine At.rd f127 7 [[], [.ld (.slice Ag2 g.mv.length cg2)], [], [.ad ad128], [.ld (.slice R131 ((gL g.mv (k)).length) C132)], [], []] [(71, .bool (((((gL g.mv (k)).length : Nat) : Int) : Int) == 0)), (70, .int .i64 ((((gL g.mv (k)).length : Nat) : Int))), (69, .slice R131 ((gL g.mv (k)).length) C132), (68, .pointer (some (ad128.add ((k : Int).toNat * 1)))), (67, .int .i64 (k)), (66, .slice Ag2 g.mv.length cg2), (65, .pointer (some ⟨w.heap.size, 2, none⟩))] [(w96.cell? ⟨w.heap.size, 2, none⟩ = some (.slice Ag2 g.mv.length cg2)), (Ag2 = some ad128), (0 ≤ (k : Int)), ((k : Int) < (g.mv.length : Nat)), (w96.cell? (ad128.add ((k : Int).toNat * 1)) = some (.slice R131 ((gL g.mv (k)).length) C132))] (by kernel_rfl) ⟨(bx100.cell (i := 2) rfl), hA129, (by omega), (by omega), hc130, trivial⟩ (fun act138 f137 => ?_)
         clear f127
         refine At.done rfl ?_
         refine t_n ?_
         have f139 := f137.sub (r := [(71, .bool (((((gL g.mv (k)).length : Nat) : Int) : Int) == 0)), (62, .bool (decide ((gI g.pr (k) : Int) > 7))), (61, .int .i64 (gI g.pr (k))), (60, .pointer (some (ad115.add ((k : Int).toNat * 1)))), (59, .int .i64 (k)), (58, .slice Ag1 g.pr.length cg1), (57, .pointer (some ⟨w.heap.size, 1, none⟩)), (5, .int .i64 (k)), (4, .int .i64 (((g.ow.length : Nat) : Int))), (1, .pointer (some ⟨w.heap.size, 0, none⟩))]) ⟨rfl, rfl, rfl, rfl, rfl, rfl, rfl, rfl, rfl, rfl, trivial⟩
         clear f137
         refine cond_S f139 (t := ((((gL g.mv (k)).length : Nat) : Int) : Int) == 0) rfl (fun h140 => ?_) (fun h140 => ?_)
         ·have q141 := eq_of_beq h140
          refine wp_seq ?_
          refine At.start ?_
          refine At.rd f139 3 [[], [], []] [(3, .int .i64 (17)), (2, .int .i64 (k)), (72, .int .i64 (k))] [] (by kernel_rfl) trivial (fun act143 f142 => ?_)
          clear f139
          refine At.done rfl ?_
          refine t_n ?_
          have f144 := f142.sub (r := [(3, .int .i64 (17)), (2, .int .i64 (k))]) ⟨rfl, rfl, trivial⟩
          clear f142
          refine wp_ret ?_
          refine t_r ?_
          refine b_r ?_
          refine t_r ?_
          refine t_r ?_
          refine b_r ?_
          refine t_r ?_
          refine ret_ f144 [] [.int .i64 (k), .int .i64 (17)] [] (by kernel_rfl) trivial ?_
          exact ⟨ret2_ii (right_at' (by omega) (by omega) (by omega) (by omega) (by assumption) (err_17 (by omega) (by omega) (by omega)) (by decide)) rfl rfl, e98⟩
         ·have q145 := ne_of_beq_false h140
          refine wp_skip ?_
          refine t_n ?_
          have f146 := f139.sub (r := [(62, .bool (decide ((gI g.pr (k) : Int) > 7))), (61, .int .i64 (gI g.pr (k))), (60, .pointer (some (ad115.add ((k : Int).toNat * 1)))), (59, .int .i64 (k)), (58, .slice Ag1 g.pr.length cg1), (57, .pointer (some ⟨w.heap.size, 1, none⟩)), (5, .int .i64 (k)), (4, .int .i64 (((g.ow.length : Nat) : Int))), (1, .pointer (some ⟨w.heap.size, 0, none⟩))]) ⟨rfl, rfl, rfl, rfl, rfl, rfl, rfl, rfl, rfl, trivial⟩
          clear f139
          refine wp_seq ?_
          refine At.start ?_
          refine At.rd f146 1 [[]] [(6, .int .i64 (-1))] [] (by kernel_rfl) trivial (fun act148 f147 => ?_)
          clear f146
          refine At.done rfl ?_
          refine t_n ?_
          refine wp_seq ?_
          refine At.start ?_
          refine At.rd f147 1 [[]] [(7, .int .i64 (0))] [] (by kernel_rfl) trivial (fun act150 f149 => ?_)
          clear f147
          refine At.done rfl ?_
          refine t_n ?_
          refine wp_block ?_
          have f152 := f149.as 6 (.int .i64 (-1)) (.int .i64 (lastOf (gL g.mv k) (0 : Int).toNat)) rfl (congrArg (Value.int .i64) (last_0.symm))
          clear f149
          have f151 := f152.sub (r := [(7, .int .i64 (0)), (6, .int .i64 (lastOf (gL g.mv k) (0 : Int).toNat)), (62, .bool (decide ((gI g.pr (k) : Int) > 7))), (61, .int .i64 (gI g.pr (k))), (60, .pointer (some (ad115.add ((k : Int).toNat * 1)))), (59, .int .i64 (k)), (58, .slice Ag1 g.pr.length cg1), (57, .pointer (some ⟨w.heap.size, 1, none⟩)), (5, .int .i64 (k)), (4, .int .i64 (((g.ow.length : Nat) : Int))), (1, .pointer (some ⟨w.heap.size, 0, none⟩))]) ⟨rfl, rfl, rfl, rfl, rfl, rfl, rfl, rfl, rfl, rfl, rfl, trivial⟩
          refine loop_g (fun (m_ : Nat) a_ w_ => ∃ (q : Int), m_ = (((gL g.mv k).length : Int) - q).toNat ∧ (Frm 101 a_ [(7, .int .i64 (q)), (6, .int .i64 (lastOf (gL g.mv k) q.toNat)), (62, .bool (decide ((gI g.pr (k) : Int) > 7))), (61, .int .i64 (gI g.pr (k))), (60, .pointer (some (ad115.add ((k : Int).toNat * 1)))), (59, .int .i64 (k)), (58, .slice Ag1 g.pr.length cg1), (57, .pointer (some ⟨w.heap.size, 1, none⟩)), (5, .int .i64 (k)), (4, .int .i64 (((g.ow.length : Nat) : Int))), (1, .pointer (some ⟨w.heap.size, 0, none⟩))]) ∧ (Ext w w_) ∧ (RdG w_ 0 w.heap.size Ag0 Ag1 Ag2 cg0 cg1 cg2 g) ∧ (Bx w_ (w.heap.size) [.slice Ag0 g.ow.length cg0, .slice Ag1 g.pr.length cg1, .slice Ag2 g.mv.length cg2] 25) ∧ (0 ≤ q) ∧ (q ≤ ((gL g.mv k).length : Int)) ∧ (rowBad g.ow.length (-1) ((gL g.mv k).take q.toNat) = false)) _ ⟨0, rfl, f151, e98, r99, bx100, (by omega), (by omega), rfl⟩ ?_
          clear f151 f152
          clear r99
          clear bx100
          clear e98
          intro m_ act153 w154 ⟨q, hm156, f157, e155, r158, bx159, i160, i161, i162⟩
          have szw154 := e155.size
          have := bx159.lt
          refine wp_seq ?_
          refine wp_seq ?_
          refine At.start ?_
          obtain ⟨ad163, R166, C167, hA164, _, _, hc165, hC168, r169⟩ := RdII.get r158.mv (k) (by omega) (by omega)
          have hl170 := r169.len
          refine At.rd f157 8 [[], [], [.ld (.slice Ag2 g.mv.length cg2)], [], [.ad ad163], [.ld (.slice R166 ((gL g.mv (k)).length) C167)], [], []] [(80, .bool (decide ((q : Int) < (((gL g.mv (k)).length : Nat) : Int)))), (79, .int .i64 ((((gL g.mv (k)).length : Nat) : Int))), (78, .slice R166 ((gL g.mv (k)).length) C167), (77, .pointer (some (ad163.add ((k : Int).toNat * 1)))), (76, .int .i64 (k)), (75, .slice Ag2 g.mv.length cg2), (74, .pointer (some ⟨w.heap.size, 2, none⟩)), (73, .int .i64 (q))] [(w154.cell? ⟨w.heap.size, 2, none⟩ = some (.slice Ag2 g.mv.length cg2)), (Ag2 = some ad163), (0 ≤ (k : Int)), ((k : Int) < (g.mv.length : Nat)), (w154.cell? (ad163.add ((k : Int).toNat * 1)) = some (.slice R166 ((gL g.mv (k)).length) C167))] (by kernel_rfl) ⟨(bx159.cell (i := 2) rfl), hA164, (by omega), (by omega), hc165, trivial⟩ (fun act173 f172 => ?_)
          clear f157
          refine At.done rfl ?_
          refine t_n ?_
          have f174 := f172.sub (r := [(80, .bool (decide ((q : Int) < (((gL g.mv (k)).length : Nat) : Int)))), (7, .int .i64 (q)), (6, .int .i64 (lastOf (gL g.mv k) q.toNat)), (62, .bool (decide ((gI g.pr (k) : Int) > 7))), (61, .int .i64 (gI g.pr (k))), (60, .pointer (some (ad115.add ((k : Int).toNat * 1)))), (59, .int .i64 (k)), (58, .slice Ag1 g.pr.length cg1), (57, .pointer (some ⟨w.heap.size, 1, none⟩)), (5, .int .i64 (k)), (4, .int .i64 (((g.ow.length : Nat) : Int))), (1, .pointer (some ⟨w.heap.size, 0, none⟩))]) ⟨rfl, rfl, rfl, rfl, rfl, rfl, rfl, rfl, rfl, rfl, rfl, rfl, trivial⟩
          clear f172
          refine cond_S f174 (t := decide ((q : Int) < (((gL g.mv (k)).length : Nat) : Int))) rfl (fun h175 => ?_) (fun h175 => ?_)
          ·have q176 := of_decide_eq_true h175
           refine wp_skip ?_
           refine t_n ?_
           have f177 := f174.sub (r := [(7, .int .i64 (q)), (6, .int .i64 (lastOf (gL g.mv k) q.toNat)), (62, .bool (decide ((gI g.pr (k) : Int) > 7))), (61, .int .i64 (gI g.pr (k))), (60, .pointer (some (ad115.add ((k : Int).toNat * 1)))), (59, .int .i64 (k)), (58, .slice Ag1 g.pr.length cg1), (57, .pointer (some ⟨w.heap.size, 1, none⟩)), (5, .int .i64 (k)), (4, .int .i64 (((g.ow.length : Nat) : Int))), (1, .pointer (some ⟨w.heap.size, 0, none⟩))]) ⟨rfl, rfl, rfl, rfl, rfl, rfl, rfl, rfl, rfl, rfl, rfl, trivial⟩
           clear f174
           refine wp_seq ?_
           refine wp_block ?_
           refine wp_seq ?_
           refine At.start ?_
           obtain ⟨ad178, R181, C182, hA179, _, _, hc180, hC183, r184⟩ := RdII.get r158.mv (k) (by omega) (by omega)
           have hl185 := r184.len
           obtain ⟨ad187, hA188, _, _, hc189⟩ := RdI.get r184 (q) (by omega) (by omega)
           refine At.rd f177 9 [[], [.ld (.slice Ag2 g.mv.length cg2)], [], [.ad ad178], [.ld (.slice R181 ((gL g.mv (k)).length) C182)], [], [.ad ad187], [.ld (.int .i64 (gI (gL g.mv (k)) (q)))], []] [(8, .int .i64 (gI (gL g.mv (k)) (q))), (90, .int .i64 (gI (gL g.mv (k)) (q))), (89, .pointer (some (ad187.add ((q : Int).toNat * 1)))), (88, .int .i64 (q)), (87, .slice R181 ((gL g.mv (k)).length) C182), (86, .pointer (some (ad178.add ((k : Int).toNat * 1)))), (85, .int .i64 (k)), (84, .slice Ag2 g.mv.length cg2), (83, .pointer (some ⟨w.heap.size, 2, none⟩))] [(w154.cell? ⟨w.heap.size, 2, none⟩ = some (.slice Ag2 g.mv.length cg2)), (Ag2 = some ad178), (0 ≤ (k : Int)), ((k : Int) < (g.mv.length : Nat)), (w154.cell? (ad178.add ((k : Int).toNat * 1)) = some (.slice R181 ((gL g.mv (k)).length) C182)), (R181 = some ad187), (0 ≤ (q : Int)), ((q : Int) < ((gL g.mv (k)).length : Nat)), (w154.cell? (ad187.add ((q : Int).toNat * 1)) = some (.int .i64 (gI (gL g.mv (k)) (q))))] (by kernel_rfl) ⟨(bx159.cell (i := 2) rfl), hA179, (by omega), (by omega), hc180, hA188, (by omega), (by omega), hc189, trivial⟩ (fun act191 f190 => ?_)
           clear f177
           refine At.done rfl ?_
           refine t_n ?_
           have f192 := f190.sub (r := [(8, .int .i64 (gI (gL g.mv (k)) (q))), (7, .int .i64 (q)), (6, .int .i64 (lastOf (gL g.mv k) q.toNat)), (62, .bool (decide ((gI g.pr (k) : Int) > 7))), (61, .int .i64 (gI g.pr (k))), (60, .pointer (some (ad115.add ((k : Int).toNat * 1)))), (59, .int .i64 (k)), (58, .slice Ag1 g.pr.length cg1), (57, .pointer (some ⟨w.heap.size, 1, none⟩)), (5, .int .i64 (k)), (4, .int .i64 (((g.ow.length : Nat) : Int))), (1, .pointer (some ⟨w.heap.size, 0, none⟩))]) ⟨rfl, rfl, rfl, rfl, rfl, rfl, rfl, rfl, rfl, rfl, rfl, rfl, trivial⟩
           clear f190
           refine wp_seq ?_
           refine wp_seq ?_
           refine At.start ?_
           rcases Bool.eq_false_or_eq_true (decide ((gI (gL g.mv (k)) (q) : Int) ≤ (lastOf (gL g.mv k) q.toNat))) with h193 | h193
           ·have q194 := of_decide_eq_true h193
            refine At.rd f192 8 [[], [], [], [.as_ (.bool true)], [], [], [], []] [(98, .bool true), (97, undef), (96, undef), (95, undef), (94, .bool true), (93, .bool (decide ((gI (gL g.mv (k)) (q) : Int) ≤ (lastOf (gL g.mv k) q.toNat)))), (92, .int .i64 (lastOf (gL g.mv k) q.toNat)), (91, .int .i64 (gI (gL g.mv (k)) (q)))] [((.bool (decide ((gI (gL g.mv (k)) (q) : Int) ≤ (lastOf (gL g.mv k) q.toNat))) : Value) = .bool true)] (by kernel_rfl) ⟨(congrArg Value.bool h193), trivial⟩ (fun act196 f195 => ?_)
            clear f192
            refine At.done rfl ?_
            refine t_n ?_
            have f197 := f195.sub (r := [(98, .bool true), (8, .int .i64 (gI (gL g.mv (k)) (q))), (7, .int .i64 (q)), (62, .bool (decide ((gI g.pr (k) : Int) > 7))), (61, .int .i64 (gI g.pr (k))), (60, .pointer (some (ad115.add ((k : Int).toNat * 1)))), (59, .int .i64 (k)), (58, .slice Ag1 g.pr.length cg1), (57, .pointer (some ⟨w.heap.size, 1, none⟩)), (5, .int .i64 (k)), (4, .int .i64 (((g.ow.length : Nat) : Int))), (1, .pointer (some ⟨w.heap.size, 0, none⟩))]) ⟨rfl, rfl, rfl, rfl, rfl, rfl, rfl, rfl, rfl, rfl, rfl, rfl, trivial⟩
            clear f195
            refine cond_T f197 rfl ?_
            refine wp_seq ?_
            refine At.start ?_
            refine At.rd f197 3 [[], [], []] [(3, .int .i64 (16)), (2, .int .i64 (k)), (99, .int .i64 (k))] [] (by kernel_rfl) trivial (fun act199 f198 => ?_)
            clear f197
            refine At.done rfl ?_
            refine t_n ?_
            have f200 := f198.sub (r := [(3, .int .i64 (16)), (2, .int .i64 (k))]) ⟨rfl, rfl, trivial⟩
            clear f198
            refine wp_ret ?_
            refine t_r ?_
            refine b_r ?_
            refine t_r ?_
            refine t_r ?_
            refine b_r ?_
            refine b_r ?_
            refine t_r ?_
            refine t_r ?_
            refine b_r ?_
            refine t_r ?_
            refine ret_ f200 [] [.int .i64 (k), .int .i64 (16)] [] (by kernel_rfl) trivial ?_
            exact ⟨ret2_ii (right_at' (by omega) (by omega) (by omega) (by omega) (by assumption) (err_16 (by omega) (by omega) (by omega) (bad_at (q := q) (by omega) (by omega) (by omega))) (by decide)) rfl rfl, e155⟩
           ·have q201 := of_decide_eq_false h193
            refine At.rd f192 8 [[], [], [], [.as_ (.bool false)], [], [], [], []] [(98, .bool (decide ((gI (gL g.mv (k)) (q) : Int) ≥ ((g.ow.length : Nat) : Int)))), (97, .bool (decide ((gI (gL g.mv (k)) (q) : Int) ≥ ((g.ow.length : Nat) : Int)))), (96, .int .i64 (((g.ow.length : Nat) : Int))), (95, .int .i64 (gI (gL g.mv (k)) (q))), (94, .bool false), (93, .bool (decide ((gI (gL g.mv (k)) (q) : Int) ≤ (lastOf (gL g.mv k) q.toNat)))), (92, .int .i64 (lastOf (gL g.mv k) q.toNat)), (91, .int .i64 (gI (gL g.mv (k)) (q)))] [((.bool (decide ((gI (gL g.mv (k)) (q) : Int) ≤ (lastOf (gL g.mv k) q.toNat))) : Value) = .bool false)] (by kernel_rfl) ⟨(congrArg Value.bool h193), trivial⟩ (fun act203 f202 => ?_)
            clear f192
            refine At.done rfl ?_
            refine t_n ?_
            have f204 := f202.sub (r := [(98, .bool (decide ((gI (gL g.mv (k)) (q) : Int) ≥ ((g.ow.length : Nat) : Int)))), (97, .bool (decide ((gI (gL g.mv (k)) (q) : Int) ≥ ((g.ow.length : Nat) : Int)))), (96, .int .i64 (((g.ow.length : Nat) : Int))), (95, .int .i64 (gI (gL g.mv (k)) (q))), (8, .int .i64 (gI (gL g.mv (k)) (q))), (7, .int .i64 (q)), (62, .bool (decide ((gI g.pr (k) : Int) > 7))), (61, .int .i64 (gI g.pr (k))), (60, .pointer (some (ad115.add ((k : Int).toNat * 1)))), (59, .int .i64 (k)), (58, .slice Ag1 g.pr.length cg1), (57, .pointer (some ⟨w.heap.size, 1, none⟩)), (5, .int .i64 (k)), (4, .int .i64 (((g.ow.length : Nat) : Int))), (1, .pointer (some ⟨w.heap.size, 0, none⟩))]) ⟨rfl, rfl, rfl, rfl, rfl, rfl, rfl, rfl, rfl, rfl, rfl, rfl, rfl, rfl, rfl, trivial⟩
            clear f202
            refine cond_S f204 (t := decide ((gI (gL g.mv (k)) (q) : Int) ≥ ((g.ow.length : Nat) : Int))) rfl (fun h205 => ?_) (fun h205 => ?_)
            ·have q206 := of_decide_eq_true h205
             refine wp_seq ?_
             refine At.start ?_
             refine At.rd f204 3 [[], [], []] [(3, .int .i64 (16)), (2, .int .i64 (k)), (99, .int .i64 (k))] [] (by kernel_rfl) trivial (fun act208 f207 => ?_)
             clear f204
             refine At.done rfl ?_
             refine t_n ?_
             have f209 := f207.sub (r := [(3, .int .i64 (16)), (2, .int .i64 (k))]) ⟨rfl, rfl, trivial⟩
             clear f207
             refine wp_ret ?_
             refine t_r ?_
             refine b_r ?_
             refine t_r ?_
             refine t_r ?_
             refine b_r ?_
             refine b_r ?_
             refine t_r ?_
             refine t_r ?_
             refine b_r ?_
             refine t_r ?_
             refine ret_ f209 [] [.int .i64 (k), .int .i64 (16)] [] (by kernel_rfl) trivial ?_
             exact ⟨ret2_ii (right_at' (by omega) (by omega) (by omega) (by omega) (by assumption) (err_16 (by omega) (by omega) (by omega) (bad_at (q := q) (by omega) (by omega) (by omega))) (by decide)) rfl rfl, e155⟩
            ·have q210 := of_decide_eq_false h205
             refine wp_skip ?_
             refine t_n ?_
             have f211 := f204.sub (r := [(97, .bool (decide ((gI (gL g.mv (k)) (q) : Int) ≥ ((g.ow.length : Nat) : Int)))), (96, .int .i64 (((g.ow.length : Nat) : Int))), (95, .int .i64 (gI (gL g.mv (k)) (q))), (8, .int .i64 (gI (gL g.mv (k)) (q))), (7, .int .i64 (q)), (62, .bool (decide ((gI g.pr (k) : Int) > 7))), (61, .int .i64 (gI g.pr (k))), (60, .pointer (some (ad115.add ((k : Int).toNat * 1)))), (59, .int .i64 (k)), (58, .slice Ag1 g.pr.length cg1), (57, .pointer (some ⟨w.heap.size, 1, none⟩)), (5, .int .i64 (k)), (4, .int .i64 (((g.ow.length : Nat) : Int))), (1, .pointer (some ⟨w.heap.size, 0, none⟩))]) ⟨rfl, rfl, rfl, rfl, rfl, rfl, rfl, rfl, rfl, rfl, rfl, rfl, rfl, rfl, trivial⟩
             clear f204
             refine At.start ?_
             refine At.rd f211 2 [[], []] [(6, .int .i64 (gI (gL g.mv (k)) (q))), (100, .int .i64 (gI (gL g.mv (k)) (q)))] [] (by kernel_rfl) trivial (fun act213 f212 => ?_)
             clear f211
             refine At.done rfl ?_
             refine b_n ?_
             refine t_n ?_
             have f214 := f212.sub (r := [(6, .int .i64 (gI (gL g.mv (k)) (q))), (97, .bool (decide ((gI (gL g.mv (k)) (q) : Int) ≥ ((g.ow.length : Nat) : Int)))), (96, .int .i64 (((g.ow.length : Nat) : Int))), (95, .int .i64 (gI (gL g.mv (k)) (q))), (7, .int .i64 (q)), (62, .bool (decide ((gI g.pr (k) : Int) > 7))), (61, .int .i64 (gI g.pr (k))), (60, .pointer (some (ad115.add ((k : Int).toNat * 1)))), (59, .int .i64 (k)), (58, .slice Ag1 g.pr.length cg1), (57, .pointer (some ⟨w.heap.size, 1, none⟩)), (5, .int .i64 (k)), (4, .int .i64 (((g.ow.length : Nat) : Int))), (1, .pointer (some ⟨w.heap.size, 0, none⟩))]) ⟨rfl, rfl, rfl, rfl, rfl, rfl, rfl, rfl, rfl, rfl, rfl, rfl, rfl, rfl, trivial⟩
             clear f212
             refine At.start ?_
             refine At.rd f214 3 [[], [.as_ (.int .i64 (q + 1))], []] [(7, .int .i64 (q + 1)), (82, .int .i64 (q + 1)), (81, .int .i64 (q))] [((.int .i64 (IntKind.i64.wrap (q + 1)) : Value) = .int .i64 (q + 1))] (by kernel_rfl) ⟨(w64 (by omega) (by omega)), trivial⟩ (fun act216 f215 => ?_)
             clear f214
             refine At.done rfl ?_
             refine t_n ?_
             have f217 := f215.as 6 (.int .i64 (gI (gL g.mv (k)) (q))) (.int .i64 (lastOf (gL g.mv k) ((q + 1) : Int).toNat)) rfl (congrArg (Value.int .i64) (last_next (by omega) (by omega)))
             clear f215
             have f218 := f217.sub (r := [(7, .int .i64 (q + 1)), (6, .int .i64 (lastOf (gL g.mv k) ((q + 1) : Int).toNat)), (62, .bool (decide ((gI g.pr (k) : Int) > 7))), (61, .int .i64 (gI g.pr (k))), (60, .pointer (some (ad115.add ((k : Int).toNat * 1)))), (59, .int .i64 (k)), (58, .slice Ag1 g.pr.length cg1), (57, .pointer (some ⟨w.heap.size, 1, none⟩)), (5, .int .i64 (k)), (4, .int .i64 (((g.ow.length : Nat) : Int))), (1, .pointer (some ⟨w.heap.size, 0, none⟩))]) ⟨rfl, rfl, rfl, rfl, rfl, rfl, rfl, rfl, rfl, rfl, rfl, trivial⟩
             exact ⟨_, (by omega), (q + 1), rfl, f218, e155, r158, bx159, (by omega), (by omega), (bad_next (by omega) (by omega) (by assumption) (by omega) (by omega))⟩
          ·have q219 := of_decide_eq_false h175
           refine wp_exit ?_
           refine t_e ?_
           refine t_e ?_
           refine b_e ?_
           refine b_n ?_
           refine t_n ?_
           have f220 := f174.sub (r := [(62, .bool (decide ((gI g.pr (k) : Int) > 7))), (61, .int .i64 (gI g.pr (k))), (60, .pointer (some (ad115.add ((k : Int).toNat * 1)))), (59, .int .i64 (k)), (58, .slice Ag1 g.pr.length cg1), (57, .pointer (some ⟨w.heap.size, 1, none⟩)), (5, .int .i64 (k)), (4, .int .i64 (((g.ow.length : Nat) : Int))), (1, .pointer (some ⟨w.heap.size, 0, none⟩))]) ⟨rfl, rfl, rfl, rfl, rfl, rfl, rfl, rfl, rfl, trivial⟩
           clear f174
           refine At.start ?_
           refine At.rd f220 3 [[], [.as_ (.int .i64 (k + 1))], []] [(5, .int .i64 (k + 1)), (34, .int .i64 (k + 1)), (33, .int .i64 (k))] [((.int .i64 (IntKind.i64.wrap (k + 1)) : Value) = .int .i64 (k + 1))] (by kernel_rfl) ⟨(w64 (by omega) (by omega)), trivial⟩ (fun act222 f221 => ?_)
           clear f220
           refine At.done rfl ?_
           refine t_n ?_
           have f223 := f221.sub (r := [(5, .int .i64 (k + 1)), (4, .int .i64 (((g.ow.length : Nat) : Int))), (1, .pointer (some ⟨w.heap.size, 0, none⟩))]) ⟨rfl, rfl, rfl, trivial⟩
           exact ⟨_, (by omega), (k + 1), rfl, f223, e155, r158, bx159, (by omega), (by omega), (err_next (by omega) hp (err_0 (by omega) (by omega) (by omega) (bad_all (by assumption) (by omega))))⟩
     ·have q224 := of_decide_eq_false h69
      refine wp_exit ?_
      refine t_e ?_
      refine t_e ?_
      refine b_e ?_
      refine t_n ?_
      have f225 := f68.sub (r := []) trivial
      clear f68
      refine wp_seq ?_
      refine At.start ?_
      refine At.rd f225 2 [[], []] [(3, .int .i64 (0)), (2, .int .i64 (0))] [] (by kernel_rfl) trivial (fun act227 f226 => ?_)
      clear f225
      refine At.done rfl ?_
      refine t_n ?_
      refine wp_ret ?_
      refine ret_ f226 [] [.int .i64 (0), .int .i64 (0)] [] (by kernel_rfl) trivial ?_
      exact ⟨ret2_ii (right_ok' (k := k) (by omega) (by omega) (by omega) (by assumption)) rfl rfl, e59⟩

end Go.Proofs.YtkpljmalbmcdfaaDoor
