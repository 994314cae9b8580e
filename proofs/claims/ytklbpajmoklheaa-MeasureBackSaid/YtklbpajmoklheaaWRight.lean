/-
  A walk of a Go function, printed by a program of this repo. Conditions: what the theorems name.
-/
import Derived.Test.YtklbpajmoklheaaPureGame
import Derived.Test.YtklbpajmoklheaaFz
set_option linter.unusedVariables false
set_option linter.unusedSimpArgs false
namespace Go.Proofs.Ytklbpajmoklheaa
open Go Go.RowKit

set_option maxHeartbeats 4000000 in
theorem rightR_any {Ag0 Ag1 Ag2 : Option Addr} {cg0 cg1 cg2 : Nat} {g : GameL} {w : World} (rg : RdG w 0 w.heap.size Ag0 Ag1 Ag2 cg0 cg1 cg2 g) :
    Calls Try.prog 49 #[.agg #[.slice Ag0 g.ow.length cg0, .slice Ag1 g.pr.length cg1, .slice Ag2 g.mv.length cg2]] w fun e w' => e = .returned (.tuple #[.int .i64 (rightP g).1, .int .i64 (rightP g).2]) ∧ Ext w w' := by
  have hlg0 := rg.ow.len
  have hlg1 := rg.pr.len
  have hlg2 := rg.mv.len
  have hkg0 := rg.k0
  have hkg1 := rg.k1
  have hkg2 := rg.k2
  refine enter_ (args := [.agg #[.slice Ag0 g.ow.length cg0, .slice Ag1 g.pr.length cg1, .slice Ag2 g.mv.length cg2]]) Try.func49 rfl Try.ntmps49 (Nat.le_of_ble_eq_true rfl) (fun act0 f0 => ?_)
  have e0 := Ext.refl w
  refine wp_seq ?_
  refine At.start ?_
  refine At.seq f0 1 [[]] [(1, .pointer (some ⟨w.heap.size, 0, none⟩))] (w.alloc (.cells #[.slice Ag0 g.ow.length cg0, .slice Ag1 g.pr.length cg1, .slice Ag2 g.mv.length cg2] 25 (0, 0))) [] (by kernel_rfl) trivial (fun act4 w1 hw2 f3 => ?_)
  clear f0
  have g5 := gr_alloc hw2
  have szw1 := g5.size
  have e7 := e0.gr g5 no_row
  clear e0
  have r8 := rg.gr g5 (fun _ h => by cases h)
  clear rg
  have bx9 : Bx w1 (w.heap.size) [.slice Ag0 g.ow.length cg0, .slice Ag1 g.pr.length cg1, .slice Ag2 g.mv.length cg2] 25 := Bx.new hw2
  have := bx9.lt
  clear g5 hw2
  refine At.rd f3 2 [[], []] [(3, .int .i64 (0)), (2, .int .i64 (0))] [] (by kernel_rfl) trivial (fun act11 f10 => ?_)
  clear f3
  refine At.done rfl ?_
  refine t_n ?_
  have f12 := f10.sub (r := [(3, .int .i64 (0)), (2, .int .i64 (0)), (1, .pointer (some ⟨w.heap.size, 0, none⟩))]) ⟨rfl, rfl, rfl, trivial⟩
  clear f10
  refine wp_seq ?_
  refine At.start ?_
  refine At.rd f12 4 [[], [.ld (.slice Ag0 g.ow.length cg0)], [], []] [(4, .int .i64 (((g.ow.length : Nat) : Int))), (11, .int .i64 (((g.ow.length : Nat) : Int))), (10, .slice Ag0 g.ow.length cg0), (9, .pointer (some ⟨w.heap.size, 0, none⟩))] [(w1.cell? ⟨w.heap.size, 0, none⟩ = some (.slice Ag0 g.ow.length cg0))] (by kernel_rfl) ⟨(bx9.cell (i := 0) rfl), trivial⟩ (fun act14 f13 => ?_)
  clear f12
  refine At.done rfl ?_
  refine t_n ?_
  have f15 := f13.sub (r := [(4, .int .i64 (((g.ow.length : Nat) : Int))), (3, .int .i64 (0)), (2, .int .i64 (0)), (1, .pointer (some ⟨w.heap.size, 0, none⟩))]) ⟨rfl, rfl, rfl, rfl, trivial⟩
  clear f13
  refine wp_seq ?_
  refine wp_seq ?_
  refine At.start ?_
  rcases Bool.eq_false_or_eq_true ((((g.pr.length : Nat) : Int) : Int) != ((g.ow.length : Nat) : Int)) with h16 | h16
  · have q17 := bne_iff_ne.1 h16
    refine At.rd f15 12 [[], [.ld (.slice Ag1 g.pr.length cg1)], [], [], [], [.as_ (.bool true)], [], [], [], [], [], []] [(23, .bool true), (22, undef), (21, undef), (20, undef), (19, undef), (18, undef), (17, .bool true), (16, .bool ((((g.pr.length : Nat) : Int) : Int) != ((g.ow.length : Nat) : Int))), (15, .int .i64 (((g.ow.length : Nat) : Int))), (14, .int .i64 (((g.pr.length : Nat) : Int))), (13, .slice Ag1 g.pr.length cg1), (12, .pointer (some ⟨w.heap.size, 1, none⟩))] [(w1.cell? ⟨w.heap.size, 1, none⟩ = some (.slice Ag1 g.pr.length cg1)), ((.bool ((((g.pr.length : Nat) : Int) : Int) != ((g.ow.length : Nat) : Int)) : Value) = .bool true)] (by kernel_rfl) ⟨(bx9.cell (i := 1) rfl), (congrArg Value.bool h16), trivial⟩ (fun act19 f18 => ?_)
    clear f15
    refine At.done rfl ?_
    refine t_n ?_
    have f20 := f18.sub (r := [(23, .bool true), (4, .int .i64 (((g.ow.length : Nat) : Int))), (3, .int .i64 (0)), (2, .int .i64 (0)), (1, .pointer (some ⟨w.heap.size, 0, none⟩))]) ⟨rfl, rfl, rfl, rfl, rfl, trivial⟩
    clear f18
    refine cond_T f20 rfl ?_
    refine wp_seq ?_
    refine At.start ?_
    refine At.rd f20 2 [[], []] [(3, .int .i64 (1)), (2, .int .i64 (0))] [] (by kernel_rfl) trivial (fun act22 f21 => ?_)
    clear f20
    refine At.done rfl ?_
    refine t_n ?_
    have f23 := f21.sub (r := [(3, .int .i64 (1)), (2, .int .i64 (0)), (4, .int .i64 (((g.ow.length : Nat) : Int))), (1, .pointer (some ⟨w.heap.size, 0, none⟩))]) ⟨rfl, rfl, rfl, rfl, trivial⟩
    clear f21
    refine wp_ret ?_
    refine t_r ?_
    refine ret_ f23 [] [.int .i64 (0), .int .i64 (1)] [] (by kernel_rfl) trivial ?_
    exact ⟨ret2_ii (right_lens (by omega)) rfl rfl, e7⟩
  · have q24 := bne_eq_false_iff_eq.1 h16
    refine At.rd f15 12 [[], [.ld (.slice Ag1 g.pr.length cg1)], [], [], [], [.as_ (.bool false)], [], [.ld (.slice Ag2 g.mv.length cg2)], [], [], [], []] [(23, .bool ((((g.mv.length : Nat) : Int) : Int) != ((g.ow.length : Nat) : Int))), (22, .bool ((((g.mv.length : Nat) : Int) : Int) != ((g.ow.length : Nat) : Int))), (21, .int .i64 (((g.ow.length : Nat) : Int))), (20, .int .i64 (((g.mv.length : Nat) : Int))), (19, .slice Ag2 g.mv.length cg2), (18, .pointer (some ⟨w.heap.size, 2, none⟩)), (17, .bool false), (16, .bool ((((g.pr.length : Nat) : Int) : Int) != ((g.ow.length : Nat) : Int))), (15, .int .i64 (((g.ow.length : Nat) : Int))), (14, .int .i64 (((g.pr.length : Nat) : Int))), (13, .slice Ag1 g.pr.length cg1), (12, .pointer (some ⟨w.heap.size, 1, none⟩))] [(w1.cell? ⟨w.heap.size, 1, none⟩ = some (.slice Ag1 g.pr.length cg1)), ((.bool ((((g.pr.length : Nat) : Int) : Int) != ((g.ow.length : Nat) : Int)) : Value) = .bool false), (w1.cell? ⟨w.heap.size, 2, none⟩ = some (.slice Ag2 g.mv.length cg2))] (by kernel_rfl) ⟨(bx9.cell (i := 1) rfl), (congrArg Value.bool h16), (bx9.cell (i := 2) rfl), trivial⟩ (fun act26 f25 => ?_)
    clear f15
    refine At.done rfl ?_
    refine t_n ?_
    have f27 := f25.sub (r := [(23, .bool ((((g.mv.length : Nat) : Int) : Int) != ((g.ow.length : Nat) : Int))), (4, .int .i64 (((g.ow.length : Nat) : Int))), (3, .int .i64 (0)), (2, .int .i64 (0)), (1, .pointer (some ⟨w.heap.size, 0, none⟩))]) ⟨rfl, rfl, rfl, rfl, rfl, trivial⟩
    clear f25
    refine cond_S f27 (t := (((g.mv.length : Nat) : Int) : Int) != ((g.ow.length : Nat) : Int)) rfl (fun h28 => ?_) (fun h28 => ?_)
    · have q29 := bne_iff_ne.1 h28
      refine wp_seq ?_
      refine At.start ?_
      refine At.rd f27 2 [[], []] [(3, .int .i64 (1)), (2, .int .i64 (0))] [] (by kernel_rfl) trivial (fun act31 f30 => ?_)
      clear f27
      refine At.done rfl ?_
      refine t_n ?_
      have f32 := f30.sub (r := [(3, .int .i64 (1)), (2, .int .i64 (0)), (4, .int .i64 (((g.ow.length : Nat) : Int))), (1, .pointer (some ⟨w.heap.size, 0, none⟩))]) ⟨rfl, rfl, rfl, rfl, trivial⟩
      clear f30
      refine wp_ret ?_
      refine t_r ?_
      refine ret_ f32 [] [.int .i64 (0), .int .i64 (1)] [] (by kernel_rfl) trivial ?_
      exact ⟨ret2_ii (right_lens (by omega)) rfl rfl, e7⟩
    · have q33 := bne_eq_false_iff_eq.1 h28
      refine wp_skip ?_
      refine t_n ?_
      have f34 := f27.sub (r := [(4, .int .i64 (((g.ow.length : Nat) : Int))), (3, .int .i64 (0)), (2, .int .i64 (0)), (1, .pointer (some ⟨w.heap.size, 0, none⟩))]) ⟨rfl, rfl, rfl, rfl, trivial⟩
      clear f27
      refine wp_seq ?_
      refine wp_seq ?_
      refine At.start ?_
      rcases Bool.eq_false_or_eq_true ((((g.ow.length : Nat) : Int) : Int) == 0) with h35 | h35
      · have q36 := eq_of_beq h35
        refine At.rd f34 6 [[], [], [.as_ (.bool true)], [], [], []] [(29, .bool true), (28, undef), (27, undef), (26, .bool true), (25, .bool ((((g.ow.length : Nat) : Int) : Int) == 0)), (24, .int .i64 (((g.ow.length : Nat) : Int)))] [((.bool ((((g.ow.length : Nat) : Int) : Int) == 0) : Value) = .bool true)] (by kernel_rfl) ⟨(congrArg Value.bool h35), trivial⟩ (fun act38 f37 => ?_)
        clear f34
        refine At.done rfl ?_
        refine t_n ?_
        have f39 := f37.sub (r := [(29, .bool true), (4, .int .i64 (((g.ow.length : Nat) : Int))), (3, .int .i64 (0)), (2, .int .i64 (0)), (1, .pointer (some ⟨w.heap.size, 0, none⟩))]) ⟨rfl, rfl, rfl, rfl, rfl, trivial⟩
        clear f37
        refine cond_T f39 rfl ?_
        refine wp_seq ?_
        refine At.start ?_
        refine At.rd f39 2 [[], []] [(3, .int .i64 (10)), (2, .int .i64 (0))] [] (by kernel_rfl) trivial (fun act41 f40 => ?_)
        clear f39
        refine At.done rfl ?_
        refine t_n ?_
        have f42 := f40.sub (r := [(3, .int .i64 (10)), (2, .int .i64 (0)), (4, .int .i64 (((g.ow.length : Nat) : Int))), (1, .pointer (some ⟨w.heap.size, 0, none⟩))]) ⟨rfl, rfl, rfl, rfl, trivial⟩
        clear f40
        refine wp_ret ?_
        refine t_r ?_
        refine ret_ f42 [] [.int .i64 (0), .int .i64 (10)] [] (by kernel_rfl) trivial ?_
        exact ⟨ret2_ii (right_many (by omega) (by omega)) rfl rfl, e7⟩
      · have q43 := ne_of_beq_false h35
        refine At.rd f34 6 [[], [], [.as_ (.bool false)], [], [], []] [(29, .bool (decide ((((g.ow.length : Nat) : Int) : Int) > 200))), (28, .bool (decide ((((g.ow.length : Nat) : Int) : Int) > 200))), (27, .int .i64 (((g.ow.length : Nat) : Int))), (26, .bool false), (25, .bool ((((g.ow.length : Nat) : Int) : Int) == 0)), (24, .int .i64 (((g.ow.length : Nat) : Int)))] [((.bool ((((g.ow.length : Nat) : Int) : Int) == 0) : Value) = .bool false)] (by kernel_rfl) ⟨(congrArg Value.bool h35), trivial⟩ (fun act45 f44 => ?_)
        clear f34
        refine At.done rfl ?_
        refine t_n ?_
        have f46 := f44.sub (r := [(29, .bool (decide ((((g.ow.length : Nat) : Int) : Int) > 200))), (4, .int .i64 (((g.ow.length : Nat) : Int))), (3, .int .i64 (0)), (2, .int .i64 (0)), (1, .pointer (some ⟨w.heap.size, 0, none⟩))]) ⟨rfl, rfl, rfl, rfl, rfl, trivial⟩
        clear f44
        refine cond_S f46 (t := decide ((((g.ow.length : Nat) : Int) : Int) > 200)) rfl (fun h47 => ?_) (fun h47 => ?_)
        · have q48 := of_decide_eq_true h47
          refine wp_seq ?_
          refine At.start ?_
          refine At.rd f46 2 [[], []] [(3, .int .i64 (10)), (2, .int .i64 (0))] [] (by kernel_rfl) trivial (fun act50 f49 => ?_)
          clear f46
          refine At.done rfl ?_
          refine t_n ?_
          have f51 := f49.sub (r := [(3, .int .i64 (10)), (2, .int .i64 (0)), (4, .int .i64 (((g.ow.length : Nat) : Int))), (1, .pointer (some ⟨w.heap.size, 0, none⟩))]) ⟨rfl, rfl, rfl, rfl, trivial⟩
          clear f49
          refine wp_ret ?_
          refine t_r ?_
          refine ret_ f51 [] [.int .i64 (0), .int .i64 (10)] [] (by kernel_rfl) trivial ?_
          exact ⟨ret2_ii (right_many (by omega) (by omega)) rfl rfl, e7⟩
        · have q52 := of_decide_eq_false h47
          refine wp_skip ?_
          refine t_n ?_
          have f53 := f46.sub (r := [(4, .int .i64 (((g.ow.length : Nat) : Int))), (3, .int .i64 (0)), (2, .int .i64 (0)), (1, .pointer (some ⟨w.heap.size, 0, none⟩))]) ⟨rfl, rfl, rfl, rfl, trivial⟩
          clear f46
          refine wp_seq ?_
          refine wp_seq ?_
          refine At.start ?_
          refine At.rd f53 1 [[]] [(5, .int .i64 (0))] [] (by kernel_rfl) trivial (fun act55 f54 => ?_)
          clear f53
          refine At.done rfl ?_
          refine t_n ?_
          refine wp_block ?_
          have f56 := f54.sub (r := [(5, .int .i64 (0)), (4, .int .i64 (((g.ow.length : Nat) : Int))), (1, .pointer (some ⟨w.heap.size, 0, none⟩))]) ⟨rfl, rfl, rfl, trivial⟩
          refine loop_g (fun (m_ : Nat) a_ w_ => ∃ (k : Int), m_ = ((g.ow.length : Int) - k).toNat ∧ (Frm 101 a_ [(5, .int .i64 (k)), (4, .int .i64 (((g.ow.length : Nat) : Int))), (1, .pointer (some ⟨w.heap.size, 0, none⟩))]) ∧ (Ext w w_) ∧ (RdG w_ 0 w.heap.size Ag0 Ag1 Ag2 cg0 cg1 cg2 g) ∧ (Bx w_ (w.heap.size) [.slice Ag0 g.ow.length cg0, .slice Ag1 g.pr.length cg1, .slice Ag2 g.mv.length cg2] 25) ∧ (0 ≤ k) ∧ (k ≤ (g.ow.length : Int)) ∧ (∀ j : Nat, (j : Int) < k → g.err j = 0)) _ ⟨0, rfl, f56, e7, r8, bx9, (by omega), (by omega), (fun j hj => by omega)⟩ ?_
          clear f56 f54
          clear r8
          clear bx9
          clear e7
          intro m_ act57 w58 ⟨k, hm60, f61, e59, r62, bx63, i64, i65, hp⟩
          have szw58 := e59.size
          have := bx63.lt
          refine wp_seq ?_
          refine wp_seq ?_
          refine At.start ?_
          refine At.rd f61 3 [[], [], []] [(32, .bool (decide ((k : Int) < ((g.ow.length : Nat) : Int)))), (31, .int .i64 (((g.ow.length : Nat) : Int))), (30, .int .i64 (k))] [] (by kernel_rfl) trivial (fun act67 f66 => ?_)
          clear f61
          refine At.done rfl ?_
          refine t_n ?_
          refine cond_S f66 (t := decide ((k : Int) < ((g.ow.length : Nat) : Int))) rfl (fun h68 => ?_) (fun h68 => ?_)
          · have q69 := of_decide_eq_true h68
            refine wp_skip ?_
            refine t_n ?_
            refine wp_seq ?_
            refine wp_block ?_
            refine wp_seq (cut (fun a_ w_ => (Frm 101 a_ [(32, .bool (decide ((k : Int) < ((g.ow.length : Nat) : Int)))), (31, .int .i64 (((g.ow.length : Nat) : Int))), (30, .int .i64 (k)), (5, .int .i64 (k)), (4, .int .i64 (((g.ow.length : Nat) : Int))), (1, .pointer (some ⟨w.heap.size, 0, none⟩))]) ∧ (Ext w w_) ∧ (RdG w_ 0 w.heap.size Ag0 Ag1 Ag2 cg0 cg1 cg2 g) ∧ (Bx w_ (w.heap.size) [.slice Ag0 g.ow.length cg0, .slice Ag1 g.pr.length cg1, .slice Ag2 g.mv.length cg2] 25) ∧ (gI g.ow k = 0 ∨ gI g.ow k = 1)) ?_ ?_)
            · refine wp_seq ?_
              refine At.start ?_
              obtain ⟨ad70, hA71, _, _, hc72⟩ := RdI.get r62.ow (k) (by omega) (by omega)
              rcases Bool.eq_false_or_eq_true ((gI g.ow (k) : Int) != 0) with h73 | h73
              · have q74 := bne_iff_ne.1 h73
                obtain ⟨ad75, hA76, _, _, hc77⟩ := RdI.get r62.ow (k) (by omega) (by omega)
                refine At.rd f66 14 [[], [.ld (.slice Ag0 g.ow.length cg0)], [], [.ad ad70], [.ld (.int .i64 (gI g.ow (k)))], [], [.as_ (.bool true)], [], [.ld (.slice Ag0 g.ow.length cg0)], [], [.ad ad75], [.ld (.int .i64 (gI g.ow (k)))], [], []] [(48, .bool ((gI g.ow (k) : Int) != 1)), (47, .bool ((gI g.ow (k) : Int) != 1)), (46, .int .i64 (gI g.ow (k))), (45, .pointer (some (ad75.add ((k : Int).toNat * 1)))), (44, .int .i64 (k)), (43, .slice Ag0 g.ow.length cg0), (42, .pointer (some ⟨w.heap.size, 0, none⟩)), (41, .bool true), (40, .bool ((gI g.ow (k) : Int) != 0)), (39, .int .i64 (gI g.ow (k))), (38, .pointer (some (ad70.add ((k : Int).toNat * 1)))), (37, .int .i64 (k)), (36, .slice Ag0 g.ow.length cg0), (35, .pointer (some ⟨w.heap.size, 0, none⟩))] [(w58.cell? ⟨w.heap.size, 0, none⟩ = some (.slice Ag0 g.ow.length cg0)), (Ag0 = some ad70), (0 ≤ (k : Int)), ((k : Int) < (g.ow.length : Nat)), (w58.cell? (ad70.add ((k : Int).toNat * 1)) = some (.int .i64 (gI g.ow (k)))), ((.bool ((gI g.ow (k) : Int) != 0) : Value) = .bool true), (w58.cell? ⟨w.heap.size, 0, none⟩ = some (.slice Ag0 g.ow.length cg0)), (Ag0 = some ad75), (0 ≤ (k : Int)), ((k : Int) < (g.ow.length : Nat)), (w58.cell? (ad75.add ((k : Int).toNat * 1)) = some (.int .i64 (gI g.ow (k))))] (by kernel_rfl) ⟨(bx63.cell (i := 0) rfl), hA71, (by omega), (by omega), hc72, (congrArg Value.bool h73), (bx63.cell (i := 0) rfl), hA76, (by omega), (by omega), hc77, trivial⟩ (fun act79 f78 => ?_)
                clear f66
                refine At.done rfl ?_
                refine t_n ?_
                refine cond_S f78 (t := (gI g.ow (k) : Int) != 1) rfl (fun h80 => ?_) (fun h80 => ?_)
                · have q81 := bne_iff_ne.1 h80
                  refine wp_seq ?_
                  refine At.start ?_
                  refine At.rd f78 3 [[], [], []] [(3, .int .i64 (14)), (2, .int .i64 (k)), (49, .int .i64 (k))] [] (by kernel_rfl) trivial (fun act83 f82 => ?_)
                  clear f78
                  refine At.done rfl ?_
                  refine t_n ?_
                  refine wp_ret ?_
                  refine t_r ?_
                  refine b_r ?_
                  refine t_r ?_
                  refine t_r ?_
                  refine b_r ?_
                  refine t_r ?_
                  refine ret_ f82 [] [.int .i64 (k), .int .i64 (14)] [] (by kernel_rfl) trivial ?_
                  exact ⟨ret2_ii (right_at' (by omega) (by omega) (by omega) (by omega) (by assumption) (err_14 (by omega) (by omega)) (by decide)) rfl rfl, e59⟩
                · have q84 := bne_eq_false_iff_eq.1 h80
                  refine wp_skip ?_
                  refine t_n ?_
                  have f85 := f78.sub (r := [(32, .bool (decide ((k : Int) < ((g.ow.length : Nat) : Int)))), (31, .int .i64 (((g.ow.length : Nat) : Int))), (30, .int .i64 (k)), (5, .int .i64 (k)), (4, .int .i64 (((g.ow.length : Nat) : Int))), (1, .pointer (some ⟨w.heap.size, 0, none⟩))]) ⟨rfl, rfl, rfl, rfl, rfl, rfl, trivial⟩
                  exact ⟨f85, e59, r62, bx63, (by omega)⟩
              · have q86 := bne_eq_false_iff_eq.1 h73
                refine At.rd f66 14 [[], [.ld (.slice Ag0 g.ow.length cg0)], [], [.ad ad70], [.ld (.int .i64 (gI g.ow (k)))], [], [.as_ (.bool false)], [], [], [], [], [], [], []] [(48, .bool false), (47, undef), (46, undef), (45, undef), (44, undef), (43, undef), (42, undef), (41, .bool false), (40, .bool ((gI g.ow (k) : Int) != 0)), (39, .int .i64 (gI g.ow (k))), (38, .pointer (some (ad70.add ((k : Int).toNat * 1)))), (37, .int .i64 (k)), (36, .slice Ag0 g.ow.length cg0), (35, .pointer (some ⟨w.heap.size, 0, none⟩))] [(w58.cell? ⟨w.heap.size, 0, none⟩ = some (.slice Ag0 g.ow.length cg0)), (Ag0 = some ad70), (0 ≤ (k : Int)), ((k : Int) < (g.ow.length : Nat)), (w58.cell? (ad70.add ((k : Int).toNat * 1)) = some (.int .i64 (gI g.ow (k)))), ((.bool ((gI g.ow (k) : Int) != 0) : Value) = .bool false)] (by kernel_rfl) ⟨(bx63.cell (i := 0) rfl), hA71, (by omega), (by omega), hc72, (congrArg Value.bool h73), trivial⟩ (fun act88 f87 => ?_)
                clear f66
                refine At.done rfl ?_
                refine t_n ?_
                have f89 := f87.sub (r := [(48, .bool false), (41, .bool false), (40, .bool ((gI g.ow (k) : Int) != 0)), (39, .int .i64 (gI g.ow (k))), (38, .pointer (some (ad70.add ((k : Int).toNat * 1)))), (37, .int .i64 (k)), (36, .slice Ag0 g.ow.length cg0), (35, .pointer (some ⟨w.heap.size, 0, none⟩)), (32, .bool (decide ((k : Int) < ((g.ow.length : Nat) : Int)))), (31, .int .i64 (((g.ow.length : Nat) : Int))), (30, .int .i64 (k)), (5, .int .i64 (k)), (4, .int .i64 (((g.ow.length : Nat) : Int))), (1, .pointer (some ⟨w.heap.size, 0, none⟩))]) ⟨rfl, rfl, rfl, rfl, rfl, rfl, rfl, rfl, rfl, rfl, rfl, rfl, rfl, rfl, trivial⟩
                clear f87
                refine cond_F f89 rfl ?_
                refine wp_skip ?_
                refine t_n ?_
                have f90 := f89.sub (r := [(32, .bool (decide ((k : Int) < ((g.ow.length : Nat) : Int)))), (31, .int .i64 (((g.ow.length : Nat) : Int))), (30, .int .i64 (k)), (5, .int .i64 (k)), (4, .int .i64 (((g.ow.length : Nat) : Int))), (1, .pointer (some ⟨w.heap.size, 0, none⟩))]) ⟨rfl, rfl, rfl, rfl, rfl, rfl, trivial⟩
                exact ⟨f90, e59, r62, bx63, (by omega)⟩
            · clear r62
              clear bx63
              clear f66 e59
              intro act91 w92 ⟨f93, e94, r95, bx96, i97⟩
              have szw92 := e94.size
              have := bx96.lt
              refine wp_seq ?_
              refine wp_seq ?_
              refine At.start ?_
              obtain ⟨ad98, hA99, _, _, hc100⟩ := RdI.get r95.pr (k) (by omega) (by omega)
              rcases Bool.eq_false_or_eq_true (decide ((gI g.pr (k) : Int) < 0)) with h101 | h101
              · have q102 := of_decide_eq_true h101
                refine At.rd f93 14 [[], [.ld (.slice Ag1 g.pr.length cg1)], [], [.ad ad98], [.ld (.int .i64 (gI g.pr (k)))], [], [.as_ (.bool true)], [], [], [], [], [], [], []] [(63, .bool true), (62, undef), (61, undef), (60, undef), (59, undef), (58, undef), (57, undef), (56, .bool true), (55, .bool (decide ((gI g.pr (k) : Int) < 0))), (54, .int .i64 (gI g.pr (k))), (53, .pointer (some (ad98.add ((k : Int).toNat * 1)))), (52, .int .i64 (k)), (51, .slice Ag1 g.pr.length cg1), (50, .pointer (some ⟨w.heap.size, 1, none⟩))] [(w92.cell? ⟨w.heap.size, 1, none⟩ = some (.slice Ag1 g.pr.length cg1)), (Ag1 = some ad98), (0 ≤ (k : Int)), ((k : Int) < (g.pr.length : Nat)), (w92.cell? (ad98.add ((k : Int).toNat * 1)) = some (.int .i64 (gI g.pr (k)))), ((.bool (decide ((gI g.pr (k) : Int) < 0)) : Value) = .bool true)] (by kernel_rfl) ⟨(bx96.cell (i := 1) rfl), hA99, (by omega), (by omega), hc100, (congrArg Value.bool h101), trivial⟩ (fun act104 f103 => ?_)
                clear f93
                refine At.done rfl ?_
                refine t_n ?_
                have f105 := f103.sub (r := [(63, .bool true), (56, .bool true), (55, .bool (decide ((gI g.pr (k) : Int) < 0))), (54, .int .i64 (gI g.pr (k))), (53, .pointer (some (ad98.add ((k : Int).toNat * 1)))), (52, .int .i64 (k)), (51, .slice Ag1 g.pr.length cg1), (50, .pointer (some ⟨w.heap.size, 1, none⟩)), (32, .bool (decide ((k : Int) < ((g.ow.length : Nat) : Int)))), (31, .int .i64 (((g.ow.length : Nat) : Int))), (30, .int .i64 (k)), (5, .int .i64 (k)), (4, .int .i64 (((g.ow.length : Nat) : Int))), (1, .pointer (some ⟨w.heap.size, 0, none⟩))]) ⟨rfl, rfl, rfl, rfl, rfl, rfl, rfl, rfl, rfl, rfl, rfl, rfl, rfl, rfl, trivial⟩
                clear f103
                refine cond_T f105 rfl ?_
                refine wp_seq ?_
                refine At.start ?_
                refine At.rd f105 3 [[], [], []] [(3, .int .i64 (15)), (2, .int .i64 (k)), (64, .int .i64 (k))] [] (by kernel_rfl) trivial (fun act107 f106 => ?_)
                clear f105
                refine At.done rfl ?_
                refine t_n ?_
                refine wp_ret ?_
                refine t_r ?_
                refine b_r ?_
                refine t_r ?_
                refine t_r ?_
                refine b_r ?_
                refine t_r ?_
                refine ret_ f106 [] [.int .i64 (k), .int .i64 (15)] [] (by kernel_rfl) trivial ?_
                exact ⟨ret2_ii (right_at' (by omega) (by omega) (by omega) (by omega) (by assumption) (err_15 (by omega) (by omega)) (by decide)) rfl rfl, e94⟩
              · have q108 := of_decide_eq_false h101
                obtain ⟨ad109, hA110, _, _, hc111⟩ := RdI.get r95.pr (k) (by omega) (by omega)
                refine At.rd f93 14 [[], [.ld (.slice Ag1 g.pr.length cg1)], [], [.ad ad98], [.ld (.int .i64 (gI g.pr (k)))], [], [.as_ (.bool false)], [], [.ld (.slice Ag1 g.pr.length cg1)], [], [.ad ad109], [.ld (.int .i64 (gI g.pr (k)))], [], []] [(63, .bool (decide ((gI g.pr (k) : Int) > 7))), (62, .bool (decide ((gI g.pr (k) : Int) > 7))), (61, .int .i64 (gI g.pr (k))), (60, .pointer (some (ad109.add ((k : Int).toNat * 1)))), (59, .int .i64 (k)), (58, .slice Ag1 g.pr.length cg1), (57, .pointer (some ⟨w.heap.size, 1, none⟩)), (56, .bool false), (55, .bool (decide ((gI g.pr (k) : Int) < 0))), (54, .int .i64 (gI g.pr (k))), (53, .pointer (some (ad98.add ((k : Int).toNat * 1)))), (52, .int .i64 (k)), (51, .slice Ag1 g.pr.length cg1), (50, .pointer (some ⟨w.heap.size, 1, none⟩))] [(w92.cell? ⟨w.heap.size, 1, none⟩ = some (.slice Ag1 g.pr.length cg1)), (Ag1 = some ad98), (0 ≤ (k : Int)), ((k : Int) < (g.pr.length : Nat)), (w92.cell? (ad98.add ((k : Int).toNat * 1)) = some (.int .i64 (gI g.pr (k)))), ((.bool (decide ((gI g.pr (k) : Int) < 0)) : Value) = .bool false), (w92.cell? ⟨w.heap.size, 1, none⟩ = some (.slice Ag1 g.pr.length cg1)), (Ag1 = some ad109), (0 ≤ (k : Int)), ((k : Int) < (g.pr.length : Nat)), (w92.cell? (ad109.add ((k : Int).toNat * 1)) = some (.int .i64 (gI g.pr (k))))] (by kernel_rfl) ⟨(bx96.cell (i := 1) rfl), hA99, (by omega), (by omega), hc100, (congrArg Value.bool h101), (bx96.cell (i := 1) rfl), hA110, (by omega), (by omega), hc111, trivial⟩ (fun act113 f112 => ?_)
                clear f93
                refine At.done rfl ?_
                refine t_n ?_
                refine cond_S f112 (t := decide ((gI g.pr (k) : Int) > 7)) rfl (fun h114 => ?_) (fun h114 => ?_)
                · have q115 := of_decide_eq_true h114
                  refine wp_seq ?_
                  refine At.start ?_
                  refine At.rd f112 3 [[], [], []] [(3, .int .i64 (15)), (2, .int .i64 (k)), (64, .int .i64 (k))] [] (by kernel_rfl) trivial (fun act117 f116 => ?_)
                  clear f112
                  refine At.done rfl ?_
                  refine t_n ?_
                  refine wp_ret ?_
                  refine t_r ?_
                  refine b_r ?_
                  refine t_r ?_
                  refine t_r ?_
                  refine b_r ?_
                  refine t_r ?_
                  refine ret_ f116 [] [.int .i64 (k), .int .i64 (15)] [] (by kernel_rfl) trivial ?_
                  exact ⟨ret2_ii (right_at' (by omega) (by omega) (by omega) (by omega) (by assumption) (err_15 (by omega) (by omega)) (by decide)) rfl rfl, e94⟩
                · have q118 := of_decide_eq_false h114
                  refine wp_skip ?_
                  refine t_n ?_
                  refine wp_seq ?_
                  refine wp_seq ?_
                  refine At.start ?_
                  obtain ⟨ad119, R122, C123, hA120, _, _, hc121, hC124, r125⟩ := RdII.get r95.mv (k) (by omega) (by omega)
                  have hl126 := r125.len
                  refine At.rd f112 7 [[], [.ld (.slice Ag2 g.mv.length cg2)], [], [.ad ad119], [.ld (.slice R122 ((gL g.mv (k)).length) C123)], [], []] [(71, .bool (((((gL g.mv (k)).length : Nat) : Int) : Int) == 0)), (70, .int .i64 ((((gL g.mv (k)).length : Nat) : Int))), (69, .slice R122 ((gL g.mv (k)).length) C123), (68, .pointer (some (ad119.add ((k : Int).toNat * 1)))), (67, .int .i64 (k)), (66, .slice Ag2 g.mv.length cg2), (65, .pointer (some ⟨w.heap.size, 2, none⟩))] [(w92.cell? ⟨w.heap.size, 2, none⟩ = some (.slice Ag2 g.mv.length cg2)), (Ag2 = some ad119), (0 ≤ (k : Int)), ((k : Int) < (g.mv.length : Nat)), (w92.cell? (ad119.add ((k : Int).toNat * 1)) = some (.slice R122 ((gL g.mv (k)).length) C123))] (by kernel_rfl) ⟨(bx96.cell (i := 2) rfl), hA120, (by omega), (by omega), hc121, trivial⟩ (fun act129 f128 => ?_)
                  clear f112
                  refine At.done rfl ?_
                  refine t_n ?_
                  refine cond_S f128 (t := ((((gL g.mv (k)).length : Nat) : Int) : Int) == 0) rfl (fun h130 => ?_) (fun h130 => ?_)
                  · have q131 := eq_of_beq h130
                    refine wp_seq ?_
                    refine At.start ?_
                    refine At.rd f128 3 [[], [], []] [(3, .int .i64 (17)), (2, .int .i64 (k)), (72, .int .i64 (k))] [] (by kernel_rfl) trivial (fun act133 f132 => ?_)
                    clear f128
                    refine At.done rfl ?_
                    refine t_n ?_
                    refine wp_ret ?_
                    refine t_r ?_
                    refine b_r ?_
                    refine t_r ?_
                    refine t_r ?_
                    refine b_r ?_
                    refine t_r ?_
                    refine ret_ f132 [] [.int .i64 (k), .int .i64 (17)] [] (by kernel_rfl) trivial ?_
                    exact ⟨ret2_ii (right_at' (by omega) (by omega) (by omega) (by omega) (by assumption) (err_17 (by omega) (by omega) (by omega)) (by decide)) rfl rfl, e94⟩
                  · have q134 := ne_of_beq_false h130
                    refine wp_skip ?_
                    refine t_n ?_
                    refine wp_seq ?_
                    refine At.start ?_
                    refine At.rd f128 1 [[]] [(6, .int .i64 (-1))] [] (by kernel_rfl) trivial (fun act136 f135 => ?_)
                    clear f128
                    refine At.done rfl ?_
                    refine t_n ?_
                    refine wp_seq ?_
                    refine At.start ?_
                    refine At.rd f135 1 [[]] [(7, .int .i64 (0))] [] (by kernel_rfl) trivial (fun act138 f137 => ?_)
                    clear f135
                    refine At.done rfl ?_
                    refine t_n ?_
                    refine wp_block ?_
                    have f140 := f137.as 6 (.int .i64 (-1)) (.int .i64 (lastOf (gL g.mv k) (0 : Int).toNat)) rfl (congrArg (Value.int .i64) (last_0.symm))
                    clear f137
                    have f139 := f140.sub (r := [(7, .int .i64 (0)), (6, .int .i64 (lastOf (gL g.mv k) (0 : Int).toNat)), (71, .bool (((((gL g.mv (k)).length : Nat) : Int) : Int) == 0)), (70, .int .i64 ((((gL g.mv (k)).length : Nat) : Int))), (69, .slice R122 ((gL g.mv (k)).length) C123), (68, .pointer (some (ad119.add ((k : Int).toNat * 1)))), (67, .int .i64 (k)), (66, .slice Ag2 g.mv.length cg2), (65, .pointer (some ⟨w.heap.size, 2, none⟩)), (63, .bool (decide ((gI g.pr (k) : Int) > 7))), (62, .bool (decide ((gI g.pr (k) : Int) > 7))), (61, .int .i64 (gI g.pr (k))), (60, .pointer (some (ad109.add ((k : Int).toNat * 1)))), (59, .int .i64 (k)), (58, .slice Ag1 g.pr.length cg1), (57, .pointer (some ⟨w.heap.size, 1, none⟩)), (56, .bool false), (55, .bool (decide ((gI g.pr (k) : Int) < 0))), (54, .int .i64 (gI g.pr (k))), (53, .pointer (some (ad98.add ((k : Int).toNat * 1)))), (52, .int .i64 (k)), (51, .slice Ag1 g.pr.length cg1), (50, .pointer (some ⟨w.heap.size, 1, none⟩)), (32, .bool (decide ((k : Int) < ((g.ow.length : Nat) : Int)))), (31, .int .i64 (((g.ow.length : Nat) : Int))), (30, .int .i64 (k)), (5, .int .i64 (k)), (4, .int .i64 (((g.ow.length : Nat) : Int))), (1, .pointer (some ⟨w.heap.size, 0, none⟩))]) ⟨rfl, rfl, rfl, rfl, rfl, rfl, rfl, rfl, rfl, rfl, rfl, rfl, rfl, rfl, rfl, rfl, rfl, rfl, rfl, rfl, rfl, rfl, rfl, rfl, rfl, rfl, rfl, rfl, rfl, trivial⟩
                    refine loop_g (fun (m_ : Nat) a_ w_ => ∃ (q : Int), m_ = (((gL g.mv k).length : Int) - q).toNat ∧ (Frm 101 a_ [(7, .int .i64 (q)), (6, .int .i64 (lastOf (gL g.mv k) q.toNat)), (71, .bool (((((gL g.mv (k)).length : Nat) : Int) : Int) == 0)), (70, .int .i64 ((((gL g.mv (k)).length : Nat) : Int))), (69, .slice R122 ((gL g.mv (k)).length) C123), (68, .pointer (some (ad119.add ((k : Int).toNat * 1)))), (67, .int .i64 (k)), (66, .slice Ag2 g.mv.length cg2), (65, .pointer (some ⟨w.heap.size, 2, none⟩)), (63, .bool (decide ((gI g.pr (k) : Int) > 7))), (62, .bool (decide ((gI g.pr (k) : Int) > 7))), (61, .int .i64 (gI g.pr (k))), (60, .pointer (some (ad109.add ((k : Int).toNat * 1)))), (59, .int .i64 (k)), (58, .slice Ag1 g.pr.length cg1), (57, .pointer (some ⟨w.heap.size, 1, none⟩)), (56, .bool false), (55, .bool (decide ((gI g.pr (k) : Int) < 0))), (54, .int .i64 (gI g.pr (k))), (53, .pointer (some (ad98.add ((k : Int).toNat * 1)))), (52, .int .i64 (k)), (51, .slice Ag1 g.pr.length cg1), (50, .pointer (some ⟨w.heap.size, 1, none⟩)), (32, .bool (decide ((k : Int) < ((g.ow.length : Nat) : Int)))), (31, .int .i64 (((g.ow.length : Nat) : Int))), (30, .int .i64 (k)), (5, .int .i64 (k)), (4, .int .i64 (((g.ow.length : Nat) : Int))), (1, .pointer (some ⟨w.heap.size, 0, none⟩))]) ∧ (Ext w w_) ∧ (RdG w_ 0 w.heap.size Ag0 Ag1 Ag2 cg0 cg1 cg2 g) ∧ (Bx w_ (w.heap.size) [.slice Ag0 g.ow.length cg0, .slice Ag1 g.pr.length cg1, .slice Ag2 g.mv.length cg2] 25) ∧ (RdI w_ 0 w.heap.size R122 (gL g.mv (k))) ∧ (0 ≤ q) ∧ (q ≤ ((gL g.mv k).length : Int)) ∧ (rowBad g.ow.length (-1) ((gL g.mv k).take q.toNat) = false)) _ ⟨0, rfl, f139, e94, r95, bx96, r125, (by omega), (by omega), rfl⟩ ?_
                    clear f139 f140
                    clear r95
                    clear bx96
                    clear r125
                    clear e94
                    intro m_ act141 w142 ⟨q, hm144, f145, e143, r146, bx147, r148, i149, i150, i151⟩
                    have szw142 := e143.size
                    have := bx147.lt
                    refine wp_seq ?_
                    refine wp_seq ?_
                    refine At.start ?_
                    obtain ⟨ad152, R155, C156, hA153, _, _, hc154, hC157, r158⟩ := RdII.get r146.mv (k) (by omega) (by omega)
                    have hl159 := r158.len
                    refine At.rd f145 8 [[], [], [.ld (.slice Ag2 g.mv.length cg2)], [], [.ad ad152], [.ld (.slice R155 ((gL g.mv (k)).length) C156)], [], []] [(80, .bool (decide ((q : Int) < (((gL g.mv (k)).length : Nat) : Int)))), (79, .int .i64 ((((gL g.mv (k)).length : Nat) : Int))), (78, .slice R155 ((gL g.mv (k)).length) C156), (77, .pointer (some (ad152.add ((k : Int).toNat * 1)))), (76, .int .i64 (k)), (75, .slice Ag2 g.mv.length cg2), (74, .pointer (some ⟨w.heap.size, 2, none⟩)), (73, .int .i64 (q))] [(w142.cell? ⟨w.heap.size, 2, none⟩ = some (.slice Ag2 g.mv.length cg2)), (Ag2 = some ad152), (0 ≤ (k : Int)), ((k : Int) < (g.mv.length : Nat)), (w142.cell? (ad152.add ((k : Int).toNat * 1)) = some (.slice R155 ((gL g.mv (k)).length) C156))] (by kernel_rfl) ⟨(bx147.cell (i := 2) rfl), hA153, (by omega), (by omega), hc154, trivial⟩ (fun act162 f161 => ?_)
                    clear f145
                    refine At.done rfl ?_
                    refine t_n ?_
                    refine cond_S f161 (t := decide ((q : Int) < (((gL g.mv (k)).length : Nat) : Int))) rfl (fun h163 => ?_) (fun h163 => ?_)
                    · have q164 := of_decide_eq_true h163
                      refine wp_skip ?_
                      refine t_n ?_
                      refine wp_seq ?_
                      refine wp_block ?_
                      refine wp_seq ?_
                      refine At.start ?_
                      obtain ⟨ad165, R168, C169, hA166, _, _, hc167, hC170, r171⟩ := RdII.get r146.mv (k) (by omega) (by omega)
                      have hl172 := r171.len
                      obtain ⟨ad174, hA175, _, _, hc176⟩ := RdI.get r171 (q) (by omega) (by omega)
                      refine At.rd f161 9 [[], [.ld (.slice Ag2 g.mv.length cg2)], [], [.ad ad165], [.ld (.slice R168 ((gL g.mv (k)).length) C169)], [], [.ad ad174], [.ld (.int .i64 (gI (gL g.mv (k)) (q)))], []] [(8, .int .i64 (gI (gL g.mv (k)) (q))), (90, .int .i64 (gI (gL g.mv (k)) (q))), (89, .pointer (some (ad174.add ((q : Int).toNat * 1)))), (88, .int .i64 (q)), (87, .slice R168 ((gL g.mv (k)).length) C169), (86, .pointer (some (ad165.add ((k : Int).toNat * 1)))), (85, .int .i64 (k)), (84, .slice Ag2 g.mv.length cg2), (83, .pointer (some ⟨w.heap.size, 2, none⟩))] [(w142.cell? ⟨w.heap.size, 2, none⟩ = some (.slice Ag2 g.mv.length cg2)), (Ag2 = some ad165), (0 ≤ (k : Int)), ((k : Int) < (g.mv.length : Nat)), (w142.cell? (ad165.add ((k : Int).toNat * 1)) = some (.slice R168 ((gL g.mv (k)).length) C169)), (R168 = some ad174), (0 ≤ (q : Int)), ((q : Int) < ((gL g.mv (k)).length : Nat)), (w142.cell? (ad174.add ((q : Int).toNat * 1)) = some (.int .i64 (gI (gL g.mv (k)) (q))))] (by kernel_rfl) ⟨(bx147.cell (i := 2) rfl), hA166, (by omega), (by omega), hc167, hA175, (by omega), (by omega), hc176, trivial⟩ (fun act178 f177 => ?_)
                      clear f161
                      refine At.done rfl ?_
                      refine t_n ?_
                      refine wp_seq ?_
                      refine wp_seq ?_
                      refine At.start ?_
                      rcases Bool.eq_false_or_eq_true (decide ((gI (gL g.mv (k)) (q) : Int) ≤ (lastOf (gL g.mv k) q.toNat))) with h179 | h179
                      · have q180 := of_decide_eq_true h179
                        refine At.rd f177 8 [[], [], [], [.as_ (.bool true)], [], [], [], []] [(98, .bool true), (97, undef), (96, undef), (95, undef), (94, .bool true), (93, .bool (decide ((gI (gL g.mv (k)) (q) : Int) ≤ (lastOf (gL g.mv k) q.toNat)))), (92, .int .i64 (lastOf (gL g.mv k) q.toNat)), (91, .int .i64 (gI (gL g.mv (k)) (q)))] [((.bool (decide ((gI (gL g.mv (k)) (q) : Int) ≤ (lastOf (gL g.mv k) q.toNat))) : Value) = .bool true)] (by kernel_rfl) ⟨(congrArg Value.bool h179), trivial⟩ (fun act182 f181 => ?_)
                        clear f177
                        refine At.done rfl ?_
                        refine t_n ?_
                        have f183 := f181.sub (r := [(98, .bool true), (94, .bool true), (93, .bool (decide ((gI (gL g.mv (k)) (q) : Int) ≤ (lastOf (gL g.mv k) q.toNat)))), (92, .int .i64 (lastOf (gL g.mv k) q.toNat)), (91, .int .i64 (gI (gL g.mv (k)) (q))), (8, .int .i64 (gI (gL g.mv (k)) (q))), (90, .int .i64 (gI (gL g.mv (k)) (q))), (89, .pointer (some (ad174.add ((q : Int).toNat * 1)))), (88, .int .i64 (q)), (87, .slice R168 ((gL g.mv (k)).length) C169), (86, .pointer (some (ad165.add ((k : Int).toNat * 1)))), (85, .int .i64 (k)), (84, .slice Ag2 g.mv.length cg2), (83, .pointer (some ⟨w.heap.size, 2, none⟩)), (80, .bool (decide ((q : Int) < (((gL g.mv (k)).length : Nat) : Int)))), (79, .int .i64 ((((gL g.mv (k)).length : Nat) : Int))), (78, .slice R155 ((gL g.mv (k)).length) C156), (77, .pointer (some (ad152.add ((k : Int).toNat * 1)))), (76, .int .i64 (k)), (75, .slice Ag2 g.mv.length cg2), (74, .pointer (some ⟨w.heap.size, 2, none⟩)), (73, .int .i64 (q)), (7, .int .i64 (q)), (6, .int .i64 (lastOf (gL g.mv k) q.toNat)), (71, .bool (((((gL g.mv (k)).length : Nat) : Int) : Int) == 0)), (70, .int .i64 ((((gL g.mv (k)).length : Nat) : Int))), (69, .slice R122 ((gL g.mv (k)).length) C123), (68, .pointer (some (ad119.add ((k : Int).toNat * 1)))), (67, .int .i64 (k)), (66, .slice Ag2 g.mv.length cg2), (65, .pointer (some ⟨w.heap.size, 2, none⟩)), (63, .bool (decide ((gI g.pr (k) : Int) > 7))), (62, .bool (decide ((gI g.pr (k) : Int) > 7))), (61, .int .i64 (gI g.pr (k))), (60, .pointer (some (ad109.add ((k : Int).toNat * 1)))), (59, .int .i64 (k)), (58, .slice Ag1 g.pr.length cg1), (57, .pointer (some ⟨w.heap.size, 1, none⟩)), (56, .bool false), (55, .bool (decide ((gI g.pr (k) : Int) < 0))), (54, .int .i64 (gI g.pr (k))), (53, .pointer (some (ad98.add ((k : Int).toNat * 1)))), (52, .int .i64 (k)), (51, .slice Ag1 g.pr.length cg1), (50, .pointer (some ⟨w.heap.size, 1, none⟩)), (32, .bool (decide ((k : Int) < ((g.ow.length : Nat) : Int)))), (31, .int .i64 (((g.ow.length : Nat) : Int))), (30, .int .i64 (k)), (5, .int .i64 (k)), (4, .int .i64 (((g.ow.length : Nat) : Int))), (1, .pointer (some ⟨w.heap.size, 0, none⟩))]) ⟨rfl, rfl, rfl, rfl, rfl, rfl, rfl, rfl, rfl, rfl, rfl, rfl, rfl, rfl, rfl, rfl, rfl, rfl, rfl, rfl, rfl, rfl, rfl, rfl, rfl, rfl, rfl, rfl, rfl, rfl, rfl, rfl, rfl, rfl, rfl, rfl, rfl, rfl, rfl, rfl, rfl, rfl, rfl, rfl, rfl, rfl, rfl, rfl, rfl, rfl, rfl, trivial⟩
                        clear f181
                        refine cond_T f183 rfl ?_
                        refine wp_seq ?_
                        refine At.start ?_
                        refine At.rd f183 3 [[], [], []] [(3, .int .i64 (16)), (2, .int .i64 (k)), (99, .int .i64 (k))] [] (by kernel_rfl) trivial (fun act185 f184 => ?_)
                        clear f183
                        refine At.done rfl ?_
                        refine t_n ?_
                        refine wp_ret ?_
                        refine t_r ?_
                        refine b_r ?_
                        refine t_r ?_
                        refine t_r ?_
                        refine b_r ?_
                        refine b_r ?_
                        refine t_r ?_
                        refine t_r ?_
                        refine b_r ?_
                        refine t_r ?_
                        refine ret_ f184 [] [.int .i64 (k), .int .i64 (16)] [] (by kernel_rfl) trivial ?_
                        exact ⟨ret2_ii (right_at' (by omega) (by omega) (by omega) (by omega) (by assumption) (err_16 (by omega) (by omega) (by omega) (bad_at (q := q) (by omega) (by omega) (by omega))) (by decide)) rfl rfl, e143⟩
                      · have q186 := of_decide_eq_false h179
                        refine At.rd f177 8 [[], [], [], [.as_ (.bool false)], [], [], [], []] [(98, .bool (decide ((gI (gL g.mv (k)) (q) : Int) ≥ ((g.ow.length : Nat) : Int)))), (97, .bool (decide ((gI (gL g.mv (k)) (q) : Int) ≥ ((g.ow.length : Nat) : Int)))), (96, .int .i64 (((g.ow.length : Nat) : Int))), (95, .int .i64 (gI (gL g.mv (k)) (q))), (94, .bool false), (93, .bool (decide ((gI (gL g.mv (k)) (q) : Int) ≤ (lastOf (gL g.mv k) q.toNat)))), (92, .int .i64 (lastOf (gL g.mv k) q.toNat)), (91, .int .i64 (gI (gL g.mv (k)) (q)))] [((.bool (decide ((gI (gL g.mv (k)) (q) : Int) ≤ (lastOf (gL g.mv k) q.toNat))) : Value) = .bool false)] (by kernel_rfl) ⟨(congrArg Value.bool h179), trivial⟩ (fun act188 f187 => ?_)
                        clear f177
                        refine At.done rfl ?_
                        refine t_n ?_
                        refine cond_S f187 (t := decide ((gI (gL g.mv (k)) (q) : Int) ≥ ((g.ow.length : Nat) : Int))) rfl (fun h189 => ?_) (fun h189 => ?_)
                        · have q190 := of_decide_eq_true h189
                          refine wp_seq ?_
                          refine At.start ?_
                          refine At.rd f187 3 [[], [], []] [(3, .int .i64 (16)), (2, .int .i64 (k)), (99, .int .i64 (k))] [] (by kernel_rfl) trivial (fun act192 f191 => ?_)
                          clear f187
                          refine At.done rfl ?_
                          refine t_n ?_
                          refine wp_ret ?_
                          refine t_r ?_
                          refine b_r ?_
                          refine t_r ?_
                          refine t_r ?_
                          refine b_r ?_
                          refine b_r ?_
                          refine t_r ?_
                          refine t_r ?_
                          refine b_r ?_
                          refine t_r ?_
                          refine ret_ f191 [] [.int .i64 (k), .int .i64 (16)] [] (by kernel_rfl) trivial ?_
                          exact ⟨ret2_ii (right_at' (by omega) (by omega) (by omega) (by omega) (by assumption) (err_16 (by omega) (by omega) (by omega) (bad_at (q := q) (by omega) (by omega) (by omega))) (by decide)) rfl rfl, e143⟩
                        · have q193 := of_decide_eq_false h189
                          refine wp_skip ?_
                          refine t_n ?_
                          refine At.start ?_
                          refine At.rd f187 2 [[], []] [(6, .int .i64 (gI (gL g.mv (k)) (q))), (100, .int .i64 (gI (gL g.mv (k)) (q)))] [] (by kernel_rfl) trivial (fun act195 f194 => ?_)
                          clear f187
                          refine At.done rfl ?_
                          refine b_n ?_
                          refine t_n ?_
                          have f196 := f194.sub (r := [(6, .int .i64 (gI (gL g.mv (k)) (q))), (100, .int .i64 (gI (gL g.mv (k)) (q))), (98, .bool (decide ((gI (gL g.mv (k)) (q) : Int) ≥ ((g.ow.length : Nat) : Int)))), (97, .bool (decide ((gI (gL g.mv (k)) (q) : Int) ≥ ((g.ow.length : Nat) : Int)))), (96, .int .i64 (((g.ow.length : Nat) : Int))), (95, .int .i64 (gI (gL g.mv (k)) (q))), (94, .bool false), (93, .bool (decide ((gI (gL g.mv (k)) (q) : Int) ≤ (lastOf (gL g.mv k) q.toNat)))), (92, .int .i64 (lastOf (gL g.mv k) q.toNat)), (91, .int .i64 (gI (gL g.mv (k)) (q))), (8, .int .i64 (gI (gL g.mv (k)) (q))), (90, .int .i64 (gI (gL g.mv (k)) (q))), (89, .pointer (some (ad174.add ((q : Int).toNat * 1)))), (88, .int .i64 (q)), (87, .slice R168 ((gL g.mv (k)).length) C169), (86, .pointer (some (ad165.add ((k : Int).toNat * 1)))), (85, .int .i64 (k)), (84, .slice Ag2 g.mv.length cg2), (83, .pointer (some ⟨w.heap.size, 2, none⟩)), (80, .bool (decide ((q : Int) < (((gL g.mv (k)).length : Nat) : Int)))), (79, .int .i64 ((((gL g.mv (k)).length : Nat) : Int))), (78, .slice R155 ((gL g.mv (k)).length) C156), (77, .pointer (some (ad152.add ((k : Int).toNat * 1)))), (76, .int .i64 (k)), (75, .slice Ag2 g.mv.length cg2), (74, .pointer (some ⟨w.heap.size, 2, none⟩)), (73, .int .i64 (q)), (7, .int .i64 (q)), (71, .bool (((((gL g.mv (k)).length : Nat) : Int) : Int) == 0)), (70, .int .i64 ((((gL g.mv (k)).length : Nat) : Int))), (69, .slice R122 ((gL g.mv (k)).length) C123), (68, .pointer (some (ad119.add ((k : Int).toNat * 1)))), (67, .int .i64 (k)), (66, .slice Ag2 g.mv.length cg2), (65, .pointer (some ⟨w.heap.size, 2, none⟩)), (63, .bool (decide ((gI g.pr (k) : Int) > 7))), (62, .bool (decide ((gI g.pr (k) : Int) > 7))), (61, .int .i64 (gI g.pr (k))), (60, .pointer (some (ad109.add ((k : Int).toNat * 1)))), (59, .int .i64 (k)), (58, .slice Ag1 g.pr.length cg1), (57, .pointer (some ⟨w.heap.size, 1, none⟩)), (56, .bool false), (55, .bool (decide ((gI g.pr (k) : Int) < 0))), (54, .int .i64 (gI g.pr (k))), (53, .pointer (some (ad98.add ((k : Int).toNat * 1)))), (52, .int .i64 (k)), (51, .slice Ag1 g.pr.length cg1), (50, .pointer (some ⟨w.heap.size, 1, none⟩)), (32, .bool (decide ((k : Int) < ((g.ow.length : Nat) : Int)))), (31, .int .i64 (((g.ow.length : Nat) : Int))), (30, .int .i64 (k)), (5, .int .i64 (k)), (4, .int .i64 (((g.ow.length : Nat) : Int))), (1, .pointer (some ⟨w.heap.size, 0, none⟩))]) ⟨rfl, rfl, rfl, rfl, rfl, rfl, rfl, rfl, rfl, rfl, rfl, rfl, rfl, rfl, rfl, rfl, rfl, rfl, rfl, rfl, rfl, rfl, rfl, rfl, rfl, rfl, rfl, rfl, rfl, rfl, rfl, rfl, rfl, rfl, rfl, rfl, rfl, rfl, rfl, rfl, rfl, rfl, rfl, rfl, rfl, rfl, rfl, rfl, rfl, rfl, rfl, rfl, rfl, rfl, rfl, trivial⟩
                          clear f194
                          refine At.start ?_
                          refine At.rd f196 3 [[], [.as_ (.int .i64 (q + 1))], []] [(7, .int .i64 (q + 1)), (82, .int .i64 (q + 1)), (81, .int .i64 (q))] [((.int .i64 (IntKind.i64.wrap (q + 1)) : Value) = .int .i64 (q + 1))] (by kernel_rfl) ⟨(w64 (by omega) (by omega)), trivial⟩ (fun act198 f197 => ?_)
                          clear f196
                          refine At.done rfl ?_
                          refine t_n ?_
                          have f199 := f197.as 6 (.int .i64 (gI (gL g.mv (k)) (q))) (.int .i64 (lastOf (gL g.mv k) ((q + 1) : Int).toNat)) rfl (congrArg (Value.int .i64) (last_next (by omega) (by omega)))
                          clear f197
                          have f200 := f199.sub (r := [(7, .int .i64 (q + 1)), (6, .int .i64 (lastOf (gL g.mv k) ((q + 1) : Int).toNat)), (71, .bool (((((gL g.mv (k)).length : Nat) : Int) : Int) == 0)), (70, .int .i64 ((((gL g.mv (k)).length : Nat) : Int))), (69, .slice R122 ((gL g.mv (k)).length) C123), (68, .pointer (some (ad119.add ((k : Int).toNat * 1)))), (67, .int .i64 (k)), (66, .slice Ag2 g.mv.length cg2), (65, .pointer (some ⟨w.heap.size, 2, none⟩)), (63, .bool (decide ((gI g.pr (k) : Int) > 7))), (62, .bool (decide ((gI g.pr (k) : Int) > 7))), (61, .int .i64 (gI g.pr (k))), (60, .pointer (some (ad109.add ((k : Int).toNat * 1)))), (59, .int .i64 (k)), (58, .slice Ag1 g.pr.length cg1), (57, .pointer (some ⟨w.heap.size, 1, none⟩)), (56, .bool false), (55, .bool (decide ((gI g.pr (k) : Int) < 0))), (54, .int .i64 (gI g.pr (k))), (53, .pointer (some (ad98.add ((k : Int).toNat * 1)))), (52, .int .i64 (k)), (51, .slice Ag1 g.pr.length cg1), (50, .pointer (some ⟨w.heap.size, 1, none⟩)), (32, .bool (decide ((k : Int) < ((g.ow.length : Nat) : Int)))), (31, .int .i64 (((g.ow.length : Nat) : Int))), (30, .int .i64 (k)), (5, .int .i64 (k)), (4, .int .i64 (((g.ow.length : Nat) : Int))), (1, .pointer (some ⟨w.heap.size, 0, none⟩))]) ⟨rfl, rfl, rfl, rfl, rfl, rfl, rfl, rfl, rfl, rfl, rfl, rfl, rfl, rfl, rfl, rfl, rfl, rfl, rfl, rfl, rfl, rfl, rfl, rfl, rfl, rfl, rfl, rfl, rfl, trivial⟩
                          exact ⟨_, (by omega), (q + 1), rfl, f200, e143, r146, bx147, r148, (by omega), (by omega), (bad_next (by omega) (by omega) (by assumption) (by omega) (by omega))⟩
                    · have q201 := of_decide_eq_false h163
                      refine wp_exit ?_
                      refine t_e ?_
                      refine t_e ?_
                      refine b_e ?_
                      refine b_n ?_
                      refine t_n ?_
                      refine At.start ?_
                      refine At.rd f161 3 [[], [.as_ (.int .i64 (k + 1))], []] [(5, .int .i64 (k + 1)), (34, .int .i64 (k + 1)), (33, .int .i64 (k))] [((.int .i64 (IntKind.i64.wrap (k + 1)) : Value) = .int .i64 (k + 1))] (by kernel_rfl) ⟨(w64 (by omega) (by omega)), trivial⟩ (fun act203 f202 => ?_)
                      clear f161
                      refine At.done rfl ?_
                      refine t_n ?_
                      have f204 := f202.sub (r := [(5, .int .i64 (k + 1)), (4, .int .i64 (((g.ow.length : Nat) : Int))), (1, .pointer (some ⟨w.heap.size, 0, none⟩))]) ⟨rfl, rfl, rfl, trivial⟩
                      exact ⟨_, (by omega), (k + 1), rfl, f204, e143, r146, bx147, (by omega), (by omega), (err_next (by omega) hp (err_0 (by omega) (by omega) (by omega) (bad_all (by assumption) (by omega))))⟩
          · have q205 := of_decide_eq_false h68
            refine wp_exit ?_
            refine t_e ?_
            refine t_e ?_
            refine b_e ?_
            refine t_n ?_
            have f206 := f66.sub (r := []) trivial
            clear f66
            refine wp_seq ?_
            refine At.start ?_
            refine At.rd f206 2 [[], []] [(3, .int .i64 (0)), (2, .int .i64 (0))] [] (by kernel_rfl) trivial (fun act208 f207 => ?_)
            clear f206
            refine At.done rfl ?_
            refine t_n ?_
            refine wp_ret ?_
            refine ret_ f207 [] [.int .i64 (0), .int .i64 (0)] [] (by kernel_rfl) trivial ?_
            exact ⟨ret2_ii (right_ok' (k := k) (by omega) (by omega) (by omega) (by assumption)) rfl rfl, e59⟩

end Go.Proofs.Ytklbpajmoklheaa
