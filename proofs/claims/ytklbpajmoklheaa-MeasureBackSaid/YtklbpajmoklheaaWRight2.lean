/-
  A walk of a Go function, printed by a program of this repo. Conditions: what the theorems name.
-/
import Derived.Test.YtklbpajmoklheaaPureGame
import Derived.Test.YtklbpajmoklheaaFz
set_option linter.unusedVariables false
set_option linter.unusedSimpArgs false
namespace Go.Proofs.Ytklbpajmoklheaa
open Go Go.RowKit

set_option maxHeartbeats 4000000 in
theorem right_any {Ag0 Ag1 Ag2 : Option Addr} {cg0 cg1 cg2 : Nat} {g : GameL} {w : World} (rg : RdG w 0 w.heap.size Ag0 Ag1 Ag2 cg0 cg1 cg2 g) :
    Calls Try.prog 36 #[.agg #[.slice Ag0 g.ow.length cg0, .slice Ag1 g.pr.length cg1, .slice Ag2 g.mv.length cg2]] w fun e w' => e = .returned (.tuple #[.int .i64 (rightP g).1, .int .i64 (rightP g).2]) ∧ Ext w w' := by
  have hlg0 := rg.ow.len
  have hlg1 := rg.pr.len
  have hlg2 := rg.mv.len
  have hkg0 := rg.k0
  have hkg1 := rg.k1
  have hkg2 := rg.k2
  refine enter_ (args := [.agg #[.slice Ag0 g.ow.length cg0, .slice Ag1 g.pr.length cg1, .slice Ag2 g.mv.length cg2]]) Try.func36 rfl Try.ntmps36 (Nat.le_of_ble_eq_true rfl) (fun act0 f0 => ?_)
  have e0 := Ext.refl w
  refine wp_seq ?_
  refine At.start ?_
  refine At.seq f0 1 [[]] [(1, .pointer (some ⟨w.heap.size, 0, none⟩))] (w.alloc (.cells #[.slice Ag0 g.ow.length cg0, .slice Ag1 g.pr.length cg1, .slice Ag2 g.mv.length cg2] 25 (0, 0))) [] (by kernel_rfl) trivial (fun act4 w1 hw2 f3 => ?_)
  clear f0
  have g5 := gr_alloc hw2
  have szw1 := g5.size
  have e7 := e0.gr g5 no_row
  clear e0
  have r8 := rg.gr g5 (fun _ h => by cases h)
  clear rg
  have bx9 : Bx w1 (w.heap.size) [.slice Ag0 g.ow.length cg0, .slice Ag1 g.pr.length cg1, .slice Ag2 g.mv.length cg2] 25 := Bx.new hw2
  have := bx9.lt
  clear g5 hw2
  refine At.rd f3 2 [[], []] [(3, .int .i64 (0)), (2, .int .i64 (0))] [] (by kernel_rfl) trivial (fun act11 f10 => ?_)
  clear f3
  refine At.done rfl ?_
  refine t_n ?_
  have f12 := f10.sub (r := [(3, .int .i64 (0)), (2, .int .i64 (0)), (1, .pointer (some ⟨w.heap.size, 0, none⟩))]) ⟨rfl, rfl, rfl, trivial⟩
  clear f10
  refine wp_seq ?_
  refine At.start ?_
  refine At.rd f12 4 [[], [.ld (.slice Ag2 g.mv.length cg2)], [], []] [(4, .int .i64 (((g.mv.length : Nat) : Int))), (11, .int .i64 (((g.mv.length : Nat) : Int))), (10, .slice Ag2 g.mv.length cg2), (9, .pointer (some ⟨w.heap.size, 2, none⟩))] [(w1.cell? ⟨w.heap.size, 2, none⟩ = some (.slice Ag2 g.mv.length cg2))] (by kernel_rfl) ⟨(bx9.cell (i := 2) rfl), trivial⟩ (fun act14 f13 => ?_)
  clear f12
  refine At.done rfl ?_
  refine t_n ?_
  have f15 := f13.sub (r := [(4, .int .i64 (((g.mv.length : Nat) : Int))), (3, .int .i64 (0)), (2, .int .i64 (0)), (1, .pointer (some ⟨w.heap.size, 0, none⟩))]) ⟨rfl, rfl, rfl, rfl, trivial⟩
  clear f13
  refine wp_seq ?_
  refine wp_block ?_
  refine wp_seq ?_
  refine At.start ?_
  rcases Bool.eq_false_or_eq_true ((((g.ow.length : Nat) : Int) : Int) != ((g.mv.length : Nat) : Int)) with h16 | h16
  · have q17 := bne_iff_ne.1 h16
    refine At.rd f15 13 [[], [.ld (.slice Ag0 g.ow.length cg0)], [], [], [], [.as_ (.bool true)], [], [], [], [], [], [], []] [(12, .bool true), (24, .bool true), (23, undef), (22, undef), (21, undef), (20, undef), (19, undef), (18, .bool true), (17, .bool ((((g.ow.length : Nat) : Int) : Int) != ((g.mv.length : Nat) : Int))), (16, .int .i64 (((g.mv.length : Nat) : Int))), (15, .int .i64 (((g.ow.length : Nat) : Int))), (14, .slice Ag0 g.ow.length cg0), (13, .pointer (some ⟨w.heap.size, 0, none⟩))] [(w1.cell? ⟨w.heap.size, 0, none⟩ = some (.slice Ag0 g.ow.length cg0)), ((.bool ((((g.ow.length : Nat) : Int) : Int) != ((g.mv.length : Nat) : Int)) : Value) = .bool true)] (by kernel_rfl) ⟨(bx9.cell (i := 0) rfl), (congrArg Value.bool h16), trivial⟩ (fun act19 f18 => ?_)
    clear f15
    refine At.done rfl ?_
    refine t_n ?_
    have f20 := f18.sub (r := [(12, .bool true), (4, .int .i64 (((g.mv.length : Nat) : Int))), (3, .int .i64 (0)), (2, .int .i64 (0)), (1, .pointer (some ⟨w.heap.size, 0, none⟩))]) ⟨rfl, rfl, rfl, rfl, rfl, trivial⟩
    clear f18
    refine cond_T f20 rfl ?_
    refine wp_seq ?_
    refine At.start ?_
    refine At.rd f20 2 [[], []] [(3, .int .i64 (1)), (2, .int .i64 (0))] [] (by kernel_rfl) trivial (fun act22 f21 => ?_)
    clear f20
    refine At.done rfl ?_
    refine t_n ?_
    have f23 := f21.sub (r := [(3, .int .i64 (1)), (2, .int .i64 (0)), (4, .int .i64 (((g.mv.length : Nat) : Int))), (1, .pointer (some ⟨w.heap.size, 0, none⟩))]) ⟨rfl, rfl, rfl, rfl, trivial⟩
    clear f21
    refine wp_ret ?_
    refine b_r ?_
    refine t_r ?_
    refine ret_ f23 [] [.int .i64 (0), .int .i64 (1)] [] (by kernel_rfl) trivial ?_
    exact ⟨ret2_ii (right_lens (by omega)) rfl rfl, e7⟩
  · have q24 := bne_eq_false_iff_eq.1 h16
    refine At.rd f15 13 [[], [.ld (.slice Ag0 g.ow.length cg0)], [], [], [], [.as_ (.bool false)], [], [.ld (.slice Ag1 g.pr.length cg1)], [], [], [], [], []] [(12, .bool ((((g.pr.length : Nat) : Int) : Int) != ((g.mv.length : Nat) : Int))), (24, .bool ((((g.pr.length : Nat) : Int) : Int) != ((g.mv.length : Nat) : Int))), (23, .bool ((((g.pr.length : Nat) : Int) : Int) != ((g.mv.length : Nat) : Int))), (22, .int .i64 (((g.mv.length : Nat) : Int))), (21, .int .i64 (((g.pr.length : Nat) : Int))), (20, .slice Ag1 g.pr.length cg1), (19, .pointer (some ⟨w.heap.size, 1, none⟩)), (18, .bool false), (17, .bool ((((g.ow.length : Nat) : Int) : Int) != ((g.mv.length : Nat) : Int))), (16, .int .i64 (((g.mv.length : Nat) : Int))), (15, .int .i64 (((g.ow.length : Nat) : Int))), (14, .slice Ag0 g.ow.length cg0), (13, .pointer (some ⟨w.heap.size, 0, none⟩))] [(w1.cell? ⟨w.heap.size, 0, none⟩ = some (.slice Ag0 g.ow.length cg0)), ((.bool ((((g.ow.length : Nat) : Int) : Int) != ((g.mv.length : Nat) : Int)) : Value) = .bool false), (w1.cell? ⟨w.heap.size, 1, none⟩ = some (.slice Ag1 g.pr.length cg1))] (by kernel_rfl) ⟨(bx9.cell (i := 0) rfl), (congrArg Value.bool h16), (bx9.cell (i := 1) rfl), trivial⟩ (fun act26 f25 => ?_)
    clear f15
    refine At.done rfl ?_
    refine t_n ?_
    have f27 := f25.sub (r := [(12, .bool ((((g.pr.length : Nat) : Int) : Int) != ((g.mv.length : Nat) : Int))), (4, .int .i64 (((g.mv.length : Nat) : Int))), (3, .int .i64 (0)), (2, .int .i64 (0)), (1, .pointer (some ⟨w.heap.size, 0, none⟩))]) ⟨rfl, rfl, rfl, rfl, rfl, trivial⟩
    clear f25
    refine cond_S f27 (t := (((g.pr.length : Nat) : Int) : Int) != ((g.mv.length : Nat) : Int)) rfl (fun h28 => ?_) (fun h28 => ?_)
    · have q29 := bne_iff_ne.1 h28
      refine wp_seq ?_
      refine At.start ?_
      refine At.rd f27 2 [[], []] [(3, .int .i64 (1)), (2, .int .i64 (0))] [] (by kernel_rfl) trivial (fun act31 f30 => ?_)
      clear f27
      refine At.done rfl ?_
      refine t_n ?_
      have f32 := f30.sub (r := [(3, .int .i64 (1)), (2, .int .i64 (0)), (4, .int .i64 (((g.mv.length : Nat) : Int))), (1, .pointer (some ⟨w.heap.size, 0, none⟩))]) ⟨rfl, rfl, rfl, rfl, trivial⟩
      clear f30
      refine wp_ret ?_
      refine b_r ?_
      refine t_r ?_
      refine ret_ f32 [] [.int .i64 (0), .int .i64 (1)] [] (by kernel_rfl) trivial ?_
      exact ⟨ret2_ii (right_lens (by omega)) rfl rfl, e7⟩
    · have q33 := bne_eq_false_iff_eq.1 h28
      refine wp_seq ?_
      refine At.start ?_
      rcases Bool.eq_false_or_eq_true (decide ((((g.mv.length : Nat) : Int) : Int) < 1)) with h34 | h34
      · have q35 := of_decide_eq_true h34
        refine At.rd f27 7 [[], [], [.as_ (.bool true)], [], [], [], []] [(25, .bool true), (31, .bool true), (30, undef), (29, undef), (28, .bool true), (27, .bool (decide ((((g.mv.length : Nat) : Int) : Int) < 1))), (26, .int .i64 (((g.mv.length : Nat) : Int)))] [((.bool (decide ((((g.mv.length : Nat) : Int) : Int) < 1)) : Value) = .bool true)] (by kernel_rfl) ⟨(congrArg Value.bool h34), trivial⟩ (fun act37 f36 => ?_)
        clear f27
        refine At.done rfl ?_
        refine t_n ?_
        have f38 := f36.sub (r := [(25, .bool true), (4, .int .i64 (((g.mv.length : Nat) : Int))), (3, .int .i64 (0)), (2, .int .i64 (0)), (1, .pointer (some ⟨w.heap.size, 0, none⟩))]) ⟨rfl, rfl, rfl, rfl, rfl, trivial⟩
        clear f36
        refine cond_T f38 rfl ?_
        refine wp_seq ?_
        refine At.start ?_
        refine At.rd f38 2 [[], []] [(3, .int .i64 (10)), (2, .int .i64 (0))] [] (by kernel_rfl) trivial (fun act40 f39 => ?_)
        clear f38
        refine At.done rfl ?_
        refine t_n ?_
        have f41 := f39.sub (r := [(3, .int .i64 (10)), (2, .int .i64 (0)), (4, .int .i64 (((g.mv.length : Nat) : Int))), (1, .pointer (some ⟨w.heap.size, 0, none⟩))]) ⟨rfl, rfl, rfl, rfl, trivial⟩
        clear f39
        refine wp_ret ?_
        refine b_r ?_
        refine t_r ?_
        refine ret_ f41 [] [.int .i64 (0), .int .i64 (10)] [] (by kernel_rfl) trivial ?_
        exact ⟨ret2_ii (right_many (by omega) (by omega)) rfl rfl, e7⟩
      · have q42 := of_decide_eq_false h34
        refine At.rd f27 7 [[], [], [.as_ (.bool false)], [], [], [], []] [(25, .bool (decide ((((g.mv.length : Nat) : Int) : Int) > 200))), (31, .bool (decide ((((g.mv.length : Nat) : Int) : Int) > 200))), (30, .bool (decide ((((g.mv.length : Nat) : Int) : Int) > 200))), (29, .int .i64 (((g.mv.length : Nat) : Int))), (28, .bool false), (27, .bool (decide ((((g.mv.length : Nat) : Int) : Int) < 1))), (26, .int .i64 (((g.mv.length : Nat) : Int)))] [((.bool (decide ((((g.mv.length : Nat) : Int) : Int) < 1)) : Value) = .bool false)] (by kernel_rfl) ⟨(congrArg Value.bool h34), trivial⟩ (fun act44 f43 => ?_)
        clear f27
        refine At.done rfl ?_
        refine t_n ?_
        have f45 := f43.sub (r := [(25, .bool (decide ((((g.mv.length : Nat) : Int) : Int) > 200))), (4, .int .i64 (((g.mv.length : Nat) : Int))), (3, .int .i64 (0)), (2, .int .i64 (0)), (1, .pointer (some ⟨w.heap.size, 0, none⟩))]) ⟨rfl, rfl, rfl, rfl, rfl, trivial⟩
        clear f43
        refine cond_S f45 (t := decide ((((g.mv.length : Nat) : Int) : Int) > 200)) rfl (fun h46 => ?_) (fun h46 => ?_)
        · have q47 := of_decide_eq_true h46
          refine wp_seq ?_
          refine At.start ?_
          refine At.rd f45 2 [[], []] [(3, .int .i64 (10)), (2, .int .i64 (0))] [] (by kernel_rfl) trivial (fun act49 f48 => ?_)
          clear f45
          refine At.done rfl ?_
          refine t_n ?_
          have f50 := f48.sub (r := [(3, .int .i64 (10)), (2, .int .i64 (0)), (4, .int .i64 (((g.mv.length : Nat) : Int))), (1, .pointer (some ⟨w.heap.size, 0, none⟩))]) ⟨rfl, rfl, rfl, rfl, trivial⟩
          clear f48
          refine wp_ret ?_
          refine b_r ?_
          refine t_r ?_
          refine ret_ f50 [] [.int .i64 (0), .int .i64 (10)] [] (by kernel_rfl) trivial ?_
          exact ⟨ret2_ii (right_many (by omega) (by omega)) rfl rfl, e7⟩
        · have q51 := of_decide_eq_false h46
          refine wp_skip ?_
          refine b_n ?_
          refine t_n ?_
          have f52 := f45.sub (r := [(4, .int .i64 (((g.mv.length : Nat) : Int))), (3, .int .i64 (0)), (2, .int .i64 (0)), (1, .pointer (some ⟨w.heap.size, 0, none⟩))]) ⟨rfl, rfl, rfl, rfl, trivial⟩
          clear f45
          refine wp_seq ?_
          refine wp_seq ?_
          refine At.start ?_
          refine At.rd f52 4 [[], [.ld (.slice Ag2 g.mv.length cg2)], [], []] [(35, .int .i64 (0)), (34, .int .i64 (((g.mv.length : Nat) : Int))), (33, .slice Ag2 g.mv.length cg2), (32, .pointer (some ⟨w.heap.size, 2, none⟩))] [(w1.cell? ⟨w.heap.size, 2, none⟩ = some (.slice Ag2 g.mv.length cg2))] (by kernel_rfl) ⟨(bx9.cell (i := 2) rfl), trivial⟩ (fun act54 f53 => ?_)
          clear f52
          refine At.done rfl ?_
          refine t_n ?_
          have f55 := f53.sub (r := [(35, .int .i64 (0)), (34, .int .i64 (((g.mv.length : Nat) : Int))), (33, .slice Ag2 g.mv.length cg2), (4, .int .i64 (((g.mv.length : Nat) : Int))), (3, .int .i64 (0)), (2, .int .i64 (0)), (1, .pointer (some ⟨w.heap.size, 0, none⟩))]) ⟨rfl, rfl, rfl, rfl, rfl, rfl, rfl, trivial⟩
          clear f53
          refine wp_block ?_
          have f56 := f55.sub (r := [(35, .int .i64 (0)), (34, .int .i64 (((g.mv.length : Nat) : Int))), (33, .slice Ag2 g.mv.length cg2), (4, .int .i64 (((g.mv.length : Nat) : Int))), (1, .pointer (some ⟨w.heap.size, 0, none⟩))]) ⟨rfl, rfl, rfl, rfl, rfl, trivial⟩
          refine loop_g (fun (m_ : Nat) a_ w_ => ∃ (k : Int), m_ = ((g.ow.length : Int) - k).toNat ∧ (Frm 107 a_ [(35, .int .i64 (k)), (34, .int .i64 (((g.mv.length : Nat) : Int))), (33, .slice Ag2 g.mv.length cg2), (4, .int .i64 (((g.mv.length : Nat) : Int))), (1, .pointer (some ⟨w.heap.size, 0, none⟩))]) ∧ (Ext w w_) ∧ (RdG w_ 0 w.heap.size Ag0 Ag1 Ag2 cg0 cg1 cg2 g) ∧ (Bx w_ (w.heap.size) [.slice Ag0 g.ow.length cg0, .slice Ag1 g.pr.length cg1, .slice Ag2 g.mv.length cg2] 25) ∧ (0 ≤ k) ∧ (k ≤ (g.ow.length : Int)) ∧ (∀ j : Nat, (j : Int) < k → g.err j = 0)) _ ⟨0, rfl, f56, e7, r8, bx9, (by omega), (by omega), (fun j hj => by omega)⟩ ?_
          clear f56 f55
          clear r8
          clear bx9
          clear e7
          intro m_ act57 w58 ⟨k, hm60, f61, e59, r62, bx63, i64, i65, hp⟩
          have szw58 := e59.size
          have := bx63.lt
          refine wp_seq ?_
          refine At.start ?_
          refine At.rd f61 1 [[]] [(36, .bool (decide ((k : Int) < ((g.mv.length : Nat) : Int))))] [] (by kernel_rfl) trivial (fun act67 f66 => ?_)
          clear f61
          refine At.done rfl ?_
          refine t_n ?_
          refine wp_seq ?_
          refine cond_S f66 (t := decide ((k : Int) < ((g.mv.length : Nat) : Int))) rfl (fun h68 => ?_) (fun h68 => ?_)
          · have q69 := of_decide_eq_true h68
            refine wp_skip ?_
            refine t_n ?_
            refine wp_seq ?_
            refine wp_block ?_
            refine wp_seq ?_
            refine At.start ?_
            obtain ⟨ad70, R73, C74, hA71, _, _, hc72, hC75, r76⟩ := RdII.get r62.mv (k) (by omega) (by omega)
            have hl77 := r76.len
            refine At.rd f66 5 [[], [.ad ad70], [.ld (.slice R73 ((gL g.mv (k)).length) C74)], [], []] [(6, .slice R73 ((gL g.mv (k)).length) C74), (5, .int .i64 (k)), (39, .slice R73 ((gL g.mv (k)).length) C74), (38, .pointer (some (ad70.add ((k : Int).toNat * 1)))), (37, .int .i64 (k))] [(Ag2 = some ad70), (0 ≤ (k : Int)), ((k : Int) < (g.mv.length : Nat)), (w58.cell? (ad70.add ((k : Int).toNat * 1)) = some (.slice R73 ((gL g.mv (k)).length) C74))] (by kernel_rfl) ⟨hA71, (by omega), (by omega), hc72, trivial⟩ (fun act80 f79 => ?_)
            clear f66
            refine At.done rfl ?_
            refine t_n ?_
            refine wp_seq ?_
            refine wp_block ?_
            refine wp_seq ?_
            refine At.start ?_
            obtain ⟨ad81, hA82, _, _, hc83⟩ := RdI.get r62.ow (k) (by omega) (by omega)
            rcases Bool.eq_false_or_eq_true (decide ((gI g.ow (k) : Int) < 0)) with h84 | h84
            · have q85 := of_decide_eq_true h84
              refine At.rd f79 15 [[], [.ld (.slice Ag0 g.ow.length cg0)], [], [.ad ad81], [.ld (.int .i64 (gI g.ow (k)))], [], [.as_ (.bool true)], [], [], [], [], [], [], [], []] [(40, .bool true), (54, .bool true), (53, undef), (52, undef), (51, undef), (50, undef), (49, undef), (48, undef), (47, .bool true), (46, .bool (decide ((gI g.ow (k) : Int) < 0))), (45, .int .i64 (gI g.ow (k))), (44, .pointer (some (ad81.add ((k : Int).toNat * 1)))), (43, .int .i64 (k)), (42, .slice Ag0 g.ow.length cg0), (41, .pointer (some ⟨w.heap.size, 0, none⟩))] [(w58.cell? ⟨w.heap.size, 0, none⟩ = some (.slice Ag0 g.ow.length cg0)), (Ag0 = some ad81), (0 ≤ (k : Int)), ((k : Int) < (g.ow.length : Nat)), (w58.cell? (ad81.add ((k : Int).toNat * 1)) = some (.int .i64 (gI g.ow (k)))), ((.bool (decide ((gI g.ow (k) : Int) < 0)) : Value) = .bool true)] (by kernel_rfl) ⟨(bx63.cell (i := 0) rfl), hA82, (by omega), (by omega), hc83, (congrArg Value.bool h84), trivial⟩ (fun act87 f86 => ?_)
              clear f79
              refine At.done rfl ?_
              refine t_n ?_
              have f88 := f86.sub (r := [(40, .bool true), (54, .bool true), (47, .bool true), (46, .bool (decide ((gI g.ow (k) : Int) < 0))), (45, .int .i64 (gI g.ow (k))), (44, .pointer (some (ad81.add ((k : Int).toNat * 1)))), (43, .int .i64 (k)), (42, .slice Ag0 g.ow.length cg0), (41, .pointer (some ⟨w.heap.size, 0, none⟩)), (6, .slice R73 ((gL g.mv (k)).length) C74), (5, .int .i64 (k)), (39, .slice R73 ((gL g.mv (k)).length) C74), (38, .pointer (some (ad70.add ((k : Int).toNat * 1)))), (37, .int .i64 (k)), (36, .bool (decide ((k : Int) < ((g.mv.length : Nat) : Int)))), (35, .int .i64 (k)), (34, .int .i64 (((g.mv.length : Nat) : Int))), (33, .slice Ag2 g.mv.length cg2), (4, .int .i64 (((g.mv.length : Nat) : Int))), (1, .pointer (some ⟨w.heap.size, 0, none⟩))]) ⟨rfl, rfl, rfl, rfl, rfl, rfl, rfl, rfl, rfl, rfl, rfl, rfl, rfl, rfl, rfl, rfl, rfl, rfl, rfl, rfl, trivial⟩
              clear f86
              refine cond_T f88 rfl ?_
              refine wp_seq ?_
              refine At.start ?_
              refine At.rd f88 3 [[], [], []] [(3, .int .i64 (14)), (2, .int .i64 (k)), (55, .int .i64 (k))] [] (by kernel_rfl) trivial (fun act90 f89 => ?_)
              clear f88
              refine At.done rfl ?_
              refine t_n ?_
              refine wp_ret ?_
              refine b_r ?_
              refine t_r ?_
              refine b_r ?_
              refine t_r ?_
              refine t_r ?_
              refine b_r ?_
              refine t_r ?_
              refine ret_ f89 [] [.int .i64 (k), .int .i64 (14)] [] (by kernel_rfl) trivial ?_
              exact ⟨ret2_ii (right_at' (by omega) (by omega) (by omega) (by omega) (by assumption) (err_14 (by omega) (by omega)) (by decide)) rfl rfl, e59⟩
            · have q91 := of_decide_eq_false h84
              obtain ⟨ad92, hA93, _, _, hc94⟩ := RdI.get r62.ow (k) (by omega) (by omega)
              refine At.rd f79 15 [[], [.ld (.slice Ag0 g.ow.length cg0)], [], [.ad ad81], [.ld (.int .i64 (gI g.ow (k)))], [], [.as_ (.bool false)], [], [.ld (.slice Ag0 g.ow.length cg0)], [], [.ad ad92], [.ld (.int .i64 (gI g.ow (k)))], [], [], []] [(40, .bool (decide ((gI g.ow (k) : Int) > 1))), (54, .bool (decide ((gI g.ow (k) : Int) > 1))), (53, .bool (decide ((gI g.ow (k) : Int) > 1))), (52, .int .i64 (gI g.ow (k))), (51, .pointer (some (ad92.add ((k : Int).toNat * 1)))), (50, .int .i64 (k)), (49, .slice Ag0 g.ow.length cg0), (48, .pointer (some ⟨w.heap.size, 0, none⟩)), (47, .bool false), (46, .bool (decide ((gI g.ow (k) : Int) < 0))), (45, .int .i64 (gI g.ow (k))), (44, .pointer (some (ad81.add ((k : Int).toNat * 1)))), (43, .int .i64 (k)), (42, .slice Ag0 g.ow.length cg0), (41, .pointer (some ⟨w.heap.size, 0, none⟩))] [(w58.cell? ⟨w.heap.size, 0, none⟩ = some (.slice Ag0 g.ow.length cg0)), (Ag0 = some ad81), (0 ≤ (k : Int)), ((k : Int) < (g.ow.length : Nat)), (w58.cell? (ad81.add ((k : Int).toNat * 1)) = some (.int .i64 (gI g.ow (k)))), ((.bool (decide ((gI g.ow (k) : Int) < 0)) : Value) = .bool false), (w58.cell? ⟨w.heap.size, 0, none⟩ = some (.slice Ag0 g.ow.length cg0)), (Ag0 = some ad92), (0 ≤ (k : Int)), ((k : Int) < (g.ow.length : Nat)), (w58.cell? (ad92.add ((k : Int).toNat * 1)) = some (.int .i64 (gI g.ow (k))))] (by kernel_rfl) ⟨(bx63.cell (i := 0) rfl), hA82, (by omega), (by omega), hc83, (congrArg Value.bool h84), (bx63.cell (i := 0) rfl), hA93, (by omega), (by omega), hc94, trivial⟩ (fun act96 f95 => ?_)
              clear f79
              refine At.done rfl ?_
              refine t_n ?_
              refine cond_S f95 (t := decide ((gI g.ow (k) : Int) > 1)) rfl (fun h97 => ?_) (fun h97 => ?_)
              · have q98 := of_decide_eq_true h97
                refine wp_seq ?_
                refine At.start ?_
                refine At.rd f95 3 [[], [], []] [(3, .int .i64 (14)), (2, .int .i64 (k)), (55, .int .i64 (k))] [] (by kernel_rfl) trivial (fun act100 f99 => ?_)
                clear f95
                refine At.done rfl ?_
                refine t_n ?_
                refine wp_ret ?_
                refine b_r ?_
                refine t_r ?_
                refine b_r ?_
                refine t_r ?_
                refine t_r ?_
                refine b_r ?_
                refine t_r ?_
                refine ret_ f99 [] [.int .i64 (k), .int .i64 (14)] [] (by kernel_rfl) trivial ?_
                exact ⟨ret2_ii (right_at' (by omega) (by omega) (by omega) (by omega) (by assumption) (err_14 (by omega) (by omega)) (by decide)) rfl rfl, e59⟩
              · have q101 := of_decide_eq_false h97
                refine wp_seq ?_
                refine At.start ?_
                obtain ⟨ad102, hA103, _, _, hc104⟩ := RdI.get r62.pr (k) (by omega) (by omega)
                rcases Bool.eq_false_or_eq_true (decide ((gI g.pr (k) : Int) < 0)) with h105 | h105
                · have q106 := of_decide_eq_true h105
                  refine At.rd f95 15 [[], [.ld (.slice Ag1 g.pr.length cg1)], [], [.ad ad102], [.ld (.int .i64 (gI g.pr (k)))], [], [.as_ (.bool true)], [], [], [], [], [], [], [], []] [(56, .bool true), (70, .bool true), (69, undef), (68, undef), (67, undef), (66, undef), (65, undef), (64, undef), (63, .bool true), (62, .bool (decide ((gI g.pr (k) : Int) < 0))), (61, .int .i64 (gI g.pr (k))), (60, .pointer (some (ad102.add ((k : Int).toNat * 1)))), (59, .int .i64 (k)), (58, .slice Ag1 g.pr.length cg1), (57, .pointer (some ⟨w.heap.size, 1, none⟩))] [(w58.cell? ⟨w.heap.size, 1, none⟩ = some (.slice Ag1 g.pr.length cg1)), (Ag1 = some ad102), (0 ≤ (k : Int)), ((k : Int) < (g.pr.length : Nat)), (w58.cell? (ad102.add ((k : Int).toNat * 1)) = some (.int .i64 (gI g.pr (k)))), ((.bool (decide ((gI g.pr (k) : Int) < 0)) : Value) = .bool true)] (by kernel_rfl) ⟨(bx63.cell (i := 1) rfl), hA103, (by omega), (by omega), hc104, (congrArg Value.bool h105), trivial⟩ (fun act108 f107 => ?_)
                  clear f95
                  refine At.done rfl ?_
                  refine t_n ?_
                  have f109 := f107.sub (r := [(56, .bool true), (70, .bool true), (63, .bool true), (62, .bool (decide ((gI g.pr (k) : Int) < 0))), (61, .int .i64 (gI g.pr (k))), (60, .pointer (some (ad102.add ((k : Int).toNat * 1)))), (59, .int .i64 (k)), (58, .slice Ag1 g.pr.length cg1), (57, .pointer (some ⟨w.heap.size, 1, none⟩)), (40, .bool (decide ((gI g.ow (k) : Int) > 1))), (54, .bool (decide ((gI g.ow (k) : Int) > 1))), (53, .bool (decide ((gI g.ow (k) : Int) > 1))), (52, .int .i64 (gI g.ow (k))), (51, .pointer (some (ad92.add ((k : Int).toNat * 1)))), (50, .int .i64 (k)), (49, .slice Ag0 g.ow.length cg0), (48, .pointer (some ⟨w.heap.size, 0, none⟩)), (47, .bool false), (46, .bool (decide ((gI g.ow (k) : Int) < 0))), (45, .int .i64 (gI g.ow (k))), (44, .pointer (some (ad81.add ((k : Int).toNat * 1)))), (43, .int .i64 (k)), (42, .slice Ag0 g.ow.length cg0), (41, .pointer (some ⟨w.heap.size, 0, none⟩)), (6, .slice R73 ((gL g.mv (k)).length) C74), (5, .int .i64 (k)), (39, .slice R73 ((gL g.mv (k)).length) C74), (38, .pointer (some (ad70.add ((k : Int).toNat * 1)))), (37, .int .i64 (k)), (36, .bool (decide ((k : Int) < ((g.mv.length : Nat) : Int)))), (35, .int .i64 (k)), (34, .int .i64 (((g.mv.length : Nat) : Int))), (33, .slice Ag2 g.mv.length cg2), (4, .int .i64 (((g.mv.length : Nat) : Int))), (1, .pointer (some ⟨w.heap.size, 0, none⟩))]) ⟨rfl, rfl, rfl, rfl, rfl, rfl, rfl, rfl, rfl, rfl, rfl, rfl, rfl, rfl, rfl, rfl, rfl, rfl, rfl, rfl, rfl, rfl, rfl, rfl, rfl, rfl, rfl, rfl, rfl, rfl, rfl, rfl, rfl, rfl, rfl, trivial⟩
                  clear f107
                  refine cond_T f109 rfl ?_
                  refine wp_seq ?_
                  refine At.start ?_
                  refine At.rd f109 3 [[], [], []] [(3, .int .i64 (15)), (2, .int .i64 (k)), (71, .int .i64 (k))] [] (by kernel_rfl) trivial (fun act111 f110 => ?_)
                  clear f109
                  refine At.done rfl ?_
                  refine t_n ?_
                  refine wp_ret ?_
                  refine b_r ?_
                  refine t_r ?_
                  refine b_r ?_
                  refine t_r ?_
                  refine t_r ?_
                  refine b_r ?_
                  refine t_r ?_
                  refine ret_ f110 [] [.int .i64 (k), .int .i64 (15)] [] (by kernel_rfl) trivial ?_
                  exact ⟨ret2_ii (right_at' (by omega) (by omega) (by omega) (by omega) (by assumption) (err_15 (by omega) (by omega)) (by decide)) rfl rfl, e59⟩
                · have q112 := of_decide_eq_false h105
                  obtain ⟨ad113, hA114, _, _, hc115⟩ := RdI.get r62.pr (k) (by omega) (by omega)
                  refine At.rd f95 15 [[], [.ld (.slice Ag1 g.pr.length cg1)], [], [.ad ad102], [.ld (.int .i64 (gI g.pr (k)))], [], [.as_ (.bool false)], [], [.ld (.slice Ag1 g.pr.length cg1)], [], [.ad ad113], [.ld (.int .i64 (gI g.pr (k)))], [], [], []] [(56, .bool (decide ((gI g.pr (k) : Int) > 7))), (70, .bool (decide ((gI g.pr (k) : Int) > 7))), (69, .bool (decide ((gI g.pr (k) : Int) > 7))), (68, .int .i64 (gI g.pr (k))), (67, .pointer (some (ad113.add ((k : Int).toNat * 1)))), (66, .int .i64 (k)), (65, .slice Ag1 g.pr.length cg1), (64, .pointer (some ⟨w.heap.size, 1, none⟩)), (63, .bool false), (62, .bool (decide ((gI g.pr (k) : Int) < 0))), (61, .int .i64 (gI g.pr (k))), (60, .pointer (some (ad102.add ((k : Int).toNat * 1)))), (59, .int .i64 (k)), (58, .slice Ag1 g.pr.length cg1), (57, .pointer (some ⟨w.heap.size, 1, none⟩))] [(w58.cell? ⟨w.heap.size, 1, none⟩ = some (.slice Ag1 g.pr.length cg1)), (Ag1 = some ad102), (0 ≤ (k : Int)), ((k : Int) < (g.pr.length : Nat)), (w58.cell? (ad102.add ((k : Int).toNat * 1)) = some (.int .i64 (gI g.pr (k)))), ((.bool (decide ((gI g.pr (k) : Int) < 0)) : Value) = .bool false), (w58.cell? ⟨w.heap.size, 1, none⟩ = some (.slice Ag1 g.pr.length cg1)), (Ag1 = some ad113), (0 ≤ (k : Int)), ((k : Int) < (g.pr.length : Nat)), (w58.cell? (ad113.add ((k : Int).toNat * 1)) = some (.int .i64 (gI g.pr (k))))] (by kernel_rfl) ⟨(bx63.cell (i := 1) rfl), hA103, (by omega), (by omega), hc104, (congrArg Value.bool h105), (bx63.cell (i := 1) rfl), hA114, (by omega), (by omega), hc115, trivial⟩ (fun act117 f116 => ?_)
                  clear f95
                  refine At.done rfl ?_
                  refine t_n ?_
                  refine cond_S f116 (t := decide ((gI g.pr (k) : Int) > 7)) rfl (fun h118 => ?_) (fun h118 => ?_)
                  · have q119 := of_decide_eq_true h118
                    refine wp_seq ?_
                    refine At.start ?_
                    refine At.rd f116 3 [[], [], []] [(3, .int .i64 (15)), (2, .int .i64 (k)), (71, .int .i64 (k))] [] (by kernel_rfl) trivial (fun act121 f120 => ?_)
                    clear f116
                    refine At.done rfl ?_
                    refine t_n ?_
                    refine wp_ret ?_
                    refine b_r ?_
                    refine t_r ?_
                    refine b_r ?_
                    refine t_r ?_
                    refine t_r ?_
                    refine b_r ?_
                    refine t_r ?_
                    refine ret_ f120 [] [.int .i64 (k), .int .i64 (15)] [] (by kernel_rfl) trivial ?_
                    exact ⟨ret2_ii (right_at' (by omega) (by omega) (by omega) (by omega) (by assumption) (err_15 (by omega) (by omega)) (by decide)) rfl rfl, e59⟩
                  · have q122 := of_decide_eq_false h118
                    refine wp_seq ?_
                    refine At.start ?_
                    refine At.rd f116 4 [[], [], [], []] [(72, .bool (((((gL g.mv (k)).length : Nat) : Int) : Int) == 0)), (75, .bool (((((gL g.mv (k)).length : Nat) : Int) : Int) == 0)), (74, .int .i64 ((((gL g.mv (k)).length : Nat) : Int))), (73, .slice R73 ((gL g.mv (k)).length) C74)] [] (by kernel_rfl) trivial (fun act124 f123 => ?_)
                    clear f116
                    refine At.done rfl ?_
                    refine t_n ?_
                    refine cond_S f123 (t := ((((gL g.mv (k)).length : Nat) : Int) : Int) == 0) rfl (fun h125 => ?_) (fun h125 => ?_)
                    · have q126 := eq_of_beq h125
                      refine wp_seq ?_
                      refine At.start ?_
                      refine At.rd f123 3 [[], [], []] [(3, .int .i64 (17)), (2, .int .i64 (k)), (76, .int .i64 (k))] [] (by kernel_rfl) trivial (fun act128 f127 => ?_)
                      clear f123
                      refine At.done rfl ?_
                      refine t_n ?_
                      refine wp_ret ?_
                      refine b_r ?_
                      refine t_r ?_
                      refine b_r ?_
                      refine t_r ?_
                      refine t_r ?_
                      refine b_r ?_
                      refine t_r ?_
                      refine ret_ f127 [] [.int .i64 (k), .int .i64 (17)] [] (by kernel_rfl) trivial ?_
                      exact ⟨ret2_ii (right_at' (by omega) (by omega) (by omega) (by omega) (by assumption) (err_17 (by omega) (by omega) (by omega)) (by decide)) rfl rfl, e59⟩
                    · have q129 := ne_of_beq_false h125
                      refine wp_skip ?_
                      refine b_n ?_
                      refine t_n ?_
                      refine wp_seq ?_
                      refine At.start ?_
                      refine At.rd f123 3 [[], [], []] [(79, .int .i64 (0)), (78, .int .i64 ((((gL g.mv (k)).length : Nat) : Int))), (77, .slice R73 ((gL g.mv (k)).length) C74)] [] (by kernel_rfl) trivial (fun act131 f130 => ?_)
                      clear f123
                      refine At.done rfl ?_
                      refine t_n ?_
                      refine wp_block ?_
                      have f132 := f130.sub (r := [(79, .int .i64 (0)), (78, .int .i64 ((((gL g.mv (k)).length : Nat) : Int))), (77, .slice R73 ((gL g.mv (k)).length) C74), (72, .bool (((((gL g.mv (k)).length : Nat) : Int) : Int) == 0)), (75, .bool (((((gL g.mv (k)).length : Nat) : Int) : Int) == 0)), (74, .int .i64 ((((gL g.mv (k)).length : Nat) : Int))), (73, .slice R73 ((gL g.mv (k)).length) C74), (56, .bool (decide ((gI g.pr (k) : Int) > 7))), (70, .bool (decide ((gI g.pr (k) : Int) > 7))), (69, .bool (decide ((gI g.pr (k) : Int) > 7))), (68, .int .i64 (gI g.pr (k))), (67, .pointer (some (ad113.add ((k : Int).toNat * 1)))), (66, .int .i64 (k)), (65, .slice Ag1 g.pr.length cg1), (64, .pointer (some ⟨w.heap.size, 1, none⟩)), (63, .bool false), (62, .bool (decide ((gI g.pr (k) : Int) < 0))), (61, .int .i64 (gI g.pr (k))), (60, .pointer (some (ad102.add ((k : Int).toNat * 1)))), (59, .int .i64 (k)), (58, .slice Ag1 g.pr.length cg1), (57, .pointer (some ⟨w.heap.size, 1, none⟩)), (40, .bool (decide ((gI g.ow (k) : Int) > 1))), (54, .bool (decide ((gI g.ow (k) : Int) > 1))), (53, .bool (decide ((gI g.ow (k) : Int) > 1))), (52, .int .i64 (gI g.ow (k))), (51, .pointer (some (ad92.add ((k : Int).toNat * 1)))), (50, .int .i64 (k)), (49, .slice Ag0 g.ow.length cg0), (48, .pointer (some ⟨w.heap.size, 0, none⟩)), (47, .bool false), (46, .bool (decide ((gI g.ow (k) : Int) < 0))), (45, .int .i64 (gI g.ow (k))), (44, .pointer (some (ad81.add ((k : Int).toNat * 1)))), (43, .int .i64 (k)), (42, .slice Ag0 g.ow.length cg0), (41, .pointer (some ⟨w.heap.size, 0, none⟩)), (6, .slice R73 ((gL g.mv (k)).length) C74), (5, .int .i64 (k)), (39, .slice R73 ((gL g.mv (k)).length) C74), (38, .pointer (some (ad70.add ((k : Int).toNat * 1)))), (37, .int .i64 (k)), (36, .bool (decide ((k : Int) < ((g.mv.length : Nat) : Int)))), (35, .int .i64 (k)), (34, .int .i64 (((g.mv.length : Nat) : Int))), (33, .slice Ag2 g.mv.length cg2), (4, .int .i64 (((g.mv.length : Nat) : Int))), (1, .pointer (some ⟨w.heap.size, 0, none⟩))]) ⟨rfl, rfl, rfl, rfl, rfl, rfl, rfl, rfl, rfl, rfl, rfl, rfl, rfl, rfl, rfl, rfl, rfl, rfl, rfl, rfl, rfl, rfl, rfl, rfl, rfl, rfl, rfl, rfl, rfl, rfl, rfl, rfl, rfl, rfl, rfl, rfl, rfl, rfl, rfl, rfl, rfl, rfl, rfl, rfl, rfl, rfl, rfl, rfl, trivial⟩
                      refine loop_g (fun (m_ : Nat) a_ w_ => ∃ (q : Int), m_ = (((gL g.mv k).length : Int) - q).toNat ∧ (Frm 107 a_ [(79, .int .i64 (q)), (78, .int .i64 ((((gL g.mv (k)).length : Nat) : Int))), (77, .slice R73 ((gL g.mv (k)).length) C74), (72, .bool (((((gL g.mv (k)).length : Nat) : Int) : Int) == 0)), (75, .bool (((((gL g.mv (k)).length : Nat) : Int) : Int) == 0)), (74, .int .i64 ((((gL g.mv (k)).length : Nat) : Int))), (73, .slice R73 ((gL g.mv (k)).length) C74), (56, .bool (decide ((gI g.pr (k) : Int) > 7))), (70, .bool (decide ((gI g.pr (k) : Int) > 7))), (69, .bool (decide ((gI g.pr (k) : Int) > 7))), (68, .int .i64 (gI g.pr (k))), (67, .pointer (some (ad113.add ((k : Int).toNat * 1)))), (66, .int .i64 (k)), (65, .slice Ag1 g.pr.length cg1), (64, .pointer (some ⟨w.heap.size, 1, none⟩)), (63, .bool false), (62, .bool (decide ((gI g.pr (k) : Int) < 0))), (61, .int .i64 (gI g.pr (k))), (60, .pointer (some (ad102.add ((k : Int).toNat * 1)))), (59, .int .i64 (k)), (58, .slice Ag1 g.pr.length cg1), (57, .pointer (some ⟨w.heap.size, 1, none⟩)), (40, .bool (decide ((gI g.ow (k) : Int) > 1))), (54, .bool (decide ((gI g.ow (k) : Int) > 1))), (53, .bool (decide ((gI g.ow (k) : Int) > 1))), (52, .int .i64 (gI g.ow (k))), (51, .pointer (some (ad92.add ((k : Int).toNat * 1)))), (50, .int .i64 (k)), (49, .slice Ag0 g.ow.length cg0), (48, .pointer (some ⟨w.heap.size, 0, none⟩)), (47, .bool false), (46, .bool (decide ((gI g.ow (k) : Int) < 0))), (45, .int .i64 (gI g.ow (k))), (44, .pointer (some (ad81.add ((k : Int).toNat * 1)))), (43, .int .i64 (k)), (42, .slice Ag0 g.ow.length cg0), (41, .pointer (some ⟨w.heap.size, 0, none⟩)), (6, .slice R73 ((gL g.mv (k)).length) C74), (5, .int .i64 (k)), (39, .slice R73 ((gL g.mv (k)).length) C74), (38, .pointer (some (ad70.add ((k : Int).toNat * 1)))), (37, .int .i64 (k)), (36, .bool (decide ((k : Int) < ((g.mv.length : Nat) : Int)))), (35, .int .i64 (k)), (34, .int .i64 (((g.mv.length : Nat) : Int))), (33, .slice Ag2 g.mv.length cg2), (4, .int .i64 (((g.mv.length : Nat) : Int))), (1, .pointer (some ⟨w.heap.size, 0, none⟩))]) ∧ (Ext w w_) ∧ (RdG w_ 0 w.heap.size Ag0 Ag1 Ag2 cg0 cg1 cg2 g) ∧ (Bx w_ (w.heap.size) [.slice Ag0 g.ow.length cg0, .slice Ag1 g.pr.length cg1, .slice Ag2 g.mv.length cg2] 25) ∧ (RdI w_ 0 w.heap.size R73 (gL g.mv (k))) ∧ (0 ≤ q) ∧ (q ≤ ((gL g.mv k).length : Int)) ∧ (rowBad g.ow.length (-1) ((gL g.mv k).take q.toNat) = false)) _ ⟨0, rfl, f132, e59, r62, bx63, r76, (by omega), (by omega), rfl⟩ ?_
                      clear f132 f130
                      clear r62
                      clear bx63
                      clear r76
                      clear e59
                      intro m_ act133 w134 ⟨q, hm136, f137, e135, r138, bx139, r140, i141, i142, i143⟩
                      have szw134 := e135.size
                      have := bx139.lt
                      refine wp_seq ?_
                      refine At.start ?_
                      refine At.rd f137 1 [[]] [(80, .bool (decide ((q : Int) < (((gL g.mv (k)).length : Nat) : Int))))] [] (by kernel_rfl) trivial (fun act145 f144 => ?_)
                      clear f137
                      refine At.done rfl ?_
                      refine t_n ?_
                      refine wp_seq ?_
                      refine cond_S f144 (t := decide ((q : Int) < (((gL g.mv (k)).length : Nat) : Int))) rfl (fun h146 => ?_) (fun h146 => ?_)
                      · have q147 := of_decide_eq_true h146
                        refine wp_skip ?_
                        refine t_n ?_
                        refine wp_seq ?_
                        refine wp_block ?_
                        refine wp_seq ?_
                        refine At.start ?_
                        obtain ⟨ad148, hA149, _, _, hc150⟩ := RdI.get r140 (q) (by omega) (by omega)
                        refine At.rd f144 5 [[], [.ad ad148], [.ld (.int .i64 (gI (gL g.mv (k)) (q)))], [], []] [(8, .int .i64 (gI (gL g.mv (k)) (q))), (7, .int .i64 (q)), (83, .int .i64 (gI (gL g.mv (k)) (q))), (82, .pointer (some (ad148.add ((q : Int).toNat * 1)))), (81, .int .i64 (q))] [(R73 = some ad148), (0 ≤ (q : Int)), ((q : Int) < ((gL g.mv (k)).length : Nat)), (w134.cell? (ad148.add ((q : Int).toNat * 1)) = some (.int .i64 (gI (gL g.mv (k)) (q))))] (by kernel_rfl) ⟨hA149, (by omega), (by omega), hc150, trivial⟩ (fun act152 f151 => ?_)
                        clear f144
                        refine At.done rfl ?_
                        refine t_n ?_
                        refine wp_seq ?_
                        refine At.start ?_
                        rcases Bool.eq_false_or_eq_true (decide ((gI (gL g.mv (k)) (q) : Int) < 0)) with h153 | h153
                        · have q154 := of_decide_eq_true h153
                          refine At.rd f151 20 [[], [], [.as_ (.bool true)], [], [], [], [], [], [], [], [], [], [], [], [], [], [], [], [], []] [(103, .bool true), (102, undef), (101, undef), (100, undef), (99, undef), (98, undef), (97, undef), (96, undef), (95, undef), (94, undef), (93, undef), (92, undef), (91, .bool true), (90, .bool true), (89, undef), (88, undef), (87, undef), (86, .bool true), (85, .bool (decide ((gI (gL g.mv (k)) (q) : Int) < 0))), (84, .int .i64 (gI (gL g.mv (k)) (q)))] [((.bool (decide ((gI (gL g.mv (k)) (q) : Int) < 0)) : Value) = .bool true)] (by kernel_rfl) ⟨(congrArg Value.bool h153), trivial⟩ (fun act156 f155 => ?_)
                          clear f151
                          refine At.done rfl ?_
                          refine t_n ?_
                          have f157 := f155.sub (r := [(103, .bool true), (91, .bool true), (90, .bool true), (86, .bool true), (85, .bool (decide ((gI (gL g.mv (k)) (q) : Int) < 0))), (84, .int .i64 (gI (gL g.mv (k)) (q))), (8, .int .i64 (gI (gL g.mv (k)) (q))), (7, .int .i64 (q)), (83, .int .i64 (gI (gL g.mv (k)) (q))), (82, .pointer (some (ad148.add ((q : Int).toNat * 1)))), (81, .int .i64 (q)), (80, .bool (decide ((q : Int) < (((gL g.mv (k)).length : Nat) : Int)))), (79, .int .i64 (q)), (78, .int .i64 ((((gL g.mv (k)).length : Nat) : Int))), (77, .slice R73 ((gL g.mv (k)).length) C74), (72, .bool (((((gL g.mv (k)).length : Nat) : Int) : Int) == 0)), (75, .bool (((((gL g.mv (k)).length : Nat) : Int) : Int) == 0)), (74, .int .i64 ((((gL g.mv (k)).length : Nat) : Int))), (73, .slice R73 ((gL g.mv (k)).length) C74), (56, .bool (decide ((gI g.pr (k) : Int) > 7))), (70, .bool (decide ((gI g.pr (k) : Int) > 7))), (69, .bool (decide ((gI g.pr (k) : Int) > 7))), (68, .int .i64 (gI g.pr (k))), (67, .pointer (some (ad113.add ((k : Int).toNat * 1)))), (66, .int .i64 (k)), (65, .slice Ag1 g.pr.length cg1), (64, .pointer (some ⟨w.heap.size, 1, none⟩)), (63, .bool false), (62, .bool (decide ((gI g.pr (k) : Int) < 0))), (61, .int .i64 (gI g.pr (k))), (60, .pointer (some (ad102.add ((k : Int).toNat * 1)))), (59, .int .i64 (k)), (58, .slice Ag1 g.pr.length cg1), (57, .pointer (some ⟨w.heap.size, 1, none⟩)), (40, .bool (decide ((gI g.ow (k) : Int) > 1))), (54, .bool (decide ((gI g.ow (k) : Int) > 1))), (53, .bool (decide ((gI g.ow (k) : Int) > 1))), (52, .int .i64 (gI g.ow (k))), (51, .pointer (some (ad92.add ((k : Int).toNat * 1)))), (50, .int .i64 (k)), (49, .slice Ag0 g.ow.length cg0), (48, .pointer (some ⟨w.heap.size, 0, none⟩)), (47, .bool false), (46, .bool (decide ((gI g.ow (k) : Int) < 0))), (45, .int .i64 (gI g.ow (k))), (44, .pointer (some (ad81.add ((k : Int).toNat * 1)))), (43, .int .i64 (k)), (42, .slice Ag0 g.ow.length cg0), (41, .pointer (some ⟨w.heap.size, 0, none⟩)), (6, .slice R73 ((gL g.mv (k)).length) C74), (5, .int .i64 (k)), (39, .slice R73 ((gL g.mv (k)).length) C74), (38, .pointer (some (ad70.add ((k : Int).toNat * 1)))), (37, .int .i64 (k)), (36, .bool (decide ((k : Int) < ((g.mv.length : Nat) : Int)))), (35, .int .i64 (k)), (34, .int .i64 (((g.mv.length : Nat) : Int))), (33, .slice Ag2 g.mv.length cg2), (4, .int .i64 (((g.mv.length : Nat) : Int))), (1, .pointer (some ⟨w.heap.size, 0, none⟩))]) ⟨rfl, rfl, rfl, rfl, rfl, rfl, rfl, rfl, rfl, rfl, rfl, rfl, rfl, rfl, rfl, rfl, rfl, rfl, rfl, rfl, rfl, rfl, rfl, rfl, rfl, rfl, rfl, rfl, rfl, rfl, rfl, rfl, rfl, rfl, rfl, rfl, rfl, rfl, rfl, rfl, rfl, rfl, rfl, rfl, rfl, rfl, rfl, rfl, rfl, rfl, rfl, rfl, rfl, rfl, rfl, rfl, rfl, rfl, rfl, rfl, trivial⟩
                          clear f155
                          refine cond_T f157 rfl ?_
                          refine wp_seq ?_
                          refine At.start ?_
                          refine At.rd f157 3 [[], [], []] [(3, .int .i64 (16)), (2, .int .i64 (k)), (104, .int .i64 (k))] [] (by kernel_rfl) trivial (fun act159 f158 => ?_)
                          clear f157
                          refine At.done rfl ?_
                          refine t_n ?_
                          refine wp_ret ?_
                          refine b_r ?_
                          refine t_r ?_
                          refine t_r ?_
                          refine b_r ?_
                          refine b_r ?_
                          refine t_r ?_
                          refine t_r ?_
                          refine b_r ?_
                          refine t_r ?_
                          refine ret_ f158 [] [.int .i64 (k), .int .i64 (16)] [] (by kernel_rfl) trivial ?_
                          exact ⟨ret2_ii (right_at' (by omega) (by omega) (by omega) (by omega) (by assumption) (err_16 (by omega) (by omega) (by omega) (bad_at2 (q := q) (by omega) (by omega) (by assumption) (by omega))) (by decide)) rfl rfl, e135⟩
                        · have q160 := of_decide_eq_false h153
                          rcases Bool.eq_false_or_eq_true (decide ((gI (gL g.mv (k)) (q) : Int) ≥ ((g.mv.length : Nat) : Int))) with h161 | h161
                          · have q162 := of_decide_eq_true h161
                            refine At.rd f151 20 [[], [], [.as_ (.bool false)], [], [], [], [], [.as_ (.bool true)], [], [], [], [], [], [], [], [], [], [], [], []] [(103, .bool true), (102, undef), (101, undef), (100, undef), (99, undef), (98, undef), (97, undef), (96, undef), (95, undef), (94, undef), (93, undef), (92, undef), (91, .bool true), (90, .bool (decide ((gI (gL g.mv (k)) (q) : Int) ≥ ((g.mv.length : Nat) : Int)))), (89, .bool (decide ((gI (gL g.mv (k)) (q) : Int) ≥ ((g.mv.length : Nat) : Int)))), (88, .int .i64 (((g.mv.length : Nat) : Int))), (87, .int .i64 (gI (gL g.mv (k)) (q))), (86, .bool false), (85, .bool (decide ((gI (gL g.mv (k)) (q) : Int) < 0))), (84, .int .i64 (gI (gL g.mv (k)) (q)))] [((.bool (decide ((gI (gL g.mv (k)) (q) : Int) < 0)) : Value) = .bool false), ((.bool (decide ((gI (gL g.mv (k)) (q) : Int) ≥ ((g.mv.length : Nat) : Int))) : Value) = .bool true)] (by kernel_rfl) ⟨(congrArg Value.bool h153), (congrArg Value.bool h161), trivial⟩ (fun act164 f163 => ?_)
                            clear f151
                            refine At.done rfl ?_
                            refine t_n ?_
                            have f165 := f163.sub (r := [(103, .bool true), (91, .bool true), (90, .bool (decide ((gI (gL g.mv (k)) (q) : Int) ≥ ((g.mv.length : Nat) : Int)))), (89, .bool (decide ((gI (gL g.mv (k)) (q) : Int) ≥ ((g.mv.length : Nat) : Int)))), (88, .int .i64 (((g.mv.length : Nat) : Int))), (87, .int .i64 (gI (gL g.mv (k)) (q))), (86, .bool false), (85, .bool (decide ((gI (gL g.mv (k)) (q) : Int) < 0))), (84, .int .i64 (gI (gL g.mv (k)) (q))), (8, .int .i64 (gI (gL g.mv (k)) (q))), (7, .int .i64 (q)), (83, .int .i64 (gI (gL g.mv (k)) (q))), (82, .pointer (some (ad148.add ((q : Int).toNat * 1)))), (81, .int .i64 (q)), (80, .bool (decide ((q : Int) < (((gL g.mv (k)).length : Nat) : Int)))), (79, .int .i64 (q)), (78, .int .i64 ((((gL g.mv (k)).length : Nat) : Int))), (77, .slice R73 ((gL g.mv (k)).length) C74), (72, .bool (((((gL g.mv (k)).length : Nat) : Int) : Int) == 0)), (75, .bool (((((gL g.mv (k)).length : Nat) : Int) : Int) == 0)), (74, .int .i64 ((((gL g.mv (k)).length : Nat) : Int))), (73, .slice R73 ((gL g.mv (k)).length) C74), (56, .bool (decide ((gI g.pr (k) : Int) > 7))), (70, .bool (decide ((gI g.pr (k) : Int) > 7))), (69, .bool (decide ((gI g.pr (k) : Int) > 7))), (68, .int .i64 (gI g.pr (k))), (67, .pointer (some (ad113.add ((k : Int).toNat * 1)))), (66, .int .i64 (k)), (65, .slice Ag1 g.pr.length cg1), (64, .pointer (some ⟨w.heap.size, 1, none⟩)), (63, .bool false), (62, .bool (decide ((gI g.pr (k) : Int) < 0))), (61, .int .i64 (gI g.pr (k))), (60, .pointer (some (ad102.add ((k : Int).toNat * 1)))), (59, .int .i64 (k)), (58, .slice Ag1 g.pr.length cg1), (57, .pointer (some ⟨w.heap.size, 1, none⟩)), (40, .bool (decide ((gI g.ow (k) : Int) > 1))), (54, .bool (decide ((gI g.ow (k) : Int) > 1))), (53, .bool (decide ((gI g.ow (k) : Int) > 1))), (52, .int .i64 (gI g.ow (k))), (51, .pointer (some (ad92.add ((k : Int).toNat * 1)))), (50, .int .i64 (k)), (49, .slice Ag0 g.ow.length cg0), (48, .pointer (some ⟨w.heap.size, 0, none⟩)), (47, .bool false), (46, .bool (decide ((gI g.ow (k) : Int) < 0))), (45, .int .i64 (gI g.ow (k))), (44, .pointer (some (ad81.add ((k : Int).toNat * 1)))), (43, .int .i64 (k)), (42, .slice Ag0 g.ow.length cg0), (41, .pointer (some ⟨w.heap.size, 0, none⟩)), (6, .slice R73 ((gL g.mv (k)).length) C74), (5, .int .i64 (k)), (39, .slice R73 ((gL g.mv (k)).length) C74), (38, .pointer (some (ad70.add ((k : Int).toNat * 1)))), (37, .int .i64 (k)), (36, .bool (decide ((k : Int) < ((g.mv.length : Nat) : Int)))), (35, .int .i64 (k)), (34, .int .i64 (((g.mv.length : Nat) : Int))), (33, .slice Ag2 g.mv.length cg2), (4, .int .i64 (((g.mv.length : Nat) : Int))), (1, .pointer (some ⟨w.heap.size, 0, none⟩))]) ⟨rfl, rfl, rfl, rfl, rfl, rfl, rfl, rfl, rfl, rfl, rfl, rfl, rfl, rfl, rfl, rfl, rfl, rfl, rfl, rfl, rfl, rfl, rfl, rfl, rfl, rfl, rfl, rfl, rfl, rfl, rfl, rfl, rfl, rfl, rfl, rfl, rfl, rfl, rfl, rfl, rfl, rfl, rfl, rfl, rfl, rfl, rfl, rfl, rfl, rfl, rfl, rfl, rfl, rfl, rfl, rfl, rfl, rfl, rfl, rfl, rfl, rfl, rfl, trivial⟩
                            clear f163
                            refine cond_T f165 rfl ?_
                            refine wp_seq ?_
                            refine At.start ?_
                            refine At.rd f165 3 [[], [], []] [(3, .int .i64 (16)), (2, .int .i64 (k)), (104, .int .i64 (k))] [] (by kernel_rfl) trivial (fun act167 f166 => ?_)
                            clear f165
                            refine At.done rfl ?_
                            refine t_n ?_
                            refine wp_ret ?_
                            refine b_r ?_
                            refine t_r ?_
                            refine t_r ?_
                            refine b_r ?_
                            refine b_r ?_
                            refine t_r ?_
                            refine t_r ?_
                            refine b_r ?_
                            refine t_r ?_
                            refine ret_ f166 [] [.int .i64 (k), .int .i64 (16)] [] (by kernel_rfl) trivial ?_
                            exact ⟨ret2_ii (right_at' (by omega) (by omega) (by omega) (by omega) (by assumption) (err_16 (by omega) (by omega) (by omega) (bad_at2 (q := q) (by omega) (by omega) (by assumption) (by omega))) (by decide)) rfl rfl, e135⟩
                          · have q168 := of_decide_eq_false h161
                            rcases Bool.eq_false_or_eq_true (decide ((q : Int) > 0)) with h169 | h169
                            · have q170 := of_decide_eq_true h169
                              obtain ⟨ad171, hA172, _, _, hc173⟩ := RdI.get r140 (q - 1) (by omega) (by omega)
                              refine At.rd f151 20 [[], [], [.as_ (.bool false)], [], [], [], [], [.as_ (.bool false)], [], [], [.as_ (.bool true)], [], [], [], [.as_ (.int .i64 (q - 1))], [.ad ad171], [.ld (.int .i64 (gI (gL g.mv (k)) (q - 1)))], [], [], []] [(103, .bool (decide ((gI (gL g.mv (k)) (q) : Int) ≤ (gI (gL g.mv (k)) (q - 1))))), (102, .bool (decide ((gI (gL g.mv (k)) (q) : Int) ≤ (gI (gL g.mv (k)) (q - 1))))), (101, .bool (decide ((gI (gL g.mv (k)) (q) : Int) ≤ (gI (gL g.mv (k)) (q - 1))))), (100, .int .i64 (gI (gL g.mv (k)) (q - 1))), (99, .pointer (some (ad171.add ((q - 1 : Int).toNat * 1)))), (98, .int .i64 (q - 1)), (97, .int .i64 (q)), (96, .slice R73 ((gL g.mv (k)).length) C74), (95, .int .i64 (gI (gL g.mv (k)) (q))), (94, .bool true), (93, .bool (decide ((q : Int) > 0))), (92, .int .i64 (q)), (91, .bool false), (90, .bool (decide ((gI (gL g.mv (k)) (q) : Int) ≥ ((g.mv.length : Nat) : Int)))), (89, .bool (decide ((gI (gL g.mv (k)) (q) : Int) ≥ ((g.mv.length : Nat) : Int)))), (88, .int .i64 (((g.mv.length : Nat) : Int))), (87, .int .i64 (gI (gL g.mv (k)) (q))), (86, .bool false), (85, .bool (decide ((gI (gL g.mv (k)) (q) : Int) < 0))), (84, .int .i64 (gI (gL g.mv (k)) (q)))] [((.bool (decide ((gI (gL g.mv (k)) (q) : Int) < 0)) : Value) = .bool false), ((.bool (decide ((gI (gL g.mv (k)) (q) : Int) ≥ ((g.mv.length : Nat) : Int))) : Value) = .bool false), ((.bool (decide ((q : Int) > 0)) : Value) = .bool true), ((.int .i64 (IntKind.i64.wrap (q - 1)) : Value) = .int .i64 (q - 1)), (R73 = some ad171), (0 ≤ (q - 1 : Int)), ((q - 1 : Int) < ((gL g.mv (k)).length : Nat)), (w134.cell? (ad171.add ((q - 1 : Int).toNat * 1)) = some (.int .i64 (gI (gL g.mv (k)) (q - 1))))] (by kernel_rfl) ⟨(congrArg Value.bool h153), (congrArg Value.bool h161), (congrArg Value.bool h169), (w64 (by omega) (by omega)), hA172, (by omega), (by omega), hc173, trivial⟩ (fun act175 f174 => ?_)
                              clear f151
                              refine At.done rfl ?_
                              refine t_n ?_
                              refine cond_S f174 (t := decide ((gI (gL g.mv (k)) (q) : Int) ≤ (gI (gL g.mv (k)) (q - 1)))) rfl (fun h176 => ?_) (fun h176 => ?_)
                              · have q177 := of_decide_eq_true h176
                                refine wp_seq ?_
                                refine At.start ?_
                                refine At.rd f174 3 [[], [], []] [(3, .int .i64 (16)), (2, .int .i64 (k)), (104, .int .i64 (k))] [] (by kernel_rfl) trivial (fun act179 f178 => ?_)
                                clear f174
                                refine At.done rfl ?_
                                refine t_n ?_
                                refine wp_ret ?_
                                refine b_r ?_
                                refine t_r ?_
                                refine t_r ?_
                                refine b_r ?_
                                refine b_r ?_
                                refine t_r ?_
                                refine t_r ?_
                                refine b_r ?_
                                refine t_r ?_
                                refine ret_ f178 [] [.int .i64 (k), .int .i64 (16)] [] (by kernel_rfl) trivial ?_
                                exact ⟨ret2_ii (right_at' (by omega) (by omega) (by omega) (by omega) (by assumption) (err_16 (by omega) (by omega) (by omega) (bad_at2 (q := q) (by omega) (by omega) (by assumption) (by omega))) (by decide)) rfl rfl, e135⟩
                              · have q180 := of_decide_eq_false h176
                                refine wp_skip ?_
                                refine b_n ?_
                                refine t_n ?_
                                refine At.start ?_
                                refine At.rd f174 2 [[.as_ (.int .i64 (q + 1))], []] [(79, .int .i64 (q + 1)), (105, .int .i64 (q + 1))] [((.int .i64 (IntKind.i64.wrap (q + 1)) : Value) = .int .i64 (q + 1))] (by kernel_rfl) ⟨(w64 (by omega) (by omega)), trivial⟩ (fun act182 f181 => ?_)
                                clear f174
                                refine At.done rfl ?_
                                refine t_n ?_
                                have f183 := f181.sub (r := [(79, .int .i64 (q + 1)), (78, .int .i64 ((((gL g.mv (k)).length : Nat) : Int))), (77, .slice R73 ((gL g.mv (k)).length) C74), (72, .bool (((((gL g.mv (k)).length : Nat) : Int) : Int) == 0)), (75, .bool (((((gL g.mv (k)).length : Nat) : Int) : Int) == 0)), (74, .int .i64 ((((gL g.mv (k)).length : Nat) : Int))), (73, .slice R73 ((gL g.mv (k)).length) C74), (56, .bool (decide ((gI g.pr (k) : Int) > 7))), (70, .bool (decide ((gI g.pr (k) : Int) > 7))), (69, .bool (decide ((gI g.pr (k) : Int) > 7))), (68, .int .i64 (gI g.pr (k))), (67, .pointer (some (ad113.add ((k : Int).toNat * 1)))), (66, .int .i64 (k)), (65, .slice Ag1 g.pr.length cg1), (64, .pointer (some ⟨w.heap.size, 1, none⟩)), (63, .bool false), (62, .bool (decide ((gI g.pr (k) : Int) < 0))), (61, .int .i64 (gI g.pr (k))), (60, .pointer (some (ad102.add ((k : Int).toNat * 1)))), (59, .int .i64 (k)), (58, .slice Ag1 g.pr.length cg1), (57, .pointer (some ⟨w.heap.size, 1, none⟩)), (40, .bool (decide ((gI g.ow (k) : Int) > 1))), (54, .bool (decide ((gI g.ow (k) : Int) > 1))), (53, .bool (decide ((gI g.ow (k) : Int) > 1))), (52, .int .i64 (gI g.ow (k))), (51, .pointer (some (ad92.add ((k : Int).toNat * 1)))), (50, .int .i64 (k)), (49, .slice Ag0 g.ow.length cg0), (48, .pointer (some ⟨w.heap.size, 0, none⟩)), (47, .bool false), (46, .bool (decide ((gI g.ow (k) : Int) < 0))), (45, .int .i64 (gI g.ow (k))), (44, .pointer (some (ad81.add ((k : Int).toNat * 1)))), (43, .int .i64 (k)), (42, .slice Ag0 g.ow.length cg0), (41, .pointer (some ⟨w.heap.size, 0, none⟩)), (6, .slice R73 ((gL g.mv (k)).length) C74), (5, .int .i64 (k)), (39, .slice R73 ((gL g.mv (k)).length) C74), (38, .pointer (some (ad70.add ((k : Int).toNat * 1)))), (37, .int .i64 (k)), (36, .bool (decide ((k : Int) < ((g.mv.length : Nat) : Int)))), (35, .int .i64 (k)), (34, .int .i64 (((g.mv.length : Nat) : Int))), (33, .slice Ag2 g.mv.length cg2), (4, .int .i64 (((g.mv.length : Nat) : Int))), (1, .pointer (some ⟨w.heap.size, 0, none⟩))]) ⟨rfl, rfl, rfl, rfl, rfl, rfl, rfl, rfl, rfl, rfl, rfl, rfl, rfl, rfl, rfl, rfl, rfl, rfl, rfl, rfl, rfl, rfl, rfl, rfl, rfl, rfl, rfl, rfl, rfl, rfl, rfl, rfl, rfl, rfl, rfl, rfl, rfl, rfl, rfl, rfl, rfl, rfl, rfl, rfl, rfl, rfl, rfl, rfl, trivial⟩
                                exact ⟨_, (by omega), (q + 1), rfl, f183, e135, r138, bx139, r140, (by omega), (by omega), (bad_next2 (by omega) (by omega) (by assumption) (by omega) (by omega) (by omega))⟩
                            · have q184 := of_decide_eq_false h169
                              refine At.rd f151 20 [[], [], [.as_ (.bool false)], [], [], [], [], [.as_ (.bool false)], [], [], [.as_ (.bool false)], [], [], [], [], [], [], [], [], []] [(103, .bool false), (102, .bool false), (101, undef), (100, undef), (99, undef), (98, undef), (97, undef), (96, undef), (95, undef), (94, .bool false), (93, .bool (decide ((q : Int) > 0))), (92, .int .i64 (q)), (91, .bool false), (90, .bool (decide ((gI (gL g.mv (k)) (q) : Int) ≥ ((g.mv.length : Nat) : Int)))), (89, .bool (decide ((gI (gL g.mv (k)) (q) : Int) ≥ ((g.mv.length : Nat) : Int)))), (88, .int .i64 (((g.mv.length : Nat) : Int))), (87, .int .i64 (gI (gL g.mv (k)) (q))), (86, .bool false), (85, .bool (decide ((gI (gL g.mv (k)) (q) : Int) < 0))), (84, .int .i64 (gI (gL g.mv (k)) (q)))] [((.bool (decide ((gI (gL g.mv (k)) (q) : Int) < 0)) : Value) = .bool false), ((.bool (decide ((gI (gL g.mv (k)) (q) : Int) ≥ ((g.mv.length : Nat) : Int))) : Value) = .bool false), ((.bool (decide ((q : Int) > 0)) : Value) = .bool false)] (by kernel_rfl) ⟨(congrArg Value.bool h153), (congrArg Value.bool h161), (congrArg Value.bool h169), trivial⟩ (fun act186 f185 => ?_)
                              clear f151
                              refine At.done rfl ?_
                              refine t_n ?_
                              have f187 := f185.sub (r := [(103, .bool false), (102, .bool false), (94, .bool false), (93, .bool (decide ((q : Int) > 0))), (92, .int .i64 (q)), (91, .bool false), (90, .bool (decide ((gI (gL g.mv (k)) (q) : Int) ≥ ((g.mv.length : Nat) : Int)))), (89, .bool (decide ((gI (gL g.mv (k)) (q) : Int) ≥ ((g.mv.length : Nat) : Int)))), (88, .int .i64 (((g.mv.length : Nat) : Int))), (87, .int .i64 (gI (gL g.mv (k)) (q))), (86, .bool false), (85, .bool (decide ((gI (gL g.mv (k)) (q) : Int) < 0))), (84, .int .i64 (gI (gL g.mv (k)) (q))), (8, .int .i64 (gI (gL g.mv (k)) (q))), (7, .int .i64 (q)), (83, .int .i64 (gI (gL g.mv (k)) (q))), (82, .pointer (some (ad148.add ((q : Int).toNat * 1)))), (81, .int .i64 (q)), (80, .bool (decide ((q : Int) < (((gL g.mv (k)).length : Nat) : Int)))), (79, .int .i64 (q)), (78, .int .i64 ((((gL g.mv (k)).length : Nat) : Int))), (77, .slice R73 ((gL g.mv (k)).length) C74), (72, .bool (((((gL g.mv (k)).length : Nat) : Int) : Int) == 0)), (75, .bool (((((gL g.mv (k)).length : Nat) : Int) : Int) == 0)), (74, .int .i64 ((((gL g.mv (k)).length : Nat) : Int))), (73, .slice R73 ((gL g.mv (k)).length) C74), (56, .bool (decide ((gI g.pr (k) : Int) > 7))), (70, .bool (decide ((gI g.pr (k) : Int) > 7))), (69, .bool (decide ((gI g.pr (k) : Int) > 7))), (68, .int .i64 (gI g.pr (k))), (67, .pointer (some (ad113.add ((k : Int).toNat * 1)))), (66, .int .i64 (k)), (65, .slice Ag1 g.pr.length cg1), (64, .pointer (some ⟨w.heap.size, 1, none⟩)), (63, .bool false), (62, .bool (decide ((gI g.pr (k) : Int) < 0))), (61, .int .i64 (gI g.pr (k))), (60, .pointer (some (ad102.add ((k : Int).toNat * 1)))), (59, .int .i64 (k)), (58, .slice Ag1 g.pr.length cg1), (57, .pointer (some ⟨w.heap.size, 1, none⟩)), (40, .bool (decide ((gI g.ow (k) : Int) > 1))), (54, .bool (decide ((gI g.ow (k) : Int) > 1))), (53, .bool (decide ((gI g.ow (k) : Int) > 1))), (52, .int .i64 (gI g.ow (k))), (51, .pointer (some (ad92.add ((k : Int).toNat * 1)))), (50, .int .i64 (k)), (49, .slice Ag0 g.ow.length cg0), (48, .pointer (some ⟨w.heap.size, 0, none⟩)), (47, .bool false), (46, .bool (decide ((gI g.ow (k) : Int) < 0))), (45, .int .i64 (gI g.ow (k))), (44, .pointer (some (ad81.add ((k : Int).toNat * 1)))), (43, .int .i64 (k)), (42, .slice Ag0 g.ow.length cg0), (41, .pointer (some ⟨w.heap.size, 0, none⟩)), (6, .slice R73 ((gL g.mv (k)).length) C74), (5, .int .i64 (k)), (39, .slice R73 ((gL g.mv (k)).length) C74), (38, .pointer (some (ad70.add ((k : Int).toNat * 1)))), (37, .int .i64 (k)), (36, .bool (decide ((k : Int) < ((g.mv.length : Nat) : Int)))), (35, .int .i64 (k)), (34, .int .i64 (((g.mv.length : Nat) : Int))), (33, .slice Ag2 g.mv.length cg2), (4, .int .i64 (((g.mv.length : Nat) : Int))), (1, .pointer (some ⟨w.heap.size, 0, none⟩))]) ⟨rfl, rfl, rfl, rfl, rfl, rfl, rfl, rfl, rfl, rfl, rfl, rfl, rfl, rfl, rfl, rfl, rfl, rfl, rfl, rfl, rfl, rfl, rfl, rfl, rfl, rfl, rfl, rfl, rfl, rfl, rfl, rfl, rfl, rfl, rfl, rfl, rfl, rfl, rfl, rfl, rfl, rfl, rfl, rfl, rfl, rfl, rfl, rfl, rfl, rfl, rfl, rfl, rfl, rfl, rfl, rfl, rfl, rfl, rfl, rfl, rfl, rfl, rfl, rfl, rfl, rfl, rfl, trivial⟩
                              clear f185
                              refine cond_F f187 rfl ?_
                              refine wp_skip ?_
                              refine b_n ?_
                              refine t_n ?_
                              refine At.start ?_
                              refine At.rd f187 2 [[.as_ (.int .i64 (q + 1))], []] [(79, .int .i64 (q + 1)), (105, .int .i64 (q + 1))] [((.int .i64 (IntKind.i64.wrap (q + 1)) : Value) = .int .i64 (q + 1))] (by kernel_rfl) ⟨(w64 (by omega) (by omega)), trivial⟩ (fun act189 f188 => ?_)
                              clear f187
                              refine At.done rfl ?_
                              refine t_n ?_
                              have f190 := f188.sub (r := [(79, .int .i64 (q + 1)), (78, .int .i64 ((((gL g.mv (k)).length : Nat) : Int))), (77, .slice R73 ((gL g.mv (k)).length) C74), (72, .bool (((((gL g.mv (k)).length : Nat) : Int) : Int) == 0)), (75, .bool (((((gL g.mv (k)).length : Nat) : Int) : Int) == 0)), (74, .int .i64 ((((gL g.mv (k)).length : Nat) : Int))), (73, .slice R73 ((gL g.mv (k)).length) C74), (56, .bool (decide ((gI g.pr (k) : Int) > 7))), (70, .bool (decide ((gI g.pr (k) : Int) > 7))), (69, .bool (decide ((gI g.pr (k) : Int) > 7))), (68, .int .i64 (gI g.pr (k))), (67, .pointer (some (ad113.add ((k : Int).toNat * 1)))), (66, .int .i64 (k)), (65, .slice Ag1 g.pr.length cg1), (64, .pointer (some ⟨w.heap.size, 1, none⟩)), (63, .bool false), (62, .bool (decide ((gI g.pr (k) : Int) < 0))), (61, .int .i64 (gI g.pr (k))), (60, .pointer (some (ad102.add ((k : Int).toNat * 1)))), (59, .int .i64 (k)), (58, .slice Ag1 g.pr.length cg1), (57, .pointer (some ⟨w.heap.size, 1, none⟩)), (40, .bool (decide ((gI g.ow (k) : Int) > 1))), (54, .bool (decide ((gI g.ow (k) : Int) > 1))), (53, .bool (decide ((gI g.ow (k) : Int) > 1))), (52, .int .i64 (gI g.ow (k))), (51, .pointer (some (ad92.add ((k : Int).toNat * 1)))), (50, .int .i64 (k)), (49, .slice Ag0 g.ow.length cg0), (48, .pointer (some ⟨w.heap.size, 0, none⟩)), (47, .bool false), (46, .bool (decide ((gI g.ow (k) : Int) < 0))), (45, .int .i64 (gI g.ow (k))), (44, .pointer (some (ad81.add ((k : Int).toNat * 1)))), (43, .int .i64 (k)), (42, .slice Ag0 g.ow.length cg0), (41, .pointer (some ⟨w.heap.size, 0, none⟩)), (6, .slice R73 ((gL g.mv (k)).length) C74), (5, .int .i64 (k)), (39, .slice R73 ((gL g.mv (k)).length) C74), (38, .pointer (some (ad70.add ((k : Int).toNat * 1)))), (37, .int .i64 (k)), (36, .bool (decide ((k : Int) < ((g.mv.length : Nat) : Int)))), (35, .int .i64 (k)), (34, .int .i64 (((g.mv.length : Nat) : Int))), (33, .slice Ag2 g.mv.length cg2), (4, .int .i64 (((g.mv.length : Nat) : Int))), (1, .pointer (some ⟨w.heap.size, 0, none⟩))]) ⟨rfl, rfl, rfl, rfl, rfl, rfl, rfl, rfl, rfl, rfl, rfl, rfl, rfl, rfl, rfl, rfl, rfl, rfl, rfl, rfl, rfl, rfl, rfl, rfl, rfl, rfl, rfl, rfl, rfl, rfl, rfl, rfl, rfl, rfl, rfl, rfl, rfl, rfl, rfl, rfl, rfl, rfl, rfl, rfl, rfl, rfl, rfl, rfl, trivial⟩
                              exact ⟨_, (by omega), (q + 1), rfl, f190, e135, r138, bx139, r140, (by omega), (by omega), (bad_next2 (by omega) (by omega) (by assumption) (by omega) (by omega) (by omega))⟩
                      · have q191 := of_decide_eq_false h146
                        refine wp_exit ?_
                        refine t_e ?_
                        refine t_e ?_
                        refine b_e ?_
                        refine b_n ?_
                        refine t_n ?_
                        refine At.start ?_
                        refine At.rd f144 2 [[.as_ (.int .i64 (k + 1))], []] [(35, .int .i64 (k + 1)), (106, .int .i64 (k + 1))] [((.int .i64 (IntKind.i64.wrap (k + 1)) : Value) = .int .i64 (k + 1))] (by kernel_rfl) ⟨(w64 (by omega) (by omega)), trivial⟩ (fun act193 f192 => ?_)
                        clear f144
                        refine At.done rfl ?_
                        refine t_n ?_
                        have f194 := f192.sub (r := [(35, .int .i64 (k + 1)), (34, .int .i64 (((g.mv.length : Nat) : Int))), (33, .slice Ag2 g.mv.length cg2), (4, .int .i64 (((g.mv.length : Nat) : Int))), (1, .pointer (some ⟨w.heap.size, 0, none⟩))]) ⟨rfl, rfl, rfl, rfl, rfl, trivial⟩
                        exact ⟨_, (by omega), (k + 1), rfl, f194, e135, r138, bx139, (by omega), (by omega), (err_next (by omega) hp (err_0 (by omega) (by omega) (by omega) (bad_all (by assumption) (by omega))))⟩
          · have q195 := of_decide_eq_false h68
            refine wp_exit ?_
            refine t_e ?_
            refine t_e ?_
            refine b_e ?_
            refine t_n ?_
            have f196 := f66.sub (r := []) trivial
            clear f66
            refine wp_seq ?_
            refine At.start ?_
            refine At.rd f196 2 [[], []] [(3, .int .i64 (0)), (2, .int .i64 (0))] [] (by kernel_rfl) trivial (fun act198 f197 => ?_)
            clear f196
            refine At.done rfl ?_
            refine t_n ?_
            refine wp_ret ?_
            refine ret_ f197 [] [.int .i64 (0), .int .i64 (0)] [] (by kernel_rfl) trivial ?_
            exact ⟨ret2_ii (right_ok' (k := k) (by omega) (by omega) (by omega) (by assumption)) rfl rfl, e59⟩

end Go.Proofs.Ytklbpajmoklheaa
