/-
  A walk of a Go function, printed by a program of this repo. Conditions: what the theorems name.
-/
import Derived.Test.YtklbpajmoklheaaPureGame
import Derived.Test.YtklbpajmoklheaaFy
set_option linter.unusedVariables false
set_option linter.unusedSimpArgs false
namespace Go.Proofs.Ytklbpajmoklheaa
open Go Go.RowKit

set_option maxHeartbeats 4000000 in
theorem right_any {Ag0 Ag1 Ag2 : Option Addr} {cg0 cg1 cg2 : Nat} {g : GameL} {w : World} (rg : RdG w 0 w.heap.size Ag0 Ag1 Ag2 cg0 cg1 cg2 g) :
    Calls Try.prog 36 #[.agg #[.slice Ag0 g.ow.length cg0, .slice Ag1 g.pr.length cg1, .slice Ag2 g.mv.length cg2]] w fun e w' => e = .returned (.tuple #[.int .i64 (rightP g).1, .int .i64 (rightP g).2]) ∧ Ext w w' := by
 have hlg0 := rg.ow.len; have hlg1 := rg.pr.len; have hlg2 := rg.mv.len; have hkg0 := rg.k0; have hkg1 := rg.k1; have hkg2 := rg.k2
 refine enter_ (args := [.agg #[.slice Ag0 g.ow.length cg0, .slice Ag1 g.pr.length cg1, .slice Ag2 g.mv.length cg2]]) Try.func36 rfl Try.ntmps36 (Nat.le_of_ble_eq_true rfl) (fun act0 f0 => ?_)
 have e0 : Ext w w := Ext.refl w
 refine wp_seq ?_
 refine At.start ?_
 refine At.seq f0 1 [[]] [(1, .pointer (some ⟨w.heap.size, 0, none⟩))] (w.alloc (.cells #[.slice Ag0 g.ow.length cg0, .slice Ag1 g.pr.length cg1, .slice Ag2 g.mv.length cg2] 25 (0, 0))) [] (by kernel_rfl) trivial (fun act4 w1 hw2 f3 => ?_)
 clear f0; have g5 := gr_alloc hw2; have := g5.size; replace e0 := e0.gn g5; have r8 := rg.gn g5; clear rg; have bx9 : Bx w1 (w.heap.size) [.slice Ag0 g.ow.length cg0, .slice Ag1 g.pr.length cg1, .slice Ag2 g.mv.length cg2] 25 := Bx.new hw2; have := bx9.lt; clear g5 hw2
 refine At.rd f3 2 [[], []] [(3, .int .i64 (0)), (2, .int .i64 (0))] [] (by kernel_rfl) trivial (fun eC bZ => ?_)
 clear f3
 refine At.done rfl ?_
 refine t_n ?_
 refine wp_seq ?_
 refine At.start ?_
 refine At.rd bZ 4 [[], [.ld (.slice Ag2 g.mv.length cg2)], [], []] [(4, .int .i64 (((g.mv.length : Nat) : Int))), (11, .int .i64 (((g.mv.length : Nat) : Int))), (10, .slice Ag2 g.mv.length cg2), (9, .pointer (some ⟨w.heap.size, 2, none⟩))] [(w1.cell? ⟨w.heap.size, 2, none⟩ = some (.slice Ag2 g.mv.length cg2))] (by kernel_rfl) ⟨(bx9.cell (i := 2) rfl), trivial⟩ (fun eD bB => ?_)
 clear bZ
 refine At.done rfl ?_
 refine t_n ?_
 refine wp_seq ?_
 refine wp_block ?_
 refine wp_seq ?_
 refine At.start ?_
 rcases Bool.eq_false_or_eq_true ((((g.ow.length : Nat) : Int) : Int) != ((g.mv.length : Nat) : Int)) with aQ | aQ
 ·have eE := bne_iff_ne.1 aQ
  refine At.rd bB 13 [[], [.ld (.slice Ag0 g.ow.length cg0)], [], [], [], [.as_ (.bool true)], [], [], [], [], [], [], []] [(12, .bool true), (24, .bool true), (23, undef), (22, undef), (21, undef), (20, undef), (19, undef), (18, .bool true), (17, .bool ((((g.ow.length : Nat) : Int) : Int) != ((g.mv.length : Nat) : Int))), (16, .int .i64 (((g.mv.length : Nat) : Int))), (15, .int .i64 (((g.ow.length : Nat) : Int))), (14, .slice Ag0 g.ow.length cg0), (13, .pointer (some ⟨w.heap.size, 0, none⟩))] [(w1.cell? ⟨w.heap.size, 0, none⟩ = some (.slice Ag0 g.ow.length cg0)), ((.bool ((((g.ow.length : Nat) : Int) : Int) != ((g.mv.length : Nat) : Int)) : Value) = .bool true)] (by kernel_rfl) ⟨(bx9.cell (i := 0) rfl), (congrArg Value.bool aQ), trivial⟩ (fun eF cA => ?_)
  clear bB
  refine At.done rfl ?_
  refine t_n ?_
  have bI := cA.sub (r := [(12, .bool true), (4, .int .i64 (((g.mv.length : Nat) : Int))), (3, .int .i64 (0)), (2, .int .i64 (0)), (1, .pointer (some ⟨w.heap.size, 0, none⟩))]) ⟨rfl, rfl, rfl, rfl, rfl, trivial⟩
  clear cA
  refine cond_T bI rfl ?_
  refine wp_seq ?_
  refine At.start ?_
  refine At.rd bI 2 [[], []] [(3, .int .i64 (1)), (2, .int .i64 (0))] [] (by kernel_rfl) trivial (fun eG cZ => ?_)
  clear bI
  refine At.done rfl ?_
  refine t_n ?_
  refine wp_ret ?_
  refine b_r ?_
  refine t_r ?_
  refine ret_ cZ [] [.int .i64 (0), .int .i64 (1)] [] (by kernel_rfl) trivial ?_
  exact ⟨ret2_ii (right_lens (by omega)) rfl rfl, e0⟩
 have eH := bne_eq_false_iff_eq.1 aQ
 refine At.rd bB 13 [[], [.ld (.slice Ag0 g.ow.length cg0)], [], [], [], [.as_ (.bool false)], [], [.ld (.slice Ag1 g.pr.length cg1)], [], [], [], [], []] [(12, .bool ((((g.pr.length : Nat) : Int) : Int) != ((g.mv.length : Nat) : Int))), (24, .bool ((((g.pr.length : Nat) : Int) : Int) != ((g.mv.length : Nat) : Int))), (23, .bool ((((g.pr.length : Nat) : Int) : Int) != ((g.mv.length : Nat) : Int))), (22, .int .i64 (((g.mv.length : Nat) : Int))), (21, .int .i64 (((g.pr.length : Nat) : Int))), (20, .slice Ag1 g.pr.length cg1), (19, .pointer (some ⟨w.heap.size, 1, none⟩)), (18, .bool false), (17, .bool ((((g.ow.length : Nat) : Int) : Int) != ((g.mv.length : Nat) : Int))), (16, .int .i64 (((g.mv.length : Nat) : Int))), (15, .int .i64 (((g.ow.length : Nat) : Int))), (14, .slice Ag0 g.ow.length cg0), (13, .pointer (some ⟨w.heap.size, 0, none⟩))] [(w1.cell? ⟨w.heap.size, 0, none⟩ = some (.slice Ag0 g.ow.length cg0)), ((.bool ((((g.ow.length : Nat) : Int) : Int) != ((g.mv.length : Nat) : Int)) : Value) = .bool false), (w1.cell? ⟨w.heap.size, 1, none⟩ = some (.slice Ag1 g.pr.length cg1))] (by kernel_rfl) ⟨(bx9.cell (i := 0) rfl), (congrArg Value.bool aQ), (bx9.cell (i := 1) rfl), trivial⟩ (fun eI cB => ?_)
 clear bB
 refine At.done rfl ?_
 refine t_n ?_
 have aK := cB.sub (r := [(12, .bool ((((g.pr.length : Nat) : Int) : Int) != ((g.mv.length : Nat) : Int))), (4, .int .i64 (((g.mv.length : Nat) : Int))), (3, .int .i64 (0)), (2, .int .i64 (0)), (1, .pointer (some ⟨w.heap.size, 0, none⟩))]) ⟨rfl, rfl, rfl, rfl, rfl, trivial⟩
 clear cB
 refine cond_S aK (t := (((g.pr.length : Nat) : Int) : Int) != ((g.mv.length : Nat) : Int)) rfl (fun bJ => ?_) (fun bJ => ?_)
 ·have eJ := bne_iff_ne.1 bJ
  refine wp_seq ?_
  refine At.start ?_
  refine At.rd aK 2 [[], []] [(3, .int .i64 (1)), (2, .int .i64 (0))] [] (by kernel_rfl) trivial (fun eK dA => ?_)
  clear aK
  refine At.done rfl ?_
  refine t_n ?_
  refine wp_ret ?_
  refine b_r ?_
  refine t_r ?_
  refine ret_ dA [] [.int .i64 (0), .int .i64 (1)] [] (by kernel_rfl) trivial ?_
  exact ⟨ret2_ii (right_lens (by omega)) rfl rfl, e0⟩
 have eL := bne_eq_false_iff_eq.1 bJ
 refine wp_seq ?_
 refine At.start ?_
 rcases Bool.eq_false_or_eq_true (decide ((((g.mv.length : Nat) : Int) : Int) < 1)) with aR | aR
 ·have eM := of_decide_eq_true aR
  refine At.rd aK 7 [[], [], [.as_ (.bool true)], [], [], [], []] [(25, .bool true), (31, .bool true), (30, undef), (29, undef), (28, .bool true), (27, .bool (decide ((((g.mv.length : Nat) : Int) : Int) < 1))), (26, .int .i64 (((g.mv.length : Nat) : Int)))] [((.bool (decide ((((g.mv.length : Nat) : Int) : Int) < 1)) : Value) = .bool true)] (by kernel_rfl) ⟨(congrArg Value.bool aR), trivial⟩ (fun eN bK => ?_)
  clear aK
  refine At.done rfl ?_
  refine t_n ?_
  refine cond_T bK rfl ?_
  refine wp_seq ?_
  refine At.start ?_
  refine At.rd bK 2 [[], []] [(3, .int .i64 (10)), (2, .int .i64 (0))] [] (by kernel_rfl) trivial (fun eO dB => ?_)
  clear bK
  refine At.done rfl ?_
  refine t_n ?_
  refine wp_ret ?_
  refine b_r ?_
  refine t_r ?_
  refine ret_ dB [] [.int .i64 (0), .int .i64 (10)] [] (by kernel_rfl) trivial ?_
  exact ⟨ret2_ii (right_many (by omega) (by omega)) rfl rfl, e0⟩
 have eP := of_decide_eq_false aR
 refine At.rd aK 7 [[], [], [.as_ (.bool false)], [], [], [], []] [(25, .bool (decide ((((g.mv.length : Nat) : Int) : Int) > 200))), (31, .bool (decide ((((g.mv.length : Nat) : Int) : Int) > 200))), (30, .bool (decide ((((g.mv.length : Nat) : Int) : Int) > 200))), (29, .int .i64 (((g.mv.length : Nat) : Int))), (28, .bool false), (27, .bool (decide ((((g.mv.length : Nat) : Int) : Int) < 1))), (26, .int .i64 (((g.mv.length : Nat) : Int)))] [((.bool (decide ((((g.mv.length : Nat) : Int) : Int) < 1)) : Value) = .bool false)] (by kernel_rfl) ⟨(congrArg Value.bool aR), trivial⟩ (fun eQ aS => ?_)
 clear aK
 refine At.done rfl ?_
 refine t_n ?_
 refine cond_S aS (t := decide ((((g.mv.length : Nat) : Int) : Int) > 200)) rfl (fun bL => ?_) (fun bL => ?_)
 ·have eR := of_decide_eq_true bL
  refine wp_seq ?_
  refine At.start ?_
  refine At.rd aS 2 [[], []] [(3, .int .i64 (10)), (2, .int .i64 (0))] [] (by kernel_rfl) trivial (fun eS dC => ?_)
  clear aS
  refine At.done rfl ?_
  refine t_n ?_
  refine wp_ret ?_
  refine b_r ?_
  refine t_r ?_
  refine ret_ dC [] [.int .i64 (0), .int .i64 (10)] [] (by kernel_rfl) trivial ?_
  exact ⟨ret2_ii (right_many (by omega) (by omega)) rfl rfl, e0⟩
 have eT := of_decide_eq_false bL
 refine wp_skip ?_
 refine b_n ?_
 refine t_n ?_
 refine wp_seq ?_
 refine wp_seq ?_
 refine At.start ?_
 refine At.rd aS 4 [[], [.ld (.slice Ag2 g.mv.length cg2)], [], []] [(35, .int .i64 (0)), (34, .int .i64 (((g.mv.length : Nat) : Int))), (33, .slice Ag2 g.mv.length cg2), (32, .pointer (some ⟨w.heap.size, 2, none⟩))] [(w1.cell? ⟨w.heap.size, 2, none⟩ = some (.slice Ag2 g.mv.length cg2))] (by kernel_rfl) ⟨(bx9.cell (i := 2) rfl), trivial⟩ (fun eU cC => ?_)
 clear aS
 refine At.done rfl ?_
 refine t_n ?_
 refine wp_block ?_
 have cD := cC.sub (r := [(35, .int .i64 (0)), (34, .int .i64 (((g.mv.length : Nat) : Int))), (33, .slice Ag2 g.mv.length cg2), (4, .int .i64 (((g.mv.length : Nat) : Int))), (1, .pointer (some ⟨w.heap.size, 0, none⟩))]) ⟨rfl, rfl, rfl, rfl, rfl, trivial⟩
 refine loop_g (fun (m_ : Nat) a_ w_ => ∃ (k : Int), m_ = ((g.ow.length : Int) - k).toNat ∧ (Frm 107 a_ [(35, .int .i64 (k)), (34, .int .i64 (((g.mv.length : Nat) : Int))), (33, .slice Ag2 g.mv.length cg2), (4, .int .i64 (((g.mv.length : Nat) : Int))), (1, .pointer (some ⟨w.heap.size, 0, none⟩))]) ∧ (Ext w w_) ∧ (RdG w_ 0 w.heap.size Ag0 Ag1 Ag2 cg0 cg1 cg2 g) ∧ (Bx w_ (w.heap.size) [.slice Ag0 g.ow.length cg0, .slice Ag1 g.pr.length cg1, .slice Ag2 g.mv.length cg2] 25) ∧ (0 ≤ k) ∧ (k ≤ (g.ow.length : Int)) ∧ (∀ j : Nat, (j : Int) < k → g.err j = 0)) _ ⟨0, rfl, cD, e0, r8, bx9, (by omega), (by omega), (fun j hj => by omega)⟩ ?_
 clear cD cC; clear r8; clear bx9; clear e0
 intro m_ eV aC ⟨k, hm50, cE, aF, aL, aG, i54, i55, hp⟩
 have := aF.size; have := aG.lt
 refine wp_seq ?_
 refine At.start ?_
 refine At.rd cE 1 [[]] [(36, .bool (decide ((k : Int) < ((g.mv.length : Nat) : Int))))] [] (by kernel_rfl) trivial (fun eW aT => ?_)
 clear cE
 refine At.done rfl ?_
 refine t_n ?_
 refine wp_seq ?_
 refine cond_S aT (t := decide ((k : Int) < ((g.mv.length : Nat) : Int))) rfl (fun bM => ?_) (fun bM => ?_)
 ·have eX := of_decide_eq_true bM
  refine wp_skip ?_
  refine t_n ?_
  refine wp_seq ?_
  refine wp_block ?_
  refine wp_seq ?_
  refine At.start ?_
  obtain ⟨bC, aA, aB, dD, _, _, dE, eY, bN⟩ := RdII.get aL.mv (k) (by omega) (by omega)
  have eZ := bN.len
  refine At.rd aT 5 [[], [.ad bC], [.ld (.slice aA ((gL g.mv (k)).length) aB)], [], []] [(6, .slice aA ((gL g.mv (k)).length) aB), (5, .int .i64 (k)), (39, .slice aA ((gL g.mv (k)).length) aB), (38, .pointer (some (bC.add ((k : Int).toNat * 1)))), (37, .int .i64 (k))] [(Ag2 = some bC), (0 ≤ (k : Int)), ((k : Int) < (g.mv.length : Nat)), (aC.cell? (bC.add ((k : Int).toNat * 1)) = some (.slice aA ((gL g.mv (k)).length) aB))] (by kernel_rfl) ⟨dD, (by omega), (by omega), dE, trivial⟩ (fun fA bD => ?_)
  clear aT
  refine At.done rfl ?_
  refine t_n ?_
  refine wp_seq ?_
  refine wp_block ?_
  refine wp_seq ?_
  refine At.start ?_
  obtain ⟨aH, cF, _, _, cG⟩ := RdI.get aL.ow (k) (by omega) (by omega)
  rcases Bool.eq_false_or_eq_true (decide ((gI g.ow (k) : Int) < 0)) with aU | aU
  ·have fB := of_decide_eq_true aU
   refine At.rd bD 15 [[], [.ld (.slice Ag0 g.ow.length cg0)], [], [.ad aH], [.ld (.int .i64 (gI g.ow (k)))], [], [.as_ (.bool true)], [], [], [], [], [], [], [], []] [(40, .bool true), (54, .bool true), (53, undef), (52, undef), (51, undef), (50, undef), (49, undef), (48, undef), (47, .bool true), (46, .bool (decide ((gI g.ow (k) : Int) < 0))), (45, .int .i64 (gI g.ow (k))), (44, .pointer (some (aH.add ((k : Int).toNat * 1)))), (43, .int .i64 (k)), (42, .slice Ag0 g.ow.length cg0), (41, .pointer (some ⟨w.heap.size, 0, none⟩))] [(aC.cell? ⟨w.heap.size, 0, none⟩ = some (.slice Ag0 g.ow.length cg0)), (Ag0 = some aH), (0 ≤ (k : Int)), ((k : Int) < (g.ow.length : Nat)), (aC.cell? (aH.add ((k : Int).toNat * 1)) = some (.int .i64 (gI g.ow (k)))), ((.bool (decide ((gI g.ow (k) : Int) < 0)) : Value) = .bool true)] (by kernel_rfl) ⟨(aG.cell (i := 0) rfl), cF, (by omega), (by omega), cG, (congrArg Value.bool aU), trivial⟩ (fun fC cH => ?_)
   clear bD
   refine At.done rfl ?_
   refine t_n ?_
   have bO := cH.sub (r := [(40, .bool true), (6, .slice aA ((gL g.mv (k)).length) aB), (5, .int .i64 (k)), (35, .int .i64 (k)), (34, .int .i64 (((g.mv.length : Nat) : Int))), (33, .slice Ag2 g.mv.length cg2), (4, .int .i64 (((g.mv.length : Nat) : Int))), (1, .pointer (some ⟨w.heap.size, 0, none⟩))]) ⟨rfl, rfl, rfl, rfl, rfl, rfl, rfl, rfl, trivial⟩
   clear cH
   refine cond_T bO rfl ?_
   refine wp_seq ?_
   refine At.start ?_
   refine At.rd bO 3 [[], [], []] [(3, .int .i64 (14)), (2, .int .i64 (k)), (55, .int .i64 (k))] [] (by kernel_rfl) trivial (fun fD dF => ?_)
   clear bO
   refine At.done rfl ?_
   refine t_n ?_
   refine wp_ret ?_
   refine b_r ?_
   refine t_r ?_
   refine b_r ?_
   refine t_r ?_
   refine t_r ?_
   refine b_r ?_
   refine t_r ?_
   refine ret_ dF [] [.int .i64 (k), .int .i64 (14)] [] (by kernel_rfl) trivial ?_
   exact ⟨ret2_ii (right_at' (by omega) (by omega) (by omega) (by omega) (by assumption) (err_14 (by omega) (by omega)) (by decide)) rfl rfl, aF⟩
  have fE := of_decide_eq_false aU
  obtain ⟨aD, dG, _, _, dH⟩ := RdI.get aL.ow (k) (by omega) (by omega)
  refine At.rd bD 15 [[], [.ld (.slice Ag0 g.ow.length cg0)], [], [.ad aH], [.ld (.int .i64 (gI g.ow (k)))], [], [.as_ (.bool false)], [], [.ld (.slice Ag0 g.ow.length cg0)], [], [.ad aD], [.ld (.int .i64 (gI g.ow (k)))], [], [], []] [(40, .bool (decide ((gI g.ow (k) : Int) > 1))), (54, .bool (decide ((gI g.ow (k) : Int) > 1))), (53, .bool (decide ((gI g.ow (k) : Int) > 1))), (52, .int .i64 (gI g.ow (k))), (51, .pointer (some (aD.add ((k : Int).toNat * 1)))), (50, .int .i64 (k)), (49, .slice Ag0 g.ow.length cg0), (48, .pointer (some ⟨w.heap.size, 0, none⟩)), (47, .bool false), (46, .bool (decide ((gI g.ow (k) : Int) < 0))), (45, .int .i64 (gI g.ow (k))), (44, .pointer (some (aH.add ((k : Int).toNat * 1)))), (43, .int .i64 (k)), (42, .slice Ag0 g.ow.length cg0), (41, .pointer (some ⟨w.heap.size, 0, none⟩))] [(aC.cell? ⟨w.heap.size, 0, none⟩ = some (.slice Ag0 g.ow.length cg0)), (Ag0 = some aH), (0 ≤ (k : Int)), ((k : Int) < (g.ow.length : Nat)), (aC.cell? (aH.add ((k : Int).toNat * 1)) = some (.int .i64 (gI g.ow (k)))), ((.bool (decide ((gI g.ow (k) : Int) < 0)) : Value) = .bool false), (aC.cell? ⟨w.heap.size, 0, none⟩ = some (.slice Ag0 g.ow.length cg0)), (Ag0 = some aD), (0 ≤ (k : Int)), ((k : Int) < (g.ow.length : Nat)), (aC.cell? (aD.add ((k : Int).toNat * 1)) = some (.int .i64 (gI g.ow (k))))] (by kernel_rfl) ⟨(aG.cell (i := 0) rfl), cF, (by omega), (by omega), cG, (congrArg Value.bool aU), (aG.cell (i := 0) rfl), dG, (by omega), (by omega), dH, trivial⟩ (fun fF aM => ?_)
  clear bD
  refine At.done rfl ?_
  refine t_n ?_
  refine cond_S aM (t := decide ((gI g.ow (k) : Int) > 1)) rfl (fun bP => ?_) (fun bP => ?_)
  ·have fG := of_decide_eq_true bP
   refine wp_seq ?_
   refine At.start ?_
   refine At.rd aM 3 [[], [], []] [(3, .int .i64 (14)), (2, .int .i64 (k)), (55, .int .i64 (k))] [] (by kernel_rfl) trivial (fun fH cI => ?_)
   clear aM
   refine At.done rfl ?_
   refine t_n ?_
   have dI := cI.sub (r := [(3, .int .i64 (14)), (2, .int .i64 (k))]) ⟨rfl, rfl, trivial⟩; clear cI
   refine wp_ret ?_
   refine b_r ?_
   refine t_r ?_
   refine b_r ?_
   refine t_r ?_
   refine t_r ?_
   refine b_r ?_
   refine t_r ?_
   refine ret_ dI [] [.int .i64 (k), .int .i64 (14)] [] (by kernel_rfl) trivial ?_
   exact ⟨ret2_ii (right_at' (by omega) (by omega) (by omega) (by omega) (by assumption) (err_14 (by omega) (by omega)) (by decide)) rfl rfl, aF⟩
  have fI := of_decide_eq_false bP
  refine wp_seq ?_
  refine At.start ?_
  obtain ⟨aI, cJ, _, _, cK⟩ := RdI.get aL.pr (k) (by omega) (by omega)
  rcases Bool.eq_false_or_eq_true (decide ((gI g.pr (k) : Int) < 0)) with aV | aV
  ·have fJ := of_decide_eq_true aV
   refine At.rd aM 15 [[], [.ld (.slice Ag1 g.pr.length cg1)], [], [.ad aI], [.ld (.int .i64 (gI g.pr (k)))], [], [.as_ (.bool true)], [], [], [], [], [], [], [], []] [(56, .bool true), (70, .bool true), (69, undef), (68, undef), (67, undef), (66, undef), (65, undef), (64, undef), (63, .bool true), (62, .bool (decide ((gI g.pr (k) : Int) < 0))), (61, .int .i64 (gI g.pr (k))), (60, .pointer (some (aI.add ((k : Int).toNat * 1)))), (59, .int .i64 (k)), (58, .slice Ag1 g.pr.length cg1), (57, .pointer (some ⟨w.heap.size, 1, none⟩))] [(aC.cell? ⟨w.heap.size, 1, none⟩ = some (.slice Ag1 g.pr.length cg1)), (Ag1 = some aI), (0 ≤ (k : Int)), ((k : Int) < (g.pr.length : Nat)), (aC.cell? (aI.add ((k : Int).toNat * 1)) = some (.int .i64 (gI g.pr (k)))), ((.bool (decide ((gI g.pr (k) : Int) < 0)) : Value) = .bool true)] (by kernel_rfl) ⟨(aG.cell (i := 1) rfl), cJ, (by omega), (by omega), cK, (congrArg Value.bool aV), trivial⟩ (fun fK cL => ?_)
   clear aM
   refine At.done rfl ?_
   refine t_n ?_
   have bQ := cL.sub (r := [(56, .bool true), (53, .bool (decide ((gI g.ow (k) : Int) > 1))), (52, .int .i64 (gI g.ow (k))), (51, .pointer (some (aD.add ((k : Int).toNat * 1)))), (50, .int .i64 (k)), (49, .slice Ag0 g.ow.length cg0), (48, .pointer (some ⟨w.heap.size, 0, none⟩)), (6, .slice aA ((gL g.mv (k)).length) aB), (5, .int .i64 (k)), (35, .int .i64 (k)), (34, .int .i64 (((g.mv.length : Nat) : Int))), (33, .slice Ag2 g.mv.length cg2), (4, .int .i64 (((g.mv.length : Nat) : Int))), (1, .pointer (some ⟨w.heap.size, 0, none⟩))]) ⟨rfl, rfl, rfl, rfl, rfl, rfl, rfl, rfl, rfl, rfl, rfl, rfl, rfl, rfl, trivial⟩
   clear cL
   refine cond_T bQ rfl ?_
   refine wp_seq ?_
   refine At.start ?_
   refine At.rd bQ 3 [[], [], []] [(3, .int .i64 (15)), (2, .int .i64 (k)), (71, .int .i64 (k))] [] (by kernel_rfl) trivial (fun fL dJ => ?_)
   clear bQ
   refine At.done rfl ?_
   refine t_n ?_
   refine wp_ret ?_
   refine b_r ?_
   refine t_r ?_
   refine b_r ?_
   refine t_r ?_
   refine t_r ?_
   refine b_r ?_
   refine t_r ?_
   refine ret_ dJ [] [.int .i64 (k), .int .i64 (15)] [] (by kernel_rfl) trivial ?_
   exact ⟨ret2_ii (right_at' (by omega) (by omega) (by omega) (by omega) (by assumption) (err_15 (by omega) (by omega)) (by decide)) rfl rfl, aF⟩
  have fM := of_decide_eq_false aV
  obtain ⟨aE, dK, _, _, dL⟩ := RdI.get aL.pr (k) (by omega) (by omega)
  refine At.rd aM 15 [[], [.ld (.slice Ag1 g.pr.length cg1)], [], [.ad aI], [.ld (.int .i64 (gI g.pr (k)))], [], [.as_ (.bool false)], [], [.ld (.slice Ag1 g.pr.length cg1)], [], [.ad aE], [.ld (.int .i64 (gI g.pr (k)))], [], [], []] [(56, .bool (decide ((gI g.pr (k) : Int) > 7))), (70, .bool (decide ((gI g.pr (k) : Int) > 7))), (69, .bool (decide ((gI g.pr (k) : Int) > 7))), (68, .int .i64 (gI g.pr (k))), (67, .pointer (some (aE.add ((k : Int).toNat * 1)))), (66, .int .i64 (k)), (65, .slice Ag1 g.pr.length cg1), (64, .pointer (some ⟨w.heap.size, 1, none⟩)), (63, .bool false), (62, .bool (decide ((gI g.pr (k) : Int) < 0))), (61, .int .i64 (gI g.pr (k))), (60, .pointer (some (aI.add ((k : Int).toNat * 1)))), (59, .int .i64 (k)), (58, .slice Ag1 g.pr.length cg1), (57, .pointer (some ⟨w.heap.size, 1, none⟩))] [(aC.cell? ⟨w.heap.size, 1, none⟩ = some (.slice Ag1 g.pr.length cg1)), (Ag1 = some aI), (0 ≤ (k : Int)), ((k : Int) < (g.pr.length : Nat)), (aC.cell? (aI.add ((k : Int).toNat * 1)) = some (.int .i64 (gI g.pr (k)))), ((.bool (decide ((gI g.pr (k) : Int) < 0)) : Value) = .bool false), (aC.cell? ⟨w.heap.size, 1, none⟩ = some (.slice Ag1 g.pr.length cg1)), (Ag1 = some aE), (0 ≤ (k : Int)), ((k : Int) < (g.pr.length : Nat)), (aC.cell? (aE.add ((k : Int).toNat * 1)) = some (.int .i64 (gI g.pr (k))))] (by kernel_rfl) ⟨(aG.cell (i := 1) rfl), cJ, (by omega), (by omega), cK, (congrArg Value.bool aV), (aG.cell (i := 1) rfl), dK, (by omega), (by omega), dL, trivial⟩ (fun fN cM => ?_)
  clear aM
  refine At.done rfl ?_
  refine t_n ?_
  have aW := cM.sub (r := [(56, .bool (decide ((gI g.pr (k) : Int) > 7))), (69, .bool (decide ((gI g.pr (k) : Int) > 7))), (68, .int .i64 (gI g.pr (k))), (67, .pointer (some (aE.add ((k : Int).toNat * 1)))), (66, .int .i64 (k)), (65, .slice Ag1 g.pr.length cg1), (64, .pointer (some ⟨w.heap.size, 1, none⟩)), (53, .bool (decide ((gI g.ow (k) : Int) > 1))), (52, .int .i64 (gI g.ow (k))), (51, .pointer (some (aD.add ((k : Int).toNat * 1)))), (50, .int .i64 (k)), (49, .slice Ag0 g.ow.length cg0), (48, .pointer (some ⟨w.heap.size, 0, none⟩)), (6, .slice aA ((gL g.mv (k)).length) aB), (5, .int .i64 (k)), (35, .int .i64 (k)), (34, .int .i64 (((g.mv.length : Nat) : Int))), (33, .slice Ag2 g.mv.length cg2), (4, .int .i64 (((g.mv.length : Nat) : Int))), (1, .pointer (some ⟨w.heap.size, 0, none⟩))]) ⟨rfl, rfl, rfl, rfl, rfl, rfl, rfl, rfl, rfl, rfl, rfl, rfl, rfl, rfl, rfl, rfl, rfl, rfl, rfl, rfl, trivial⟩
  clear cM
  refine cond_S aW (t := decide ((gI g.pr (k) : Int) > 7)) rfl (fun bR => ?_) (fun bR => ?_)
  ·have fO := of_decide_eq_true bR
   refine wp_seq ?_
   refine At.start ?_
   refine At.rd aW 3 [[], [], []] [(3, .int .i64 (15)), (2, .int .i64 (k)), (71, .int .i64 (k))] [] (by kernel_rfl) trivial (fun fP cN => ?_)
   clear aW
   refine At.done rfl ?_
   refine t_n ?_
   have dM := cN.sub (r := [(3, .int .i64 (15)), (2, .int .i64 (k))]) ⟨rfl, rfl, trivial⟩; clear cN
   refine wp_ret ?_
   refine b_r ?_
   refine t_r ?_
   refine b_r ?_
   refine t_r ?_
   refine t_r ?_
   refine b_r ?_
   refine t_r ?_
   refine ret_ dM [] [.int .i64 (k), .int .i64 (15)] [] (by kernel_rfl) trivial ?_
   exact ⟨ret2_ii (right_at' (by omega) (by omega) (by omega) (by omega) (by assumption) (err_15 (by omega) (by omega)) (by decide)) rfl rfl, aF⟩
  have fQ := of_decide_eq_false bR
  refine wp_seq ?_
  refine At.start ?_
  refine At.rd aW 4 [[], [], [], []] [(72, .bool (((((gL g.mv (k)).length : Nat) : Int) : Int) == 0)), (75, .bool (((((gL g.mv (k)).length : Nat) : Int) : Int) == 0)), (74, .int .i64 ((((gL g.mv (k)).length : Nat) : Int))), (73, .slice aA ((gL g.mv (k)).length) aB)] [] (by kernel_rfl) trivial (fun fR aX => ?_)
  clear aW
  refine At.done rfl ?_
  refine t_n ?_
  refine cond_S aX (t := ((((gL g.mv (k)).length : Nat) : Int) : Int) == 0) rfl (fun bS => ?_) (fun bS => ?_)
  ·have fS := eq_of_beq bS
   refine wp_seq ?_
   refine At.start ?_
   refine At.rd aX 3 [[], [], []] [(3, .int .i64 (17)), (2, .int .i64 (k)), (76, .int .i64 (k))] [] (by kernel_rfl) trivial (fun fT cO => ?_)
   clear aX
   refine At.done rfl ?_
   refine t_n ?_
   have dN := cO.sub (r := [(3, .int .i64 (17)), (2, .int .i64 (k))]) ⟨rfl, rfl, trivial⟩; clear cO
   refine wp_ret ?_
   refine b_r ?_
   refine t_r ?_
   refine b_r ?_
   refine t_r ?_
   refine t_r ?_
   refine b_r ?_
   refine t_r ?_
   refine ret_ dN [] [.int .i64 (k), .int .i64 (17)] [] (by kernel_rfl) trivial ?_
   exact ⟨ret2_ii (right_at' (by omega) (by omega) (by omega) (by omega) (by assumption) (err_17 (by omega) (by omega) (by omega)) (by decide)) rfl rfl, aF⟩
  have fU := ne_of_beq_false bS
  refine wp_skip ?_
  refine b_n ?_
  refine t_n ?_
  refine wp_seq ?_
  refine At.start ?_
  refine At.rd aX 3 [[], [], []] [(79, .int .i64 (0)), (78, .int .i64 ((((gL g.mv (k)).length : Nat) : Int))), (77, .slice aA ((gL g.mv (k)).length) aB)] [] (by kernel_rfl) trivial (fun fV cP => ?_)
  clear aX
  refine At.done rfl ?_
  refine t_n ?_
  refine wp_block ?_
  have cQ := cP.sub (r := [(79, .int .i64 (0)), (78, .int .i64 ((((gL g.mv (k)).length : Nat) : Int))), (77, .slice aA ((gL g.mv (k)).length) aB), (69, .bool (decide ((gI g.pr (k) : Int) > 7))), (68, .int .i64 (gI g.pr (k))), (67, .pointer (some (aE.add ((k : Int).toNat * 1)))), (66, .int .i64 (k)), (65, .slice Ag1 g.pr.length cg1), (64, .pointer (some ⟨w.heap.size, 1, none⟩)), (53, .bool (decide ((gI g.ow (k) : Int) > 1))), (52, .int .i64 (gI g.ow (k))), (51, .pointer (some (aD.add ((k : Int).toNat * 1)))), (50, .int .i64 (k)), (49, .slice Ag0 g.ow.length cg0), (48, .pointer (some ⟨w.heap.size, 0, none⟩)), (6, .slice aA ((gL g.mv (k)).length) aB), (5, .int .i64 (k)), (35, .int .i64 (k)), (34, .int .i64 (((g.mv.length : Nat) : Int))), (33, .slice Ag2 g.mv.length cg2), (4, .int .i64 (((g.mv.length : Nat) : Int))), (1, .pointer (some ⟨w.heap.size, 0, none⟩))]) ⟨rfl, rfl, rfl, rfl, rfl, rfl, rfl, rfl, rfl, rfl, rfl, rfl, rfl, rfl, rfl, rfl, rfl, rfl, rfl, rfl, rfl, rfl, trivial⟩
  refine loop_g (fun (m_ : Nat) a_ w_ => ∃ (q : Int), m_ = (((gL g.mv k).length : Int) - q).toNat ∧ (Frm 107 a_ [(79, .int .i64 (q)), (78, .int .i64 ((((gL g.mv (k)).length : Nat) : Int))), (77, .slice aA ((gL g.mv (k)).length) aB), (69, .bool (decide ((gI g.pr (k) : Int) > 7))), (68, .int .i64 (gI g.pr (k))), (67, .pointer (some (aE.add ((k : Int).toNat * 1)))), (66, .int .i64 (k)), (65, .slice Ag1 g.pr.length cg1), (64, .pointer (some ⟨w.heap.size, 1, none⟩)), (53, .bool (decide ((gI g.ow (k) : Int) > 1))), (52, .int .i64 (gI g.ow (k))), (51, .pointer (some (aD.add ((k : Int).toNat * 1)))), (50, .int .i64 (k)), (49, .slice Ag0 g.ow.length cg0), (48, .pointer (some ⟨w.heap.size, 0, none⟩)), (6, .slice aA ((gL g.mv (k)).length) aB), (5, .int .i64 (k)), (35, .int .i64 (k)), (34, .int .i64 (((g.mv.length : Nat) : Int))), (33, .slice Ag2 g.mv.length cg2), (4, .int .i64 (((g.mv.length : Nat) : Int))), (1, .pointer (some ⟨w.heap.size, 0, none⟩))]) ∧ (Ext w w_) ∧ (RdG w_ 0 w.heap.size Ag0 Ag1 Ag2 cg0 cg1 cg2 g) ∧ (Bx w_ (w.heap.size) [.slice Ag0 g.ow.length cg0, .slice Ag1 g.pr.length cg1, .slice Ag2 g.mv.length cg2] 25) ∧ (RdI w_ 0 w.heap.size aA (gL g.mv (k))) ∧ (0 ≤ q) ∧ (q ≤ ((gL g.mv k).length : Int)) ∧ (rowBad g.ow.length (-1) ((gL g.mv k).take q.toNat) = false)) _ ⟨0, rfl, cQ, aF, aL, aG, bN, (by omega), (by omega), rfl⟩ ?_
  clear cQ cP; clear aL; clear aG; clear bN; clear aF
  intro m_ fW cR ⟨q, hm130, cS, aN, bT, bE, bF, i135, i136, i137⟩
  have := aN.size; have := bE.lt
  refine wp_seq ?_
  refine At.start ?_
  refine At.rd cS 1 [[]] [(80, .bool (decide ((q : Int) < (((gL g.mv (k)).length : Nat) : Int))))] [] (by kernel_rfl) trivial (fun fX aY => ?_)
  clear cS
  refine At.done rfl ?_
  refine t_n ?_
  refine wp_seq ?_
  refine cond_S aY (t := decide ((q : Int) < (((gL g.mv (k)).length : Nat) : Int))) rfl (fun bU => ?_) (fun bU => ?_)
  ·have fY := of_decide_eq_true bU
   refine wp_skip ?_
   refine t_n ?_
   refine wp_seq ?_
   refine wp_block ?_
   refine wp_seq ?_
   refine At.start ?_
   obtain ⟨bG, dO, _, _, dP⟩ := RdI.get bF (q) (by omega) (by omega)
   refine At.rd aY 5 [[], [.ad bG], [.ld (.int .i64 (gI (gL g.mv (k)) (q)))], [], []] [(8, .int .i64 (gI (gL g.mv (k)) (q))), (7, .int .i64 (q)), (83, .int .i64 (gI (gL g.mv (k)) (q))), (82, .pointer (some (bG.add ((q : Int).toNat * 1)))), (81, .int .i64 (q))] [(aA = some bG), (0 ≤ (q : Int)), ((q : Int) < ((gL g.mv (k)).length : Nat)), (cR.cell? (bG.add ((q : Int).toNat * 1)) = some (.int .i64 (gI (gL g.mv (k)) (q))))] (by kernel_rfl) ⟨dO, (by omega), (by omega), dP, trivial⟩ (fun fZ aJ => ?_)
   clear aY
   refine At.done rfl ?_
   refine t_n ?_
   refine wp_seq ?_
   refine At.start ?_
   rcases Bool.eq_false_or_eq_true (decide ((gI (gL g.mv (k)) (q) : Int) < 0)) with aO | aO
   ·have gA := of_decide_eq_true aO
    refine At.rd aJ 20 [[], [], [.as_ (.bool true)], [], [], [], [], [], [], [], [], [], [], [], [], [], [], [], [], []] [(103, .bool true), (102, undef), (101, undef), (100, undef), (99, undef), (98, undef), (97, undef), (96, undef), (95, undef), (94, undef), (93, undef), (92, undef), (91, .bool true), (90, .bool true), (89, undef), (88, undef), (87, undef), (86, .bool true), (85, .bool (decide ((gI (gL g.mv (k)) (q) : Int) < 0))), (84, .int .i64 (gI (gL g.mv (k)) (q)))] [((.bool (decide ((gI (gL g.mv (k)) (q) : Int) < 0)) : Value) = .bool true)] (by kernel_rfl) ⟨(congrArg Value.bool aO), trivial⟩ (fun gB cT => ?_)
    clear aJ
    refine At.done rfl ?_
    refine t_n ?_
    have bV := cT.sub (r := [(103, .bool true), (79, .int .i64 (q)), (78, .int .i64 ((((gL g.mv (k)).length : Nat) : Int))), (77, .slice aA ((gL g.mv (k)).length) aB), (69, .bool (decide ((gI g.pr (k) : Int) > 7))), (68, .int .i64 (gI g.pr (k))), (67, .pointer (some (aE.add ((k : Int).toNat * 1)))), (66, .int .i64 (k)), (65, .slice Ag1 g.pr.length cg1), (64, .pointer (some ⟨w.heap.size, 1, none⟩)), (53, .bool (decide ((gI g.ow (k) : Int) > 1))), (52, .int .i64 (gI g.ow (k))), (51, .pointer (some (aD.add ((k : Int).toNat * 1)))), (50, .int .i64 (k)), (49, .slice Ag0 g.ow.length cg0), (48, .pointer (some ⟨w.heap.size, 0, none⟩)), (6, .slice aA ((gL g.mv (k)).length) aB), (5, .int .i64 (k)), (35, .int .i64 (k)), (34, .int .i64 (((g.mv.length : Nat) : Int))), (33, .slice Ag2 g.mv.length cg2), (4, .int .i64 (((g.mv.length : Nat) : Int))), (1, .pointer (some ⟨w.heap.size, 0, none⟩))]) ⟨rfl, rfl, rfl, rfl, rfl, rfl, rfl, rfl, rfl, rfl, rfl, rfl, rfl, rfl, rfl, rfl, rfl, rfl, rfl, rfl, rfl, rfl, rfl, trivial⟩
    clear cT
    refine cond_T bV rfl ?_
    refine wp_seq ?_
    refine At.start ?_
    refine At.rd bV 3 [[], [], []] [(3, .int .i64 (16)), (2, .int .i64 (k)), (104, .int .i64 (k))] [] (by kernel_rfl) trivial (fun gC cU => ?_)
    clear bV
    refine At.done rfl ?_
    refine t_n ?_
    have dQ := cU.sub (r := [(3, .int .i64 (16)), (2, .int .i64 (k))]) ⟨rfl, rfl, trivial⟩; clear cU
    refine wp_ret ?_
    refine b_r ?_
    refine t_r ?_
    refine t_r ?_
    refine b_r ?_
    refine b_r ?_
    refine t_r ?_
    refine t_r ?_
    refine b_r ?_
    refine t_r ?_
    refine ret_ dQ [] [.int .i64 (k), .int .i64 (16)] [] (by kernel_rfl) trivial ?_
    exact ⟨ret2_ii (right_at' (by omega) (by omega) (by omega) (by omega) (by assumption) (err_16 (by omega) (by omega) (by omega) (bad_at2 (q := q) (by omega) (by omega) (by assumption) (by omega))) (by decide)) rfl rfl, aN⟩
   have gD := of_decide_eq_false aO
   rcases Bool.eq_false_or_eq_true (decide ((gI (gL g.mv (k)) (q) : Int) ≥ ((g.mv.length : Nat) : Int))) with aP | aP
   ·have gE := of_decide_eq_true aP
    refine At.rd aJ 20 [[], [], [.as_ (.bool false)], [], [], [], [], [.as_ (.bool true)], [], [], [], [], [], [], [], [], [], [], [], []] [(103, .bool true), (102, undef), (101, undef), (100, undef), (99, undef), (98, undef), (97, undef), (96, undef), (95, undef), (94, undef), (93, undef), (92, undef), (91, .bool true), (90, .bool (decide ((gI (gL g.mv (k)) (q) : Int) ≥ ((g.mv.length : Nat) : Int)))), (89, .bool (decide ((gI (gL g.mv (k)) (q) : Int) ≥ ((g.mv.length : Nat) : Int)))), (88, .int .i64 (((g.mv.length : Nat) : Int))), (87, .int .i64 (gI (gL g.mv (k)) (q))), (86, .bool false), (85, .bool (decide ((gI (gL g.mv (k)) (q) : Int) < 0))), (84, .int .i64 (gI (gL g.mv (k)) (q)))] [((.bool (decide ((gI (gL g.mv (k)) (q) : Int) < 0)) : Value) = .bool false), ((.bool (decide ((gI (gL g.mv (k)) (q) : Int) ≥ ((g.mv.length : Nat) : Int))) : Value) = .bool true)] (by kernel_rfl) ⟨(congrArg Value.bool aO), (congrArg Value.bool aP), trivial⟩ (fun gF cV => ?_)
    clear aJ
    refine At.done rfl ?_
    refine t_n ?_
    have bW := cV.sub (r := [(103, .bool true), (89, .bool (decide ((gI (gL g.mv (k)) (q) : Int) ≥ ((g.mv.length : Nat) : Int)))), (88, .int .i64 (((g.mv.length : Nat) : Int))), (87, .int .i64 (gI (gL g.mv (k)) (q))), (79, .int .i64 (q)), (78, .int .i64 ((((gL g.mv (k)).length : Nat) : Int))), (77, .slice aA ((gL g.mv (k)).length) aB), (69, .bool (decide ((gI g.pr (k) : Int) > 7))), (68, .int .i64 (gI g.pr (k))), (67, .pointer (some (aE.add ((k : Int).toNat * 1)))), (66, .int .i64 (k)), (65, .slice Ag1 g.pr.length cg1), (64, .pointer (some ⟨w.heap.size, 1, none⟩)), (53, .bool (decide ((gI g.ow (k) : Int) > 1))), (52, .int .i64 (gI g.ow (k))), (51, .pointer (some (aD.add ((k : Int).toNat * 1)))), (50, .int .i64 (k)), (49, .slice Ag0 g.ow.length cg0), (48, .pointer (some ⟨w.heap.size, 0, none⟩)), (6, .slice aA ((gL g.mv (k)).length) aB), (5, .int .i64 (k)), (35, .int .i64 (k)), (34, .int .i64 (((g.mv.length : Nat) : Int))), (33, .slice Ag2 g.mv.length cg2), (4, .int .i64 (((g.mv.length : Nat) : Int))), (1, .pointer (some ⟨w.heap.size, 0, none⟩))]) ⟨rfl, rfl, rfl, rfl, rfl, rfl, rfl, rfl, rfl, rfl, rfl, rfl, rfl, rfl, rfl, rfl, rfl, rfl, rfl, rfl, rfl, rfl, rfl, rfl, rfl, rfl, trivial⟩
    clear cV
    refine cond_T bW rfl ?_
    refine wp_seq ?_
    refine At.start ?_
    refine At.rd bW 3 [[], [], []] [(3, .int .i64 (16)), (2, .int .i64 (k)), (104, .int .i64 (k))] [] (by kernel_rfl) trivial (fun gG cW => ?_)
    clear bW
    refine At.done rfl ?_
    refine t_n ?_
    have dR := cW.sub (r := [(3, .int .i64 (16)), (2, .int .i64 (k))]) ⟨rfl, rfl, trivial⟩; clear cW
    refine wp_ret ?_
    refine b_r ?_
    refine t_r ?_
    refine t_r ?_
    refine b_r ?_
    refine b_r ?_
    refine t_r ?_
    refine t_r ?_
    refine b_r ?_
    refine t_r ?_
    refine ret_ dR [] [.int .i64 (k), .int .i64 (16)] [] (by kernel_rfl) trivial ?_
    exact ⟨ret2_ii (right_at' (by omega) (by omega) (by omega) (by omega) (by assumption) (err_16 (by omega) (by omega) (by omega) (bad_at2 (q := q) (by omega) (by omega) (by assumption) (by omega))) (by decide)) rfl rfl, aN⟩
   have gH := of_decide_eq_false aP
   rcases Bool.eq_false_or_eq_true (decide ((q : Int) > 0)) with aZ | aZ
   ·have gJ := of_decide_eq_true aZ
    obtain ⟨bH, dS, _, _, dT⟩ := RdI.get bF (q - 1) (by omega) (by omega)
    refine At.rd aJ 20 [[], [], [.as_ (.bool false)], [], [], [], [], [.as_ (.bool false)], [], [], [.as_ (.bool true)], [], [], [], [.as_ (.int .i64 (q - 1))], [.ad bH], [.ld (.int .i64 (gI (gL g.mv (k)) (q - 1)))], [], [], []] [(103, .bool (decide ((gI (gL g.mv (k)) (q) : Int) ≤ (gI (gL g.mv (k)) (q - 1))))), (102, .bool (decide ((gI (gL g.mv (k)) (q) : Int) ≤ (gI (gL g.mv (k)) (q - 1))))), (101, .bool (decide ((gI (gL g.mv (k)) (q) : Int) ≤ (gI (gL g.mv (k)) (q - 1))))), (100, .int .i64 (gI (gL g.mv (k)) (q - 1))), (99, .pointer (some (bH.add ((q - 1 : Int).toNat * 1)))), (98, .int .i64 (q - 1)), (97, .int .i64 (q)), (96, .slice aA ((gL g.mv (k)).length) aB), (95, .int .i64 (gI (gL g.mv (k)) (q))), (94, .bool true), (93, .bool (decide ((q : Int) > 0))), (92, .int .i64 (q)), (91, .bool false), (90, .bool (decide ((gI (gL g.mv (k)) (q) : Int) ≥ ((g.mv.length : Nat) : Int)))), (89, .bool (decide ((gI (gL g.mv (k)) (q) : Int) ≥ ((g.mv.length : Nat) : Int)))), (88, .int .i64 (((g.mv.length : Nat) : Int))), (87, .int .i64 (gI (gL g.mv (k)) (q))), (86, .bool false), (85, .bool (decide ((gI (gL g.mv (k)) (q) : Int) < 0))), (84, .int .i64 (gI (gL g.mv (k)) (q)))] [((.bool (decide ((gI (gL g.mv (k)) (q) : Int) < 0)) : Value) = .bool false), ((.bool (decide ((gI (gL g.mv (k)) (q) : Int) ≥ ((g.mv.length : Nat) : Int))) : Value) = .bool false), ((.bool (decide ((q : Int) > 0)) : Value) = .bool true), ((.int .i64 (IntKind.i64.wrap (q - 1)) : Value) = .int .i64 (q - 1)), (aA = some bH), (0 ≤ (q - 1 : Int)), ((q - 1 : Int) < ((gL g.mv (k)).length : Nat)), (cR.cell? (bH.add ((q - 1 : Int).toNat * 1)) = some (.int .i64 (gI (gL g.mv (k)) (q - 1))))] (by kernel_rfl) ⟨(congrArg Value.bool aO), (congrArg Value.bool aP), (congrArg Value.bool aZ), (w64 (by omega) (by omega)), dS, (by omega), (by omega), dT, trivial⟩ (fun gK bA => ?_)
    clear aJ
    refine At.done rfl ?_
    refine t_n ?_
    refine cond_S bA (t := decide ((gI (gL g.mv (k)) (q) : Int) ≤ (gI (gL g.mv (k)) (q - 1)))) rfl (fun bX => ?_) (fun bX => ?_)
    ·have gM := of_decide_eq_true bX
     refine wp_seq ?_
     refine At.start ?_
     refine At.rd bA 3 [[], [], []] [(3, .int .i64 (16)), (2, .int .i64 (k)), (104, .int .i64 (k))] [] (by kernel_rfl) trivial (fun gN cX => ?_)
     clear bA
     refine At.done rfl ?_
     refine t_n ?_
     have dU := cX.sub (r := [(3, .int .i64 (16)), (2, .int .i64 (k))]) ⟨rfl, rfl, trivial⟩; clear cX
     refine wp_ret ?_
     refine b_r ?_
     refine t_r ?_
     refine t_r ?_
     refine b_r ?_
     refine b_r ?_
     refine t_r ?_
     refine t_r ?_
     refine b_r ?_
     refine t_r ?_
     refine ret_ dU [] [.int .i64 (k), .int .i64 (16)] [] (by kernel_rfl) trivial ?_
     exact ⟨ret2_ii (right_at' (by omega) (by omega) (by omega) (by omega) (by assumption) (err_16 (by omega) (by omega) (by omega) (bad_at2 (q := q) (by omega) (by omega) (by assumption) (by omega))) (by decide)) rfl rfl, aN⟩
    have gO := of_decide_eq_false bX
    refine wp_skip ?_
    refine b_n ?_
    refine t_n ?_
    refine At.start ?_
    refine At.rd bA 2 [[.as_ (.int .i64 (q + 1))], []] [(79, .int .i64 (q + 1)), (105, .int .i64 (q + 1))] [((.int .i64 (IntKind.i64.wrap (q + 1)) : Value) = .int .i64 (q + 1))] (by kernel_rfl) ⟨(w64 (by omega) (by omega)), trivial⟩ (fun gP dV => ?_)
    clear bA
    refine At.done rfl ?_
    refine t_n ?_
    have dW := dV.sub (r := [(79, .int .i64 (q + 1)), (78, .int .i64 ((((gL g.mv (k)).length : Nat) : Int))), (77, .slice aA ((gL g.mv (k)).length) aB), (69, .bool (decide ((gI g.pr (k) : Int) > 7))), (68, .int .i64 (gI g.pr (k))), (67, .pointer (some (aE.add ((k : Int).toNat * 1)))), (66, .int .i64 (k)), (65, .slice Ag1 g.pr.length cg1), (64, .pointer (some ⟨w.heap.size, 1, none⟩)), (53, .bool (decide ((gI g.ow (k) : Int) > 1))), (52, .int .i64 (gI g.ow (k))), (51, .pointer (some (aD.add ((k : Int).toNat * 1)))), (50, .int .i64 (k)), (49, .slice Ag0 g.ow.length cg0), (48, .pointer (some ⟨w.heap.size, 0, none⟩)), (6, .slice aA ((gL g.mv (k)).length) aB), (5, .int .i64 (k)), (35, .int .i64 (k)), (34, .int .i64 (((g.mv.length : Nat) : Int))), (33, .slice Ag2 g.mv.length cg2), (4, .int .i64 (((g.mv.length : Nat) : Int))), (1, .pointer (some ⟨w.heap.size, 0, none⟩))]) ⟨rfl, rfl, rfl, rfl, rfl, rfl, rfl, rfl, rfl, rfl, rfl, rfl, rfl, rfl, rfl, rfl, rfl, rfl, rfl, rfl, rfl, rfl, trivial⟩
    exact ⟨_, (by omega), (q + 1), rfl, dW, aN, bT, bE, bF, (by omega), (by omega), (bad_next2 (by omega) (by omega) (by assumption) (by omega) (by omega) (by omega))⟩
   have gQ := of_decide_eq_false aZ
   refine At.rd aJ 20 [[], [], [.as_ (.bool false)], [], [], [], [], [.as_ (.bool false)], [], [], [.as_ (.bool false)], [], [], [], [], [], [], [], [], []] [(103, .bool false), (102, .bool false), (101, undef), (100, undef), (99, undef), (98, undef), (97, undef), (96, undef), (95, undef), (94, .bool false), (93, .bool (decide ((q : Int) > 0))), (92, .int .i64 (q)), (91, .bool false), (90, .bool (decide ((gI (gL g.mv (k)) (q) : Int) ≥ ((g.mv.length : Nat) : Int)))), (89, .bool (decide ((gI (gL g.mv (k)) (q) : Int) ≥ ((g.mv.length : Nat) : Int)))), (88, .int .i64 (((g.mv.length : Nat) : Int))), (87, .int .i64 (gI (gL g.mv (k)) (q))), (86, .bool false), (85, .bool (decide ((gI (gL g.mv (k)) (q) : Int) < 0))), (84, .int .i64 (gI (gL g.mv (k)) (q)))] [((.bool (decide ((gI (gL g.mv (k)) (q) : Int) < 0)) : Value) = .bool false), ((.bool (decide ((gI (gL g.mv (k)) (q) : Int) ≥ ((g.mv.length : Nat) : Int))) : Value) = .bool false), ((.bool (decide ((q : Int) > 0)) : Value) = .bool false)] (by kernel_rfl) ⟨(congrArg Value.bool aO), (congrArg Value.bool aP), (congrArg Value.bool aZ), trivial⟩ (fun gR cY => ?_)
   clear aJ
   refine At.done rfl ?_
   refine t_n ?_
   have bY := cY.sub (r := [(103, .bool false), (102, .bool false), (94, .bool false), (93, .bool (decide ((q : Int) > 0))), (92, .int .i64 (q)), (89, .bool (decide ((gI (gL g.mv (k)) (q) : Int) ≥ ((g.mv.length : Nat) : Int)))), (88, .int .i64 (((g.mv.length : Nat) : Int))), (87, .int .i64 (gI (gL g.mv (k)) (q))), (79, .int .i64 (q)), (78, .int .i64 ((((gL g.mv (k)).length : Nat) : Int))), (77, .slice aA ((gL g.mv (k)).length) aB), (69, .bool (decide ((gI g.pr (k) : Int) > 7))), (68, .int .i64 (gI g.pr (k))), (67, .pointer (some (aE.add ((k : Int).toNat * 1)))), (66, .int .i64 (k)), (65, .slice Ag1 g.pr.length cg1), (64, .pointer (some ⟨w.heap.size, 1, none⟩)), (53, .bool (decide ((gI g.ow (k) : Int) > 1))), (52, .int .i64 (gI g.ow (k))), (51, .pointer (some (aD.add ((k : Int).toNat * 1)))), (50, .int .i64 (k)), (49, .slice Ag0 g.ow.length cg0), (48, .pointer (some ⟨w.heap.size, 0, none⟩)), (6, .slice aA ((gL g.mv (k)).length) aB), (5, .int .i64 (k)), (35, .int .i64 (k)), (34, .int .i64 (((g.mv.length : Nat) : Int))), (33, .slice Ag2 g.mv.length cg2), (4, .int .i64 (((g.mv.length : Nat) : Int))), (1, .pointer (some ⟨w.heap.size, 0, none⟩))]) ⟨rfl, rfl, rfl, rfl, rfl, rfl, rfl, rfl, rfl, rfl, rfl, rfl, rfl, rfl, rfl, rfl, rfl, rfl, rfl, rfl, rfl, rfl, rfl, rfl, rfl, rfl, rfl, rfl, rfl, rfl, trivial⟩
   clear cY
   refine cond_F bY rfl ?_
   refine wp_skip ?_
   refine b_n ?_
   refine t_n ?_
   refine At.start ?_
   refine At.rd bY 2 [[.as_ (.int .i64 (q + 1))], []] [(79, .int .i64 (q + 1)), (105, .int .i64 (q + 1))] [((.int .i64 (IntKind.i64.wrap (q + 1)) : Value) = .int .i64 (q + 1))] (by kernel_rfl) ⟨(w64 (by omega) (by omega)), trivial⟩ (fun gS dX => ?_)
   clear bY
   refine At.done rfl ?_
   refine t_n ?_
   have dY := dX.sub (r := [(79, .int .i64 (q + 1)), (78, .int .i64 ((((gL g.mv (k)).length : Nat) : Int))), (77, .slice aA ((gL g.mv (k)).length) aB), (69, .bool (decide ((gI g.pr (k) : Int) > 7))), (68, .int .i64 (gI g.pr (k))), (67, .pointer (some (aE.add ((k : Int).toNat * 1)))), (66, .int .i64 (k)), (65, .slice Ag1 g.pr.length cg1), (64, .pointer (some ⟨w.heap.size, 1, none⟩)), (53, .bool (decide ((gI g.ow (k) : Int) > 1))), (52, .int .i64 (gI g.ow (k))), (51, .pointer (some (aD.add ((k : Int).toNat * 1)))), (50, .int .i64 (k)), (49, .slice Ag0 g.ow.length cg0), (48, .pointer (some ⟨w.heap.size, 0, none⟩)), (6, .slice aA ((gL g.mv (k)).length) aB), (5, .int .i64 (k)), (35, .int .i64 (k)), (34, .int .i64 (((g.mv.length : Nat) : Int))), (33, .slice Ag2 g.mv.length cg2), (4, .int .i64 (((g.mv.length : Nat) : Int))), (1, .pointer (some ⟨w.heap.size, 0, none⟩))]) ⟨rfl, rfl, rfl, rfl, rfl, rfl, rfl, rfl, rfl, rfl, rfl, rfl, rfl, rfl, rfl, rfl, rfl, rfl, rfl, rfl, rfl, rfl, trivial⟩
   exact ⟨_, (by omega), (q + 1), rfl, dY, aN, bT, bE, bF, (by omega), (by omega), (bad_next2 (by omega) (by omega) (by assumption) (by omega) (by omega) (by omega))⟩
  have gT := of_decide_eq_false bU
  refine wp_exit ?_
  refine t_e ?_
  refine t_e ?_
  refine b_e ?_
  refine b_n ?_
  refine t_n ?_
  refine At.start ?_
  refine At.rd aY 2 [[.as_ (.int .i64 (k + 1))], []] [(35, .int .i64 (k + 1)), (106, .int .i64 (k + 1))] [((.int .i64 (IntKind.i64.wrap (k + 1)) : Value) = .int .i64 (k + 1))] (by kernel_rfl) ⟨(w64 (by omega) (by omega)), trivial⟩ (fun gU dZ => ?_)
  clear aY
  refine At.done rfl ?_
  refine t_n ?_
  have eA := dZ.sub (r := [(35, .int .i64 (k + 1)), (34, .int .i64 (((g.mv.length : Nat) : Int))), (33, .slice Ag2 g.mv.length cg2), (4, .int .i64 (((g.mv.length : Nat) : Int))), (1, .pointer (some ⟨w.heap.size, 0, none⟩))]) ⟨rfl, rfl, rfl, rfl, rfl, trivial⟩
  exact ⟨_, (by omega), (k + 1), rfl, eA, aN, bT, bE, (by omega), (by omega), (err_next (by omega) hp (err_0 (by omega) (by omega) (by omega) (bad_all (by assumption) (by omega))))⟩
 have gV := of_decide_eq_false bM
 refine wp_exit ?_
 refine t_e ?_
 refine t_e ?_
 refine b_e ?_
 refine t_n ?_
 refine wp_seq ?_
 refine At.start ?_
 refine At.rd aT 2 [[], []] [(3, .int .i64 (0)), (2, .int .i64 (0))] [] (by kernel_rfl) trivial (fun gW eB => ?_)
 clear aT
 refine At.done rfl ?_
 refine t_n ?_
 refine wp_ret ?_
 refine ret_ eB [] [.int .i64 (0), .int .i64 (0)] [] (by kernel_rfl) trivial ?_
 exact ⟨ret2_ii (right_ok' (k := k) (by omega) (by omega) (by omega) (by assumption)) rfl rfl, aF⟩

end Go.Proofs.Ytklbpajmoklheaa
