/-
  A walk of a Go function, printed by a program of this repo. Conditions: what the theorems name.
-/
import Derived.Test.YtklbpajmoklheaaPureGame
import Derived.Test.YtklbpajmoklheaaFy
set_option linter.unusedVariables false
set_option linter.unusedSimpArgs false
namespace Go.Proofs.Ytklbpajmoklheaa
open Go Go.RowKit

set_option maxHeartbeats 4000000 in
theorem rightR_any {Ag0 Ag1 Ag2 : Option Addr} {cg0 cg1 cg2 : Nat} {g : GameL} {w : World} (rg : RdG w 0 w.heap.size Ag0 Ag1 Ag2 cg0 cg1 cg2 g) :
    Calls Try.prog 49 #[.agg #[.slice Ag0 g.ow.length cg0, .slice Ag1 g.pr.length cg1, .slice Ag2 g.mv.length cg2]] w fun e w' => e = .returned (.tuple #[.int .i64 (rightP g).1, .int .i64 (rightP g).2]) ∧ Ext w w' := by
 have hlg0 := rg.ow.len; have hlg1 := rg.pr.len; have hlg2 := rg.mv.len; have hkg0 := rg.k0; have hkg1 := rg.k1; have hkg2 := rg.k2
 refine enter_ (args := [.agg #[.slice Ag0 g.ow.length cg0, .slice Ag1 g.pr.length cg1, .slice Ag2 g.mv.length cg2]]) Try.func49 rfl Try.ntmps49 (Nat.le_of_ble_eq_true rfl) (fun act0 f0 => ?_)
 have e0 : Ext w w := Ext.refl w
 refine wp_seq ?_
 refine At.start ?_
 refine At.seq f0 1 [[]] [(1, .pointer (some ⟨w.heap.size, 0, none⟩))] (w.alloc (.cells #[.slice Ag0 g.ow.length cg0, .slice Ag1 g.pr.length cg1, .slice Ag2 g.mv.length cg2] 25 (0, 0))) [] (by kernel_rfl) trivial (fun act4 w1 hw2 f3 => ?_)
 clear f0; have g5 := gr_alloc hw2; have := g5.size; replace e0 := e0.gn g5; have r8 := rg.gn g5; clear rg; have bx9 : Bx w1 (w.heap.size) [.slice Ag0 g.ow.length cg0, .slice Ag1 g.pr.length cg1, .slice Ag2 g.mv.length cg2] 25 := Bx.new hw2; have := bx9.lt; clear g5 hw2
 refine At.rd f3 2 [[], []] [(3, .int .i64 (0)), (2, .int .i64 (0))] [] (by kernel_rfl) trivial (fun eJ cD => ?_)
 clear f3
 refine At.done rfl ?_
 refine t_n ?_
 refine wp_seq ?_
 refine At.start ?_
 refine At.rd cD 4 [[], [.ld (.slice Ag0 g.ow.length cg0)], [], []] [(4, .int .i64 (((g.ow.length : Nat) : Int))), (11, .int .i64 (((g.ow.length : Nat) : Int))), (10, .slice Ag0 g.ow.length cg0), (9, .pointer (some ⟨w.heap.size, 0, none⟩))] [(w1.cell? ⟨w.heap.size, 0, none⟩ = some (.slice Ag0 g.ow.length cg0))] (by kernel_rfl) ⟨(bx9.cell (i := 0) rfl), trivial⟩ (fun eK bA => ?_)
 clear cD
 refine At.done rfl ?_
 refine t_n ?_
 refine wp_seq ?_
 refine wp_seq ?_
 refine At.start ?_
 rcases Bool.eq_false_or_eq_true ((((g.pr.length : Nat) : Int) : Int) != ((g.ow.length : Nat) : Int)) with aK | aK
 ·have eL := bne_iff_ne.1 aK
  refine At.rd bA 12 [[], [.ld (.slice Ag1 g.pr.length cg1)], [], [], [], [.as_ (.bool true)], [], [], [], [], [], []] [(23, .bool true), (22, undef), (21, undef), (20, undef), (19, undef), (18, undef), (17, .bool true), (16, .bool ((((g.pr.length : Nat) : Int) : Int) != ((g.ow.length : Nat) : Int))), (15, .int .i64 (((g.ow.length : Nat) : Int))), (14, .int .i64 (((g.pr.length : Nat) : Int))), (13, .slice Ag1 g.pr.length cg1), (12, .pointer (some ⟨w.heap.size, 1, none⟩))] [(w1.cell? ⟨w.heap.size, 1, none⟩ = some (.slice Ag1 g.pr.length cg1)), ((.bool ((((g.pr.length : Nat) : Int) : Int) != ((g.ow.length : Nat) : Int)) : Value) = .bool true)] (by kernel_rfl) ⟨(bx9.cell (i := 1) rfl), (congrArg Value.bool aK), trivial⟩ (fun eM bM => ?_)
  clear bA
  refine At.done rfl ?_
  refine t_n ?_
  refine cond_T bM rfl ?_
  refine wp_seq ?_
  refine At.start ?_
  refine At.rd bM 2 [[], []] [(3, .int .i64 (1)), (2, .int .i64 (0))] [] (by kernel_rfl) trivial (fun eN cE => ?_)
  clear bM
  refine At.done rfl ?_
  refine t_n ?_
  have dE := cE.sub (r := [(3, .int .i64 (1)), (2, .int .i64 (0))]) ⟨rfl, rfl, trivial⟩; clear cE
  refine wp_ret ?_
  refine t_r ?_
  refine ret_ dE [] [.int .i64 (0), .int .i64 (1)] [] (by kernel_rfl) trivial ?_
  exact ⟨ret2_ii (right_lens (by omega)) rfl rfl, e0⟩
 have eO := bne_eq_false_iff_eq.1 aK
 refine At.rd bA 12 [[], [.ld (.slice Ag1 g.pr.length cg1)], [], [], [], [.as_ (.bool false)], [], [.ld (.slice Ag2 g.mv.length cg2)], [], [], [], []] [(23, .bool ((((g.mv.length : Nat) : Int) : Int) != ((g.ow.length : Nat) : Int))), (22, .bool ((((g.mv.length : Nat) : Int) : Int) != ((g.ow.length : Nat) : Int))), (21, .int .i64 (((g.ow.length : Nat) : Int))), (20, .int .i64 (((g.mv.length : Nat) : Int))), (19, .slice Ag2 g.mv.length cg2), (18, .pointer (some ⟨w.heap.size, 2, none⟩)), (17, .bool false), (16, .bool ((((g.pr.length : Nat) : Int) : Int) != ((g.ow.length : Nat) : Int))), (15, .int .i64 (((g.ow.length : Nat) : Int))), (14, .int .i64 (((g.pr.length : Nat) : Int))), (13, .slice Ag1 g.pr.length cg1), (12, .pointer (some ⟨w.heap.size, 1, none⟩))] [(w1.cell? ⟨w.heap.size, 1, none⟩ = some (.slice Ag1 g.pr.length cg1)), ((.bool ((((g.pr.length : Nat) : Int) : Int) != ((g.ow.length : Nat) : Int)) : Value) = .bool false), (w1.cell? ⟨w.heap.size, 2, none⟩ = some (.slice Ag2 g.mv.length cg2))] (by kernel_rfl) ⟨(bx9.cell (i := 1) rfl), (congrArg Value.bool aK), (bx9.cell (i := 2) rfl), trivial⟩ (fun eP aL => ?_)
 clear bA
 refine At.done rfl ?_
 refine t_n ?_
 refine cond_S aL (t := (((g.mv.length : Nat) : Int) : Int) != ((g.ow.length : Nat) : Int)) rfl (fun bN => ?_) (fun bN => ?_)
 ·have eQ := bne_iff_ne.1 bN
  refine wp_seq ?_
  refine At.start ?_
  refine At.rd aL 2 [[], []] [(3, .int .i64 (1)), (2, .int .i64 (0))] [] (by kernel_rfl) trivial (fun eR cF => ?_)
  clear aL
  refine At.done rfl ?_
  refine t_n ?_
  have dF := cF.sub (r := [(3, .int .i64 (1)), (2, .int .i64 (0))]) ⟨rfl, rfl, trivial⟩; clear cF
  refine wp_ret ?_
  refine t_r ?_
  refine ret_ dF [] [.int .i64 (0), .int .i64 (1)] [] (by kernel_rfl) trivial ?_
  exact ⟨ret2_ii (right_lens (by omega)) rfl rfl, e0⟩
 have eS := bne_eq_false_iff_eq.1 bN
 refine wp_skip ?_
 refine t_n ?_
 have bB := aL.sub (r := [(4, .int .i64 (((g.ow.length : Nat) : Int))), (3, .int .i64 (0)), (2, .int .i64 (0)), (1, .pointer (some ⟨w.heap.size, 0, none⟩))]) ⟨rfl, rfl, rfl, rfl, trivial⟩
 clear aL
 refine wp_seq ?_
 refine wp_seq ?_
 refine At.start ?_
 rcases Bool.eq_false_or_eq_true ((((g.ow.length : Nat) : Int) : Int) == 0) with aM | aM
 ·have eT := eq_of_beq aM
  refine At.rd bB 6 [[], [], [.as_ (.bool true)], [], [], []] [(29, .bool true), (28, undef), (27, undef), (26, .bool true), (25, .bool ((((g.ow.length : Nat) : Int) : Int) == 0)), (24, .int .i64 (((g.ow.length : Nat) : Int)))] [((.bool ((((g.ow.length : Nat) : Int) : Int) == 0) : Value) = .bool true)] (by kernel_rfl) ⟨(congrArg Value.bool aM), trivial⟩ (fun eU bO => ?_)
  clear bB
  refine At.done rfl ?_
  refine t_n ?_
  refine cond_T bO rfl ?_
  refine wp_seq ?_
  refine At.start ?_
  refine At.rd bO 2 [[], []] [(3, .int .i64 (10)), (2, .int .i64 (0))] [] (by kernel_rfl) trivial (fun eV dG => ?_)
  clear bO
  refine At.done rfl ?_
  refine t_n ?_
  refine wp_ret ?_
  refine t_r ?_
  refine ret_ dG [] [.int .i64 (0), .int .i64 (10)] [] (by kernel_rfl) trivial ?_
  exact ⟨ret2_ii (right_many (by omega) (by omega)) rfl rfl, e0⟩
 have eW := ne_of_beq_false aM
 refine At.rd bB 6 [[], [], [.as_ (.bool false)], [], [], []] [(29, .bool (decide ((((g.ow.length : Nat) : Int) : Int) > 200))), (28, .bool (decide ((((g.ow.length : Nat) : Int) : Int) > 200))), (27, .int .i64 (((g.ow.length : Nat) : Int))), (26, .bool false), (25, .bool ((((g.ow.length : Nat) : Int) : Int) == 0)), (24, .int .i64 (((g.ow.length : Nat) : Int)))] [((.bool ((((g.ow.length : Nat) : Int) : Int) == 0) : Value) = .bool false)] (by kernel_rfl) ⟨(congrArg Value.bool aM), trivial⟩ (fun eX aN => ?_)
 clear bB
 refine At.done rfl ?_
 refine t_n ?_
 refine cond_S aN (t := decide ((((g.ow.length : Nat) : Int) : Int) > 200)) rfl (fun bP => ?_) (fun bP => ?_)
 ·have eY := of_decide_eq_true bP
  refine wp_seq ?_
  refine At.start ?_
  refine At.rd aN 2 [[], []] [(3, .int .i64 (10)), (2, .int .i64 (0))] [] (by kernel_rfl) trivial (fun eZ dH => ?_)
  clear aN
  refine At.done rfl ?_
  refine t_n ?_
  refine wp_ret ?_
  refine t_r ?_
  refine ret_ dH [] [.int .i64 (0), .int .i64 (10)] [] (by kernel_rfl) trivial ?_
  exact ⟨ret2_ii (right_many (by omega) (by omega)) rfl rfl, e0⟩
 have fA := of_decide_eq_false bP
 refine wp_skip ?_
 refine t_n ?_
 refine wp_seq ?_
 refine wp_seq ?_
 refine At.start ?_
 refine At.rd aN 1 [[]] [(5, .int .i64 (0))] [] (by kernel_rfl) trivial (fun fB cG => ?_)
 clear aN
 refine At.done rfl ?_
 refine t_n ?_
 refine wp_block ?_
 have cH := cG.sub (r := [(5, .int .i64 (0)), (4, .int .i64 (((g.ow.length : Nat) : Int))), (1, .pointer (some ⟨w.heap.size, 0, none⟩))]) ⟨rfl, rfl, rfl, trivial⟩
 refine loop_g (fun (m_ : Nat) a_ w_ => ∃ (k : Int), m_ = ((g.ow.length : Int) - k).toNat ∧ (Frm 101 a_ [(5, .int .i64 (k)), (4, .int .i64 (((g.ow.length : Nat) : Int))), (1, .pointer (some ⟨w.heap.size, 0, none⟩))]) ∧ (Ext w w_) ∧ (RdG w_ 0 w.heap.size Ag0 Ag1 Ag2 cg0 cg1 cg2 g) ∧ (Bx w_ (w.heap.size) [.slice Ag0 g.ow.length cg0, .slice Ag1 g.pr.length cg1, .slice Ag2 g.mv.length cg2] 25) ∧ (0 ≤ k) ∧ (k ≤ (g.ow.length : Int)) ∧ (∀ j : Nat, (j : Int) < k → g.err j = 0)) _ ⟨0, rfl, cH, e0, r8, bx9, (by omega), (by omega), (fun j hj => by omega)⟩ ?_
 clear cH cG; clear r8; clear bx9; clear e0
 intro m_ fC aF ⟨k, hm51, cI, aI, aO, aG, i55, i56, hp⟩
 have := aI.size; have := aG.lt
 refine wp_seq ?_
 refine wp_seq ?_
 refine At.start ?_
 refine At.rd cI 3 [[], [], []] [(32, .bool (decide ((k : Int) < ((g.ow.length : Nat) : Int)))), (31, .int .i64 (((g.ow.length : Nat) : Int))), (30, .int .i64 (k))] [] (by kernel_rfl) trivial (fun fD aA => ?_)
 clear cI
 refine At.done rfl ?_
 refine t_n ?_
 refine cond_S aA (t := decide ((k : Int) < ((g.ow.length : Nat) : Int))) rfl (fun bQ => ?_) (fun bQ => ?_)
 ·have fE := of_decide_eq_true bQ
  refine wp_skip ?_
  refine t_n ?_
  refine wp_seq ?_
  refine wp_block ?_
  refine wp_seq (cut (fun a_ w_ => (Frm 101 a_ [(5, .int .i64 (k)), (4, .int .i64 (((g.ow.length : Nat) : Int))), (1, .pointer (some ⟨w.heap.size, 0, none⟩))]) ∧ (Ext w w_) ∧ (RdG w_ 0 w.heap.size Ag0 Ag1 Ag2 cg0 cg1 cg2 g) ∧ (Bx w_ (w.heap.size) [.slice Ag0 g.ow.length cg0, .slice Ag1 g.pr.length cg1, .slice Ag2 g.mv.length cg2] 25) ∧ (gI g.ow k = 0 ∨ gI g.ow k = 1) ∧ (aF.heap.size ≤ w_.heap.size)) ?_ ?_)
  ·refine wp_seq ?_
   refine At.start ?_
   obtain ⟨aB, cJ, _, _, cK⟩ := RdI.get aO.ow (k) (by omega) (by omega)
   rcases Bool.eq_false_or_eq_true ((gI g.ow (k) : Int) != 0) with aP | aP
   ·have fF := bne_iff_ne.1 aP
    obtain ⟨bC, dI, _, _, dJ⟩ := RdI.get aO.ow (k) (by omega) (by omega)
    refine At.rd aA 14 [[], [.ld (.slice Ag0 g.ow.length cg0)], [], [.ad aB], [.ld (.int .i64 (gI g.ow (k)))], [], [.as_ (.bool true)], [], [.ld (.slice Ag0 g.ow.length cg0)], [], [.ad bC], [.ld (.int .i64 (gI g.ow (k)))], [], []] [(48, .bool ((gI g.ow (k) : Int) != 1)), (47, .bool ((gI g.ow (k) : Int) != 1)), (46, .int .i64 (gI g.ow (k))), (45, .pointer (some (bC.add ((k : Int).toNat * 1)))), (44, .int .i64 (k)), (43, .slice Ag0 g.ow.length cg0), (42, .pointer (some ⟨w.heap.size, 0, none⟩)), (41, .bool true), (40, .bool ((gI g.ow (k) : Int) != 0)), (39, .int .i64 (gI g.ow (k))), (38, .pointer (some (aB.add ((k : Int).toNat * 1)))), (37, .int .i64 (k)), (36, .slice Ag0 g.ow.length cg0), (35, .pointer (some ⟨w.heap.size, 0, none⟩))] [(aF.cell? ⟨w.heap.size, 0, none⟩ = some (.slice Ag0 g.ow.length cg0)), (Ag0 = some aB), (0 ≤ (k : Int)), ((k : Int) < (g.ow.length : Nat)), (aF.cell? (aB.add ((k : Int).toNat * 1)) = some (.int .i64 (gI g.ow (k)))), ((.bool ((gI g.ow (k) : Int) != 0) : Value) = .bool true), (aF.cell? ⟨w.heap.size, 0, none⟩ = some (.slice Ag0 g.ow.length cg0)), (Ag0 = some bC), (0 ≤ (k : Int)), ((k : Int) < (g.ow.length : Nat)), (aF.cell? (bC.add ((k : Int).toNat * 1)) = some (.int .i64 (gI g.ow (k))))] (by kernel_rfl) ⟨(aG.cell (i := 0) rfl), cJ, (by omega), (by omega), cK, (congrArg Value.bool aP), (aG.cell (i := 0) rfl), dI, (by omega), (by omega), dJ, trivial⟩ (fun fG bD => ?_)
    clear aA
    refine At.done rfl ?_
    refine t_n ?_
    refine cond_S bD (t := (gI g.ow (k) : Int) != 1) rfl (fun bR => ?_) (fun bR => ?_)
    ·have fH := bne_iff_ne.1 bR
     refine wp_seq ?_
     refine At.start ?_
     refine At.rd bD 3 [[], [], []] [(3, .int .i64 (14)), (2, .int .i64 (k)), (49, .int .i64 (k))] [] (by kernel_rfl) trivial (fun fI cL => ?_)
     clear bD
     refine At.done rfl ?_
     refine t_n ?_
     have dK := cL.sub (r := [(3, .int .i64 (14)), (2, .int .i64 (k))]) ⟨rfl, rfl, trivial⟩; clear cL
     refine wp_ret ?_
     refine t_r ?_
     refine b_r ?_
     refine t_r ?_
     refine t_r ?_
     refine b_r ?_
     refine t_r ?_
     refine ret_ dK [] [.int .i64 (k), .int .i64 (14)] [] (by kernel_rfl) trivial ?_
     exact ⟨ret2_ii (right_at' (by omega) (by omega) (by omega) (by omega) (by assumption) (err_14 (by omega) (by omega)) (by decide)) rfl rfl, aI⟩
    have fJ := bne_eq_false_iff_eq.1 bR
    refine wp_skip ?_
    refine t_n ?_
    have dL := bD.sub (r := [(5, .int .i64 (k)), (4, .int .i64 (((g.ow.length : Nat) : Int))), (1, .pointer (some ⟨w.heap.size, 0, none⟩))]) ⟨rfl, rfl, rfl, trivial⟩
    exact ⟨dL, aI, aO, aG, (by omega), (by omega)⟩
   have fK := bne_eq_false_iff_eq.1 aP
   refine At.rd aA 14 [[], [.ld (.slice Ag0 g.ow.length cg0)], [], [.ad aB], [.ld (.int .i64 (gI g.ow (k)))], [], [.as_ (.bool false)], [], [], [], [], [], [], []] [(48, .bool false), (47, undef), (46, undef), (45, undef), (44, undef), (43, undef), (42, undef), (41, .bool false), (40, .bool ((gI g.ow (k) : Int) != 0)), (39, .int .i64 (gI g.ow (k))), (38, .pointer (some (aB.add ((k : Int).toNat * 1)))), (37, .int .i64 (k)), (36, .slice Ag0 g.ow.length cg0), (35, .pointer (some ⟨w.heap.size, 0, none⟩))] [(aF.cell? ⟨w.heap.size, 0, none⟩ = some (.slice Ag0 g.ow.length cg0)), (Ag0 = some aB), (0 ≤ (k : Int)), ((k : Int) < (g.ow.length : Nat)), (aF.cell? (aB.add ((k : Int).toNat * 1)) = some (.int .i64 (gI g.ow (k)))), ((.bool ((gI g.ow (k) : Int) != 0) : Value) = .bool false)] (by kernel_rfl) ⟨(aG.cell (i := 0) rfl), cJ, (by omega), (by omega), cK, (congrArg Value.bool aP), trivial⟩ (fun fL cM => ?_)
   clear aA
   refine At.done rfl ?_
   refine t_n ?_
   have cN := cM.sub (r := [(48, .bool false), (5, .int .i64 (k)), (4, .int .i64 (((g.ow.length : Nat) : Int))), (1, .pointer (some ⟨w.heap.size, 0, none⟩))]) ⟨rfl, rfl, rfl, rfl, trivial⟩
   clear cM
   refine cond_F cN rfl ?_
   refine wp_skip ?_
   refine t_n ?_
   have dM := cN.sub (r := [(5, .int .i64 (k)), (4, .int .i64 (((g.ow.length : Nat) : Int))), (1, .pointer (some ⟨w.heap.size, 0, none⟩))]) ⟨rfl, rfl, rfl, trivial⟩
   exact ⟨dM, aI, aO, aG, (by omega), (by omega)⟩
  clear aO; clear aG; clear aA aI
  intro fM aC ⟨bE, aJ, aQ, aH, i89, i90⟩
  have := aJ.size; have := aH.lt
  refine wp_seq ?_
  refine wp_seq ?_
  refine At.start ?_
  obtain ⟨aD, cO, _, _, cP⟩ := RdI.get aQ.pr (k) (by omega) (by omega)
  rcases Bool.eq_false_or_eq_true (decide ((gI g.pr (k) : Int) < 0)) with aR | aR
  ·have fN := of_decide_eq_true aR
   refine At.rd bE 14 [[], [.ld (.slice Ag1 g.pr.length cg1)], [], [.ad aD], [.ld (.int .i64 (gI g.pr (k)))], [], [.as_ (.bool true)], [], [], [], [], [], [], []] [(63, .bool true), (62, undef), (61, undef), (60, undef), (59, undef), (58, undef), (57, undef), (56, .bool true), (55, .bool (decide ((gI g.pr (k) : Int) < 0))), (54, .int .i64 (gI g.pr (k))), (53, .pointer (some (aD.add ((k : Int).toNat * 1)))), (52, .int .i64 (k)), (51, .slice Ag1 g.pr.length cg1), (50, .pointer (some ⟨w.heap.size, 1, none⟩))] [(aC.cell? ⟨w.heap.size, 1, none⟩ = some (.slice Ag1 g.pr.length cg1)), (Ag1 = some aD), (0 ≤ (k : Int)), ((k : Int) < (g.pr.length : Nat)), (aC.cell? (aD.add ((k : Int).toNat * 1)) = some (.int .i64 (gI g.pr (k)))), ((.bool (decide ((gI g.pr (k) : Int) < 0)) : Value) = .bool true)] (by kernel_rfl) ⟨(aH.cell (i := 1) rfl), cO, (by omega), (by omega), cP, (congrArg Value.bool aR), trivial⟩ (fun fO bS => ?_)
   clear bE
   refine At.done rfl ?_
   refine t_n ?_
   refine cond_T bS rfl ?_
   refine wp_seq ?_
   refine At.start ?_
   refine At.rd bS 3 [[], [], []] [(3, .int .i64 (15)), (2, .int .i64 (k)), (64, .int .i64 (k))] [] (by kernel_rfl) trivial (fun fP cQ => ?_)
   clear bS
   refine At.done rfl ?_
   refine t_n ?_
   have dN := cQ.sub (r := [(3, .int .i64 (15)), (2, .int .i64 (k))]) ⟨rfl, rfl, trivial⟩; clear cQ
   refine wp_ret ?_
   refine t_r ?_
   refine b_r ?_
   refine t_r ?_
   refine t_r ?_
   refine b_r ?_
   refine t_r ?_
   refine ret_ dN [] [.int .i64 (k), .int .i64 (15)] [] (by kernel_rfl) trivial ?_
   exact ⟨ret2_ii (right_at' (by omega) (by omega) (by omega) (by omega) (by assumption) (err_15 (by omega) (by omega)) (by decide)) rfl rfl, aJ⟩
  have fQ := of_decide_eq_false aR
  obtain ⟨aE, dO, _, _, dP⟩ := RdI.get aQ.pr (k) (by omega) (by omega)
  refine At.rd bE 14 [[], [.ld (.slice Ag1 g.pr.length cg1)], [], [.ad aD], [.ld (.int .i64 (gI g.pr (k)))], [], [.as_ (.bool false)], [], [.ld (.slice Ag1 g.pr.length cg1)], [], [.ad aE], [.ld (.int .i64 (gI g.pr (k)))], [], []] [(63, .bool (decide ((gI g.pr (k) : Int) > 7))), (62, .bool (decide ((gI g.pr (k) : Int) > 7))), (61, .int .i64 (gI g.pr (k))), (60, .pointer (some (aE.add ((k : Int).toNat * 1)))), (59, .int .i64 (k)), (58, .slice Ag1 g.pr.length cg1), (57, .pointer (some ⟨w.heap.size, 1, none⟩)), (56, .bool false), (55, .bool (decide ((gI g.pr (k) : Int) < 0))), (54, .int .i64 (gI g.pr (k))), (53, .pointer (some (aD.add ((k : Int).toNat * 1)))), (52, .int .i64 (k)), (51, .slice Ag1 g.pr.length cg1), (50, .pointer (some ⟨w.heap.size, 1, none⟩))] [(aC.cell? ⟨w.heap.size, 1, none⟩ = some (.slice Ag1 g.pr.length cg1)), (Ag1 = some aD), (0 ≤ (k : Int)), ((k : Int) < (g.pr.length : Nat)), (aC.cell? (aD.add ((k : Int).toNat * 1)) = some (.int .i64 (gI g.pr (k)))), ((.bool (decide ((gI g.pr (k) : Int) < 0)) : Value) = .bool false), (aC.cell? ⟨w.heap.size, 1, none⟩ = some (.slice Ag1 g.pr.length cg1)), (Ag1 = some aE), (0 ≤ (k : Int)), ((k : Int) < (g.pr.length : Nat)), (aC.cell? (aE.add ((k : Int).toNat * 1)) = some (.int .i64 (gI g.pr (k))))] (by kernel_rfl) ⟨(aH.cell (i := 1) rfl), cO, (by omega), (by omega), cP, (congrArg Value.bool aR), (aH.cell (i := 1) rfl), dO, (by omega), (by omega), dP, trivial⟩ (fun fR aS => ?_)
  clear bE
  refine At.done rfl ?_
  refine t_n ?_
  refine cond_S aS (t := decide ((gI g.pr (k) : Int) > 7)) rfl (fun bT => ?_) (fun bT => ?_)
  ·have fS := of_decide_eq_true bT
   refine wp_seq ?_
   refine At.start ?_
   refine At.rd aS 3 [[], [], []] [(3, .int .i64 (15)), (2, .int .i64 (k)), (64, .int .i64 (k))] [] (by kernel_rfl) trivial (fun fT cR => ?_)
   clear aS
   refine At.done rfl ?_
   refine t_n ?_
   have dQ := cR.sub (r := [(3, .int .i64 (15)), (2, .int .i64 (k))]) ⟨rfl, rfl, trivial⟩; clear cR
   refine wp_ret ?_
   refine t_r ?_
   refine b_r ?_
   refine t_r ?_
   refine t_r ?_
   refine b_r ?_
   refine t_r ?_
   refine ret_ dQ [] [.int .i64 (k), .int .i64 (15)] [] (by kernel_rfl) trivial ?_
   exact ⟨ret2_ii (right_at' (by omega) (by omega) (by omega) (by omega) (by assumption) (err_15 (by omega) (by omega)) (by decide)) rfl rfl, aJ⟩
  have fU := of_decide_eq_false bT
  refine wp_skip ?_
  refine t_n ?_
  refine wp_seq ?_
  refine wp_seq ?_
  refine At.start ?_
  obtain ⟨bF, bU, bV, dR, _, _, dS, fV, dT⟩ := RdII.get aQ.mv (k) (by omega) (by omega)
  have fW := dT.len
  refine At.rd aS 7 [[], [.ld (.slice Ag2 g.mv.length cg2)], [], [.ad bF], [.ld (.slice bU ((gL g.mv (k)).length) bV)], [], []] [(71, .bool (((((gL g.mv (k)).length : Nat) : Int) : Int) == 0)), (70, .int .i64 ((((gL g.mv (k)).length : Nat) : Int))), (69, .slice bU ((gL g.mv (k)).length) bV), (68, .pointer (some (bF.add ((k : Int).toNat * 1)))), (67, .int .i64 (k)), (66, .slice Ag2 g.mv.length cg2), (65, .pointer (some ⟨w.heap.size, 2, none⟩))] [(aC.cell? ⟨w.heap.size, 2, none⟩ = some (.slice Ag2 g.mv.length cg2)), (Ag2 = some bF), (0 ≤ (k : Int)), ((k : Int) < (g.mv.length : Nat)), (aC.cell? (bF.add ((k : Int).toNat * 1)) = some (.slice bU ((gL g.mv (k)).length) bV))] (by kernel_rfl) ⟨(aH.cell (i := 2) rfl), dR, (by omega), (by omega), dS, trivial⟩ (fun fX aT => ?_)
  clear aS
  refine At.done rfl ?_
  refine t_n ?_
  refine cond_S aT (t := ((((gL g.mv (k)).length : Nat) : Int) : Int) == 0) rfl (fun bW => ?_) (fun bW => ?_)
  ·have fY := eq_of_beq bW
   refine wp_seq ?_
   refine At.start ?_
   refine At.rd aT 3 [[], [], []] [(3, .int .i64 (17)), (2, .int .i64 (k)), (72, .int .i64 (k))] [] (by kernel_rfl) trivial (fun fZ cS => ?_)
   clear aT
   refine At.done rfl ?_
   refine t_n ?_
   have dU := cS.sub (r := [(3, .int .i64 (17)), (2, .int .i64 (k))]) ⟨rfl, rfl, trivial⟩; clear cS
   refine wp_ret ?_
   refine t_r ?_
   refine b_r ?_
   refine t_r ?_
   refine t_r ?_
   refine b_r ?_
   refine t_r ?_
   refine ret_ dU [] [.int .i64 (k), .int .i64 (17)] [] (by kernel_rfl) trivial ?_
   exact ⟨ret2_ii (right_at' (by omega) (by omega) (by omega) (by omega) (by assumption) (err_17 (by omega) (by omega) (by omega)) (by decide)) rfl rfl, aJ⟩
  have gA := ne_of_beq_false bW
  refine wp_skip ?_
  refine t_n ?_
  refine wp_seq ?_
  refine At.start ?_
  refine At.rd aT 1 [[]] [(6, .int .i64 (-1))] [] (by kernel_rfl) trivial (fun gB cT => ?_)
  clear aT
  refine At.done rfl ?_
  refine t_n ?_
  refine wp_seq ?_
  refine At.start ?_
  refine At.rd cT 1 [[]] [(7, .int .i64 (0))] [] (by kernel_rfl) trivial (fun gC cU => ?_)
  clear cT
  refine At.done rfl ?_
  refine t_n ?_
  refine wp_block ?_
  have cV := cU.as 6 (.int .i64 (-1)) (.int .i64 (lastOf (gL g.mv k) (0 : Int).toNat)) rfl (congrArg (Value.int .i64) (last_0.symm)); clear cU
  have cW := cV.sub (r := [(7, .int .i64 (0)), (6, .int .i64 (lastOf (gL g.mv k) (0 : Int).toNat)), (62, .bool (decide ((gI g.pr (k) : Int) > 7))), (61, .int .i64 (gI g.pr (k))), (60, .pointer (some (aE.add ((k : Int).toNat * 1)))), (59, .int .i64 (k)), (58, .slice Ag1 g.pr.length cg1), (57, .pointer (some ⟨w.heap.size, 1, none⟩)), (5, .int .i64 (k)), (4, .int .i64 (((g.ow.length : Nat) : Int))), (1, .pointer (some ⟨w.heap.size, 0, none⟩))]) ⟨rfl, rfl, rfl, rfl, rfl, rfl, rfl, rfl, rfl, rfl, rfl, trivial⟩
  refine loop_g (fun (m_ : Nat) a_ w_ => ∃ (q : Int), m_ = (((gL g.mv k).length : Int) - q).toNat ∧ (Frm 101 a_ [(7, .int .i64 (q)), (6, .int .i64 (lastOf (gL g.mv k) q.toNat)), (62, .bool (decide ((gI g.pr (k) : Int) > 7))), (61, .int .i64 (gI g.pr (k))), (60, .pointer (some (aE.add ((k : Int).toNat * 1)))), (59, .int .i64 (k)), (58, .slice Ag1 g.pr.length cg1), (57, .pointer (some ⟨w.heap.size, 1, none⟩)), (5, .int .i64 (k)), (4, .int .i64 (((g.ow.length : Nat) : Int))), (1, .pointer (some ⟨w.heap.size, 0, none⟩))]) ∧ (Ext w w_) ∧ (RdG w_ 0 w.heap.size Ag0 Ag1 Ag2 cg0 cg1 cg2 g) ∧ (Bx w_ (w.heap.size) [.slice Ag0 g.ow.length cg0, .slice Ag1 g.pr.length cg1, .slice Ag2 g.mv.length cg2] 25) ∧ (0 ≤ q) ∧ (q ≤ ((gL g.mv k).length : Int)) ∧ (rowBad g.ow.length (-1) ((gL g.mv k).take q.toNat) = false)) _ ⟨0, rfl, cW, aJ, aQ, aH, (by omega), (by omega), rfl⟩ ?_
  clear cW cV; clear aQ; clear aH; clear aJ
  intro m_ gD aU ⟨q, hm139, cX, aV, bG, aW, i143, i144, i145⟩
  have := aV.size; have := aW.lt
  refine wp_seq ?_
  refine wp_seq ?_
  refine At.start ?_
  obtain ⟨bH, bX, bY, dV, _, _, dW, gE, dX⟩ := RdII.get bG.mv (k) (by omega) (by omega)
  have gF := dX.len
  refine At.rd cX 8 [[], [], [.ld (.slice Ag2 g.mv.length cg2)], [], [.ad bH], [.ld (.slice bX ((gL g.mv (k)).length) bY)], [], []] [(80, .bool (decide ((q : Int) < (((gL g.mv (k)).length : Nat) : Int)))), (79, .int .i64 ((((gL g.mv (k)).length : Nat) : Int))), (78, .slice bX ((gL g.mv (k)).length) bY), (77, .pointer (some (bH.add ((k : Int).toNat * 1)))), (76, .int .i64 (k)), (75, .slice Ag2 g.mv.length cg2), (74, .pointer (some ⟨w.heap.size, 2, none⟩)), (73, .int .i64 (q))] [(aU.cell? ⟨w.heap.size, 2, none⟩ = some (.slice Ag2 g.mv.length cg2)), (Ag2 = some bH), (0 ≤ (k : Int)), ((k : Int) < (g.mv.length : Nat)), (aU.cell? (bH.add ((k : Int).toNat * 1)) = some (.slice bX ((gL g.mv (k)).length) bY))] (by kernel_rfl) ⟨(aW.cell (i := 2) rfl), dV, (by omega), (by omega), dW, trivial⟩ (fun gG aX => ?_)
  clear cX
  refine At.done rfl ?_
  refine t_n ?_
  refine cond_S aX (t := decide ((q : Int) < (((gL g.mv (k)).length : Nat) : Int))) rfl (fun bZ => ?_) (fun bZ => ?_)
  ·have gH := of_decide_eq_true bZ
   refine wp_skip ?_
   refine t_n ?_
   refine wp_seq ?_
   refine wp_block ?_
   refine wp_seq ?_
   refine At.start ?_
   obtain ⟨bI, bJ, cA, dY, _, _, dZ, gJ, cY⟩ := RdII.get bG.mv (k) (by omega) (by omega)
   have gK := cY.len
   obtain ⟨bK, eA, _, _, eB⟩ := RdI.get cY (q) (by omega) (by omega)
   refine At.rd aX 9 [[], [.ld (.slice Ag2 g.mv.length cg2)], [], [.ad bI], [.ld (.slice bJ ((gL g.mv (k)).length) cA)], [], [.ad bK], [.ld (.int .i64 (gI (gL g.mv (k)) (q)))], []] [(8, .int .i64 (gI (gL g.mv (k)) (q))), (90, .int .i64 (gI (gL g.mv (k)) (q))), (89, .pointer (some (bK.add ((q : Int).toNat * 1)))), (88, .int .i64 (q)), (87, .slice bJ ((gL g.mv (k)).length) cA), (86, .pointer (some (bI.add ((k : Int).toNat * 1)))), (85, .int .i64 (k)), (84, .slice Ag2 g.mv.length cg2), (83, .pointer (some ⟨w.heap.size, 2, none⟩))] [(aU.cell? ⟨w.heap.size, 2, none⟩ = some (.slice Ag2 g.mv.length cg2)), (Ag2 = some bI), (0 ≤ (k : Int)), ((k : Int) < (g.mv.length : Nat)), (aU.cell? (bI.add ((k : Int).toNat * 1)) = some (.slice bJ ((gL g.mv (k)).length) cA)), (bJ = some bK), (0 ≤ (q : Int)), ((q : Int) < ((gL g.mv (k)).length : Nat)), (aU.cell? (bK.add ((q : Int).toNat * 1)) = some (.int .i64 (gI (gL g.mv (k)) (q))))] (by kernel_rfl) ⟨(aW.cell (i := 2) rfl), dY, (by omega), (by omega), dZ, eA, (by omega), (by omega), eB, trivial⟩ (fun gM cZ => ?_)
   clear aX
   refine At.done rfl ?_
   refine t_n ?_
   have bL := cZ.sub (r := [(8, .int .i64 (gI (gL g.mv (k)) (q))), (7, .int .i64 (q)), (6, .int .i64 (lastOf (gL g.mv k) q.toNat)), (62, .bool (decide ((gI g.pr (k) : Int) > 7))), (61, .int .i64 (gI g.pr (k))), (60, .pointer (some (aE.add ((k : Int).toNat * 1)))), (59, .int .i64 (k)), (58, .slice Ag1 g.pr.length cg1), (57, .pointer (some ⟨w.heap.size, 1, none⟩)), (5, .int .i64 (k)), (4, .int .i64 (((g.ow.length : Nat) : Int))), (1, .pointer (some ⟨w.heap.size, 0, none⟩))]) ⟨rfl, rfl, rfl, rfl, rfl, rfl, rfl, rfl, rfl, rfl, rfl, rfl, trivial⟩
   clear cZ
   refine wp_seq ?_
   refine wp_seq ?_
   refine At.start ?_
   rcases Bool.eq_false_or_eq_true (decide ((gI (gL g.mv (k)) (q) : Int) ≤ (lastOf (gL g.mv k) q.toNat))) with aY | aY
   ·have gN := of_decide_eq_true aY
    refine At.rd bL 8 [[], [], [], [.as_ (.bool true)], [], [], [], []] [(98, .bool true), (97, undef), (96, undef), (95, undef), (94, .bool true), (93, .bool (decide ((gI (gL g.mv (k)) (q) : Int) ≤ (lastOf (gL g.mv k) q.toNat)))), (92, .int .i64 (lastOf (gL g.mv k) q.toNat)), (91, .int .i64 (gI (gL g.mv (k)) (q)))] [((.bool (decide ((gI (gL g.mv (k)) (q) : Int) ≤ (lastOf (gL g.mv k) q.toNat))) : Value) = .bool true)] (by kernel_rfl) ⟨(congrArg Value.bool aY), trivial⟩ (fun gO cB => ?_)
    clear bL
    refine At.done rfl ?_
    refine t_n ?_
    refine cond_T cB rfl ?_
    refine wp_seq ?_
    refine At.start ?_
    refine At.rd cB 3 [[], [], []] [(3, .int .i64 (16)), (2, .int .i64 (k)), (99, .int .i64 (k))] [] (by kernel_rfl) trivial (fun gP dA => ?_)
    clear cB
    refine At.done rfl ?_
    refine t_n ?_
    have eC := dA.sub (r := [(3, .int .i64 (16)), (2, .int .i64 (k))]) ⟨rfl, rfl, trivial⟩; clear dA
    refine wp_ret ?_
    refine t_r ?_
    refine b_r ?_
    refine t_r ?_
    refine t_r ?_
    refine b_r ?_
    refine b_r ?_
    refine t_r ?_
    refine t_r ?_
    refine b_r ?_
    refine t_r ?_
    refine ret_ eC [] [.int .i64 (k), .int .i64 (16)] [] (by kernel_rfl) trivial ?_
    exact ⟨ret2_ii (right_at' (by omega) (by omega) (by omega) (by omega) (by assumption) (err_16 (by omega) (by omega) (by omega) (bad_at (q := q) (by omega) (by omega) (by omega))) (by decide)) rfl rfl, aV⟩
   have gQ := of_decide_eq_false aY
   refine At.rd bL 8 [[], [], [], [.as_ (.bool false)], [], [], [], []] [(98, .bool (decide ((gI (gL g.mv (k)) (q) : Int) ≥ ((g.ow.length : Nat) : Int)))), (97, .bool (decide ((gI (gL g.mv (k)) (q) : Int) ≥ ((g.ow.length : Nat) : Int)))), (96, .int .i64 (((g.ow.length : Nat) : Int))), (95, .int .i64 (gI (gL g.mv (k)) (q))), (94, .bool false), (93, .bool (decide ((gI (gL g.mv (k)) (q) : Int) ≤ (lastOf (gL g.mv k) q.toNat)))), (92, .int .i64 (lastOf (gL g.mv k) q.toNat)), (91, .int .i64 (gI (gL g.mv (k)) (q)))] [((.bool (decide ((gI (gL g.mv (k)) (q) : Int) ≤ (lastOf (gL g.mv k) q.toNat))) : Value) = .bool false)] (by kernel_rfl) ⟨(congrArg Value.bool aY), trivial⟩ (fun gR aZ => ?_)
   clear bL
   refine At.done rfl ?_
   refine t_n ?_
   refine cond_S aZ (t := decide ((gI (gL g.mv (k)) (q) : Int) ≥ ((g.ow.length : Nat) : Int))) rfl (fun cC => ?_) (fun cC => ?_)
   ·have gS := of_decide_eq_true cC
    refine wp_seq ?_
    refine At.start ?_
    refine At.rd aZ 3 [[], [], []] [(3, .int .i64 (16)), (2, .int .i64 (k)), (99, .int .i64 (k))] [] (by kernel_rfl) trivial (fun gT dB => ?_)
    clear aZ
    refine At.done rfl ?_
    refine t_n ?_
    have eD := dB.sub (r := [(3, .int .i64 (16)), (2, .int .i64 (k))]) ⟨rfl, rfl, trivial⟩; clear dB
    refine wp_ret ?_
    refine t_r ?_
    refine b_r ?_
    refine t_r ?_
    refine t_r ?_
    refine b_r ?_
    refine b_r ?_
    refine t_r ?_
    refine t_r ?_
    refine b_r ?_
    refine t_r ?_
    refine ret_ eD [] [.int .i64 (k), .int .i64 (16)] [] (by kernel_rfl) trivial ?_
    exact ⟨ret2_ii (right_at' (by omega) (by omega) (by omega) (by omega) (by assumption) (err_16 (by omega) (by omega) (by omega) (bad_at (q := q) (by omega) (by omega) (by omega))) (by decide)) rfl rfl, aV⟩
   have gU := of_decide_eq_false cC
   refine wp_skip ?_
   refine t_n ?_
   refine At.start ?_
   refine At.rd aZ 2 [[], []] [(6, .int .i64 (gI (gL g.mv (k)) (q))), (100, .int .i64 (gI (gL g.mv (k)) (q)))] [] (by kernel_rfl) trivial (fun gV dC => ?_)
   clear aZ
   refine At.done rfl ?_
   refine b_n ?_
   refine t_n ?_
   refine At.start ?_
   refine At.rd dC 3 [[], [.as_ (.int .i64 (q + 1))], []] [(7, .int .i64 (q + 1)), (82, .int .i64 (q + 1)), (81, .int .i64 (q))] [((.int .i64 (IntKind.i64.wrap (q + 1)) : Value) = .int .i64 (q + 1))] (by kernel_rfl) ⟨(w64 (by omega) (by omega)), trivial⟩ (fun gW dD => ?_)
   clear dC
   refine At.done rfl ?_
   refine t_n ?_
   have eE := dD.as 6 (.int .i64 (gI (gL g.mv (k)) (q))) (.int .i64 (lastOf (gL g.mv k) ((q + 1) : Int).toNat)) rfl (congrArg (Value.int .i64) (last_next (by omega) (by omega)))
   clear dD
   have eF := eE.sub (r := [(7, .int .i64 (q + 1)), (6, .int .i64 (lastOf (gL g.mv k) ((q + 1) : Int).toNat)), (62, .bool (decide ((gI g.pr (k) : Int) > 7))), (61, .int .i64 (gI g.pr (k))), (60, .pointer (some (aE.add ((k : Int).toNat * 1)))), (59, .int .i64 (k)), (58, .slice Ag1 g.pr.length cg1), (57, .pointer (some ⟨w.heap.size, 1, none⟩)), (5, .int .i64 (k)), (4, .int .i64 (((g.ow.length : Nat) : Int))), (1, .pointer (some ⟨w.heap.size, 0, none⟩))]) ⟨rfl, rfl, rfl, rfl, rfl, rfl, rfl, rfl, rfl, rfl, rfl, trivial⟩
   exact ⟨_, (by omega), (q + 1), rfl, eF, aV, bG, aW, (by omega), (by omega), (bad_next (by omega) (by omega) (by assumption) (by omega) (by omega))⟩
  have gX := of_decide_eq_false bZ
  refine wp_exit ?_
  refine t_e ?_
  refine t_e ?_
  refine b_e ?_
  refine b_n ?_
  refine t_n ?_
  refine At.start ?_
  refine At.rd aX 3 [[], [.as_ (.int .i64 (k + 1))], []] [(5, .int .i64 (k + 1)), (34, .int .i64 (k + 1)), (33, .int .i64 (k))] [((.int .i64 (IntKind.i64.wrap (k + 1)) : Value) = .int .i64 (k + 1))] (by kernel_rfl) ⟨(w64 (by omega) (by omega)), trivial⟩ (fun gY eG => ?_)
  clear aX
  refine At.done rfl ?_
  refine t_n ?_
  have eH := eG.sub (r := [(5, .int .i64 (k + 1)), (4, .int .i64 (((g.ow.length : Nat) : Int))), (1, .pointer (some ⟨w.heap.size, 0, none⟩))]) ⟨rfl, rfl, rfl, trivial⟩
  exact ⟨_, (by omega), (k + 1), rfl, eH, aV, bG, aW, (by omega), (by omega), (err_next (by omega) hp (err_0 (by omega) (by omega) (by omega) (bad_all (by assumption) (by omega))))⟩
 have gZ := of_decide_eq_false bQ
 refine wp_exit ?_
 refine t_e ?_
 refine t_e ?_
 refine b_e ?_
 refine t_n ?_
 refine wp_seq ?_
 refine At.start ?_
 refine At.rd aA 2 [[], []] [(3, .int .i64 (0)), (2, .int .i64 (0))] [] (by kernel_rfl) trivial (fun hA eI => ?_)
 clear aA
 refine At.done rfl ?_
 refine t_n ?_
 refine wp_ret ?_
 refine ret_ eI [] [.int .i64 (0), .int .i64 (0)] [] (by kernel_rfl) trivial ?_
 exact ⟨ret2_ii (right_ok' (k := k) (by omega) (by omega) (by omega) (by assumption)) rfl rfl, aI⟩

end Go.Proofs.Ytklbpajmoklheaa
