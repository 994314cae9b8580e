/-
  A walk of a Go function, printed by a program of this repo. Conditions: what the theorems name.
-/
import Derived.Test.YtklbpajmoklheaaPureTup
import Derived.Test.YtklbpajmoklheaaFy
set_option linter.unusedVariables false
set_option linter.unusedSimpArgs false
namespace Go.Proofs.Ytklbpajmoklheaa
open Go Go.RowKit

set_option maxHeartbeats 4000000 in
theorem counts_any {Ag0 Ag1 Ag2 : Option Addr} {cg0 cg1 cg2 : Nat} {g : GameL} {w : World} (rg : RdG w 0 w.heap.size Ag0 Ag1 Ag2 cg0 cg1 cg2 g) :
    Calls Try.prog 46 #[.agg #[.slice Ag0 g.ow.length cg0, .slice Ag1 g.pr.length cg1, .slice Ag2 g.mv.length cg2]] w fun e w' => e = .returned (.agg #[.int .i64 (cnt g.pr 1), .int .i64 (cnt g.pr 3), .int .i64 (cnt g.pr 5), .int .i64 (cnt g.pr 7)]) ∧ Ext w w' := by
 have hlg0 := rg.ow.len; have hlg1 := rg.pr.len; have hlg2 := rg.mv.len; have hkg0 := rg.k0; have hkg1 := rg.k1; have hkg2 := rg.k2
 refine enter_ (args := [.agg #[.slice Ag0 g.ow.length cg0, .slice Ag1 g.pr.length cg1, .slice Ag2 g.mv.length cg2]]) Try.func46 rfl Try.ntmps46 (Nat.le_of_ble_eq_true rfl) (fun act0 f0 => ?_)
 have e0 : Ext w w := Ext.refl w
 refine wp_seq ?_
 refine At.start ?_
 refine At.seq f0 1 [[]] [(1, .pointer (some ⟨w.heap.size, 0, none⟩))] (w.alloc (.cells #[.slice Ag0 g.ow.length cg0, .slice Ag1 g.pr.length cg1, .slice Ag2 g.mv.length cg2] 25 (0, 0))) [] (by kernel_rfl) trivial (fun act4 w1 hw2 f3 => ?_)
 clear f0; have g5 := gr_alloc hw2; have := g5.size; replace e0 := e0.gn g5; have r8 := rg.gn g5; clear rg; have bx9 : Bx w1 (w.heap.size) [.slice Ag0 g.ow.length cg0, .slice Ag1 g.pr.length cg1, .slice Ag2 g.mv.length cg2] 25 := Bx.new hw2; have := bx9.lt; clear g5 hw2
 refine At.seq f3 1 [[]] [(2, .pointer (some ⟨w1.heap.size, 0, none⟩))] (w1.alloc (.cells #[.int .i64 (0), .int .i64 (0), .int .i64 (0), .int .i64 (0)] 38 (0, 0))) [] (by kernel_rfl) trivial (fun cE aX aQ aY => ?_)
 clear f3; have aI := gr_alloc aQ; have := aI.size; replace e0 := e0.gn aI; replace r8 := r8.gn aI; replace bx9 := bx9.gn aI; have aR : Bx aX (w1.heap.size) [.int .i64 (0), .int .i64 (0), .int .i64 (0), .int .i64 (0)] 38 := Bx.new aQ; have := aR.lt; clear aI aQ
 refine At.done rfl ?_
 refine t_n ?_
 have aZ := aY.sub (r := [(2, .pointer (some ⟨w1.heap.size, 0, none⟩)), (1, .pointer (some ⟨w.heap.size, 0, none⟩))]) ⟨rfl, rfl, trivial⟩; clear aY
 refine wp_seq ?_
 refine wp_seq ?_
 refine At.start ?_
 refine At.rd aZ 4 [[], [.ld (.slice Ag1 g.pr.length cg1)], [], []] [(8, .int .i64 (0)), (7, .int .i64 (((g.pr.length : Nat) : Int))), (6, .slice Ag1 g.pr.length cg1), (5, .pointer (some ⟨w.heap.size, 1, none⟩))] [(aX.cell? ⟨w.heap.size, 1, none⟩ = some (.slice Ag1 g.pr.length cg1))] (by kernel_rfl) ⟨(bx9.cell (i := 1) rfl), trivial⟩ (fun cF bA => ?_)
 clear aZ
 refine At.done rfl ?_
 refine t_n ?_
 have bB := bA.sub (r := [(8, .int .i64 (0)), (7, .int .i64 (((g.pr.length : Nat) : Int))), (6, .slice Ag1 g.pr.length cg1), (2, .pointer (some ⟨w1.heap.size, 0, none⟩))]) ⟨rfl, rfl, rfl, rfl, trivial⟩
 clear bA
 refine wp_block ?_
 have bC := bB.sub (r := [(8, .int .i64 (0)), (7, .int .i64 (((g.pr.length : Nat) : Int))), (6, .slice Ag1 g.pr.length cg1), (2, .pointer (some ⟨w1.heap.size, 0, none⟩))]) ⟨rfl, rfl, rfl, rfl, trivial⟩
 refine loop_g (fun (m_ : Nat) a_ w_ => ∃ (j : Int), m_ = ((g.pr.length : Int) - j).toNat ∧ (Frm 31 a_ [(8, .int .i64 (j)), (7, .int .i64 (((g.pr.length : Nat) : Int))), (6, .slice Ag1 g.pr.length cg1), (2, .pointer (some ⟨w1.heap.size, 0, none⟩))]) ∧ (Ext w w_) ∧ (RdG w_ 0 w.heap.size Ag0 Ag1 Ag2 cg0 cg1 cg2 g) ∧ (Bx w_ (w.heap.size) [.slice Ag0 g.ow.length cg0, .slice Ag1 g.pr.length cg1, .slice Ag2 g.mv.length cg2] 25) ∧ (Bx w_ (w1.heap.size) [.int .i64 (cnt (g.pr.take j.toNat) 1), .int .i64 (cnt (g.pr.take j.toNat) 3), .int .i64 (cnt (g.pr.take j.toNat) 5), .int .i64 (cnt (g.pr.take j.toNat) 7)] 38) ∧ (0 ≤ j) ∧ (j ≤ (g.pr.length : Int))) _ ⟨0, rfl, bC, e0, r8, bx9, (aR.as (by simp only [cnt_zero])), (by omega), (by omega)⟩ ?_
 clear bC bB; clear r8; clear bx9; clear aR; clear e0
 intro m_ cG aE ⟨j, hm28, bD, aB, aC, aD, aA, i33, i34⟩
 have := aB.size; have := aD.lt; have := aA.lt
 have hcb : ∀ p, cnt (g.pr.take j.toNat) p ≤ g.pr.length := fun p => cs4_b
 have hcg : ∀ p, 0 ≤ cnt (g.pr.take j.toNat) p := fun p => cnt_ge _ _
 refine wp_seq ?_
 refine At.start ?_
 refine At.rd bD 1 [[]] [(9, .bool (decide ((j : Int) < ((g.pr.length : Nat) : Int))))] [] (by kernel_rfl) trivial (fun cH aJ => ?_)
 clear bD
 refine At.done rfl ?_
 refine t_n ?_
 refine wp_seq ?_
 refine cond_S aJ (t := decide ((j : Int) < ((g.pr.length : Nat) : Int))) rfl (fun aS => ?_) (fun aS => ?_)
 ·have cI := of_decide_eq_true aS
  refine wp_skip ?_
  refine t_n ?_
  have bE := aJ.sub (r := [(8, .int .i64 (j)), (7, .int .i64 (((g.pr.length : Nat) : Int))), (6, .slice Ag1 g.pr.length cg1), (2, .pointer (some ⟨w1.heap.size, 0, none⟩))]) ⟨rfl, rfl, rfl, rfl, trivial⟩
  clear aJ
  refine wp_seq ?_
  refine wp_block ?_
  refine wp_seq ?_
  refine At.start ?_
  obtain ⟨aP, bS, _, _, bT⟩ := RdI.get aC.pr (j) (by omega) (by omega)
  refine At.rd bE 3 [[.ad aP], [.ld (.int .i64 (gI g.pr (j)))], []] [(4, .int .i64 (gI g.pr (j))), (11, .int .i64 (gI g.pr (j))), (10, .pointer (some (aP.add ((j : Int).toNat * 1))))] [(Ag1 = some aP), (0 ≤ (j : Int)), ((j : Int) < (g.pr.length : Nat)), (aE.cell? (aP.add ((j : Int).toNat * 1)) = some (.int .i64 (gI g.pr (j))))] (by kernel_rfl) ⟨bS, (by omega), (by omega), bT, trivial⟩ (fun cJ bF => ?_)
  clear bE
  refine At.done rfl ?_
  refine t_n ?_
  have aF := bF.sub (r := [(4, .int .i64 (gI g.pr (j))), (8, .int .i64 (j)), (7, .int .i64 (((g.pr.length : Nat) : Int))), (6, .slice Ag1 g.pr.length cg1), (2, .pointer (some ⟨w1.heap.size, 0, none⟩))]) ⟨rfl, rfl, rfl, rfl, rfl, trivial⟩
  clear bF
  refine wp_seq ?_
  refine At.start ?_
  rcases Bool.eq_false_or_eq_true (decide ((gI g.pr (j) : Int) > 0)) with aG | aG
  ·have cK := of_decide_eq_true aG
   rcases Bool.eq_false_or_eq_true (decide ((gI g.pr (j) : Int) < 8)) with aK | aK
   ·have cL := of_decide_eq_true aK
    refine At.rd aF 11 [[], [], [.as_ (.bool true)], [], [], [], [.as_ (.bool true)], [], [], [], []] [(22, .bool (((gI g.pr (j) : Int).tmod 2 : Int) == 1)), (21, .bool (((gI g.pr (j) : Int).tmod 2 : Int) == 1)), (20, .int .i64 ((gI g.pr (j) : Int).tmod 2)), (19, .int .i64 (gI g.pr (j))), (18, .bool true), (17, .bool (decide ((gI g.pr (j) : Int) < 8))), (16, .bool (decide ((gI g.pr (j) : Int) < 8))), (15, .int .i64 (gI g.pr (j))), (14, .bool true), (13, .bool (decide ((gI g.pr (j) : Int) > 0))), (12, .int .i64 (gI g.pr (j)))] [((.bool (decide ((gI g.pr (j) : Int) > 0)) : Value) = .bool true), ((.bool (decide ((gI g.pr (j) : Int) < 8)) : Value) = .bool true), ((2 : Int) ≠ 0)] (by kernel_rfl) ⟨(congrArg Value.bool aG), (congrArg Value.bool aK), (by omega), trivial⟩ (fun cM bG => ?_)
    clear aF
    refine At.done rfl ?_
    refine t_n ?_
    have aL := bG.sub (r := [(22, .bool (((gI g.pr (j) : Int).tmod 2 : Int) == 1)), (21, .bool (((gI g.pr (j) : Int).tmod 2 : Int) == 1)), (20, .int .i64 ((gI g.pr (j) : Int).tmod 2)), (19, .int .i64 (gI g.pr (j))), (16, .bool (decide ((gI g.pr (j) : Int) < 8))), (15, .int .i64 (gI g.pr (j))), (4, .int .i64 (gI g.pr (j))), (8, .int .i64 (j)), (7, .int .i64 (((g.pr.length : Nat) : Int))), (6, .slice Ag1 g.pr.length cg1), (2, .pointer (some ⟨w1.heap.size, 0, none⟩))]) ⟨rfl, rfl, rfl, rfl, rfl, rfl, rfl, rfl, rfl, rfl, rfl, trivial⟩
    clear bG
    refine cond_S aL (t := ((gI g.pr (j) : Int).tmod 2 : Int) == 1) rfl (fun aT => ?_) (fun aT => ?_)
    ·have cN := eq_of_beq aT
     have hd := tdiv_odd (p := gI g.pr j) ⟨by omega, by omega, by omega⟩; have hd4 := gI4_b (i := (gI g.pr j).tdiv 2) hd.1 hd.2.1 ⟨hcg 1, hcb 1⟩ ⟨hcg 3, hcb 3⟩ ⟨hcg 5, hcb 5⟩ ⟨hcg 7, hcb 7⟩
     refine At.start ?_
     refine At.rd aL 6 [[], [.as_ (.int .i64 ((gI g.pr (j) : Int).tdiv 2))], [], [.ld (.int .i64 (gI [cnt (g.pr.take j.toNat) 1, cnt (g.pr.take j.toNat) 3, cnt (g.pr.take j.toNat) 5, cnt (g.pr.take j.toNat) 7] ((gI g.pr (j) : Int).tdiv 2)))], [.as_ (.int .i64 ((gI [cnt (g.pr.take j.toNat) 1, cnt (g.pr.take j.toNat) 3, cnt (g.pr.take j.toNat) 5, cnt (g.pr.take j.toNat) 7] ((gI g.pr (j) : Int).tdiv 2)) + 1))], []] [(28, .pointer (some ((⟨w1.heap.size, 0, none⟩ : Addr).add (((gI g.pr (j) : Int).tdiv 2 : Int).toNat * 1)))), (27, .int .i64 ((gI [cnt (g.pr.take j.toNat) 1, cnt (g.pr.take j.toNat) 3, cnt (g.pr.take j.toNat) 5, cnt (g.pr.take j.toNat) 7] ((gI g.pr (j) : Int).tdiv 2)) + 1)), (26, .int .i64 (gI [cnt (g.pr.take j.toNat) 1, cnt (g.pr.take j.toNat) 3, cnt (g.pr.take j.toNat) 5, cnt (g.pr.take j.toNat) 7] ((gI g.pr (j) : Int).tdiv 2))), (25, .pointer (some ((⟨w1.heap.size, 0, none⟩ : Addr).add (((gI g.pr (j) : Int).tdiv 2 : Int).toNat * 1)))), (24, .int .i64 ((gI g.pr (j) : Int).tdiv 2)), (23, .int .i64 (gI g.pr (j)))] [((2 : Int) ≠ 0), ((.int .i64 (IntKind.i64.wrap ((gI g.pr (j) : Int).tdiv 2)) : Value) = .int .i64 ((gI g.pr (j) : Int).tdiv 2)), (0 ≤ ((gI g.pr (j) : Int).tdiv 2 : Int)), (((gI g.pr (j) : Int).tdiv 2 : Int) < (4 : Nat)), (aE.cell? ((⟨w1.heap.size, 0, none⟩ : Addr).add (((gI g.pr (j) : Int).tdiv 2 : Int).toNat * 1)) = some (.int .i64 (gI [cnt (g.pr.take j.toNat) 1, cnt (g.pr.take j.toNat) 3, cnt (g.pr.take j.toNat) 5, cnt (g.pr.take j.toNat) 7] ((gI g.pr (j) : Int).tdiv 2)))), ((.int .i64 (IntKind.i64.wrap ((gI [cnt (g.pr.take j.toNat) 1, cnt (g.pr.take j.toNat) 3, cnt (g.pr.take j.toNat) 5, cnt (g.pr.take j.toNat) 7] ((gI g.pr (j) : Int).tdiv 2)) + 1)) : Value) = .int .i64 ((gI [cnt (g.pr.take j.toNat) 1, cnt (g.pr.take j.toNat) 3, cnt (g.pr.take j.toNat) 5, cnt (g.pr.take j.toNat) 7] ((gI g.pr (j) : Int).tdiv 2)) + 1)), (0 ≤ ((gI g.pr (j) : Int).tdiv 2 : Int)), (((gI g.pr (j) : Int).tdiv 2 : Int) < (4 : Nat))] (by kernel_rfl) ⟨(by omega), (w64 (by omega) (by omega)), (by omega), (by omega), (Bx.arr (pre := []) (l := [cnt (g.pr.take j.toNat) 1, cnt (g.pr.take j.toNat) 3, cnt (g.pr.take j.toNat) 5, cnt (g.pr.take j.toNat) 7]) (post := []) aA rfl ((gI g.pr (j) : Int).tdiv 2) (by omega) (by simp only [List.length_cons, List.length_nil]; omega)), (w64 (by omega) (by omega)), (by omega), (by omega), trivial⟩ (fun cO bH => ?_)
     clear aL
     refine At.act bH (storeArr (pre := []) (l := [cnt (g.pr.take j.toNat) 1, cnt (g.pr.take j.toNat) 3, cnt (g.pr.take j.toNat) 5, cnt (g.pr.take j.toNat) 7]) (post := []) (t := 3) (v := (gI [cnt (g.pr.take j.toNat) 1, cnt (g.pr.take j.toNat) 3, cnt (g.pr.take j.toNat) 5, cnt (g.pr.take j.toNat) 7] ((gI g.pr (j) : Int).tdiv 2)) + 1) (i := (gI g.pr (j) : Int).tdiv 2) (by kernel_rfl) (by kernel_rfl) aA rfl rfl (by omega) (by simp only [List.length_cons, List.length_nil]; omega)) ?_
     rintro d_ v_ bU ⟨rfl, aM, aU⟩
     refine ⟨_, rfl, fun cP bI => ?_⟩
     clear bH
     replace aU : Bx bU (w1.heap.size) [.int .i64 (if ((gI g.pr (j) : Int).tdiv 2) = 0 then (gI [cnt (g.pr.take j.toNat) 1, cnt (g.pr.take j.toNat) 3, cnt (g.pr.take j.toNat) 5, cnt (g.pr.take j.toNat) 7] ((gI g.pr (j) : Int).tdiv 2)) + 1 else cnt (g.pr.take j.toNat) 1), .int .i64 (if ((gI g.pr (j) : Int).tdiv 2) = 1 then (gI [cnt (g.pr.take j.toNat) 1, cnt (g.pr.take j.toNat) 3, cnt (g.pr.take j.toNat) 5, cnt (g.pr.take j.toNat) 7] ((gI g.pr (j) : Int).tdiv 2)) + 1 else cnt (g.pr.take j.toNat) 3), .int .i64 (if ((gI g.pr (j) : Int).tdiv 2) = 2 then (gI [cnt (g.pr.take j.toNat) 1, cnt (g.pr.take j.toNat) 3, cnt (g.pr.take j.toNat) 5, cnt (g.pr.take j.toNat) 7] ((gI g.pr (j) : Int).tdiv 2)) + 1 else cnt (g.pr.take j.toNat) 5), .int .i64 (if ((gI g.pr (j) : Int).tdiv 2) = 3 then (gI [cnt (g.pr.take j.toNat) 1, cnt (g.pr.take j.toNat) 3, cnt (g.pr.take j.toNat) 5, cnt (g.pr.take j.toNat) 7] ((gI g.pr (j) : Int).tdiv 2)) + 1 else cnt (g.pr.take j.toNat) 7)] 38 := aU.as (by rw [set4 ((gI g.pr (j) : Int).tdiv 2) (by omega) (by omega)]; rfl)
     have := aM.size; replace aB := aB.gr aM (fun k h => by injection h; omega); replace aC := aC.gb aM (by omega); replace aD := aD.gb aM (by omega); clear aA aM
     refine At.done rfl ?_
     refine b_n ?_
     refine t_n ?_
     have bJ := bI.sub (r := [(21, .bool (((gI g.pr (j) : Int).tmod 2 : Int) == 1)), (20, .int .i64 ((gI g.pr (j) : Int).tmod 2)), (19, .int .i64 (gI g.pr (j))), (16, .bool (decide ((gI g.pr (j) : Int) < 8))), (15, .int .i64 (gI g.pr (j))), (8, .int .i64 (j)), (7, .int .i64 (((g.pr.length : Nat) : Int))), (6, .slice Ag1 g.pr.length cg1), (2, .pointer (some ⟨w1.heap.size, 0, none⟩))]) ⟨rfl, rfl, rfl, rfl, rfl, rfl, rfl, rfl, rfl, trivial⟩
     clear bI
     refine At.start ?_
     refine At.rd bJ 2 [[.as_ (.int .i64 (j + 1))], []] [(8, .int .i64 (j + 1)), (29, .int .i64 (j + 1))] [((.int .i64 (IntKind.i64.wrap (j + 1)) : Value) = .int .i64 (j + 1))] (by kernel_rfl) ⟨(w64 (by omega) (by omega)), trivial⟩ (fun cQ bV => ?_)
     clear bJ
     refine At.done rfl ?_
     refine t_n ?_
     have bW := bV.sub (r := [(8, .int .i64 (j + 1)), (7, .int .i64 (((g.pr.length : Nat) : Int))), (6, .slice Ag1 g.pr.length cg1), (2, .pointer (some ⟨w1.heap.size, 0, none⟩))]) ⟨rfl, rfl, rfl, rfl, trivial⟩
     exact ⟨_, (by omega), (j + 1), rfl, bW, aB, aC, aD, aU.as (by first | exact cs4_no (by omega) (by omega) (by omega) | exact cs4_yes (by omega) (by omega) ⟨by omega, by omega, by omega⟩ rfl), (by omega), (by omega)⟩
    have cR := ne_of_beq_false aT
    refine wp_skip ?_
    refine b_n ?_
    refine t_n ?_
    have bK := aL.sub (r := [(21, .bool (((gI g.pr (j) : Int).tmod 2 : Int) == 1)), (20, .int .i64 ((gI g.pr (j) : Int).tmod 2)), (19, .int .i64 (gI g.pr (j))), (16, .bool (decide ((gI g.pr (j) : Int) < 8))), (15, .int .i64 (gI g.pr (j))), (8, .int .i64 (j)), (7, .int .i64 (((g.pr.length : Nat) : Int))), (6, .slice Ag1 g.pr.length cg1), (2, .pointer (some ⟨w1.heap.size, 0, none⟩))]) ⟨rfl, rfl, rfl, rfl, rfl, rfl, rfl, rfl, rfl, trivial⟩
    clear aL
    refine At.start ?_
    refine At.rd bK 2 [[.as_ (.int .i64 (j + 1))], []] [(8, .int .i64 (j + 1)), (29, .int .i64 (j + 1))] [((.int .i64 (IntKind.i64.wrap (j + 1)) : Value) = .int .i64 (j + 1))] (by kernel_rfl) ⟨(w64 (by omega) (by omega)), trivial⟩ (fun cS bX => ?_)
    clear bK
    refine At.done rfl ?_
    refine t_n ?_
    have bY := bX.sub (r := [(8, .int .i64 (j + 1)), (7, .int .i64 (((g.pr.length : Nat) : Int))), (6, .slice Ag1 g.pr.length cg1), (2, .pointer (some ⟨w1.heap.size, 0, none⟩))]) ⟨rfl, rfl, rfl, rfl, trivial⟩
    exact ⟨_, (by omega), (j + 1), rfl, bY, aB, aC, aD, aA.as (by first | exact cs4_no (by omega) (by omega) (by omega) | exact cs4_yes (by omega) (by omega) ⟨by omega, by omega, by omega⟩ rfl), (by omega), (by omega)⟩
   have cT := of_decide_eq_false aK
   refine At.rd aF 11 [[], [], [.as_ (.bool true)], [], [], [], [.as_ (.bool false)], [], [], [], []] [(22, .bool false), (21, undef), (20, undef), (19, undef), (18, .bool false), (17, .bool (decide ((gI g.pr (j) : Int) < 8))), (16, .bool (decide ((gI g.pr (j) : Int) < 8))), (15, .int .i64 (gI g.pr (j))), (14, .bool true), (13, .bool (decide ((gI g.pr (j) : Int) > 0))), (12, .int .i64 (gI g.pr (j)))] [((.bool (decide ((gI g.pr (j) : Int) > 0)) : Value) = .bool true), ((.bool (decide ((gI g.pr (j) : Int) < 8)) : Value) = .bool false)] (by kernel_rfl) ⟨(congrArg Value.bool aG), (congrArg Value.bool aK), trivial⟩ (fun cU bL => ?_)
   clear aF
   refine At.done rfl ?_
   refine t_n ?_
   have aV := bL.sub (r := [(22, .bool false), (16, .bool (decide ((gI g.pr (j) : Int) < 8))), (15, .int .i64 (gI g.pr (j))), (4, .int .i64 (gI g.pr (j))), (8, .int .i64 (j)), (7, .int .i64 (((g.pr.length : Nat) : Int))), (6, .slice Ag1 g.pr.length cg1), (2, .pointer (some ⟨w1.heap.size, 0, none⟩))]) ⟨rfl, rfl, rfl, rfl, rfl, rfl, rfl, rfl, trivial⟩
   clear bL
   refine cond_F aV rfl ?_
   refine wp_skip ?_
   refine b_n ?_
   refine t_n ?_
   have bM := aV.sub (r := [(16, .bool (decide ((gI g.pr (j) : Int) < 8))), (15, .int .i64 (gI g.pr (j))), (8, .int .i64 (j)), (7, .int .i64 (((g.pr.length : Nat) : Int))), (6, .slice Ag1 g.pr.length cg1), (2, .pointer (some ⟨w1.heap.size, 0, none⟩))]) ⟨rfl, rfl, rfl, rfl, rfl, rfl, trivial⟩
   clear aV
   refine At.start ?_
   refine At.rd bM 2 [[.as_ (.int .i64 (j + 1))], []] [(8, .int .i64 (j + 1)), (29, .int .i64 (j + 1))] [((.int .i64 (IntKind.i64.wrap (j + 1)) : Value) = .int .i64 (j + 1))] (by kernel_rfl) ⟨(w64 (by omega) (by omega)), trivial⟩ (fun cV bZ => ?_)
   clear bM
   refine At.done rfl ?_
   refine t_n ?_
   have cA := bZ.sub (r := [(8, .int .i64 (j + 1)), (7, .int .i64 (((g.pr.length : Nat) : Int))), (6, .slice Ag1 g.pr.length cg1), (2, .pointer (some ⟨w1.heap.size, 0, none⟩))]) ⟨rfl, rfl, rfl, rfl, trivial⟩
   exact ⟨_, (by omega), (j + 1), rfl, cA, aB, aC, aD, aA.as (by first | exact cs4_no (by omega) (by omega) (by omega) | exact cs4_yes (by omega) (by omega) ⟨by omega, by omega, by omega⟩ rfl), (by omega), (by omega)⟩
  have cW := of_decide_eq_false aG
  refine At.rd aF 11 [[], [], [.as_ (.bool false)], [], [], [], [], [], [], [], []] [(22, .bool false), (21, undef), (20, undef), (19, undef), (18, .bool false), (17, .bool false), (16, undef), (15, undef), (14, .bool false), (13, .bool (decide ((gI g.pr (j) : Int) > 0))), (12, .int .i64 (gI g.pr (j)))] [((.bool (decide ((gI g.pr (j) : Int) > 0)) : Value) = .bool false)] (by kernel_rfl) ⟨(congrArg Value.bool aG), trivial⟩ (fun cX bN => ?_)
  clear aF
  refine At.done rfl ?_
  refine t_n ?_
  have aW := bN.sub (r := [(22, .bool false), (4, .int .i64 (gI g.pr (j))), (8, .int .i64 (j)), (7, .int .i64 (((g.pr.length : Nat) : Int))), (6, .slice Ag1 g.pr.length cg1), (2, .pointer (some ⟨w1.heap.size, 0, none⟩))]) ⟨rfl, rfl, rfl, rfl, rfl, rfl, trivial⟩
  clear bN
  refine cond_F aW rfl ?_
  refine wp_skip ?_
  refine b_n ?_
  refine t_n ?_
  have bO := aW.sub (r := [(8, .int .i64 (j)), (7, .int .i64 (((g.pr.length : Nat) : Int))), (6, .slice Ag1 g.pr.length cg1), (2, .pointer (some ⟨w1.heap.size, 0, none⟩))]) ⟨rfl, rfl, rfl, rfl, trivial⟩
  clear aW
  refine At.start ?_
  refine At.rd bO 2 [[.as_ (.int .i64 (j + 1))], []] [(8, .int .i64 (j + 1)), (29, .int .i64 (j + 1))] [((.int .i64 (IntKind.i64.wrap (j + 1)) : Value) = .int .i64 (j + 1))] (by kernel_rfl) ⟨(w64 (by omega) (by omega)), trivial⟩ (fun cY cB => ?_)
  clear bO
  refine At.done rfl ?_
  refine t_n ?_
  have cC := cB.sub (r := [(8, .int .i64 (j + 1)), (7, .int .i64 (((g.pr.length : Nat) : Int))), (6, .slice Ag1 g.pr.length cg1), (2, .pointer (some ⟨w1.heap.size, 0, none⟩))]) ⟨rfl, rfl, rfl, rfl, trivial⟩
  exact ⟨_, (by omega), (j + 1), rfl, cC, aB, aC, aD, aA.as (by first | exact cs4_no (by omega) (by omega) (by omega) | exact cs4_yes (by omega) (by omega) ⟨by omega, by omega, by omega⟩ rfl), (by omega), (by omega)⟩
 have cZ := of_decide_eq_false aS
 refine wp_exit ?_
 refine t_e ?_
 clear hm28
 refine t_e ?_
 refine b_e ?_
 refine t_n ?_
 have bP := aJ.sub (r := [(2, .pointer (some ⟨w1.heap.size, 0, none⟩))]) ⟨rfl, trivial⟩; clear aJ
 refine wp_seq ?_
 refine At.start ?_
 refine At.rd bP 1 [[.ld (.int .i64 (cnt (g.pr.take j.toNat) 1)), .ld (.int .i64 (cnt (g.pr.take j.toNat) 3)), .ld (.int .i64 (cnt (g.pr.take j.toNat) 5)), .ld (.int .i64 (cnt (g.pr.take j.toNat) 7))]] [(30, .agg #[.int .i64 (cnt (g.pr.take j.toNat) 1), .int .i64 (cnt (g.pr.take j.toNat) 3), .int .i64 (cnt (g.pr.take j.toNat) 5), .int .i64 (cnt (g.pr.take j.toNat) 7)])] [(aE.cell? ⟨w1.heap.size, 0, none⟩ = some (.int .i64 (cnt (g.pr.take j.toNat) 1))), (aE.cell? ⟨w1.heap.size, 1, none⟩ = some (.int .i64 (cnt (g.pr.take j.toNat) 3))), (aE.cell? ⟨w1.heap.size, 2, none⟩ = some (.int .i64 (cnt (g.pr.take j.toNat) 5))), (aE.cell? ⟨w1.heap.size, 3, none⟩ = some (.int .i64 (cnt (g.pr.take j.toNat) 7)))] (by kernel_rfl) ⟨(aA.cell (i := 0) rfl), (aA.cell (i := 1) rfl), (aA.cell (i := 2) rfl), (aA.cell (i := 3) rfl), trivial⟩ (fun dA bQ => ?_)
 clear bP
 refine At.store bQ (t := 38) (b := w1.heap.size) (off := 0) (v := .agg #[.int .i64 (cnt (g.pr.take j.toNat) 1), .int .i64 (cnt (g.pr.take j.toNat) 3), .int .i64 (cnt (g.pr.take j.toNat) 5), .int .i64 (cnt (g.pr.take j.toNat) 7)]) (by kernel_rfl) aA (by kernel_rfl) (fun dB aN aO aH bR => ?_)
 clear bQ
 replace aH : Bx aN (w1.heap.size) [.int .i64 (cnt (g.pr.take j.toNat) 1), .int .i64 (cnt (g.pr.take j.toNat) 3), .int .i64 (cnt (g.pr.take j.toNat) 5), .int .i64 (cnt (g.pr.take j.toNat) 7)] 38 := aH
 have := aO.size; replace aB := aB.gr aO (fun k h => by injection h; omega); replace aC := aC.gb aO (by omega); replace aD := aD.gb aO (by omega); clear aA aO
 refine At.done rfl ?_
 refine t_n ?_
 have cD := bR.sub (r := [(2, .pointer (some ⟨w1.heap.size, 0, none⟩))]) ⟨rfl, trivial⟩; clear bR
 refine wp_ret ?_
 refine ret_ cD [[.int .i64 (cnt (g.pr.take j.toNat) 1), .int .i64 (cnt (g.pr.take j.toNat) 3), .int .i64 (cnt (g.pr.take j.toNat) 5), .int .i64 (cnt (g.pr.take j.toNat) 7)]] [.agg #[.int .i64 (cnt (g.pr.take j.toNat) 1), .int .i64 (cnt (g.pr.take j.toNat) 3), .int .i64 (cnt (g.pr.take j.toNat) 5), .int .i64 (cnt (g.pr.take j.toNat) 7)]] [(aN.cell? ⟨w1.heap.size, 0, none⟩ = some (.int .i64 (cnt (g.pr.take j.toNat) 1))), (aN.cell? ⟨w1.heap.size, 1, none⟩ = some (.int .i64 (cnt (g.pr.take j.toNat) 3))), (aN.cell? ⟨w1.heap.size, 2, none⟩ = some (.int .i64 (cnt (g.pr.take j.toNat) 5))), (aN.cell? ⟨w1.heap.size, 3, none⟩ = some (.int .i64 (cnt (g.pr.take j.toNat) 7)))] (by kernel_rfl) ⟨(aH.cell (i := 0) rfl), (aH.cell (i := 1) rfl), (aH.cell (i := 2) rfl), (aH.cell (i := 3) rfl), trivial⟩ ?_
 exact ⟨by simp only [cnt_all (l := g.pr) (j := j) _ (by omega)]; rfl, aB⟩

set_option maxHeartbeats 4000000 in
theorem many_any {Ag0 Ag1 Ag2 : Option Addr} {cg0 cg1 cg2 : Nat} {g : GameL} {p : Int} {w : World} (rg : RdG w 0 w.heap.size Ag0 Ag1 Ag2 cg0 cg1 cg2 g) :
    Calls Try.prog 56 #[.agg #[.slice Ag0 g.ow.length cg0, .slice Ag1 g.pr.length cg1, .slice Ag2 g.mv.length cg2], .int .i64 (p)] w fun e w' => e = .returned (.int .i64 (cnt g.pr p)) ∧ Ext w w' := by
 have hlg0 := rg.ow.len; have hlg1 := rg.pr.len; have hlg2 := rg.mv.len; have hkg0 := rg.k0; have hkg1 := rg.k1; have hkg2 := rg.k2
 refine enter_ (args := [.agg #[.slice Ag0 g.ow.length cg0, .slice Ag1 g.pr.length cg1, .slice Ag2 g.mv.length cg2], .int .i64 (p)]) Try.func56 rfl Try.ntmps56 (Nat.le_of_ble_eq_true rfl) (fun act0 f0 => ?_)
 have e0 : Ext w w := Ext.refl w
 refine wp_seq ?_
 refine At.start ?_
 refine At.seq f0 1 [[]] [(2, .pointer (some ⟨w.heap.size, 0, none⟩))] (w.alloc (.cells #[.slice Ag0 g.ow.length cg0, .slice Ag1 g.pr.length cg1, .slice Ag2 g.mv.length cg2] 25 (0, 0))) [] (by kernel_rfl) trivial (fun act4 w1 hw2 f3 => ?_)
 clear f0; have g5 := gr_alloc hw2; have := g5.size; replace e0 := e0.gn g5; have r8 := rg.gn g5; clear rg; have bx9 : Bx w1 (w.heap.size) [.slice Ag0 g.ow.length cg0, .slice Ag1 g.pr.length cg1, .slice Ag2 g.mv.length cg2] 25 := Bx.new hw2; have := bx9.lt; clear g5 hw2
 refine At.rd f3 1 [[]] [(4, .int .i64 (0))] [] (by kernel_rfl) trivial (fun bH aJ => ?_)
 clear f3
 refine At.done rfl ?_
 refine t_n ?_
 have aK := aJ.sub (r := [(4, .int .i64 (0)), (2, .pointer (some ⟨w.heap.size, 0, none⟩)), (1, .int .i64 (p))]) ⟨rfl, rfl, rfl, trivial⟩; clear aJ
 refine wp_seq ?_
 refine At.start ?_
 refine At.rd aK 1 [[]] [(5, .int .i64 (0))] [] (by kernel_rfl) trivial (fun bI aL => ?_)
 clear aK
 refine At.done rfl ?_
 refine t_n ?_
 refine wp_seq ?_
 refine wp_seq ?_
 refine At.start ?_
 refine At.rd aL 1 [[]] [(6, .int .i64 (0))] [] (by kernel_rfl) trivial (fun bJ aM => ?_)
 clear aL
 refine At.done rfl ?_
 refine t_n ?_
 refine wp_block ?_
 have aN := aM.as 5 (.int .i64 (0)) (.int .i64 (cnt (g.pr.take (0 : Int).toNat) p)) rfl (congrArg (Value.int .i64) ((cnt_zero _ _).symm)); clear aM
 have aO := aN.sub (r := [(6, .int .i64 (0)), (5, .int .i64 (cnt (g.pr.take (0 : Int).toNat) p)), (4, .int .i64 (0)), (2, .pointer (some ⟨w.heap.size, 0, none⟩)), (1, .int .i64 (p))]) ⟨rfl, rfl, rfl, rfl, rfl, trivial⟩
 refine loop_g (fun (m_ : Nat) a_ w_ => ∃ (j : Int), m_ = ((g.pr.length : Int) - j).toNat ∧ (Frm 24 a_ [(6, .int .i64 (j)), (5, .int .i64 (cnt (g.pr.take j.toNat) p)), (4, .int .i64 (0)), (2, .pointer (some ⟨w.heap.size, 0, none⟩)), (1, .int .i64 (p))]) ∧ (Ext w w_) ∧ (RdG w_ 0 w.heap.size Ag0 Ag1 Ag2 cg0 cg1 cg2 g) ∧ (Bx w_ (w.heap.size) [.slice Ag0 g.ow.length cg0, .slice Ag1 g.pr.length cg1, .slice Ag2 g.mv.length cg2] 25) ∧ (0 ≤ j) ∧ (j ≤ (g.pr.length : Int))) _ ⟨0, rfl, aO, e0, r8, bx9, (by omega), (by omega)⟩ ?_
 clear aO aN; clear r8; clear bx9; clear e0
 intro m_ bK aF ⟨j, hm22, aP, aD, aG, aA, i26, i27⟩
 have := aD.size; have := aA.lt; have hcb : cnt (g.pr.take j.toNat) p ≤ g.pr.length := cs4_b; have hcg : 0 ≤ cnt (g.pr.take j.toNat) p := cnt_ge _ _
 refine wp_seq ?_
 refine wp_seq ?_
 refine At.start ?_
 refine At.rd aP 5 [[], [], [.ld (.slice Ag1 g.pr.length cg1)], [], []] [(11, .bool (decide ((j : Int) < ((g.pr.length : Nat) : Int)))), (10, .int .i64 (((g.pr.length : Nat) : Int))), (9, .slice Ag1 g.pr.length cg1), (8, .pointer (some ⟨w.heap.size, 1, none⟩)), (7, .int .i64 (j))] [(aF.cell? ⟨w.heap.size, 1, none⟩ = some (.slice Ag1 g.pr.length cg1))] (by kernel_rfl) ⟨(aA.cell (i := 1) rfl), trivial⟩ (fun bL aQ => ?_)
 clear aP
 refine At.done rfl ?_
 refine t_n ?_
 have aB := aQ.sub (r := [(11, .bool (decide ((j : Int) < ((g.pr.length : Nat) : Int)))), (6, .int .i64 (j)), (5, .int .i64 (cnt (g.pr.take j.toNat) p)), (4, .int .i64 (0)), (2, .pointer (some ⟨w.heap.size, 0, none⟩)), (1, .int .i64 (p))]) ⟨rfl, rfl, rfl, rfl, rfl, rfl, trivial⟩
 clear aQ
 refine cond_S aB (t := decide ((j : Int) < ((g.pr.length : Nat) : Int))) rfl (fun aH => ?_) (fun aH => ?_)
 ·have bM := of_decide_eq_true aH
  refine wp_skip ?_
  refine t_n ?_
  have aR := aB.sub (r := [(6, .int .i64 (j)), (5, .int .i64 (cnt (g.pr.take j.toNat) p)), (4, .int .i64 (0)), (2, .pointer (some ⟨w.heap.size, 0, none⟩)), (1, .int .i64 (p))]) ⟨rfl, rfl, rfl, rfl, rfl, trivial⟩
  clear aB
  refine wp_seq ?_
  refine wp_block ?_
  refine wp_seq ?_
  refine At.start ?_
  obtain ⟨aE, bA, _, _, bB⟩ := RdI.get aG.pr (j) (by omega) (by omega)
  refine At.rd aR 7 [[], [.ld (.slice Ag1 g.pr.length cg1)], [], [.ad aE], [.ld (.int .i64 (gI g.pr (j)))], [], []] [(20, .bool ((gI g.pr (j) : Int) == p)), (19, .int .i64 (p)), (18, .int .i64 (gI g.pr (j))), (17, .pointer (some (aE.add ((j : Int).toNat * 1)))), (16, .int .i64 (j)), (15, .slice Ag1 g.pr.length cg1), (14, .pointer (some ⟨w.heap.size, 1, none⟩))] [(aF.cell? ⟨w.heap.size, 1, none⟩ = some (.slice Ag1 g.pr.length cg1)), (Ag1 = some aE), (0 ≤ (j : Int)), ((j : Int) < (g.pr.length : Nat)), (aF.cell? (aE.add ((j : Int).toNat * 1)) = some (.int .i64 (gI g.pr (j))))] (by kernel_rfl) ⟨(aA.cell (i := 1) rfl), bA, (by omega), (by omega), bB, trivial⟩ (fun bN aS => ?_)
  clear aR
  refine At.done rfl ?_
  refine t_n ?_
  have aC := aS.sub (r := [(20, .bool ((gI g.pr (j) : Int) == p)), (6, .int .i64 (j)), (5, .int .i64 (cnt (g.pr.take j.toNat) p)), (4, .int .i64 (0)), (2, .pointer (some ⟨w.heap.size, 0, none⟩)), (1, .int .i64 (p))]) ⟨rfl, rfl, rfl, rfl, rfl, rfl, trivial⟩
  clear aS
  refine cond_S aC (t := (gI g.pr (j) : Int) == p) rfl (fun aI => ?_) (fun aI => ?_)
  ·have bO := eq_of_beq aI
   refine At.start ?_
   refine At.rd aC 3 [[], [.as_ (.int .i64 ((cnt (g.pr.take j.toNat) p) + 1))], []] [(5, .int .i64 ((cnt (g.pr.take j.toNat) p) + 1)), (22, .int .i64 ((cnt (g.pr.take j.toNat) p) + 1)), (21, .int .i64 (cnt (g.pr.take j.toNat) p))] [((.int .i64 (IntKind.i64.wrap ((cnt (g.pr.take j.toNat) p) + 1)) : Value) = .int .i64 ((cnt (g.pr.take j.toNat) p) + 1))] (by kernel_rfl) ⟨(w64 (by omega) (by omega)), trivial⟩ (fun bP aT => ?_)
   clear aC
   refine At.done rfl ?_
   refine b_n ?_
   refine t_n ?_
   have aU := aT.sub (r := [(5, .int .i64 ((cnt (g.pr.take j.toNat) p) + 1)), (6, .int .i64 (j)), (4, .int .i64 (0)), (2, .pointer (some ⟨w.heap.size, 0, none⟩)), (1, .int .i64 (p))]) ⟨rfl, rfl, rfl, rfl, rfl, trivial⟩
   clear aT
   refine At.start ?_
   refine At.rd aU 3 [[], [.as_ (.int .i64 (j + 1))], []] [(6, .int .i64 (j + 1)), (13, .int .i64 (j + 1)), (12, .int .i64 (j))] [((.int .i64 (IntKind.i64.wrap (j + 1)) : Value) = .int .i64 (j + 1))] (by kernel_rfl) ⟨(w64 (by omega) (by omega)), trivial⟩ (fun bQ aV => ?_)
   clear aU
   refine At.done rfl ?_
   refine t_n ?_
   have bC := aV.as 5 (.int .i64 ((cnt (g.pr.take j.toNat) p) + 1)) (.int .i64 (cnt (g.pr.take ((j + 1) : Int).toNat) p)) rfl (congrArg (Value.int .i64) (by rw [cnt_next p (by omega) (by omega)]; first | rw [if_pos (by omega)] | rw [if_neg (by omega)]))
   clear aV
   have bD := bC.sub (r := [(6, .int .i64 (j + 1)), (5, .int .i64 (cnt (g.pr.take ((j + 1) : Int).toNat) p)), (4, .int .i64 (0)), (2, .pointer (some ⟨w.heap.size, 0, none⟩)), (1, .int .i64 (p))]) ⟨rfl, rfl, rfl, rfl, rfl, trivial⟩
   exact ⟨_, (by omega), (j + 1), rfl, bD, aD, aG, aA, (by omega), (by omega)⟩
  have bR := ne_of_beq_false aI
  refine wp_skip ?_
  refine b_n ?_
  refine t_n ?_
  have aW := aC.sub (r := [(6, .int .i64 (j)), (5, .int .i64 (cnt (g.pr.take j.toNat) p)), (4, .int .i64 (0)), (2, .pointer (some ⟨w.heap.size, 0, none⟩)), (1, .int .i64 (p))]) ⟨rfl, rfl, rfl, rfl, rfl, trivial⟩
  clear aC
  refine At.start ?_
  refine At.rd aW 3 [[], [.as_ (.int .i64 (j + 1))], []] [(6, .int .i64 (j + 1)), (13, .int .i64 (j + 1)), (12, .int .i64 (j))] [((.int .i64 (IntKind.i64.wrap (j + 1)) : Value) = .int .i64 (j + 1))] (by kernel_rfl) ⟨(w64 (by omega) (by omega)), trivial⟩ (fun bS aX => ?_)
  clear aW
  refine At.done rfl ?_
  refine t_n ?_
  have bE := aX.as 5 (.int .i64 (cnt (g.pr.take j.toNat) p)) (.int .i64 (cnt (g.pr.take ((j + 1) : Int).toNat) p)) rfl (congrArg (Value.int .i64) (by rw [cnt_next p (by omega) (by omega)]; first | rw [if_pos (by omega)] | rw [if_neg (by omega)]))
  clear aX
  have bF := bE.sub (r := [(6, .int .i64 (j + 1)), (5, .int .i64 (cnt (g.pr.take ((j + 1) : Int).toNat) p)), (4, .int .i64 (0)), (2, .pointer (some ⟨w.heap.size, 0, none⟩)), (1, .int .i64 (p))]) ⟨rfl, rfl, rfl, rfl, rfl, trivial⟩
  exact ⟨_, (by omega), (j + 1), rfl, bF, aD, aG, aA, (by omega), (by omega)⟩
 have bT := of_decide_eq_false aH
 refine wp_exit ?_
 refine t_e ?_
 clear hm22
 refine t_e ?_
 refine b_e ?_
 refine t_n ?_
 have aY := aB.sub (r := [(5, .int .i64 (cnt (g.pr.take j.toNat) p))]) ⟨rfl, trivial⟩; clear aB
 refine wp_seq ?_
 refine At.start ?_
 refine At.rd aY 2 [[], []] [(4, .int .i64 (cnt (g.pr.take j.toNat) p)), (23, .int .i64 (cnt (g.pr.take j.toNat) p))] [] (by kernel_rfl) trivial (fun bU aZ => ?_)
 clear aY
 refine At.done rfl ?_
 refine t_n ?_
 have bG := aZ.sub (r := [(4, .int .i64 (cnt (g.pr.take j.toNat) p))]) ⟨rfl, trivial⟩; clear aZ
 refine wp_ret ?_
 refine ret_ bG [] [.int .i64 (cnt (g.pr.take j.toNat) p)] [] (by kernel_rfl) trivial ?_
 exact ⟨ret_eq (congrArg (Value.int .i64) (cnt_all (l := g.pr) (j := j) _ (by omega))), aD⟩

end Go.Proofs.Ytklbpajmoklheaa
