/-
  A walk of a Go function, printed by a program of this repo. Conditions: what the theorems name.
-/
import Derived.Test.YtklbpajmoklheaaPureHeavy
import Derived.Test.YtklbpajmoklheaaFy
set_option linter.unusedVariables false
set_option linter.unusedSimpArgs false
namespace Go.Proofs.Ytklbpajmoklheaa
open Go Go.RowKit

set_option maxHeartbeats 4000000 in
theorem heavy_any {Ag0 Ag1 Ag2 : Option Addr} {cg0 cg1 cg2 : Nat} {g : GameL} {w : World} (rg : RdG w 0 w.heap.size Ag0 Ag1 Ag2 cg0 cg1 cg2 g) :
    Calls Try.prog 25 #[.agg #[.slice Ag0 g.ow.length cg0, .slice Ag1 g.pr.length cg1, .slice Ag2 g.mv.length cg2]] w fun e w' => ∃ b : Bool, e = .returned (.bool b) ∧ Ext w w' := by
 have hlg0 := rg.ow.len; have hlg1 := rg.pr.len; have hlg2 := rg.mv.len; have hkg0 := rg.k0; have hkg1 := rg.k1; have hkg2 := rg.k2
 refine enter_ (args := [.agg #[.slice Ag0 g.ow.length cg0, .slice Ag1 g.pr.length cg1, .slice Ag2 g.mv.length cg2]]) Try.func25 rfl Try.ntmps25 (Nat.le_of_ble_eq_true rfl) (fun act0 f0 => ?_)
 have e0 : Ext w w := Ext.refl w
 refine wp_seq ?_
 refine At.start ?_
 refine At.seq f0 1 [[]] [(1, .pointer (some ⟨w.heap.size, 0, none⟩))] (w.alloc (.cells #[.slice Ag0 g.ow.length cg0, .slice Ag1 g.pr.length cg1, .slice Ag2 g.mv.length cg2] 25 (0, 0))) [] (by kernel_rfl) trivial (fun act4 w1 hw2 f3 => ?_)
 clear f0; have g5 := gr_alloc hw2; have := g5.size; replace e0 := e0.gn g5; have r8 := rg.gn g5; clear rg; have bx9 : Bx w1 (w.heap.size) [.slice Ag0 g.ow.length cg0, .slice Ag1 g.pr.length cg1, .slice Ag2 g.mv.length cg2] 25 := Bx.new hw2; have := bx9.lt; clear g5 hw2
 refine At.rd f3 1 [[]] [(2, .bool false)] [] (by kernel_rfl) trivial (fun cA aQ => ?_)
 clear f3
 refine At.done rfl ?_
 refine t_n ?_
 have aR := aQ.sub (r := [(2, .bool false), (1, .pointer (some ⟨w.heap.size, 0, none⟩))]) ⟨rfl, rfl, trivial⟩; clear aQ
 refine wp_seq ?_
 refine At.start ?_
 refine At.rd aR 1 [[]] [(3, .int .i64 (1))] [] (by kernel_rfl) trivial (fun cB aS => ?_)
 clear aR
 refine At.done rfl ?_
 refine t_n ?_
 refine wp_seq ?_
 refine wp_seq ?_
 refine At.start ?_
 refine At.rd aS 1 [[]] [(4, .int .i64 (1))] [] (by kernel_rfl) trivial (fun cC aT => ?_)
 clear aS
 refine At.done rfl ?_
 refine t_n ?_
 refine wp_block ?_
 have aU := aT.sub (r := [(4, .int .i64 (1)), (3, .int .i64 (1)), (2, .bool false), (1, .pointer (some ⟨w.heap.size, 0, none⟩))]) ⟨rfl, rfl, rfl, rfl, trivial⟩
 refine loop_g (fun (m_ : Nat) a_ w_ => ∃ (q : Int) (n : Int), m_ = (9 - q).toNat ∧ (Frm 36 a_ [(4, .int .i64 (q)), (3, .int .i64 (n)), (2, .bool false), (1, .pointer (some ⟨w.heap.size, 0, none⟩))]) ∧ (Ext w w_) ∧ (RdG w_ 0 w.heap.size Ag0 Ag1 Ag2 cg0 cg1 cg2 g) ∧ (Bx w_ (w.heap.size) [.slice Ag0 g.ow.length cg0, .slice Ag1 g.pr.length cg1, .slice Ag2 g.mv.length cg2] 25) ∧ (1 ≤ q) ∧ (q ≤ 9) ∧ (0 ≤ n) ∧ (n ≤ 52776558133251000)) _ ⟨1, 1, rfl, aU, e0, r8, bx9, (by omega), (by omega), (by omega), (by omega)⟩ ?_
 clear aU aT; clear r8; clear bx9; clear e0
 intro m_ cD cE ⟨q, n, hm21, aG, aB, aV, aK, i25, i26, i27, i28⟩
 have := aB.size; have := aK.lt
 refine wp_seq ?_
 refine wp_seq ?_
 refine At.start ?_
 rcases Bool.eq_false_or_eq_true (decide ((q : Int) ≤ 7)) with aC | aC
 ·have cF := of_decide_eq_true aC
  refine At.rd aG 6 [[], [], [.as_ (.bool true)], [], [], []] [(12, .bool (decide ((n : Int) ≤ 3000))), (11, .bool (decide ((n : Int) ≤ 3000))), (10, .int .i64 (n)), (9, .bool true), (8, .bool (decide ((q : Int) ≤ 7))), (7, .int .i64 (q))] [((.bool (decide ((q : Int) ≤ 7)) : Value) = .bool true)] (by kernel_rfl) ⟨(congrArg Value.bool aC), trivial⟩ (fun cG aW => ?_)
  clear aG
  refine At.done rfl ?_
  refine t_n ?_
  have aD := aW.sub (r := [(12, .bool (decide ((n : Int) ≤ 3000))), (11, .bool (decide ((n : Int) ≤ 3000))), (10, .int .i64 (n)), (4, .int .i64 (q)), (3, .int .i64 (n)), (2, .bool false), (1, .pointer (some ⟨w.heap.size, 0, none⟩))]) ⟨rfl, rfl, rfl, rfl, rfl, rfl, rfl, trivial⟩
  clear aW
  refine cond_S aD (t := decide ((n : Int) ≤ 3000)) rfl (fun aL => ?_) (fun aL => ?_)
  ·have cH := of_decide_eq_true aL
   refine wp_skip ?_
   refine t_n ?_
   have aX := aD.sub (r := [(11, .bool (decide ((n : Int) ≤ 3000))), (10, .int .i64 (n)), (4, .int .i64 (q)), (3, .int .i64 (n)), (2, .bool false), (1, .pointer (some ⟨w.heap.size, 0, none⟩))]) ⟨rfl, rfl, rfl, rfl, rfl, rfl, trivial⟩
   clear aD
   refine wp_seq ?_
   refine wp_block ?_
   refine wp_seq ?_
   refine At.start ?_
   refine At.rd aX 1 [[]] [(5, .int .i64 (1))] [] (by kernel_rfl) trivial (fun cI aY => ?_)
   clear aX
   refine At.done rfl ?_
   refine t_n ?_
   refine wp_seq ?_
   refine wp_seq ?_
   refine At.start ?_
   refine At.rd aY 1 [[]] [(6, .int .i64 (0))] [] (by kernel_rfl) trivial (fun cJ aZ => ?_)
   clear aY
   refine At.done rfl ?_
   refine t_n ?_
   refine wp_block ?_
   have bA := aZ.sub (r := [(6, .int .i64 (0)), (5, .int .i64 (1)), (11, .bool (decide ((n : Int) ≤ 3000))), (10, .int .i64 (n)), (4, .int .i64 (q)), (3, .int .i64 (n)), (2, .bool false), (1, .pointer (some ⟨w.heap.size, 0, none⟩))]) ⟨rfl, rfl, rfl, rfl, rfl, rfl, rfl, rfl, trivial⟩
   refine loop_g (fun (m_ : Nat) a_ w_ => ∃ (i : Int) (k : Int), m_ = ((g.pr.length : Int) - i).toNat ∧ (Frm 36 a_ [(6, .int .i64 (i)), (5, .int .i64 (k)), (11, .bool (decide ((n : Int) ≤ 3000))), (10, .int .i64 (n)), (4, .int .i64 (q)), (3, .int .i64 (n)), (2, .bool false), (1, .pointer (some ⟨w.heap.size, 0, none⟩))]) ∧ (Ext w w_) ∧ (RdG w_ 0 w.heap.size Ag0 Ag1 Ag2 cg0 cg1 cg2 g) ∧ (Bx w_ (w.heap.size) [.slice Ag0 g.ow.length cg0, .slice Ag1 g.pr.length cg1, .slice Ag2 g.mv.length cg2] 25) ∧ (0 ≤ i) ∧ (i ≤ (g.pr.length : Int)) ∧ (0 ≤ k) ∧ (k ≤ i + 1)) _ ⟨0, 1, rfl, bA, aB, aV, aK, (by omega), (by omega), (by omega), (by omega)⟩ ?_
   clear bA aZ; clear aV; clear aK; clear aB
   intro m_ cK aM ⟨i, k, hm45, bB, aH, aI, aA, i49, i50, i51, i52⟩
   have := aH.size; have := aA.lt
   refine wp_seq ?_
   refine wp_seq ?_
   refine At.start ?_
   refine At.rd bB 5 [[], [], [.ld (.slice Ag1 g.pr.length cg1)], [], []] [(19, .bool (decide ((i : Int) < ((g.pr.length : Nat) : Int)))), (18, .int .i64 (((g.pr.length : Nat) : Int))), (17, .slice Ag1 g.pr.length cg1), (16, .pointer (some ⟨w.heap.size, 1, none⟩)), (15, .int .i64 (i))] [(aM.cell? ⟨w.heap.size, 1, none⟩ = some (.slice Ag1 g.pr.length cg1))] (by kernel_rfl) ⟨(aA.cell (i := 1) rfl), trivial⟩ (fun cL bC => ?_)
   clear bB
   refine At.done rfl ?_
   refine t_n ?_
   have aE := bC.sub (r := [(19, .bool (decide ((i : Int) < ((g.pr.length : Nat) : Int)))), (6, .int .i64 (i)), (5, .int .i64 (k)), (11, .bool (decide ((n : Int) ≤ 3000))), (10, .int .i64 (n)), (4, .int .i64 (q)), (3, .int .i64 (n)), (2, .bool false), (1, .pointer (some ⟨w.heap.size, 0, none⟩))]) ⟨rfl, rfl, rfl, rfl, rfl, rfl, rfl, rfl, rfl, trivial⟩
   clear bC
   refine cond_S aE (t := decide ((i : Int) < ((g.pr.length : Nat) : Int))) rfl (fun aN => ?_) (fun aN => ?_)
   ·have cM := of_decide_eq_true aN
    refine wp_skip ?_
    refine t_n ?_
    have bD := aE.sub (r := [(6, .int .i64 (i)), (5, .int .i64 (k)), (11, .bool (decide ((n : Int) ≤ 3000))), (10, .int .i64 (n)), (4, .int .i64 (q)), (3, .int .i64 (n)), (2, .bool false), (1, .pointer (some ⟨w.heap.size, 0, none⟩))]) ⟨rfl, rfl, rfl, rfl, rfl, rfl, rfl, rfl, trivial⟩
    clear aE
    refine wp_seq ?_
    refine wp_block ?_
    refine wp_seq ?_
    refine At.start ?_
    obtain ⟨aJ, bQ, _, _, bR⟩ := RdI.get aI.pr (i) (by omega) (by omega)
    refine At.rd bD 7 [[], [.ld (.slice Ag1 g.pr.length cg1)], [], [.ad aJ], [.ld (.int .i64 (gI g.pr (i)))], [], []] [(28, .bool ((gI g.pr (i) : Int) == q)), (27, .int .i64 (q)), (26, .int .i64 (gI g.pr (i))), (25, .pointer (some (aJ.add ((i : Int).toNat * 1)))), (24, .int .i64 (i)), (23, .slice Ag1 g.pr.length cg1), (22, .pointer (some ⟨w.heap.size, 1, none⟩))] [(aM.cell? ⟨w.heap.size, 1, none⟩ = some (.slice Ag1 g.pr.length cg1)), (Ag1 = some aJ), (0 ≤ (i : Int)), ((i : Int) < (g.pr.length : Nat)), (aM.cell? (aJ.add ((i : Int).toNat * 1)) = some (.int .i64 (gI g.pr (i))))] (by kernel_rfl) ⟨(aA.cell (i := 1) rfl), bQ, (by omega), (by omega), bR, trivial⟩ (fun cN bE => ?_)
    clear bD
    refine At.done rfl ?_
    refine t_n ?_
    have aF := bE.sub (r := [(28, .bool ((gI g.pr (i) : Int) == q)), (6, .int .i64 (i)), (5, .int .i64 (k)), (11, .bool (decide ((n : Int) ≤ 3000))), (10, .int .i64 (n)), (4, .int .i64 (q)), (3, .int .i64 (n)), (2, .bool false), (1, .pointer (some ⟨w.heap.size, 0, none⟩))]) ⟨rfl, rfl, rfl, rfl, rfl, rfl, rfl, rfl, rfl, trivial⟩
    clear bE
    refine cond_S aF (t := (gI g.pr (i) : Int) == q) rfl (fun aO => ?_) (fun aO => ?_)
    ·have cO := eq_of_beq aO
     refine At.start ?_
     refine At.rd aF 3 [[], [.as_ (.int .i64 (k + 1))], []] [(5, .int .i64 (k + 1)), (30, .int .i64 (k + 1)), (29, .int .i64 (k))] [((.int .i64 (IntKind.i64.wrap (k + 1)) : Value) = .int .i64 (k + 1))] (by kernel_rfl) ⟨(w64 (by omega) (by omega)), trivial⟩ (fun cP bF => ?_)
     clear aF
     refine At.done rfl ?_
     refine b_n ?_
     refine t_n ?_
     have bG := bF.sub (r := [(5, .int .i64 (k + 1)), (6, .int .i64 (i)), (11, .bool (decide ((n : Int) ≤ 3000))), (10, .int .i64 (n)), (4, .int .i64 (q)), (3, .int .i64 (n)), (2, .bool false), (1, .pointer (some ⟨w.heap.size, 0, none⟩))]) ⟨rfl, rfl, rfl, rfl, rfl, rfl, rfl, rfl, trivial⟩
     clear bF
     refine At.start ?_
     refine At.rd bG 3 [[], [.as_ (.int .i64 (i + 1))], []] [(6, .int .i64 (i + 1)), (21, .int .i64 (i + 1)), (20, .int .i64 (i))] [((.int .i64 (IntKind.i64.wrap (i + 1)) : Value) = .int .i64 (i + 1))] (by kernel_rfl) ⟨(w64 (by omega) (by omega)), trivial⟩ (fun cQ bS => ?_)
     clear bG
     refine At.done rfl ?_
     refine t_n ?_
     have bT := bS.sub (r := [(6, .int .i64 (i + 1)), (5, .int .i64 (k + 1)), (11, .bool (decide ((n : Int) ≤ 3000))), (10, .int .i64 (n)), (4, .int .i64 (q)), (3, .int .i64 (n)), (2, .bool false), (1, .pointer (some ⟨w.heap.size, 0, none⟩))]) ⟨rfl, rfl, rfl, rfl, rfl, rfl, rfl, rfl, trivial⟩
     exact ⟨_, (by omega), (i + 1), k + 1, rfl, bT, aH, aI, aA, (by omega), (by omega), (by omega), (by omega)⟩
    have cR := ne_of_beq_false aO
    refine wp_skip ?_
    refine b_n ?_
    refine t_n ?_
    have bH := aF.sub (r := [(6, .int .i64 (i)), (5, .int .i64 (k)), (11, .bool (decide ((n : Int) ≤ 3000))), (10, .int .i64 (n)), (4, .int .i64 (q)), (3, .int .i64 (n)), (2, .bool false), (1, .pointer (some ⟨w.heap.size, 0, none⟩))]) ⟨rfl, rfl, rfl, rfl, rfl, rfl, rfl, rfl, trivial⟩
    clear aF
    refine At.start ?_
    refine At.rd bH 3 [[], [.as_ (.int .i64 (i + 1))], []] [(6, .int .i64 (i + 1)), (21, .int .i64 (i + 1)), (20, .int .i64 (i))] [((.int .i64 (IntKind.i64.wrap (i + 1)) : Value) = .int .i64 (i + 1))] (by kernel_rfl) ⟨(w64 (by omega) (by omega)), trivial⟩ (fun cS bU => ?_)
    clear bH
    refine At.done rfl ?_
    refine t_n ?_
    have bV := bU.sub (r := [(6, .int .i64 (i + 1)), (5, .int .i64 (k)), (11, .bool (decide ((n : Int) ≤ 3000))), (10, .int .i64 (n)), (4, .int .i64 (q)), (3, .int .i64 (n)), (2, .bool false), (1, .pointer (some ⟨w.heap.size, 0, none⟩))]) ⟨rfl, rfl, rfl, rfl, rfl, rfl, rfl, rfl, trivial⟩
    exact ⟨_, (by omega), (i + 1), k, rfl, bV, aH, aI, aA, (by omega), (by omega), (by omega), (by omega)⟩
   have cT := of_decide_eq_false aN
   refine wp_exit ?_
   refine t_e ?_
   clear hm45
   refine t_e ?_
   refine b_e ?_
   refine t_n ?_
   have bI := aE.sub (r := [(5, .int .i64 (k)), (11, .bool (decide ((n : Int) ≤ 3000))), (10, .int .i64 (n)), (4, .int .i64 (q)), (3, .int .i64 (n)), (2, .bool false), (1, .pointer (some ⟨w.heap.size, 0, none⟩))]) ⟨rfl, rfl, rfl, rfl, rfl, rfl, rfl, trivial⟩
   clear aE; have hnk := mul_bound (n := n) (k := k) (by omega) (by omega) (by omega)
   refine At.start ?_
   refine At.rd bI 4 [[], [], [.as_ (.int .i64 (n * k))], []] [(3, .int .i64 (n * k)), (33, .int .i64 (n * k)), (32, .int .i64 (k)), (31, .int .i64 (n))] [((.int .i64 (IntKind.i64.wrap (n * k)) : Value) = .int .i64 (n * k))] (by kernel_rfl) ⟨(w64 (by omega) (by omega)), trivial⟩ (fun cU bJ => ?_)
   clear bI
   refine At.done rfl ?_
   refine b_n ?_
   refine t_n ?_
   have bK := bJ.sub (r := [(3, .int .i64 (n * k)), (11, .bool (decide ((n : Int) ≤ 3000))), (10, .int .i64 (n)), (4, .int .i64 (q)), (2, .bool false), (1, .pointer (some ⟨w.heap.size, 0, none⟩))]) ⟨rfl, rfl, rfl, rfl, rfl, rfl, trivial⟩
   clear bJ
   refine At.start ?_
   refine At.rd bK 3 [[], [.as_ (.int .i64 (q + 2))], []] [(4, .int .i64 (q + 2)), (14, .int .i64 (q + 2)), (13, .int .i64 (q))] [((.int .i64 (IntKind.i64.wrap (q + 2)) : Value) = .int .i64 (q + 2))] (by kernel_rfl) ⟨(w64 (by omega) (by omega)), trivial⟩ (fun cV bW => ?_)
   clear bK
   refine At.done rfl ?_
   refine t_n ?_
   have bX := bW.sub (r := [(4, .int .i64 (q + 2)), (3, .int .i64 (n * k)), (2, .bool false), (1, .pointer (some ⟨w.heap.size, 0, none⟩))]) ⟨rfl, rfl, rfl, rfl, trivial⟩
   exact ⟨_, (by omega), (q + 2), (n * k), rfl, bX, aH, aI, aA, (by omega), (by omega), (by omega), (by omega)⟩
  have cW := of_decide_eq_false aL
  refine wp_exit ?_
  refine t_e ?_
  clear hm21
  refine t_e ?_
  refine b_e ?_
  refine t_n ?_
  have bL := aD.sub (r := [(3, .int .i64 (n))]) ⟨rfl, trivial⟩; clear aD
  refine wp_seq ?_
  refine At.start ?_
  refine At.rd bL 3 [[], [], []] [(2, .bool (decide ((n : Int) > 3000))), (35, .bool (decide ((n : Int) > 3000))), (34, .int .i64 (n))] [] (by kernel_rfl) trivial (fun cX bM => ?_)
  clear bL
  refine At.done rfl ?_
  refine t_n ?_
  have bY := bM.sub (r := [(2, .bool (decide ((n : Int) > 3000)))]) ⟨rfl, trivial⟩; clear bM
  refine wp_ret ?_
  refine ret_ bY [] [.bool (decide ((n : Int) > 3000))] [] (by kernel_rfl) trivial ?_
  exact ⟨_, rfl, aB⟩
 have cY := of_decide_eq_false aC
 refine At.rd aG 6 [[], [], [.as_ (.bool false)], [], [], []] [(12, .bool false), (11, undef), (10, undef), (9, .bool false), (8, .bool (decide ((q : Int) ≤ 7))), (7, .int .i64 (q))] [((.bool (decide ((q : Int) ≤ 7)) : Value) = .bool false)] (by kernel_rfl) ⟨(congrArg Value.bool aC), trivial⟩ (fun cZ bN => ?_)
 clear aG
 refine At.done rfl ?_
 refine t_n ?_
 have aP := bN.sub (r := [(12, .bool false), (4, .int .i64 (q)), (3, .int .i64 (n)), (2, .bool false), (1, .pointer (some ⟨w.heap.size, 0, none⟩))]) ⟨rfl, rfl, rfl, rfl, rfl, trivial⟩
 clear bN
 refine cond_F aP rfl ?_
 refine wp_exit ?_
 refine t_e ?_
 clear hm21
 refine t_e ?_
 refine b_e ?_
 refine t_n ?_
 have bO := aP.sub (r := [(3, .int .i64 (n))]) ⟨rfl, trivial⟩; clear aP
 refine wp_seq ?_
 refine At.start ?_
 refine At.rd bO 3 [[], [], []] [(2, .bool (decide ((n : Int) > 3000))), (35, .bool (decide ((n : Int) > 3000))), (34, .int .i64 (n))] [] (by kernel_rfl) trivial (fun dA bP => ?_)
 clear bO
 refine At.done rfl ?_
 refine t_n ?_
 have bZ := bP.sub (r := [(2, .bool (decide ((n : Int) > 3000)))]) ⟨rfl, trivial⟩; clear bP
 refine wp_ret ?_
 refine ret_ bZ [] [.bool (decide ((n : Int) > 3000))] [] (by kernel_rfl) trivial ?_
 exact ⟨_, rfl, aB⟩

end Go.Proofs.Ytklbpajmoklheaa
