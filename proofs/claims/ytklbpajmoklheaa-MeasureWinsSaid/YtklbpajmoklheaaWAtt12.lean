/-
  A walk of a Go function, printed by a program of this repo. Conditions: what the theorems name.
-/
import Derived.Test.YtklbpajmoklheaaPureAttL
import Derived.Test.YtklbpajmoklheaaLem
import Derived.Test.YtklbpajmoklheaaFs
set_option linter.unusedVariables false
set_option linter.unusedSimpArgs false
namespace Go.Proofs.Ytklbpajmoklheaa
open Go Go.RowKit

set_option maxHeartbeats 4000000 in
theorem step12_any {Ag0 Ag1 Ag2 : Option Addr} {cg0 cg1 cg2 : Nat} {g : GameL} {Ai : Option Addr} {ci : Nat} {li : List Bool} {Aa : Option Addr} {ca : Nat} {la : List Bool} {p i : Int} {w : World} (rg : RdG w 0 w.heap.size Ag0 Ag1 Ag2 cg0 cg1 cg2 g) (ri : RdR w 0 w.heap.size Ai li) (ra : RdR w 0 w.heap.size Aa la) (hG : RightG g) (hli : li.length = g.ow.length) (hla : la.length = g.ow.length) (hi0 : 0 ≤ i) (hi1 : i < (g.ow.length : Int)) :
    Calls Try.prog 61 #[.agg #[.slice Ag0 g.ow.length cg0, .slice Ag1 g.pr.length cg1, .slice Ag2 g.mv.length cg2], .slice Ai li.length ci, .int .i64 (p), .slice Aa la.length ca, .int .i64 (i)] w fun e w' => e = .returned (.bool (stpB g li p la i)) ∧ Ext w w' := by
 have hlg0 := rg.ow.len; have hlg1 := rg.pr.len; have hlg2 := rg.mv.len; have hkg0 := rg.k0; have hkg1 := rg.k1; have hkg2 := rg.k2; have hn1 := hG.n1; have hpl := hG.pl; have hml := hG.ml; have hrl := row_len hG hi0 hi1
 refine enter_ (args := [.agg #[.slice Ag0 g.ow.length cg0, .slice Ag1 g.pr.length cg1, .slice Ag2 g.mv.length cg2], .slice Ai li.length ci, .int .i64 (p), .slice Aa la.length ca, .int .i64 (i)]) Try.func61 rfl Try.ntmps61 (Nat.le_of_ble_eq_true rfl) (fun act0 f0 => ?_)
 have e0 : Ext w w := Ext.refl w
 refine wp_seq ?_
 refine At.start ?_
 refine At.seq f0 1 [[]] [(5, .pointer (some ⟨w.heap.size, 0, none⟩))] (w.alloc (.cells #[.slice Ag0 g.ow.length cg0, .slice Ag1 g.pr.length cg1, .slice Ag2 g.mv.length cg2] 25 (0, 0))) [] (by kernel_rfl) trivial (fun act4 w1 hw2 f3 => ?_)
 clear f0; have g5 := gr_alloc hw2; have := g5.size; replace e0 := e0.gn g5; have r8 := rg.gn g5; clear rg; have r9 := ri.gn g5; clear ri; have aZ := ra.gn g5; clear ra; have aS : Bx w1 (w.heap.size) [.slice Ag0 g.ow.length cg0, .slice Ag1 g.pr.length cg1, .slice Ag2 g.mv.length cg2] 25 := Bx.new hw2; have := aS.lt; clear g5 hw2
 refine At.rd f3 1 [[]] [(10, .bool false)] [] (by kernel_rfl) trivial (fun cJ bA => ?_)
 clear f3
 refine At.done rfl ?_
 refine t_n ?_
 refine wp_seq ?_
 refine At.start ?_
 refine At.rd bA 1 [[]] [(11, .int .i64 (0))] [] (by kernel_rfl) trivial (fun cK bB => ?_)
 clear bA
 refine At.done rfl ?_
 refine t_n ?_
 refine wp_seq ?_
 refine At.start ?_
 refine At.rd bB 1 [[]] [(12, .int .i64 (0))] [] (by kernel_rfl) trivial (fun cL bC => ?_)
 clear bB
 refine At.done rfl ?_
 refine t_n ?_
 refine wp_seq ?_
 refine wp_seq ?_
 refine At.start ?_
 refine At.rd bC 1 [[]] [(13, .int .i64 (0))] [] (by kernel_rfl) trivial (fun cN bD => ?_)
 clear bC
 refine At.done rfl ?_
 refine t_n ?_
 refine wp_block ?_
 have bE := bD.sub (r := [(13, .int .i64 (0)), (11, .int .i64 (0)), (12, .int .i64 (0)), (10, .bool false), (5, .pointer (some ⟨w.heap.size, 0, none⟩)), (1, .slice Ai li.length ci), (2, .int .i64 (p)), (3, .slice Aa la.length ca), (4, .int .i64 (i))]) ⟨rfl, rfl, rfl, rfl, rfl, rfl, rfl, rfl, rfl, trivial⟩
 refine loop_g (fun (m_ : Nat) a_ w_ => ∃ (q : Int) (c1 : Int) (c2 : Int), m_ = (((gL g.mv i).length : Int) - q).toNat ∧ (Frm 61 a_ [(13, .int .i64 (q)), (11, .int .i64 (c1)), (12, .int .i64 (c2)), (10, .bool false), (5, .pointer (some ⟨w.heap.size, 0, none⟩)), (1, .slice Ai li.length ci), (2, .int .i64 (p)), (3, .slice Aa la.length ca), (4, .int .i64 (i))]) ∧ (Ext w w_) ∧ (RdG w_ 0 w.heap.size Ag0 Ag1 Ag2 cg0 cg1 cg2 g) ∧ (RdR w_ 0 w.heap.size Ai (li : List Bool)) ∧ (RdR w_ 0 w.heap.size Aa (la : List Bool)) ∧ (Bx w_ (w.heap.size) [.slice Ag0 g.ow.length cg0, .slice Ag1 g.pr.length cg1, .slice Ag2 g.mv.length cg2] 25) ∧ (0 ≤ q) ∧ (q ≤ ((gL g.mv i).length : Int)) ∧ (c1 = cM ((gL g.mv i).take q.toNat) (gB li)) ∧ (c2 = cM ((gL g.mv i).take q.toNat) (fun x => gB li x && gB la x)) ∧ (0 ≤ c1) ∧ (c1 ≤ q) ∧ (0 ≤ c2) ∧ (c2 ≤ q)) _ ⟨0, 0, 0, rfl, bE, e0, r8, r9, aZ, aS, (by omega), (Int.natCast_nonneg _), rfl, rfl, (by omega), (by omega), (by omega), (by omega)⟩ ?_
 clear bE bD; clear r8; clear r9; clear aZ; clear aS; clear e0
 intro m_ cO aA ⟨q, c1, c2, hm24, bF, aC, aE, aJ, aK, aB, i30, i31, hc1, hc2, i32, i33, i34, i35⟩
 have := aC.size; have := aB.lt
 refine wp_seq ?_
 refine wp_seq ?_
 refine At.start ?_
 obtain ⟨aL, aT, aU, bM, _, _, bN, cP, bG⟩ := RdII.get aE.mv (i) (by omega) (by omega)
 have cQ := bG.len
 refine At.rd bF 8 [[], [], [.ld (.slice Ag2 g.mv.length cg2)], [], [.ad aL], [.ld (.slice aT ((gL g.mv (i)).length) aU)], [], []] [(22, .bool (decide ((q : Int) < (((gL g.mv (i)).length : Nat) : Int)))), (21, .int .i64 ((((gL g.mv (i)).length : Nat) : Int))), (20, .slice aT ((gL g.mv (i)).length) aU), (19, .pointer (some (aL.add ((i : Int).toNat * 1)))), (18, .int .i64 (i)), (17, .slice Ag2 g.mv.length cg2), (16, .pointer (some ⟨w.heap.size, 2, none⟩)), (15, .int .i64 (q))] [(aA.cell? ⟨w.heap.size, 2, none⟩ = some (.slice Ag2 g.mv.length cg2)), (Ag2 = some aL), (0 ≤ (i : Int)), ((i : Int) < (g.mv.length : Nat)), (aA.cell? (aL.add ((i : Int).toNat * 1)) = some (.slice aT ((gL g.mv (i)).length) aU))] (by kernel_rfl) ⟨(aB.cell (i := 2) rfl), bM, (by omega), (by omega), bN, trivial⟩ (fun cR aF => ?_)
 clear bF
 refine At.done rfl ?_
 refine t_n ?_
 clear bG
 refine cond_S aF (t := decide ((q : Int) < (((gL g.mv (i)).length : Nat) : Int))) rfl (fun aV => ?_) (fun aV => ?_)
 ·have cS := of_decide_eq_true aV
  refine wp_skip ?_
  refine t_n ?_
  refine wp_seq ?_
  refine wp_block ?_
  refine wp_seq ?_
  refine At.start ?_
  obtain ⟨aM, aN, aW, bO, _, _, bP, cT, aX⟩ := RdII.get aE.mv (i) (by omega) (by omega)
  have cU := aX.len
  obtain ⟨aO, bQ, _, _, bR⟩ := RdI.get aX (q) (by omega) (by omega)
  refine At.rd aF 9 [[], [.ld (.slice Ag2 g.mv.length cg2)], [], [.ad aM], [.ld (.slice aN ((gL g.mv (i)).length) aW)], [], [.ad aO], [.ld (.int .i64 (gI (gL g.mv (i)) (q)))], []] [(14, .int .i64 (gI (gL g.mv (i)) (q))), (32, .int .i64 (gI (gL g.mv (i)) (q))), (31, .pointer (some (aO.add ((q : Int).toNat * 1)))), (30, .int .i64 (q)), (29, .slice aN ((gL g.mv (i)).length) aW), (28, .pointer (some (aM.add ((i : Int).toNat * 1)))), (27, .int .i64 (i)), (26, .slice Ag2 g.mv.length cg2), (25, .pointer (some ⟨w.heap.size, 2, none⟩))] [(aA.cell? ⟨w.heap.size, 2, none⟩ = some (.slice Ag2 g.mv.length cg2)), (Ag2 = some aM), (0 ≤ (i : Int)), ((i : Int) < (g.mv.length : Nat)), (aA.cell? (aM.add ((i : Int).toNat * 1)) = some (.slice aN ((gL g.mv (i)).length) aW)), (aN = some aO), (0 ≤ (q : Int)), ((q : Int) < ((gL g.mv (i)).length : Nat)), (aA.cell? (aO.add ((q : Int).toNat * 1)) = some (.int .i64 (gI (gL g.mv (i)) (q))))] (by kernel_rfl) ⟨(aB.cell (i := 2) rfl), bO, (by omega), (by omega), bP, bQ, (by omega), (by omega), bR, trivial⟩ (fun cV bH => ?_)
  clear aF
  refine At.done rfl ?_
  refine t_n ?_
  clear aX
  have bI := bH.sub (r := [(14, .int .i64 (gI (gL g.mv (i)) (q))), (13, .int .i64 (q)), (11, .int .i64 (c1)), (12, .int .i64 (c2)), (10, .bool false), (5, .pointer (some ⟨w.heap.size, 0, none⟩)), (1, .slice Ai li.length ci), (2, .int .i64 (p)), (3, .slice Aa la.length ca), (4, .int .i64 (i))]) ⟨rfl, rfl, rfl, rfl, rfl, rfl, rfl, rfl, rfl, rfl, trivial⟩
  clear bH
  refine wp_seq ?_
  have hmk := hG.mv i hi0 hi1 q (by omega) (by omega)
  refine At.start ?_
  obtain ⟨aP, bS, cW, bT, cX⟩ := aJ.get (gI (gL g.mv (i)) (q)) (by omega) (by omega) (sz := 1) rfl
  refine At.rd bI 4 [[], [], [.ad aP], [.ld (.bool (gB li (gI (gL g.mv (i)) (q))))]] [(36, .bool (gB li (gI (gL g.mv (i)) (q)))), (35, .pointer (some (aP.add ((gI (gL g.mv (i)) (q) : Int).toNat * 1)))), (34, .int .i64 (gI (gL g.mv (i)) (q))), (33, .slice Ai li.length ci)] [(Ai = some aP), (0 ≤ (gI (gL g.mv (i)) (q) : Int)), ((gI (gL g.mv (i)) (q) : Int) < (li.length : Nat)), (aA.cell? (aP.add ((gI (gL g.mv (i)) (q) : Int).toNat * 1)) = some (.bool (gB li (gI (gL g.mv (i)) (q)))))] (by kernel_rfl) ⟨bS, (by omega), (by omega), bT, trivial⟩ (fun cY aG => ?_)
  clear bI
  refine At.done rfl ?_
  refine t_n ?_
  refine cond_S aG (t := gB li (gI (gL g.mv (i)) (q))) rfl (fun bU => ?_) (fun bU => ?_)
  ·refine wp_seq ?_
   refine At.start ?_
   refine At.rd aG 3 [[], [.as_ (.int .i64 (c1 + 1))], []] [(11, .int .i64 (c1 + 1)), (38, .int .i64 (c1 + 1)), (37, .int .i64 (c1))] [((.int .i64 (IntKind.i64.wrap (c1 + 1)) : Value) = .int .i64 (c1 + 1))] (by kernel_rfl) ⟨(w64 (by omega) (by omega)), trivial⟩ (fun cZ bJ => ?_)
   clear aG
   refine At.done rfl ?_
   refine t_n ?_
   refine wp_seq ?_
   refine At.start ?_
   obtain ⟨aQ, bV, dA, bW, dB⟩ := aK.get (gI (gL g.mv (i)) (q)) (by omega) (by omega) (sz := 1) rfl
   refine At.rd bJ 4 [[], [], [.ad aQ], [.ld (.bool (gB la (gI (gL g.mv (i)) (q))))]] [(42, .bool (gB la (gI (gL g.mv (i)) (q)))), (41, .pointer (some (aQ.add ((gI (gL g.mv (i)) (q) : Int).toNat * 1)))), (40, .int .i64 (gI (gL g.mv (i)) (q))), (39, .slice Aa la.length ca)] [(Aa = some aQ), (0 ≤ (gI (gL g.mv (i)) (q) : Int)), ((gI (gL g.mv (i)) (q) : Int) < (la.length : Nat)), (aA.cell? (aQ.add ((gI (gL g.mv (i)) (q) : Int).toNat * 1)) = some (.bool (gB la (gI (gL g.mv (i)) (q)))))] (by kernel_rfl) ⟨bV, (by omega), (by omega), bW, trivial⟩ (fun dC aH => ?_)
   clear bJ
   refine At.done rfl ?_
   refine t_n ?_
   refine cond_S aH (t := gB la (gI (gL g.mv (i)) (q))) rfl (fun bX => ?_) (fun bX => ?_)
   ·refine At.start ?_
    refine At.rd aH 3 [[], [.as_ (.int .i64 (c2 + 1))], []] [(12, .int .i64 (c2 + 1)), (44, .int .i64 (c2 + 1)), (43, .int .i64 (c2))] [((.int .i64 (IntKind.i64.wrap (c2 + 1)) : Value) = .int .i64 (c2 + 1))] (by kernel_rfl) ⟨(w64 (by omega) (by omega)), trivial⟩ (fun dD bK => ?_)
    clear aH
    refine At.done rfl ?_
    refine b_n ?_
    refine t_n ?_
    refine At.start ?_
    refine At.rd bK 3 [[], [.as_ (.int .i64 (q + 1))], []] [(13, .int .i64 (q + 1)), (24, .int .i64 (q + 1)), (23, .int .i64 (q))] [((.int .i64 (IntKind.i64.wrap (q + 1)) : Value) = .int .i64 (q + 1))] (by kernel_rfl) ⟨(w64 (by omega) (by omega)), trivial⟩ (fun dE bY => ?_)
    clear bK
    refine At.done rfl ?_
    refine t_n ?_
    have bZ := bY.sub (r := [(13, .int .i64 (q + 1)), (11, .int .i64 (c1 + 1)), (12, .int .i64 (c2 + 1)), (10, .bool false), (5, .pointer (some ⟨w.heap.size, 0, none⟩)), (1, .slice Ai li.length ci), (2, .int .i64 (p)), (3, .slice Aa la.length ca), (4, .int .i64 (i))]) ⟨rfl, rfl, rfl, rfl, rfl, rfl, rfl, rfl, rfl, trivial⟩
    exact ⟨_, (by omega), (q + 1), c1 + 1, c2 + 1, rfl, bZ, aC, aE, aJ, aK, aB, (by omega), (by omega), (by rw [take_cM (by omega) (by omega), ← hc1]; first | (rw [if_pos (by assumption)]; done) | (rw [if_neg (by simp_all)]; omega)), (by rw [take_cM (by omega) (by omega), ← hc2]; first | (rw [if_pos (by simp_all)]; done) | (rw [if_neg (by simp_all)]; omega)), (by omega), (by omega), (by omega), (by omega)⟩
   refine wp_skip ?_
   refine b_n ?_
   refine t_n ?_
   refine At.start ?_
   refine At.rd aH 3 [[], [.as_ (.int .i64 (q + 1))], []] [(13, .int .i64 (q + 1)), (24, .int .i64 (q + 1)), (23, .int .i64 (q))] [((.int .i64 (IntKind.i64.wrap (q + 1)) : Value) = .int .i64 (q + 1))] (by kernel_rfl) ⟨(w64 (by omega) (by omega)), trivial⟩ (fun dF cA => ?_)
   clear aH
   refine At.done rfl ?_
   refine t_n ?_
   have cB := cA.sub (r := [(13, .int .i64 (q + 1)), (11, .int .i64 (c1 + 1)), (12, .int .i64 (c2)), (10, .bool false), (5, .pointer (some ⟨w.heap.size, 0, none⟩)), (1, .slice Ai li.length ci), (2, .int .i64 (p)), (3, .slice Aa la.length ca), (4, .int .i64 (i))]) ⟨rfl, rfl, rfl, rfl, rfl, rfl, rfl, rfl, rfl, trivial⟩
   exact ⟨_, (by omega), (q + 1), c1 + 1, c2, rfl, cB, aC, aE, aJ, aK, aB, (by omega), (by omega), (by rw [take_cM (by omega) (by omega), ← hc1]; first | (rw [if_pos (by assumption)]; done) | (rw [if_neg (by simp_all)]; omega)), (by rw [take_cM (by omega) (by omega), ← hc2]; first | (rw [if_pos (by simp_all)]; done) | (rw [if_neg (by simp_all)]; omega)), (by omega), (by omega), (by omega), (by omega)⟩
  refine wp_skip ?_
  refine b_n ?_
  refine t_n ?_
  refine At.start ?_
  refine At.rd aG 3 [[], [.as_ (.int .i64 (q + 1))], []] [(13, .int .i64 (q + 1)), (24, .int .i64 (q + 1)), (23, .int .i64 (q))] [((.int .i64 (IntKind.i64.wrap (q + 1)) : Value) = .int .i64 (q + 1))] (by kernel_rfl) ⟨(w64 (by omega) (by omega)), trivial⟩ (fun dG cC => ?_)
  clear aG
  refine At.done rfl ?_
  refine t_n ?_
  have cD := cC.sub (r := [(13, .int .i64 (q + 1)), (11, .int .i64 (c1)), (12, .int .i64 (c2)), (10, .bool false), (5, .pointer (some ⟨w.heap.size, 0, none⟩)), (1, .slice Ai li.length ci), (2, .int .i64 (p)), (3, .slice Aa la.length ca), (4, .int .i64 (i))]) ⟨rfl, rfl, rfl, rfl, rfl, rfl, rfl, rfl, rfl, trivial⟩
  exact ⟨_, (by omega), (q + 1), c1, c2, rfl, cD, aC, aE, aJ, aK, aB, (by omega), (by omega), (by rw [take_cM (by omega) (by omega), ← hc1]; first | (rw [if_pos (by assumption)]; done) | (rw [if_neg (by simp_all)]; omega)), (by rw [take_cM (by omega) (by omega), ← hc2]; first | (rw [if_pos (by simp_all)]; done) | (rw [if_neg (by simp_all)]; omega)), (by omega), (by omega), (by omega), (by omega)⟩
 have dH := of_decide_eq_false aV
 refine wp_exit ?_
 refine t_e ?_
 clear hm24
 refine t_e ?_
 refine b_e ?_
 refine t_n ?_
 refine wp_seq ?_
 refine wp_seq ?_
 refine At.start ?_
 obtain ⟨aR, cE, _, _, cF⟩ := RdI.get aE.ow (i) (by omega) (by omega)
 refine At.rd aF 7 [[], [.ld (.slice Ag0 g.ow.length cg0)], [], [.ad aR], [.ld (.int .i64 (gI g.ow (i)))], [], []] [(51, .bool ((gI g.ow (i) : Int) == p)), (50, .int .i64 (p)), (49, .int .i64 (gI g.ow (i))), (48, .pointer (some (aR.add ((i : Int).toNat * 1)))), (47, .int .i64 (i)), (46, .slice Ag0 g.ow.length cg0), (45, .pointer (some ⟨w.heap.size, 0, none⟩))] [(aA.cell? ⟨w.heap.size, 0, none⟩ = some (.slice Ag0 g.ow.length cg0)), (Ag0 = some aR), (0 ≤ (i : Int)), ((i : Int) < (g.ow.length : Nat)), (aA.cell? (aR.add ((i : Int).toNat * 1)) = some (.int .i64 (gI g.ow (i))))] (by kernel_rfl) ⟨(aB.cell (i := 0) rfl), cE, (by omega), (by omega), cF, trivial⟩ (fun dI bL => ?_)
 clear aF
 refine At.done rfl ?_
 refine t_n ?_
 clear aB; have aD := bL.sub (r := [(51, .bool ((gI g.ow (i) : Int) == p)), (11, .int .i64 (c1)), (12, .int .i64 (c2))]) ⟨rfl, rfl, rfl, trivial⟩; clear bL
 refine cond_S aD (t := (gI g.ow (i) : Int) == p) rfl (fun aY => ?_) (fun aY => ?_)
 ·have dJ := eq_of_beq aY
  refine wp_seq ?_
  refine At.start ?_
  refine At.rd aD 3 [[], [], []] [(10, .bool (decide ((c2 : Int) > 0))), (53, .bool (decide ((c2 : Int) > 0))), (52, .int .i64 (c2))] [] (by kernel_rfl) trivial (fun dK cG => ?_)
  clear aD
  refine At.done rfl ?_
  refine t_n ?_
  refine wp_ret ?_
  refine t_r ?_
  refine ret_ cG [] [.bool (decide ((c2 : Int) > 0))] [] (by kernel_rfl) trivial ?_
  exact ⟨ret_eq (congrArg Value.bool (step_val (by omega) (by omega) hc1 hc2 (by first | exact .inl ⟨by omega, rfl⟩ | exact .inr (.inl ⟨by omega, by assumption, rfl⟩) | exact .inr (.inr ⟨by omega, by omega, rfl⟩)))), aC⟩
 have dL := ne_of_beq_false aY
 refine wp_skip ?_
 refine t_n ?_
 refine wp_seq ?_
 refine At.start ?_
 rcases Bool.eq_false_or_eq_true (decide ((c1 : Int) > 0)) with aI | aI
 ·have dM := of_decide_eq_true aI
  refine At.rd aD 8 [[], [], [.as_ (.bool true)], [], [], [], [], []] [(10, .bool ((c2 : Int) == c1)), (60, .bool ((c2 : Int) == c1)), (59, .bool ((c2 : Int) == c1)), (58, .int .i64 (c1)), (57, .int .i64 (c2)), (56, .bool true), (55, .bool (decide ((c1 : Int) > 0))), (54, .int .i64 (c1))] [((.bool (decide ((c1 : Int) > 0)) : Value) = .bool true)] (by kernel_rfl) ⟨(congrArg Value.bool aI), trivial⟩ (fun dN cH => ?_)
  clear aD
  refine At.done rfl ?_
  refine t_n ?_
  refine wp_ret ?_
  refine ret_ cH [] [.bool ((c2 : Int) == c1)] [] (by kernel_rfl) trivial ?_
  exact ⟨ret_eq (congrArg Value.bool (step_val (by omega) (by omega) hc1 hc2 (by first | exact .inl ⟨by omega, rfl⟩ | exact .inr (.inl ⟨by omega, by assumption, rfl⟩) | exact .inr (.inr ⟨by omega, by omega, rfl⟩)))), aC⟩
 have dO := of_decide_eq_false aI
 refine At.rd aD 8 [[], [], [.as_ (.bool false)], [], [], [], [], []] [(10, .bool false), (60, .bool false), (59, undef), (58, undef), (57, undef), (56, .bool false), (55, .bool (decide ((c1 : Int) > 0))), (54, .int .i64 (c1))] [((.bool (decide ((c1 : Int) > 0)) : Value) = .bool false)] (by kernel_rfl) ⟨(congrArg Value.bool aI), trivial⟩ (fun dP cI => ?_)
 clear aD
 refine At.done rfl ?_
 refine t_n ?_
 refine wp_ret ?_
 refine ret_ cI [] [.bool false] [] (by kernel_rfl) trivial ?_
 exact ⟨ret_eq (congrArg Value.bool (step_val (by omega) (by omega) hc1 hc2 (by first | exact .inl ⟨by omega, rfl⟩ | exact .inr (.inl ⟨by omega, by assumption, rfl⟩) | exact .inr (.inr ⟨by omega, by omega, rfl⟩)))), aC⟩

set_option maxHeartbeats 4000000 in
theorem attractR_any {Ag0 Ag1 Ag2 : Option Addr} {cg0 cg1 cg2 : Nat} {g : GameL} {Ai : Option Addr} {ci : Nat} {li : List Bool} {Au : Option Addr} {cu : Nat} {lu : List Bool} {p : Int} {w : World} (rg : RdG w 0 w.heap.size Ag0 Ag1 Ag2 cg0 cg1 cg2 g) (ri : RdR w 0 w.heap.size Ai li) (ru : RdR w 0 w.heap.size Au lu) (hR : isR g = true) (hli : li.length = g.ow.length) (hlu : lu.length = g.ow.length) :
    Calls Try.prog 58 #[.agg #[.slice Ag0 g.ow.length cg0, .slice Ag1 g.pr.length cg1, .slice Ag2 g.mv.length cg2], .slice Ai li.length ci, .int .i64 (p), .slice Au lu.length cu] w fun e w' => ∃ A c wa, e = .returned (.slice A (wa : List Bool).length c) ∧ Ext w w' ∧ OwnR w' (Sx w.heap.size []) A c 4 wa ∧ wa.length = g.ow.length ∧ AttrT g li p lu wa := by
 have hlg0 := rg.ow.len; have hlg1 := rg.pr.len; have hlg2 := rg.mv.len; have hkg0 := rg.k0; have hkg1 := rg.k1; have hkg2 := rg.k2; have hG := isR_ok hR; have hn1 := hG.n1; have hpl := hG.pl; have hml := hG.ml
 refine enter_ (args := [.agg #[.slice Ag0 g.ow.length cg0, .slice Ag1 g.pr.length cg1, .slice Ag2 g.mv.length cg2], .slice Ai li.length ci, .int .i64 (p), .slice Au lu.length cu]) Try.func58 rfl Try.ntmps58 (Nat.le_of_ble_eq_true rfl) (fun act0 f0 => ?_)
 have e0 : Ext w w := Ext.refl w
 refine wp_seq ?_
 refine At.start ?_
 refine At.seq f0 1 [[]] [(4, .pointer (some ⟨w.heap.size, 0, none⟩))] (w.alloc (.cells #[.slice Ag0 g.ow.length cg0, .slice Ag1 g.pr.length cg1, .slice Ag2 g.mv.length cg2] 25 (0, 0))) [] (by kernel_rfl) trivial (fun act4 w1 hw2 f3 => ?_)
 clear f0; have g5 := gr_alloc hw2; have := g5.size; replace e0 := e0.gn g5; have r8 := rg.gn g5; clear rg; have r9 := ri.gn g5; clear ri; have bV := ru.gn g5; clear ru; have bM : Bx w1 (w.heap.size) [.slice Ag0 g.ow.length cg0, .slice Ag1 g.pr.length cg1, .slice Ag2 g.mv.length cg2] 25 := Bx.new hw2; have := bM.lt; clear g5 hw2
 refine At.rd f3 1 [[]] [(8, .slice none 0 0)] [] (by kernel_rfl) trivial (fun fM cP => ?_)
 clear f3
 refine At.done rfl ?_
 refine t_n ?_
 refine wp_seq ?_
 refine At.start ?_
 refine At.rd cP 4 [[], [.ld (.slice Ag0 g.ow.length cg0)], [], []] [(9, .int .i64 (((g.ow.length : Nat) : Int))), (17, .int .i64 (((g.ow.length : Nat) : Int))), (16, .slice Ag0 g.ow.length cg0), (15, .pointer (some ⟨w.heap.size, 0, none⟩))] [(w1.cell? ⟨w.heap.size, 0, none⟩ = some (.slice Ag0 g.ow.length cg0))] (by kernel_rfl) ⟨(bM.cell (i := 0) rfl), trivial⟩ (fun fN cQ => ?_)
 clear cP
 refine At.done rfl ?_
 refine t_n ?_
 refine wp_seq ?_
 refine At.start ?_
 refine At.rd cQ 1 [[]] [(18, .int .i64 (((g.ow.length : Nat) : Int)))] [] (by kernel_rfl) trivial (fun fO cR => ?_)
 clear cQ
 refine At.act cR (makeR (k1 := .i64) (k2 := .i64) (α := Bool) (e := 4) (bytes := 1) (t := 83) (d := 19) (n := ((g.ow.length : Nat) : Int)) (cap := ((g.ow.length : Nat) : Int)) (false) (by kernel_rfl) rfl (by kernel_rfl) (by omega) (by omega) (by omega) (by omega)) ?_
 rintro d_ v_ fP ⟨rfl, rfl, bD, bW⟩
 refine ⟨_, rfl, fun fQ cS => ?_⟩
 clear cR; replace bW := bW (Sx (w1.heap.size) []) (Nat.le_refl _); have := bD.size; replace e0 := e0.gn bD; replace r8 := r8.gn bD; replace r9 := r9.gn bD; replace bV := bV.gn bD; replace bM := bM.gn bD; clear bD; have : (List.replicate (((g.ow.length : Nat) : Int) : Int).toNat (false : Bool)).length = (((g.ow.length : Nat) : Int) : Int).toNat := List.length_replicate
 refine At.rd cS 1 [[]] [(10, .slice (some ⟨w1.heap.size, 0, none⟩) ((List.replicate (((g.ow.length : Nat) : Int) : Int).toNat (false : Bool)).length) ((((g.ow.length : Nat) : Int) : Int).toNat))] [] (by kernel_rfl) trivial (fun fR cU => ?_)
 clear cS
 refine At.done rfl ?_
 refine t_n ?_
 refine wp_seq ?_
 refine wp_seq ?_
 refine At.start ?_
 refine At.rd cU 1 [[]] [(11, .int .i64 (0))] [] (by kernel_rfl) trivial (fun fS cV => ?_)
 clear cU
 refine At.done rfl ?_
 refine t_n ?_
 refine wp_block ?_
 have cW := cV.as 10 (.slice (some ⟨w1.heap.size, 0, none⟩) ((List.replicate (((g.ow.length : Nat) : Int) : Int).toNat (false : Bool)).length) ((((g.ow.length : Nat) : Int) : Int).toNat)) (.slice (some ⟨w1.heap.size, 0, none⟩) ((List.replicate (((g.ow.length : Nat) : Int) : Int).toNat (false : Bool) : List Bool).length) ((((g.ow.length : Nat) : Int) : Int).toNat)) rfl (slice_len (by first | rfl | omega | (simp; done) | (simp; omega)))
 clear cV
 have cX := cW.sub (r := [(11, .int .i64 (0)), (10, .slice (some ⟨w1.heap.size, 0, none⟩) ((List.replicate (((g.ow.length : Nat) : Int) : Int).toNat (false : Bool) : List Bool).length) ((((g.ow.length : Nat) : Int) : Int).toNat)), (9, .int .i64 (((g.ow.length : Nat) : Int))), (8, .slice none 0 0), (4, .pointer (some ⟨w.heap.size, 0, none⟩)), (1, .slice Ai li.length ci), (2, .int .i64 (p)), (3, .slice Au lu.length cu)]) ⟨rfl, rfl, rfl, rfl, rfl, rfl, rfl, rfl, trivial⟩
 refine loop_g (fun (m_ : Nat) a_ w_ => ∃ (k : Int) (aa : List Bool) (aE : Option Addr) (aG : Nat), m_ = ((g.ow.length : Int) - k).toNat ∧ (Frm 76 a_ [(11, .int .i64 (k)), (10, .slice aE aa.length aG), (9, .int .i64 (((g.ow.length : Nat) : Int))), (8, .slice none 0 0), (4, .pointer (some ⟨w.heap.size, 0, none⟩)), (1, .slice Ai li.length ci), (2, .int .i64 (p)), (3, .slice Au lu.length cu)]) ∧ (Ext w w_) ∧ (RdG w_ 0 w.heap.size Ag0 Ag1 Ag2 cg0 cg1 cg2 g) ∧ (RdR w_ 0 w.heap.size Ai (li : List Bool)) ∧ (RdR w_ 0 w.heap.size Au (lu : List Bool)) ∧ (Bx w_ (w.heap.size) [.slice Ag0 g.ow.length cg0, .slice Ag1 g.pr.length cg1, .slice Ag2 g.mv.length cg2] 25) ∧ (OwnR w_ (Sx (w1.heap.size) []) aE aG 4 (aa : List Bool)) ∧ (0 ≤ k) ∧ (k ≤ (g.ow.length : Int)) ∧ (AndT g li lu aa k) ∧ (aa.length = g.ow.length) ∧ (w1.heap.size ≤ w_.heap.size)) _ ⟨0, (List.replicate (((g.ow.length : Nat) : Int) : Int).toNat (false : Bool) : List Bool), some ⟨w1.heap.size, 0, none⟩, (((g.ow.length : Nat) : Int) : Int).toNat, rfl, cX, e0, r8, r9, bV, bM, bW, (by omega), (by omega), and_0, List.length_replicate, (by omega)⟩ ?_
 clear cX cW; clear r8; clear r9; clear bV; clear bM; clear bW; clear e0
 intro m_ fT cE ⟨k, aa, aE, aG, hm41, cY, aP, aV, aQ, aR, aS, aF, i48, i49, hxa, i50, i51⟩
 have := aP.size; have := aS.lt
 refine wp_seq ?_
 refine wp_seq ?_
 refine At.start ?_
 refine At.rd cY 3 [[], [], []] [(22, .bool (decide ((k : Int) < ((g.ow.length : Nat) : Int)))), (21, .int .i64 (((g.ow.length : Nat) : Int))), (20, .int .i64 (k))] [] (by kernel_rfl) trivial (fun fU bE => ?_)
 clear cY
 refine At.done rfl ?_
 refine t_n ?_
 refine cond_S bE (t := decide ((k : Int) < ((g.ow.length : Nat) : Int))) rfl (fun cF => ?_) (fun cF => ?_)
 ·have fV := of_decide_eq_true cF
  refine wp_skip ?_
  refine t_n ?_
  refine wp_seq ?_
  refine wp_block ?_
  refine At.start ?_
  obtain ⟨aW, cZ, fW, dA, fX⟩ := aQ.get (k) (by omega) (by omega) (sz := 1) rfl
  rcases Bool.eq_false_or_eq_true (gB li k) with cG | cG
  ·obtain ⟨bX, eL, fY, eM, fZ⟩ := aR.get (k) (by omega) (by omega) (sz := 1) rfl
   obtain ⟨bY, dB, gA, gC, gD⟩ := aF.get (k) (by omega) (by omega) (sz := 1) rfl
   refine At.rd bE 13 [[], [], [], [], [.ad aW], [.ld (.bool (gB li k))], [.as_ (.bool true)], [], [], [.ad bX], [.ld (.bool (gB lu k))], [], [.ad bY]] [(37, .pointer (some (bY.add ((k : Int).toNat * 1)))), (36, .bool (gB lu k)), (35, .bool (gB lu k)), (34, .pointer (some (bX.add ((k : Int).toNat * 1)))), (33, .int .i64 (k)), (32, .slice Au lu.length cu), (31, .bool true), (30, .bool (gB li k)), (29, .pointer (some (aW.add ((k : Int).toNat * 1)))), (28, .int .i64 (k)), (27, .slice Ai li.length ci), (26, .int .i64 (k)), (25, .slice aE aa.length aG)] [(Ai = some aW), (0 ≤ (k : Int)), ((k : Int) < (li.length : Nat)), (cE.cell? (aW.add ((k : Int).toNat * 1)) = some (.bool (gB li k))), ((.bool (gB li k) : Value) = .bool true), (Au = some bX), (0 ≤ (k : Int)), ((k : Int) < (lu.length : Nat)), (cE.cell? (bX.add ((k : Int).toNat * 1)) = some (.bool (gB lu k))), (aE = some bY), (0 ≤ (k : Int)), ((k : Int) < (aa.length : Nat))] (by kernel_rfl) ⟨cZ, (by omega), (by omega), dA, (congrArg Value.bool cG), eL, (by omega), (by omega), eM, dB, (by omega), (by omega), trivial⟩ (fun gE dC => ?_)
   clear bE
   refine At.act dC (storeR (α := Bool) (t := 4) (i := k) (ad := bY) (v := .bool (gB lu k)) (gB lu k) (by kernel_rfl) rfl rfl (by kernel_rfl) dB aF (by omega) (by omega)) ?_
   rintro d_ v_ gF ⟨rfl, bF, eN⟩
   refine ⟨_, rfl, fun gG dD => ?_⟩
   clear dC; have gH : ((aa).set (k : Int).toNat (gB lu k)).length = (aa).length := List.length_set; have := bF.size; replace aP := aP.gr bF (fun k hk => by have := aF.ge k hk; omega); replace aV := aV.gr bF (fun k hk => by have := aF.ge k hk; omega); replace aQ := aQ.gr bF (fun k hk => by have := aF.ge k hk; omega); replace aR := aR.gr bF (fun k hk => by have := aF.ge k hk; omega)
   replace aS := aS.gr bF (fun e => by have := aF.ge _ e; omega); clear aF bF
   refine At.done rfl ?_
   refine b_n ?_
   refine t_n ?_
   refine At.start ?_
   refine At.rd dD 3 [[], [.as_ (.int .i64 (k + 1))], []] [(11, .int .i64 (k + 1)), (24, .int .i64 (k + 1)), (23, .int .i64 (k))] [((.int .i64 (IntKind.i64.wrap (k + 1)) : Value) = .int .i64 (k + 1))] (by kernel_rfl) ⟨(w64 (by omega) (by omega)), trivial⟩ (fun gI dE => ?_)
   clear dD
   refine At.done rfl ?_
   refine t_n ?_
   have eO := dE.as 10 (.slice aE aa.length aG) (.slice aE (((aa).set (k : Int).toNat (gB lu k) : List Bool).length) aG) rfl (slice_len (by first | (simp only [List.length_set]; done) | rfl | omega | (simp; done) | (simp; omega)))
   clear dE
   have eP := eO.sub (r := [(11, .int .i64 (k + 1)), (10, .slice aE (((aa).set (k : Int).toNat (gB lu k) : List Bool).length) aG), (9, .int .i64 (((g.ow.length : Nat) : Int))), (8, .slice none 0 0), (4, .pointer (some ⟨w.heap.size, 0, none⟩)), (1, .slice Ai li.length ci), (2, .int .i64 (p)), (3, .slice Au lu.length cu)]) ⟨rfl, rfl, rfl, rfl, rfl, rfl, rfl, rfl, trivial⟩
   exact ⟨_, (by omega), (k + 1), ((aa).set (k : Int).toNat (gB lu k) : List Bool), aE, aG, rfl, eP, aP, aV, aQ, aR, aS, eN, (by omega), (by omega), (and_next hxa (by omega) (by omega) (by simp_all)), (by rw [List.length_set]; assumption), (by omega)⟩
  obtain ⟨bZ, dF, gJ, gK, gL⟩ := aF.get (k) (by omega) (by omega) (sz := 1) rfl
  refine At.rd bE 13 [[], [], [], [], [.ad aW], [.ld (.bool (gB li k))], [.as_ (.bool false)], [], [], [], [], [], [.ad bZ]] [(37, .pointer (some (bZ.add ((k : Int).toNat * 1)))), (36, .bool false), (35, undef), (34, undef), (33, undef), (32, undef), (31, .bool false), (30, .bool (gB li k)), (29, .pointer (some (aW.add ((k : Int).toNat * 1)))), (28, .int .i64 (k)), (27, .slice Ai li.length ci), (26, .int .i64 (k)), (25, .slice aE aa.length aG)] [(Ai = some aW), (0 ≤ (k : Int)), ((k : Int) < (li.length : Nat)), (cE.cell? (aW.add ((k : Int).toNat * 1)) = some (.bool (gB li k))), ((.bool (gB li k) : Value) = .bool false), (aE = some bZ), (0 ≤ (k : Int)), ((k : Int) < (aa.length : Nat))] (by kernel_rfl) ⟨cZ, (by omega), (by omega), dA, (congrArg Value.bool cG), dF, (by omega), (by omega), trivial⟩ (fun gM dG => ?_)
  clear bE
  refine At.act dG (storeR (α := Bool) (t := 4) (i := k) (ad := bZ) (v := .bool false) (false) (by kernel_rfl) rfl rfl (by kernel_rfl) dF aF (by omega) (by omega)) ?_
  rintro d_ v_ gN ⟨rfl, bG, eQ⟩
  refine ⟨_, rfl, fun gO dH => ?_⟩
  clear dG; have gP : ((aa).set (k : Int).toNat false).length = (aa).length := List.length_set; have := bG.size; replace aP := aP.gr bG (fun k hk => by have := aF.ge k hk; omega); replace aV := aV.gr bG (fun k hk => by have := aF.ge k hk; omega); replace aQ := aQ.gr bG (fun k hk => by have := aF.ge k hk; omega); replace aR := aR.gr bG (fun k hk => by have := aF.ge k hk; omega)
  replace aS := aS.gr bG (fun e => by have := aF.ge _ e; omega); clear aF bG
  refine At.done rfl ?_
  refine b_n ?_
  refine t_n ?_
  refine At.start ?_
  refine At.rd dH 3 [[], [.as_ (.int .i64 (k + 1))], []] [(11, .int .i64 (k + 1)), (24, .int .i64 (k + 1)), (23, .int .i64 (k))] [((.int .i64 (IntKind.i64.wrap (k + 1)) : Value) = .int .i64 (k + 1))] (by kernel_rfl) ⟨(w64 (by omega) (by omega)), trivial⟩ (fun gQ dI => ?_)
  clear dH
  refine At.done rfl ?_
  refine t_n ?_
  have eR := dI.as 10 (.slice aE aa.length aG) (.slice aE (((aa).set (k : Int).toNat false : List Bool).length) aG) rfl (slice_len (by first | (simp only [List.length_set]; done) | rfl | omega | (simp; done) | (simp; omega)))
  clear dI
  have eS := eR.sub (r := [(11, .int .i64 (k + 1)), (10, .slice aE (((aa).set (k : Int).toNat false : List Bool).length) aG), (9, .int .i64 (((g.ow.length : Nat) : Int))), (8, .slice none 0 0), (4, .pointer (some ⟨w.heap.size, 0, none⟩)), (1, .slice Ai li.length ci), (2, .int .i64 (p)), (3, .slice Au lu.length cu)]) ⟨rfl, rfl, rfl, rfl, rfl, rfl, rfl, rfl, trivial⟩
  exact ⟨_, (by omega), (k + 1), ((aa).set (k : Int).toNat false : List Bool), aE, aG, rfl, eS, aP, aV, aQ, aR, aS, eQ, (by omega), (by omega), (and_next hxa (by omega) (by omega) (by simp_all)), (by rw [List.length_set]; assumption), (by omega)⟩
 have gR := of_decide_eq_false cF
 refine wp_exit ?_
 refine t_e ?_
 clear hm41
 refine t_e ?_
 refine b_e ?_
 refine t_n ?_
 refine wp_seq ?_
 refine wp_seq ?_
 have hRf : RefT g li p lu aa := and_ref hli hlu hxa (by omega)
 refine At.start ?_
 refine At.rd bE 1 [[]] [(12, .bool true)] [] (by kernel_rfl) trivial (fun gS dJ => ?_)
 clear bE
 refine At.done rfl ?_
 refine t_n ?_
 refine wp_block ?_
 have dK := dJ.as 10 (.slice aE aa.length aG) (.slice aE ((aa : List Bool).length) aG) rfl (slice_len (by first | rfl | omega | (simp; done) | (simp; omega))); clear dJ
 have dL := dK.sub (r := [(10, .slice aE ((aa : List Bool).length) aG), (12, .bool true), (9, .int .i64 (((g.ow.length : Nat) : Int))), (8, .slice none 0 0), (4, .pointer (some ⟨w.heap.size, 0, none⟩)), (1, .slice Ai li.length ci), (2, .int .i64 (p))]) ⟨rfl, rfl, rfl, rfl, rfl, rfl, rfl, trivial⟩
 refine loop_g (fun (m_ : Nat) a_ w_ => ∃ (m : Bool) (ab : List Bool) (aC : Option Addr) (aD : Nat), m_ = (2 * ((g.ow.length : Int) - cT ab 256) + (if m = true then 1 else 0)).toNat ∧ (Frm 76 a_ [(10, .slice aC ab.length aD), (12, .bool (m)), (9, .int .i64 (((g.ow.length : Nat) : Int))), (8, .slice none 0 0), (4, .pointer (some ⟨w.heap.size, 0, none⟩)), (1, .slice Ai li.length ci), (2, .int .i64 (p))]) ∧ (Ext w w_) ∧ (RdG w_ 0 w.heap.size Ag0 Ag1 Ag2 cg0 cg1 cg2 g) ∧ (RdR w_ 0 w.heap.size Ai (li : List Bool)) ∧ (RdR w_ 0 w.heap.size Au (lu : List Bool)) ∧ (Bx w_ (w.heap.size) [.slice Ag0 g.ow.length cg0, .slice Ag1 g.pr.length cg1, .slice Ag2 g.mv.length cg2] 25) ∧ (OwnR w_ (Sx (w1.heap.size) []) aC aD 4 (ab : List Bool)) ∧ (RefT g li p lu ab) ∧ (RefF g li p ab m) ∧ (ab.length = g.ow.length) ∧ (w1.heap.size ≤ w_.heap.size)) _ ⟨true, (aa : List Bool), aE, aG, rfl, dL, aP, aV, aQ, aR, aS, aF, hRf, (fun h_ => by cases h_), (by omega), (by omega)⟩ ?_
 clear dL dK; clear aV; clear aQ; clear aR; clear aS; clear aF; clear aP
 intro m_ gT aL ⟨m, ab, aC, aD, hm123, dM, aX, bN, bO, bP, aY, aM, hrf, hrF, i130, i131⟩
 have := aX.size; have := aY.lt
 refine wp_seq ?_
 refine wp_seq ?_
 refine At.start ?_
 refine At.rd dM 1 [[]] [(38, .bool (m))] [] (by kernel_rfl) trivial (fun gU bR => ?_)
 clear dM
 refine At.done rfl ?_
 refine t_n ?_
 refine cond_S bR (t := m) rfl (fun eT => ?_) (fun eT => ?_)
 ·refine wp_skip ?_
  refine t_n ?_
  refine wp_block ?_
  refine wp_seq ?_
  refine At.start ?_
  refine At.rd bR 1 [[]] [(12, .bool false)] [] (by kernel_rfl) trivial (fun gV dN => ?_)
  clear bR
  refine At.done rfl ?_
  refine t_n ?_
  refine wp_seq ?_
  refine At.start ?_
  refine At.seq dN 1 [[]] [(39, .slice (some ⟨aL.heap.size, 0, none⟩) 0 0)] (aL.alloc (.cells #[] 4 (0, 0))) [] (by kernel_rfl) trivial (fun gW cH cI dO => ?_)
  clear dN; have aZ := gr_alloc cI; have := aZ.size; replace aX := aX.gn aZ; replace bN := bN.gn aZ; replace bO := bO.gn aZ; replace bP := bP.gn aZ; replace aY := aY.gn aZ; replace aM := aM.grN aZ; have cJ : Bx cH (aL.heap.size) [] 4 := Bx.new cI; have := cJ.lt; clear aZ cI
  refine At.rd dO 1 [[]] [(40, .slice aC ab.length aD)] [] (by kernel_rfl) trivial (fun gX dP => ?_)
  clear dO
  have bH : OwnR cH (Sx (aL.heap.size) [obk (aC)]) (some ⟨aL.heap.size, 0, none⟩) 0 4 ([] : List Bool) := Bx.own0 cJ ⟨(aM.neb (fun g hs => hs.1)), (Nat.le_refl _)⟩
  clear cJ; have eU : (([] : List Bool) ++ ab).length = (([] : List Bool)).length + (ab : List Bool).length := List.length_append
  simp only [List.length_cons, List.length_nil] at eU
  refine At.act dP (appendR (α := Bool) (t := 83) (d := 41) (n := 0) (m := ab.length) (cc := aD) (xs := []) (ys := ab) (bytes := 1) (by first | rfl | omega | (simp; done) | (simp; omega)) (by first | rfl | omega | (simp; done) | (simp; omega)) (by kernel_rfl) rfl (by kernel_rfl) bH aM.src (by simp only [List.length_cons, List.length_nil]; omega) (by simp only [List.length_cons, List.length_nil]; omega)) ?_
  rintro d_ v_ dQ ⟨rfl, bI, bQ, bS⟩
  obtain rfl := bS.val
  have bA := bS.gr
  refine ⟨_, rfl, fun gY dR => ?_⟩
  clear dP; have cA := bS.own (Sx (aL.heap.size) [obk (aC)]) (fun g _ hs => ⟨hs.1, hs.2⟩) ⟨aM.ne_new, (show aL.heap.size ≤ cH.heap.size by omega)⟩; have := bA.size; replace aX := aX.gr bA (fun k hk => by have := bH.ge k hk; omega); replace bN := bN.gr bA (fun k hk => by have := bH.ge k hk; omega); replace bO := bO.gr bA (fun k hk => by have := bH.ge k hk; omega)
  replace bP := bP.gr bA (fun k hk => by have := bH.ge k hk; omega); replace aY := aY.gr bA (fun e => by have := bH.ge _ e; omega); replace aM : OwnR dQ (Sx (w1.heap.size) [obk (bI)]) aC aD 4 (ab : List Bool) := aM.grA bA (fun k hk => hk.1) (fun k hk hs => ⟨own_repl bS.at_ hs.1 hk, hs.2⟩); clear bH bA bS; replace cA : OwnR dQ (Sx (aL.heap.size) [obk (aC)]) bI bQ 4 (ab : List Bool) := cA
  refine At.rd dR 1 [[]] [(13, .slice bI ((([] : List Bool) ++ ab).length) bQ)] [] (by kernel_rfl) trivial (fun gZ dS => ?_)
  clear dR
  refine At.done rfl ?_
  refine t_n ?_
  refine wp_seq ?_
  refine wp_seq ?_
  refine At.start ?_
  refine At.rd dS 1 [[]] [(14, .int .i64 (0))] [] (by kernel_rfl) trivial (fun hA dT => ?_)
  clear dS
  refine At.done rfl ?_
  refine t_n ?_
  refine wp_block ?_
  have dU := dT.as 13 (.slice bI ((([] : List Bool) ++ ab).length) bQ) (.slice bI ((ab : List Bool).length) bQ) rfl (slice_len (by first | rfl | omega | (simp; done) | (simp; omega)))
  clear dT
  have dV := dU.sub (r := [(14, .int .i64 (0)), (12, .bool false), (13, .slice bI ((ab : List Bool).length) bQ), (10, .slice aC ab.length aD), (9, .int .i64 (((g.ow.length : Nat) : Int))), (8, .slice none 0 0), (4, .pointer (some ⟨w.heap.size, 0, none⟩)), (1, .slice Ai li.length ci), (2, .int .i64 (p))]) ⟨rfl, rfl, rfl, rfl, rfl, rfl, rfl, rfl, rfl, trivial⟩
  refine loop_g (fun (m_ : Nat) a_ w_ => ∃ (kk : Int) (m2 : Bool) (nx : List Bool) (aA : Option Addr) (aB : Nat), m_ = ((g.ow.length : Int) - kk).toNat ∧ (Frm 76 a_ [(14, .int .i64 (kk)), (12, .bool (m2)), (13, .slice aA nx.length aB), (10, .slice aC ab.length aD), (9, .int .i64 (((g.ow.length : Nat) : Int))), (8, .slice none 0 0), (4, .pointer (some ⟨w.heap.size, 0, none⟩)), (1, .slice Ai li.length ci), (2, .int .i64 (p))]) ∧ (Ext w w_) ∧ (RdG w_ 0 w.heap.size Ag0 Ag1 Ag2 cg0 cg1 cg2 g) ∧ (RdR w_ 0 w.heap.size Ai (li : List Bool)) ∧ (RdR w_ 0 w.heap.size Au (lu : List Bool)) ∧ (Bx w_ (w.heap.size) [.slice Ag0 g.ow.length cg0, .slice Ag1 g.pr.length cg1, .slice Ag2 g.mv.length cg2] 25) ∧ (OwnR w_ (Sx (w1.heap.size) [obk (aA)]) aC aD 4 (ab : List Bool)) ∧ (OwnR w_ (Sx (aL.heap.size) [obk (aC)]) aA aB 4 (nx : List Bool)) ∧ (0 ≤ kk) ∧ (kk ≤ (g.ow.length : Int)) ∧ (RefK g li p ab nx m2 kk) ∧ (nx.length = g.ow.length) ∧ (w1.heap.size ≤ w_.heap.size) ∧ (aL.heap.size ≤ w_.heap.size)) _ ⟨0, false, (ab : List Bool), bI, bQ, rfl, dV, aX, bN, bO, bP, aY, aM, cA, (by omega), (by omega), (refK_0 hrf), (by simpa using hrf.len), (by omega), (by omega)⟩ ?_
  clear dV dU; clear bN; clear bO; clear bP; clear aY; clear aM; clear cA; clear aX
  intro m_ hB bJ ⟨kk, m2, nx, aA, aB, hm181, dW, aN, aO, aJ, aT, aI, aK, aH, i189, i190, hrk, i191, i192, i193⟩
  have := aN.size; have := aI.lt
  refine wp_seq ?_
  refine wp_seq ?_
  refine At.start ?_
  refine At.rd dW 3 [[], [], []] [(44, .bool (decide ((kk : Int) < ((g.ow.length : Nat) : Int)))), (43, .int .i64 (((g.ow.length : Nat) : Int))), (42, .int .i64 (kk))] [] (by kernel_rfl) trivial (fun hC bK => ?_)
  clear dW
  refine At.done rfl ?_
  refine t_n ?_
  refine cond_S bK (t := decide ((kk : Int) < ((g.ow.length : Nat) : Int))) rfl (fun cK => ?_) (fun cK => ?_)
  ·have hD := of_decide_eq_true cK
   refine wp_skip ?_
   refine t_n ?_
   refine wp_seq ?_
   refine wp_block ?_
   refine wp_seq ?_
   refine At.start ?_
   obtain ⟨bB, dX, hE, dY, hF⟩ := aJ.get (kk) (by omega) (by omega) (sz := 1) rfl
   rcases Bool.eq_false_or_eq_true (gB li kk) with cL | cL
   ·obtain ⟨bT, eV, hH, eW, hI⟩ := aK.get (kk) (by omega) (by omega) (sz := 1) rfl
    refine At.rd bK 11 [[], [], [.ad bB], [.ld (.bool (gB li kk))], [.as_ (.bool true)], [], [], [.ad bT], [.ld (.bool (gB ab kk))], [], []] [(57, .bool (!(gB ab kk))), (56, .bool (!(gB ab kk))), (55, .bool (gB ab kk)), (54, .pointer (some (bT.add ((kk : Int).toNat * 1)))), (53, .int .i64 (kk)), (52, .slice aC ab.length aD), (51, .bool true), (50, .bool (gB li kk)), (49, .pointer (some (bB.add ((kk : Int).toNat * 1)))), (48, .int .i64 (kk)), (47, .slice Ai li.length ci)] [(Ai = some bB), (0 ≤ (kk : Int)), ((kk : Int) < (li.length : Nat)), (bJ.cell? (bB.add ((kk : Int).toNat * 1)) = some (.bool (gB li kk))), ((.bool (gB li kk) : Value) = .bool true), (aC = some bT), (0 ≤ (kk : Int)), ((kk : Int) < (ab.length : Nat)), (bJ.cell? (bT.add ((kk : Int).toNat * 1)) = some (.bool (gB ab kk)))] (by kernel_rfl) ⟨dX, (by omega), (by omega), dY, (congrArg Value.bool cL), eV, (by omega), (by omega), eW, trivial⟩ (fun hJ bU => ?_)
    clear bK
    refine At.done rfl ?_
    refine t_n ?_
    refine cond_S bU (t := !(gB ab kk)) rfl (fun bL => ?_) (fun bL => ?_)
    ·have hK : (gB ab kk) = false := by first | exact Eq.mp (Bool.not_eq_true' _) bL | exact Eq.mp (Bool.not_eq_false' _) bL | simpa using bL
     refine wp_seq ?_
     refine At.start ?_
     refine At.rd bU 7 [[], [], [.ld (.slice Ag0 g.ow.length cg0), .ld (.slice Ag1 g.pr.length cg1), .ld (.slice Ag2 g.mv.length cg2)], [], [], [], []] [(64, .int .i64 (kk)), (63, .slice aC ab.length aD), (62, .int .i64 (p)), (61, .slice Ai li.length ci), (60, .agg #[.slice Ag0 g.ow.length cg0, .slice Ag1 g.pr.length cg1, .slice Ag2 g.mv.length cg2]), (59, .int .i64 (kk)), (58, .slice aA nx.length aB)] [(bJ.cell? ⟨w.heap.size, 0, none⟩ = some (.slice Ag0 g.ow.length cg0)), (bJ.cell? ⟨w.heap.size, 1, none⟩ = some (.slice Ag1 g.pr.length cg1)), (bJ.cell? ⟨w.heap.size, 2, none⟩ = some (.slice Ag2 g.mv.length cg2))] (by kernel_rfl) ⟨(aI.cell (i := 0) rfl), (aI.cell (i := 1) rfl), (aI.cell (i := 2) rfl), trivial⟩ (fun hL dZ => ?_)
     clear bU
     refine At.call dZ 61 #[.agg #[.slice Ag0 g.ow.length cg0, .slice Ag1 g.pr.length cg1, .slice Ag2 g.mv.length cg2], .slice Ai li.length ci, .int .i64 (p), .slice aC ab.length aD, .int .i64 (kk)] (some 65) (by kernel_rfl) (step12_any (g := g) (li := li) (la := ab) (p := p) (i := kk) (aO.wide (Nat.zero_le _) (by omega)) (aJ.wide (Nat.zero_le _) (by omega)) ((aK.rdR (by simp only [Enc.bytes]; omega)).wide (Nat.zero_le _) (by omega)) hG (by omega) (by omega) (by omega) (by omega)) ?_
     rintro e_ hM ⟨rfl, he⟩
     refine ⟨_, rfl, _, rfl, fun hN eA => ?_⟩
     clear dZ; have aU := gr_ext he; have := aU.size; replace aN := aN.gn aU; replace aO := aO.gn aU; replace aJ := aJ.gn aU; replace aT := aT.gn aU; replace aI := aI.gn aU; replace aK := aK.gn aU; replace aH := aH.gn aU; clear aU he
     obtain ⟨cB, eB, hO, hP, hQ⟩ := aH.get (kk) (by omega) (by omega) (sz := 1) rfl
     refine At.rd eA 1 [[.ad cB]] [(66, .pointer (some (cB.add ((kk : Int).toNat * 1))))] [(aA = some cB), (0 ≤ (kk : Int)), ((kk : Int) < (nx.length : Nat))] (by kernel_rfl) ⟨eB, (by omega), (by omega), trivial⟩ (fun hS eC => ?_)
     clear eA
     refine At.act eC (storeR (α := Bool) (t := 4) (i := kk) (ad := cB) (v := .bool (stpB g li p ab kk)) (stpB g li p ab kk) (by kernel_rfl) rfl rfl (by kernel_rfl) eB aH (by omega) (by omega)) ?_
     rintro d_ v_ eX ⟨rfl, bC, cM⟩
     refine ⟨_, rfl, fun hT cC => ?_⟩
     clear eC; have hU : ((nx).set (kk : Int).toNat (stpB g li p ab kk)).length = (nx).length := List.length_set; have := bC.size; replace aN := aN.gr bC (fun k hk => by have := aH.ge k hk; omega); replace aO := aO.gr bC (fun k hk => by have := aH.ge k hk; omega); replace aJ := aJ.gr bC (fun k hk => by have := aH.ge k hk; omega); replace aT := aT.gr bC (fun k hk => by have := aH.ge k hk; omega)
     replace aI := aI.gr bC (fun e => by have := aH.ge _ e; omega); replace aK := aK.gr bC (fun k hk => hk.1); clear aH bC
     refine At.done rfl ?_
     refine t_n ?_
     have hgs : gB (nx.set (kk : Int).toNat (stpB g li p ab kk)) kk = stpB g li p ab kk := by rw [gB_setL (by omega) (by omega) (by omega), if_pos rfl]
     refine At.start ?_
     rcases Bool.eq_false_or_eq_true (m2) with cN | cN
     ·refine At.rd cC 8 [[], [.as_ (.bool true)], [], [], [], [], [], []] [(12, .bool true), (73, .bool true), (72, undef), (71, undef), (70, undef), (69, undef), (68, .bool true), (67, .bool (m2))] [((.bool (m2) : Value) = .bool true)] (by kernel_rfl) ⟨(congrArg Value.bool cN), trivial⟩ (fun hV eD => ?_)
      clear cC
      refine At.done rfl ?_
      refine b_n ?_
      refine t_n ?_
      have eE := eD.sub (r := [(12, .bool true), (56, .bool (!(gB ab kk))), (55, .bool (gB ab kk)), (54, .pointer (some (bT.add ((kk : Int).toNat * 1)))), (53, .int .i64 (kk)), (52, .slice aC ab.length aD), (14, .int .i64 (kk)), (13, .slice aA nx.length aB), (10, .slice aC ab.length aD), (9, .int .i64 (((g.ow.length : Nat) : Int))), (8, .slice none 0 0), (4, .pointer (some ⟨w.heap.size, 0, none⟩)), (1, .slice Ai li.length ci), (2, .int .i64 (p))]) ⟨rfl, rfl, rfl, rfl, rfl, rfl, rfl, rfl, rfl, rfl, rfl, rfl, rfl, rfl, trivial⟩
      clear eD
      refine At.start ?_
      refine At.rd eE 3 [[], [.as_ (.int .i64 (kk + 1))], []] [(14, .int .i64 (kk + 1)), (46, .int .i64 (kk + 1)), (45, .int .i64 (kk))] [((.int .i64 (IntKind.i64.wrap (kk + 1)) : Value) = .int .i64 (kk + 1))] (by kernel_rfl) ⟨(w64 (by omega) (by omega)), trivial⟩ (fun hW eF => ?_)
      clear eE
      refine At.done rfl ?_
      refine t_n ?_
      have eY := eF.as 13 (.slice aA nx.length aB) (.slice aA (((nx).set (kk : Int).toNat (stpB g li p ab kk) : List Bool).length) aB) rfl (slice_len (by first | (simp only [List.length_set]; done) | rfl | omega | (simp; done) | (simp; omega)))
      clear eF
      have eZ := eY.sub (r := [(14, .int .i64 (kk + 1)), (12, .bool true), (13, .slice aA (((nx).set (kk : Int).toNat (stpB g li p ab kk) : List Bool).length) aB), (10, .slice aC ab.length aD), (9, .int .i64 (((g.ow.length : Nat) : Int))), (8, .slice none 0 0), (4, .pointer (some ⟨w.heap.size, 0, none⟩)), (1, .slice Ai li.length ci), (2, .int .i64 (p))]) ⟨rfl, rfl, rfl, rfl, rfl, rfl, rfl, rfl, rfl, trivial⟩
      exact ⟨_, (by omega), (kk + 1), true, ((nx).set (kk : Int).toNat (stpB g li p ab kk) : List Bool), aA, aB, rfl, eZ, aN, aO, aJ, aT, aI, aK, cM, (by omega), (by omega), (refK_put hrk (by omega) (by omega) (by assumption) (by assumption) (by simp_all)), (by rw [List.length_set]; assumption), (by omega), (by omega)⟩
     obtain ⟨cD, fA, hX, fB, hY⟩ := cM.get (kk) (by omega) (by omega) (sz := 1) rfl
     refine At.rd cC 8 [[], [.as_ (.bool false)], [], [], [.ad cD], [.ld (.bool (gB ((nx).set (kk : Int).toNat (stpB g li p ab kk)) kk))], [], []] [(12, .bool (gB ((nx).set (kk : Int).toNat (stpB g li p ab kk)) kk)), (73, .bool (gB ((nx).set (kk : Int).toNat (stpB g li p ab kk)) kk)), (72, .bool (gB ((nx).set (kk : Int).toNat (stpB g li p ab kk)) kk)), (71, .pointer (some (cD.add ((kk : Int).toNat * 1)))), (70, .int .i64 (kk)), (69, .slice aA nx.length aB), (68, .bool false), (67, .bool (m2))] [((.bool (m2) : Value) = .bool false), (aA = some cD), (0 ≤ (kk : Int)), ((kk : Int) < (nx.length : Nat)), (eX.cell? (cD.add ((kk : Int).toNat * 1)) = some (.bool (gB ((nx).set (kk : Int).toNat (stpB g li p ab kk)) kk)))] (by kernel_rfl) ⟨(congrArg Value.bool cN), fA, (by omega), (by omega), fB, trivial⟩ (fun hZ eG => ?_)
     clear cC
     refine At.done rfl ?_
     refine b_n ?_
     refine t_n ?_
     refine At.start ?_
     refine At.rd eG 3 [[], [.as_ (.int .i64 (kk + 1))], []] [(14, .int .i64 (kk + 1)), (46, .int .i64 (kk + 1)), (45, .int .i64 (kk))] [((.int .i64 (IntKind.i64.wrap (kk + 1)) : Value) = .int .i64 (kk + 1))] (by kernel_rfl) ⟨(w64 (by omega) (by omega)), trivial⟩ (fun iA eH => ?_)
     clear eG
     refine At.done rfl ?_
     refine t_n ?_
     have fC := eH.as 13 (.slice aA nx.length aB) (.slice aA (((nx).set (kk : Int).toNat (stpB g li p ab kk) : List Bool).length) aB) rfl (slice_len (by first | (simp only [List.length_set]; done) | rfl | omega | (simp; done) | (simp; omega)))
     clear eH
     have fD := fC.sub (r := [(14, .int .i64 (kk + 1)), (12, .bool (gB ((nx).set (kk : Int).toNat (stpB g li p ab kk)) kk)), (13, .slice aA (((nx).set (kk : Int).toNat (stpB g li p ab kk) : List Bool).length) aB), (10, .slice aC ab.length aD), (9, .int .i64 (((g.ow.length : Nat) : Int))), (8, .slice none 0 0), (4, .pointer (some ⟨w.heap.size, 0, none⟩)), (1, .slice Ai li.length ci), (2, .int .i64 (p))]) ⟨rfl, rfl, rfl, rfl, rfl, rfl, rfl, rfl, rfl, trivial⟩
     exact ⟨_, (by omega), (kk + 1), (gB ((nx).set (kk : Int).toNat (stpB g li p ab kk)) kk), ((nx).set (kk : Int).toNat (stpB g li p ab kk) : List Bool), aA, aB, rfl, fD, aN, aO, aJ, aT, aI, aK, cM, (by omega), (by omega), (refK_put hrk (by omega) (by omega) (by assumption) (by assumption) (by simp_all)), (by rw [List.length_set]; assumption), (by omega), (by omega)⟩
    have iB : (gB ab kk) = true := by first | exact Eq.mp (Bool.not_eq_true' _) bL | exact Eq.mp (Bool.not_eq_false' _) bL | simpa using bL
    refine wp_skip ?_
    refine b_n ?_
    refine t_n ?_
    refine At.start ?_
    refine At.rd bU 3 [[], [.as_ (.int .i64 (kk + 1))], []] [(14, .int .i64 (kk + 1)), (46, .int .i64 (kk + 1)), (45, .int .i64 (kk))] [((.int .i64 (IntKind.i64.wrap (kk + 1)) : Value) = .int .i64 (kk + 1))] (by kernel_rfl) ⟨(w64 (by omega) (by omega)), trivial⟩ (fun iC eI => ?_)
    clear bU
    refine At.done rfl ?_
    refine t_n ?_
    have fE := eI.as 13 (.slice aA nx.length aB) (.slice aA ((nx : List Bool).length) aB) rfl (slice_len (by first | rfl | omega | (simp; done) | (simp; omega)))
    clear eI
    have fF := fE.sub (r := [(14, .int .i64 (kk + 1)), (12, .bool (m2)), (13, .slice aA ((nx : List Bool).length) aB), (10, .slice aC ab.length aD), (9, .int .i64 (((g.ow.length : Nat) : Int))), (8, .slice none 0 0), (4, .pointer (some ⟨w.heap.size, 0, none⟩)), (1, .slice Ai li.length ci), (2, .int .i64 (p))]) ⟨rfl, rfl, rfl, rfl, rfl, rfl, rfl, rfl, rfl, trivial⟩
    exact ⟨_, (by omega), (kk + 1), m2, (nx : List Bool), aA, aB, rfl, fF, aN, aO, aJ, aT, aI, aK, aH, (by omega), (by omega), (refK_skip hrk (by first | exact .inl (by assumption) | exact .inr (by assumption))), hrk.len, (by omega), (by omega)⟩
   refine At.rd bK 11 [[], [], [.ad bB], [.ld (.bool (gB li kk))], [.as_ (.bool false)], [], [], [], [], [], []] [(57, .bool false), (56, undef), (55, undef), (54, undef), (53, undef), (52, undef), (51, .bool false), (50, .bool (gB li kk)), (49, .pointer (some (bB.add ((kk : Int).toNat * 1)))), (48, .int .i64 (kk)), (47, .slice Ai li.length ci)] [(Ai = some bB), (0 ≤ (kk : Int)), ((kk : Int) < (li.length : Nat)), (bJ.cell? (bB.add ((kk : Int).toNat * 1)) = some (.bool (gB li kk))), ((.bool (gB li kk) : Value) = .bool false)] (by kernel_rfl) ⟨dX, (by omega), (by omega), dY, (congrArg Value.bool cL), trivial⟩ (fun iD cO => ?_)
   clear bK
   refine At.done rfl ?_
   refine t_n ?_
   refine cond_F cO rfl ?_
   refine wp_skip ?_
   refine b_n ?_
   refine t_n ?_
   refine At.start ?_
   refine At.rd cO 3 [[], [.as_ (.int .i64 (kk + 1))], []] [(14, .int .i64 (kk + 1)), (46, .int .i64 (kk + 1)), (45, .int .i64 (kk))] [((.int .i64 (IntKind.i64.wrap (kk + 1)) : Value) = .int .i64 (kk + 1))] (by kernel_rfl) ⟨(w64 (by omega) (by omega)), trivial⟩ (fun iE eJ => ?_)
   clear cO
   refine At.done rfl ?_
   refine t_n ?_
   have fG := eJ.as 13 (.slice aA nx.length aB) (.slice aA ((nx : List Bool).length) aB) rfl (slice_len (by first | rfl | omega | (simp; done) | (simp; omega)))
   clear eJ
   have fH := fG.sub (r := [(14, .int .i64 (kk + 1)), (12, .bool (m2)), (13, .slice aA ((nx : List Bool).length) aB), (10, .slice aC ab.length aD), (9, .int .i64 (((g.ow.length : Nat) : Int))), (8, .slice none 0 0), (4, .pointer (some ⟨w.heap.size, 0, none⟩)), (1, .slice Ai li.length ci), (2, .int .i64 (p))]) ⟨rfl, rfl, rfl, rfl, rfl, rfl, rfl, rfl, rfl, trivial⟩
   exact ⟨_, (by omega), (kk + 1), m2, (nx : List Bool), aA, aB, rfl, fH, aN, aO, aJ, aT, aI, aK, aH, (by omega), (by omega), (refK_skip hrk (by first | exact .inl (by assumption) | exact .inr (by assumption))), hrk.len, (by omega), (by omega)⟩
  have iF := of_decide_eq_false cK
  refine wp_exit ?_
  refine t_e ?_
  clear hm181
  refine t_e ?_
  refine b_e ?_
  refine t_n ?_
  have hrN := ref_next hn1 (fun i x a b hx => row_rng hR a b hx) hrf hrk (by omega); have hgr := ref_grow hn1 hrf hrk (by omega) (by omega); have hrG := ref_fin hrf hrk (by omega)
  refine At.start ?_
  refine At.rd bK 2 [[], []] [(10, .slice aA nx.length aB), (74, .slice aA nx.length aB)] [] (by kernel_rfl) trivial (fun iG eK => ?_)
  clear bK
  refine At.done rfl ?_
  refine b_n ?_
  refine t_n ?_
  have fI : OwnR bJ (Sx (w1.heap.size) []) aA aB 4 (nx : List Bool) := aH.imp (fun g _ hs => (by have := Sx_base hs; show w1.heap.size ≤ g; omega)); clear aH aK; have fJ := eK.as 10 (.slice aA nx.length aB) (.slice aA ((nx : List Bool).length) aB) rfl (slice_len (by first | rfl | omega | (simp; done) | (simp; omega))); clear eK
  have fK := fJ.sub (r := [(10, .slice aA ((nx : List Bool).length) aB), (12, .bool (m2)), (9, .int .i64 (((g.ow.length : Nat) : Int))), (8, .slice none 0 0), (4, .pointer (some ⟨w.heap.size, 0, none⟩)), (1, .slice Ai li.length ci), (2, .int .i64 (p))]) ⟨rfl, rfl, rfl, rfl, rfl, rfl, rfl, trivial⟩
  exact ⟨_, (by rw [hm123]; exact meas_dec (by assumption) hgr.1 hgr.2), m2, (nx : List Bool), aA, aB, rfl, fK, aN, aO, aJ, aT, aI, fI, hrN, hrG, hrN.len, (by omega)⟩
 refine wp_exit ?_
 refine t_e ?_
 clear hm123
 refine t_e ?_
 refine b_e ?_
 refine t_n ?_
 clear aY
 refine wp_seq ?_
 refine At.start ?_
 refine At.rd bR 2 [[], []] [(8, .slice aC ab.length aD), (75, .slice aC ab.length aD)] [] (by kernel_rfl) trivial (fun iH fL => ?_)
 clear bR
 refine At.done rfl ?_
 refine t_n ?_
 refine wp_ret ?_
 refine ret_ fL [] [.slice aC ab.length aD] [] (by kernel_rfl) trivial ?_
 exact ⟨aC, aD, _, rfl, aX, (aM.imp (fun g _ hs => by have := Sx_base hs; show w.heap.size ≤ g; omega)), hrf.len, ref_end hrf (by have e_ : m = false := (by assumption); rw [e_] at hrF; exact hrF)⟩

end Go.Proofs.Ytklbpajmoklheaa
