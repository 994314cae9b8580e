/-
  A walk of a Go function, printed by a program of this repo. Conditions: what the theorems name.
-/
import Derived.Test.YtplpgfcjjnaigaaDoorWShown13
import Derived.Test.YtplpgfcjjnaigaaDoorWDual
import Derived.Test.YtplpgfcjjnaigaaDoorWSame
import Derived.Test.YtplpgfcjjnaigaaDoorPureLaw13D
set_option linter.unusedVariables false
set_option linter.unusedSimpArgs false
namespace Go.Proofs.YtplpgfcjjnaigaaDoor
open Go Go.RowKit

attribute [local irreducible] ofZ fromW wordsD ofD ofW lsD lenW lenN fullW withW lessW hasW hasD inW inD leastD putD onI tzI orS andS minusS orD andD minusD fullD emptyD
set_option maxHeartbeats 4000000 in
theorem dual13_any {Ag0 Ag1 Ag2 : Option Addr} {cg0 cg1 cg2 : Nat} {g : GameL} {w : World} (rg : RdG w 0 w.heap.size Ag0 Ag1 Ag2 cg0 cg1 cg2 g) (rT : RdT w 0 w.heap.size) :
    Calls Tryd.prog 10 #[.agg #[.slice Ag0 g.ow.length cg0, .slice Ag1 g.pr.length cg1, .slice Ag2 g.mv.length cg2]] w fun e w' => e = .returned (.bool true) ∧ Ext w w' := by
 have hlg0 := rg.ow.len; have hlg1 := rg.pr.len; have hlg2 := rg.mv.len; have hkg0 := rg.k0; have hkg1 := rg.k1; have hkg2 := rg.k2
 refine enter_ (args := [.agg #[.slice Ag0 g.ow.length cg0, .slice Ag1 g.pr.length cg1, .slice Ag2 g.mv.length cg2]]) Tryd.func10 rfl Tryd.ntmps10 (Nat.le_of_ble_eq_true rfl) (fun act0 f0 => ?_)
 have e0 : Ext w w := Ext.refl w
 refine wp_seq ?_
 refine At.start ?_
 refine At.seq f0 1 [[]] [(1, .pointer (some ⟨w.heap.size, 0, none⟩))] (w.alloc (.cells #[.slice Ag0 g.ow.length cg0, .slice Ag1 g.pr.length cg1, .slice Ag2 g.mv.length cg2] 25 (0, 0))) [] (by kernel_rfl) trivial (fun act4 w1 hw2 f3 => ?_)
 clear f0; have g5 := gr_alloc hw2; have := g5.size; replace e0 := e0.gn g5; have r8 := rg.gn g5; clear rg; have r9 := rT.gn g5; clear rT; have aA : Bx w1 (w.heap.size) [.slice Ag0 g.ow.length cg0, .slice Ag1 g.pr.length cg1, .slice Ag2 g.mv.length cg2] 25 := Bx.new hw2; have := aA.lt; clear g5 hw2
 refine At.rd f3 1 [[]] [(2, .bool false)] [] (by kernel_rfl) trivial (fun dZ cN => ?_)
 clear f3
 refine At.done rfl ?_
 refine t_n ?_
 refine wp_seq ?_
 refine At.start ?_
 refine At.call cN 12 #[] (some 9) (by kernel_rfl) (shown13_any (r9.wide (Nat.zero_le _) (by omega))) ?_
 rintro e_ bX ⟨rfl, he⟩
 refine ⟨_, rfl, _, rfl, fun eA cO => ?_⟩
 clear cN; have bQ := gr_ext he; have := bQ.size; replace e0 := e0.gn bQ; replace r8 := r8.gn bQ; replace r9 := r9.gn bQ; replace aA := aA.gn bQ; clear bQ he
 refine At.rd cO 1 [[]] [(3, .bool true)] [] (by kernel_rfl) trivial (fun eB cP => ?_)
 clear cO
 refine At.done rfl ?_
 refine t_n ?_
 refine wp_seq ?_
 refine At.start ?_
 refine At.rd cP 1 [[.ld (.slice Ag0 g.ow.length cg0), .ld (.slice Ag1 g.pr.length cg1), .ld (.slice Ag2 g.mv.length cg2)]] [(10, .agg #[.slice Ag0 g.ow.length cg0, .slice Ag1 g.pr.length cg1, .slice Ag2 g.mv.length cg2])] [(bX.cell? ⟨w.heap.size, 0, none⟩ = some (.slice Ag0 g.ow.length cg0)), (bX.cell? ⟨w.heap.size, 1, none⟩ = some (.slice Ag1 g.pr.length cg1)), (bX.cell? ⟨w.heap.size, 2, none⟩ = some (.slice Ag2 g.mv.length cg2))] (by kernel_rfl) ⟨(aA.cell (i := 0) rfl), (aA.cell (i := 1) rfl), (aA.cell (i := 2) rfl), trivial⟩ (fun eC cQ => ?_)
 clear cP
 refine At.call cQ 29 #[.agg #[.slice Ag0 g.ow.length cg0, .slice Ag1 g.pr.length cg1, .slice Ag2 g.mv.length cg2]] (some 11) (by kernel_rfl) (dualM_any (g := g) (r8.wide (Nat.zero_le _) (by omega))) ?_
 rintro e_ aO ⟨aS, aT, bK, bL, bM, bN, rfl, he, cC, cD, cE⟩
 have hip37 := dual_inner (inner_len (RdG.mv (r8.wide (Nat.zero_le _) (by omega)))); have := dual_lens g
 have aB : RdG aO (bX.heap.size) aO.heap.size aS bK bM aT bL bN (dualG g) := ⟨(OwnR.rdR cC (by show _ * 8 ≤ _; omega)).rdI, (OwnR.rdR cD (by show _ * 8 ≤ _; omega)).rdI, OwnLLP.rdII cE (by omega) hip37, cC.cap, cD.cap, cE.cap⟩
 clear cC cD cE
 refine ⟨_, rfl, _, rfl, fun eD cR => ?_⟩
 clear cQ; have bR := gr_ext he; have := bR.size; replace e0 := e0.gn bR; replace r8 := r8.gn bR; replace r9 := r9.gn bR; replace aA := aA.gn bR; clear bR he
 refine At.seq cR 1 [[]] [(4, .pointer (some ⟨aO.heap.size, 0, none⟩))] (aO.alloc (.cells #[.slice none 0 0, .slice none 0 0, .slice none 0 0] 25 (0, 0))) [] (by kernel_rfl) trivial (fun eE dU cF cS => ?_)
 clear cR; have bO := gr_alloc cF; have := bO.size; replace e0 := e0.gn bO; replace r8 := r8.gn bO; replace r9 := r9.gn bO; replace aA := aA.gn bO; replace aB := aB.gn bO; have cG : Bx dU (aO.heap.size) [.slice none 0 0, .slice none 0 0, .slice none 0 0] 25 := Bx.new cF; have := cG.lt; clear bO cF
 refine At.store cS (t := 25) (b := aO.heap.size) (off := 0) (v := .agg #[.slice aS ((dualG g).ow.length) aT, .slice bK ((dualG g).pr.length) bL, .slice bM ((dualG g).mv.length) bN]) (by kernel_rfl) cG (by kernel_rfl) (fun eF aU bP aC cT => ?_)
 clear cS; replace aC : Bx aU (aO.heap.size) [.slice aS ((dualG g).ow.length) aT, .slice bK ((dualG g).pr.length) bL, .slice bM ((dualG g).mv.length) bN] 25 := aC; have := bP.size; replace e0 := e0.gr bP (fun k h => by injection h; omega); replace r8 := r8.gb bP (by omega); replace r9 := r9.gb bP (by omega); replace aA := aA.gb bP (by omega); replace aB := aB.gb bP (by omega); clear cG bP
 refine At.done rfl ?_
 refine t_n ?_
 refine wp_seq ?_
 refine wp_seq ?_
 refine At.start ?_
 refine At.rd cT 8 [[], [], [], [], [.ld (.slice aS ((dualG g).ow.length) aT)], [], [], []] [(19, .bool (((((dualG g).ow.length : Nat) : Int) : Int) == 0)), (18, .bool (((((dualG g).ow.length : Nat) : Int) : Int) == 0)), (17, .int .i64 ((((dualG g).ow.length : Nat) : Int))), (16, .slice aS ((dualG g).ow.length) aT), (15, .pointer (some ⟨aO.heap.size, 0, none⟩)), (14, .bool false), (13, .bool false), (12, .bool true)] [(aU.cell? ⟨aO.heap.size, 0, none⟩ = some (.slice aS ((dualG g).ow.length) aT))] (by kernel_rfl) ⟨(aC.cell (i := 0) rfl), trivial⟩ (fun eG bS => ?_)
 clear cT
 refine At.done rfl ?_
 refine t_n ?_
 refine cond_S bS (t := ((((dualG g).ow.length : Nat) : Int) : Int) == 0) rfl (fun cH => ?_) (fun cH => ?_)
 ·have eH := eq_of_beq cH
  refine wp_seq ?_
  refine At.start ?_
  refine At.rd bS 2 [[], []] [(2, .bool true), (20, .bool true)] [] (by kernel_rfl) trivial (fun eI dV => ?_)
  clear bS
  refine At.done rfl ?_
  refine t_n ?_
  clear aA; clear aC
  refine wp_ret ?_
  refine t_r ?_
  refine ret_ dV [] [.bool true] [] (by kernel_rfl) trivial ?_
  exact ⟨rfl, e0⟩
 have eJ := ne_of_beq_false cH
 refine wp_skip ?_
 refine t_n ?_
 refine wp_seq ?_
 have hnz_ : (dualG g).ow.length ≠ 0 := by omega
 refine At.start ?_
 refine At.rd bS 1 [[.ld (.slice Ag0 g.ow.length cg0), .ld (.slice Ag1 g.pr.length cg1), .ld (.slice Ag2 g.mv.length cg2)]] [(22, .agg #[.slice Ag0 g.ow.length cg0, .slice Ag1 g.pr.length cg1, .slice Ag2 g.mv.length cg2])] [(aU.cell? ⟨w.heap.size, 0, none⟩ = some (.slice Ag0 g.ow.length cg0)), (aU.cell? ⟨w.heap.size, 1, none⟩ = some (.slice Ag1 g.pr.length cg1)), (aU.cell? ⟨w.heap.size, 2, none⟩ = some (.slice Ag2 g.mv.length cg2))] (by kernel_rfl) ⟨(aA.cell (i := 0) rfl), (aA.cell (i := 1) rfl), (aA.cell (i := 2) rfl), trivial⟩ (fun eK cU => ?_)
 clear bS
 refine At.call cU 16 #[.agg #[.slice Ag0 g.ow.length cg0, .slice Ag1 g.pr.length cg1, .slice Ag2 g.mv.length cg2]] (some 23) (by kernel_rfl) (solve_any (g := g) (r8.wide (Nat.zero_le _) (by omega)) (r9.wide (Nat.zero_le _) (by omega))) ?_
 rintro e_ aD ⟨aV, bC, aW, bD, bT, bY, bU, bZ, la, lb, ma, mb, da, rfl, he, cV, cW, cX, cY, hsA⟩
 have hln_hsA := solve_lens hsA; have aJ : RdI aD (aU.heap.size) aD.heap.size aV la := (OwnR.rdR cV (by show _ * 8 ≤ _; omega)).rdI; clear cV; have aK : RdI aD (aU.heap.size) aD.heap.size aW lb := (OwnR.rdR cW (by show _ * 8 ≤ _; omega)).rdI; clear cW; have aM : RdI aD (aU.heap.size) aD.heap.size bT ma := (OwnR.rdR cX (by show _ * 8 ≤ _; omega)).rdI; clear cX
 have aN : RdI aD (aU.heap.size) aD.heap.size bU mb := (OwnR.rdR cY (by show _ * 8 ≤ _; omega)).rdI; clear cY
 refine ⟨_, rfl, _, rfl, fun eL cZ => ?_⟩
 clear cU; have bE := gr_ext he; have := bE.size; replace e0 := e0.gn bE; replace r8 := r8.gn bE; replace r9 := r9.gn bE; replace aA := aA.gn bE; replace aB := aB.gn bE; replace aC := aC.gn bE; clear bE he
 refine At.rd cZ 3 [[], [], []] [(25, .int .i64 (da)), (24, .agg #[.slice aV la.length bC, .slice aW lb.length bD, .slice bT ma.length bY, .slice bU mb.length bZ]), (21, .tuple #[.agg #[.slice aV la.length bC, .slice aW lb.length bD, .slice bT ma.length bY, .slice bU mb.length bZ], .int .i64 (da)])] [] (by kernel_rfl) trivial (fun eM dA => ?_)
 clear cZ
 refine At.seq dA 1 [[]] [(5, .pointer (some ⟨aD.heap.size, 0, none⟩))] (aD.alloc (.cells #[.slice none 0 0, .slice none 0 0, .slice none 0 0, .slice none 0 0] 32 (0, 0))) [] (by kernel_rfl) trivial (fun eN dW cI dB => ?_)
 clear dA; have aP := gr_alloc cI; have := aP.size; replace e0 := e0.gn aP; replace r8 := r8.gn aP; replace r9 := r9.gn aP; replace aA := aA.gn aP; replace aB := aB.gn aP; replace aC := aC.gn aP; replace aJ := aJ.gn aP; replace aK := aK.gn aP; replace aM := aM.gn aP; replace aN := aN.gn aP
 have cJ : Bx dW (aD.heap.size) [.slice none 0 0, .slice none 0 0, .slice none 0 0, .slice none 0 0] 32 := Bx.new cI; have := cJ.lt; clear aP cI
 refine At.store dB (t := 32) (b := aD.heap.size) (off := 0) (v := .agg #[.slice aV la.length bC, .slice aW lb.length bD, .slice bT ma.length bY, .slice bU mb.length bZ]) (by kernel_rfl) cJ (by kernel_rfl) (fun eO bF aQ aL dC => ?_)
 clear dB; replace aL : Bx bF (aD.heap.size) [.slice aV la.length bC, .slice aW lb.length bD, .slice bT ma.length bY, .slice bU mb.length bZ] 32 := aL; have := aQ.size; replace e0 := e0.gr aQ (fun k h => by injection h; omega); replace r8 := r8.gb aQ (by omega); replace r9 := r9.gb aQ (by omega); replace aA := aA.gb aQ (by omega); replace aB := aB.gb aQ (by omega); replace aC := aC.gb aQ (by omega)
 replace aJ := aJ.gb aQ (by omega); replace aK := aK.gb aQ (by omega); replace aM := aM.gb aQ (by omega); replace aN := aN.gb aQ (by omega); clear cJ aQ
 refine At.rd dC 1 [[]] [(6, .int .i64 (da))] [] (by kernel_rfl) trivial (fun eP dD => ?_)
 clear dC
 refine At.done rfl ?_
 refine t_n ?_
 clear aA
 refine wp_seq ?_
 refine At.start ?_
 refine At.rd dD 1 [[.ld (.slice aS ((dualG g).ow.length) aT), .ld (.slice bK ((dualG g).pr.length) bL), .ld (.slice bM ((dualG g).mv.length) bN)]] [(27, .agg #[.slice aS ((dualG g).ow.length) aT, .slice bK ((dualG g).pr.length) bL, .slice bM ((dualG g).mv.length) bN])] [(bF.cell? ⟨aO.heap.size, 0, none⟩ = some (.slice aS ((dualG g).ow.length) aT)), (bF.cell? ⟨aO.heap.size, 1, none⟩ = some (.slice bK ((dualG g).pr.length) bL)), (bF.cell? ⟨aO.heap.size, 2, none⟩ = some (.slice bM ((dualG g).mv.length) bN))] (by kernel_rfl) ⟨(aC.cell (i := 0) rfl), (aC.cell (i := 1) rfl), (aC.cell (i := 2) rfl), trivial⟩ (fun eQ dE => ?_)
 clear dD
 refine At.call dE 16 #[.agg #[.slice aS ((dualG g).ow.length) aT, .slice bK ((dualG g).pr.length) bL, .slice bM ((dualG g).mv.length) bN]] (some 28) (by kernel_rfl) (solve_any (g := (dualG g)) (aB.wide (Nat.zero_le _) (by omega)) (r9.wide (Nat.zero_le _) (by omega))) ?_
 rintro e_ aE ⟨aX, bG, aY, bH, bV, cA, bW, cB, lc, ld, mc, md, db, rfl, he, dF, dG, dH, dI, hsB⟩
 have hln_hsB := solve_lens hsB; have aZ : RdI aE (bF.heap.size) aE.heap.size aX lc := (OwnR.rdR dF (by show _ * 8 ≤ _; omega)).rdI; clear dF; have bA : RdI aE (bF.heap.size) aE.heap.size aY ld := (OwnR.rdR dG (by show _ * 8 ≤ _; omega)).rdI; clear dG; have bI : RdI aE (bF.heap.size) aE.heap.size bV mc := (OwnR.rdR dH (by show _ * 8 ≤ _; omega)).rdI; clear dH
 have bJ : RdI aE (bF.heap.size) aE.heap.size bW md := (OwnR.rdR dI (by show _ * 8 ≤ _; omega)).rdI; clear dI
 refine ⟨_, rfl, _, rfl, fun eR dJ => ?_⟩
 clear dE; have aR := gr_ext he; have := aR.size; replace e0 := e0.gn aR; replace r8 := r8.gn aR; replace r9 := r9.gn aR; replace aB := aB.gn aR; replace aC := aC.gn aR; replace aJ := aJ.gn aR; replace aK := aK.gn aR; replace aM := aM.gn aR; replace aN := aN.gn aR; replace aL := aL.gn aR; clear aR he
 refine At.rd dJ 3 [[], [], []] [(30, .int .i64 (db)), (29, .agg #[.slice aX lc.length bG, .slice aY ld.length bH, .slice bV mc.length cA, .slice bW md.length cB]), (26, .tuple #[.agg #[.slice aX lc.length bG, .slice aY ld.length bH, .slice bV mc.length cA, .slice bW md.length cB], .int .i64 (db)])] [] (by kernel_rfl) trivial (fun eS dK => ?_)
 clear dJ
 refine At.seq dK 1 [[]] [(7, .pointer (some ⟨aE.heap.size, 0, none⟩))] (aE.alloc (.cells #[.slice none 0 0, .slice none 0 0, .slice none 0 0, .slice none 0 0] 32 (0, 0))) [] (by kernel_rfl) trivial (fun eT dX cK dL => ?_)
 clear dK; have aF := gr_alloc cK; have := aF.size; replace e0 := e0.gn aF; replace r8 := r8.gn aF; replace r9 := r9.gn aF; replace aB := aB.gn aF; replace aC := aC.gn aF; replace aJ := aJ.gn aF; replace aK := aK.gn aF; replace aM := aM.gn aF; replace aN := aN.gn aF; replace aL := aL.gn aF; replace aZ := aZ.gn aF; replace bA := bA.gn aF; replace bI := bI.gn aF; replace bJ := bJ.gn aF
 have cL : Bx dX (aE.heap.size) [.slice none 0 0, .slice none 0 0, .slice none 0 0, .slice none 0 0] 32 := Bx.new cK; have := cL.lt; clear aF cK
 refine At.store dL (t := 32) (b := aE.heap.size) (off := 0) (v := .agg #[.slice aX lc.length bG, .slice aY ld.length bH, .slice bV mc.length cA, .slice bW md.length cB]) (by kernel_rfl) cL (by kernel_rfl) (fun eU cM aG bB dM => ?_)
 clear dL; replace bB : Bx cM (aE.heap.size) [.slice aX lc.length bG, .slice aY ld.length bH, .slice bV mc.length cA, .slice bW md.length cB] 32 := bB; have := aG.size; replace e0 := e0.gr aG (fun k h => by injection h; omega); replace r8 := r8.gb aG (by omega); replace r9 := r9.gb aG (by omega); replace aB := aB.gb aG (by omega); replace aC := aC.gb aG (by omega); replace aJ := aJ.gb aG (by omega)
 replace aK := aK.gb aG (by omega); replace aM := aM.gb aG (by omega); replace aN := aN.gb aG (by omega); replace aL := aL.gb aG (by omega); replace aZ := aZ.gb aG (by omega); replace bA := bA.gb aG (by omega); replace bI := bI.gb aG (by omega); replace bJ := bJ.gb aG (by omega); clear cL aG
 refine At.rd dM 1 [[]] [(8, .int .i64 (db))] [] (by kernel_rfl) trivial (fun eV dN => ?_)
 clear dM
 refine At.done rfl ?_
 refine t_n ?_
 clear aC; have dO := dN.sub (r := [(7, .pointer (some ⟨aE.heap.size, 0, none⟩)), (5, .pointer (some ⟨aD.heap.size, 0, none⟩))]) ⟨rfl, rfl, trivial⟩; clear dN
 refine wp_seq ?_
 refine At.start ?_
 refine At.rd dO 6 [[], [], [.ld (.slice aV la.length bC)], [], [], [.ld (.slice aY ld.length bH)]] [(36, .slice aY ld.length bH), (35, .pointer (some ⟨aE.heap.size, 1, none⟩)), (34, .pointer (some ⟨aE.heap.size, 0, none⟩)), (33, .slice aV la.length bC), (32, .pointer (some ⟨aD.heap.size, 0, none⟩)), (31, .pointer (some ⟨aD.heap.size, 0, none⟩))] [(0 ≤ (0 : Int)), ((0 : Int) < (2 : Nat)), (cM.cell? ⟨aD.heap.size, 0, none⟩ = some (.slice aV la.length bC)), (0 ≤ (1 : Int)), ((1 : Int) < (2 : Nat)), (cM.cell? ⟨aE.heap.size, 1, none⟩ = some (.slice aY ld.length bH))] (by kernel_rfl) ⟨(by decide), (by decide), (aL.cell (i := 0) rfl), (by decide), (by decide), (bB.cell (i := 1) rfl), trivial⟩ (fun eW dP => ?_)
 clear dO
 refine At.call dP 27 #[.slice aV la.length bC, .slice aY ld.length bH] (some 37) (by kernel_rfl) ((sameInts_any (la := la) (lb := ld) (aJ.wide (Nat.zero_le _) (by omega)) (bA.wide (Nat.zero_le _) (by omega))).mono (R' := fun e w' => e = .returned (.bool true) ∧ Ext _ w') (fun e_ w_ h_ => by rw [show (decide (la = ld) : Bool) = true from decide_eq_true (dual13 hnz_ hsA hsB).1] at h_; exact h_)) ?_
 rintro e_ dQ ⟨rfl, he⟩
 refine ⟨_, rfl, _, rfl, fun eX dR => ?_⟩
 clear dP; have aH := gr_ext he; have := aH.size; replace e0 := e0.gn aH; replace r8 := r8.gn aH; replace r9 := r9.gn aH; replace aB := aB.gn aH; replace aJ := aJ.gn aH; replace aK := aK.gn aH; replace aM := aM.gn aH; replace aN := aN.gn aH; replace aL := aL.gn aH; replace aZ := aZ.gn aH; replace bA := bA.gn aH; replace bI := bI.gn aH; replace bJ := bJ.gn aH; replace bB := bB.gn aH; clear aH he
 refine At.rd dR 7 [[], [], [], [.ld (.slice aW lb.length bD)], [], [], [.ld (.slice aX lc.length bG)]] [(44, .slice aX lc.length bG), (43, .pointer (some ⟨aE.heap.size, 0, none⟩)), (42, .pointer (some ⟨aE.heap.size, 0, none⟩)), (41, .slice aW lb.length bD), (40, .pointer (some ⟨aD.heap.size, 1, none⟩)), (39, .pointer (some ⟨aD.heap.size, 0, none⟩)), (38, .bool true)] [(0 ≤ (1 : Int)), ((1 : Int) < (2 : Nat)), (dQ.cell? ⟨aD.heap.size, 1, none⟩ = some (.slice aW lb.length bD)), (0 ≤ (0 : Int)), ((0 : Int) < (2 : Nat)), (dQ.cell? ⟨aE.heap.size, 0, none⟩ = some (.slice aX lc.length bG))] (by kernel_rfl) ⟨(by decide), (by decide), (aL.cell (i := 1) rfl), (by decide), (by decide), (bB.cell (i := 0) rfl), trivial⟩ (fun eY dS => ?_)
 clear dR
 refine At.call dS 27 #[.slice aW lb.length bD, .slice aX lc.length bG] (some 45) (by kernel_rfl) ((sameInts_any (la := lb) (lb := lc) (aK.wide (Nat.zero_le _) (by omega)) (aZ.wide (Nat.zero_le _) (by omega))).mono (R' := fun e w' => e = .returned (.bool true) ∧ Ext _ w') (fun e_ w_ h_ => by rw [show (decide (lb = lc) : Bool) = true from decide_eq_true (dual13 hnz_ hsA hsB).2] at h_; exact h_)) ?_
 rintro e_ eZ ⟨rfl, he⟩
 refine ⟨_, rfl, _, rfl, fun fA dT => ?_⟩
 clear dS; have aI := gr_ext he; have := aI.size; replace e0 := e0.gn aI; replace r8 := r8.gn aI; replace r9 := r9.gn aI; replace aB := aB.gn aI; replace aJ := aJ.gn aI; replace aK := aK.gn aI; replace aM := aM.gn aI; replace aN := aN.gn aI; replace aL := aL.gn aI; replace aZ := aZ.gn aI; replace bA := bA.gn aI; replace bI := bI.gn aI; replace bJ := bJ.gn aI; replace bB := bB.gn aI; clear aI he
 refine At.rd dT 2 [[], []] [(2, .bool true), (46, .bool true)] [] (by kernel_rfl) trivial (fun fB dY => ?_)
 clear dT
 refine At.done rfl ?_
 refine t_n ?_
 clear aL; clear bB
 refine wp_ret ?_
 refine ret_ dY [] [.bool true] [] (by kernel_rfl) trivial ?_
 exact ⟨rfl, e0⟩

end Go.Proofs.YtplpgfcjjnaigaaDoor
