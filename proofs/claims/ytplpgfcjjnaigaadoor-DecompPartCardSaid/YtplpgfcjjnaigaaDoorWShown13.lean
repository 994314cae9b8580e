/-
  A walk of a Go function, printed by a program of this repo. Conditions: what the theorems name.
-/
import Derived.Test.YtplpgfcjjnaigaaDoorWSolve
import Derived.Test.YtplpgfcjjnaigaaDoorPureLaw13
set_option linter.unusedVariables false
set_option linter.unusedSimpArgs false
namespace Go.Proofs.YtplpgfcjjnaigaaDoor
open Go Go.RowKit

attribute [local irreducible] ofZ fromW wordsD ofD ofW lsD lenW lenN fullW withW lessW hasW hasD inW inD leastD putD onI tzI orS andS minusS orD andD minusD fullD emptyD
set_option maxHeartbeats 4000000 in
theorem shown13_any {w : World} (rT : RdT w 0 w.heap.size) :
    Calls Tryd.prog 12 #[] w fun e w' => e = .returned (.bool true) ∧ Ext w w' := by
 refine enter_ (args := []) Tryd.func12 rfl Tryd.ntmps12 (Nat.le_of_ble_eq_true rfl) (fun act0 f0 => ?_)
 have e0 : Ext w w := Ext.refl w
 refine wp_seq ?_
 refine At.start ?_
 refine At.rd f0 1 [[]] [(0, .bool false)] [] (by kernel_rfl) trivial (fun act2 f1 => ?_)
 clear f0
 refine At.done rfl ?_
 refine t_n ?_
 refine wp_seq ?_
 refine At.start ?_
 refine At.seq f1 1 [[]] [(4, .slice (some ⟨w.heap.size, 0, none⟩) 2 2)] (w.alloc (.cells #[.int .i64 (0), .int .i64 (1)] 3 (0, 0))) [] (by kernel_rfl) trivial (fun act6 w3 hw4 f5 => ?_)
 clear f1; have g7 := gr_alloc hw4; have := g7.size; replace e0 := e0.gn g7; have aB := rT.gn g7; clear rT; have bx9 : Bx w3 (w.heap.size) [.int .i64 (0), .int .i64 (1)] 3 := Bx.new hw4; have := bx9.lt; clear g7 hw4
 refine At.seq f5 1 [[]] [(5, .slice (some ⟨w3.heap.size, 0, none⟩) 2 2)] (w3.alloc (.cells #[.int .i64 (0), .int .i64 (1)] 3 (0, 0))) [] (by kernel_rfl) trivial (fun dA bB bN bW => ?_)
 clear f5; have bE := gr_alloc bN; have := bE.size; replace e0 := e0.gn bE; replace aB := aB.gn bE; replace bx9 := bx9.gn bE; have aC : Bx bB (w3.heap.size) [.int .i64 (0), .int .i64 (1)] 3 := Bx.new bN; have := aC.lt; clear bE bN
 refine At.seq bW 1 [[]] [(6, .slice (some ⟨bB.heap.size, 0, none⟩) 2 2)] (bB.alloc (.cells #[.int .i64 (0), .int .i64 (1)] 3 (0, 0))) [] (by kernel_rfl) trivial (fun dB bC bO bX => ?_)
 clear bW; have bD := gr_alloc bO; have := bD.size; replace e0 := e0.gn bD; replace aB := aB.gn bD; replace bx9 := bx9.gn bD; replace aC := aC.gn bD; have aD : Bx bC (bB.heap.size) [.int .i64 (0), .int .i64 (1)] 3 := Bx.new bO; have := aD.lt; clear bD bO
 refine At.seq bX 1 [[]] [(7, .slice (some ⟨bC.heap.size, 0, none⟩) 2 2)] (bC.alloc (.cells #[.int .i64 (0), .int .i64 (1)] 3 (0, 0))) [] (by kernel_rfl) trivial (fun dC aO bP bY => ?_)
 clear bX; have bA := gr_alloc bP; have := bA.size; replace e0 := e0.gn bA; replace aB := aB.gn bA; replace bx9 := bx9.gn bA; replace aC := aC.gn bA; replace aD := aD.gn bA; have aE : Bx aO (bC.heap.size) [.int .i64 (0), .int .i64 (1)] 3 := Bx.new bP; have := aE.lt; clear bA bP
 refine At.seq bY 1 [[]] [(8, .slice (some ⟨aO.heap.size, 0, none⟩) 2 2)] (aO.alloc (.cells #[.slice (some ⟨bB.heap.size, 0, none⟩) 2 2, .slice (some ⟨bC.heap.size, 0, none⟩) 2 2] 22 (0, 0))) [] (by kernel_rfl) trivial (fun dD aV bQ bZ => ?_)
 clear bY; have aY := gr_alloc bQ; have := aY.size; replace e0 := e0.gn aY; replace aB := aB.gn aY; replace bx9 := bx9.gn aY; replace aC := aC.gn aY; replace aD := aD.gn aY; replace aE := aE.gn aY; have aH : Bx aV (aO.heap.size) [.slice (some ⟨bB.heap.size, 0, none⟩) 2 2, .slice (some ⟨bC.heap.size, 0, none⟩) 2 2] 22 := Bx.new bQ; have := aH.lt; clear aY bQ
 refine At.rd bZ 1 [[]] [(9, .agg #[.slice (some ⟨w.heap.size, 0, none⟩) 2 2, .slice (some ⟨w3.heap.size, 0, none⟩) 2 2, .slice (some ⟨aO.heap.size, 0, none⟩) 2 2])] [] (by kernel_rfl) trivial (fun dE cA => ?_)
 clear bZ
 refine At.seq cA 1 [[]] [(1, .pointer (some ⟨aV.heap.size, 0, none⟩))] (aV.alloc (.cells #[.slice none 0 0, .slice none 0 0, .slice none 0 0] 25 (0, 0))) [] (by kernel_rfl) trivial (fun dF cP bR cB => ?_)
 clear cA; have aW := gr_alloc bR; have := aW.size; replace e0 := e0.gn aW; replace aB := aB.gn aW; replace bx9 := bx9.gn aW; replace aC := aC.gn aW; replace aD := aD.gn aW; replace aE := aE.gn aW; replace aH := aH.gn aW; have bS : Bx cP (aV.heap.size) [.slice none 0 0, .slice none 0 0, .slice none 0 0] 25 := Bx.new bR; have := bS.lt; clear aW bR
 refine At.store cB (t := 25) (b := aV.heap.size) (off := 0) (v := .agg #[.slice (some ⟨w.heap.size, 0, none⟩) 2 2, .slice (some ⟨w3.heap.size, 0, none⟩) 2 2, .slice (some ⟨aO.heap.size, 0, none⟩) 2 2]) (by kernel_rfl) bS (by kernel_rfl) (fun dG aZ aX aJ cC => ?_)
 clear cB
 replace aJ : Bx aZ (aV.heap.size) [.slice (some ⟨w.heap.size, 0, none⟩) 2 2, .slice (some ⟨w3.heap.size, 0, none⟩) 2 2, .slice (some ⟨aO.heap.size, 0, none⟩) 2 2] 25 := aJ
 have := aX.size; replace e0 := e0.gr aX (fun k h => by injection h; omega); replace aB := aB.gb aX (by omega); replace bx9 := bx9.gb aX (by omega); replace aC := aC.gb aX (by omega); replace aD := aD.gb aX (by omega); replace aE := aE.gb aX (by omega); replace aH := aH.gb aX (by omega); clear bS aX
 refine At.done rfl ?_
 refine t_n ?_
 refine wp_seq ?_
 refine At.start ?_
 refine At.rd cC 1 [[.ld (.slice (some ⟨w.heap.size, 0, none⟩) 2 2), .ld (.slice (some ⟨w3.heap.size, 0, none⟩) 2 2), .ld (.slice (some ⟨aO.heap.size, 0, none⟩) 2 2)]] [(11, .agg #[.slice (some ⟨w.heap.size, 0, none⟩) 2 2, .slice (some ⟨w3.heap.size, 0, none⟩) 2 2, .slice (some ⟨aO.heap.size, 0, none⟩) 2 2])] [(aZ.cell? ⟨aV.heap.size, 0, none⟩ = some (.slice (some ⟨w.heap.size, 0, none⟩) 2 2)), (aZ.cell? ⟨aV.heap.size, 1, none⟩ = some (.slice (some ⟨w3.heap.size, 0, none⟩) 2 2)), (aZ.cell? ⟨aV.heap.size, 2, none⟩ = some (.slice (some ⟨aO.heap.size, 0, none⟩) 2 2))] (by kernel_rfl) ⟨(aJ.cell (i := 0) rfl), (aJ.cell (i := 1) rfl), (aJ.cell (i := 2) rfl), trivial⟩ (fun dH cD => ?_)
 clear cC
 refine At.call cD 16 #[.agg #[.slice (some ⟨w.heap.size, 0, none⟩) 2 2, .slice (some ⟨w3.heap.size, 0, none⟩) 2 2, .slice (some ⟨aO.heap.size, 0, none⟩) 2 2]] (some 12) (by kernel_rfl) (solve_any (g := exG13) (RdG.mk (G := exG13) (Bx.rdI (l := ([0, 1] : List Int)) bx9 rfl (by first | decide | exact Nat.le_of_ble_eq_true rfl)) (Bx.rdI (l := ([0, 1] : List Int)) aC rfl (by first | decide | exact Nat.le_of_ble_eq_true rfl)) (Bx.rdII (ls := ([([0, 1] : List Int), ([0, 1] : List Int)] : List (List Int))) aH ⟨⟨_, _, rfl, (by decide), (Bx.rdI (l := ([0, 1] : List Int)) aD rfl (by first | decide | exact Nat.le_of_ble_eq_true rfl))⟩, ⟨_, _, rfl, (by decide), (Bx.rdI (l := ([0, 1] : List Int)) aE rfl (by first | decide | exact Nat.le_of_ble_eq_true rfl))⟩, trivial⟩ (by decide)) (by decide) (by decide) (by decide)) (aB.wide (Nat.zero_le _) (by omega))) ?_
 rintro e_ aA ⟨aK, aQ, aL, aR, aM, aS, aN, aT, la, lb, ma, mb, dd, rfl, he, cE, cF, cG, cH, hsol⟩
 have hln_hsol := solve_lens hsol
 obtain ⟨hx1_, hx2_, hx3_, hx4_, hx5_, hx6_, hx7_⟩ := shown13 hsol
 have hx8_ : la.length = 1 := by rw [hx1_]; rfl
 have hx9_ : lb.length = 1 := by rw [hx2_]; rfl
 have hxa_ : gI la 0 = 0 := by rw [hx1_]; rfl
 have hxb_ : gI lb 0 = 1 := by rw [hx2_]; rfl
 have bF : RdI aA (aZ.heap.size) aA.heap.size aK la := (OwnR.rdR cE (by show _ * 8 ≤ _; omega)).rdI; clear cE; have bG : RdI aA (aZ.heap.size) aA.heap.size aL lb := (OwnR.rdR cF (by show _ * 8 ≤ _; omega)).rdI; clear cF; have bH : RdI aA (aZ.heap.size) aA.heap.size aM ma := (OwnR.rdR cG (by show _ * 8 ≤ _; omega)).rdI; clear cG
 have bI : RdI aA (aZ.heap.size) aA.heap.size aN mb := (OwnR.rdR cH (by show _ * 8 ≤ _; omega)).rdI; clear cH
 refine ⟨_, rfl, _, rfl, fun dI cI => ?_⟩
 clear cD; have aU := gr_ext he; have := aU.size; replace e0 := e0.gn aU; replace aB := aB.gn aU; replace bx9 := bx9.gn aU; replace aC := aC.gn aU; replace aD := aD.gn aU; replace aE := aE.gn aU; replace aH := aH.gn aU; replace aJ := aJ.gn aU; clear aU he
 refine At.rd cI 3 [[], [], []] [(14, .int .i64 (dd)), (13, .agg #[.slice aK la.length aQ, .slice aL lb.length aR, .slice aM ma.length aS, .slice aN mb.length aT]), (10, .tuple #[.agg #[.slice aK la.length aQ, .slice aL lb.length aR, .slice aM ma.length aS, .slice aN mb.length aT], .int .i64 (dd)])] [] (by kernel_rfl) trivial (fun dJ cJ => ?_)
 clear cI
 refine At.seq cJ 1 [[]] [(2, .pointer (some ⟨aA.heap.size, 0, none⟩))] (aA.alloc (.cells #[.slice none 0 0, .slice none 0 0, .slice none 0 0, .slice none 0 0] 32 (0, 0))) [] (by kernel_rfl) trivial (fun dK cQ bT cK => ?_)
 clear cJ; have aF := gr_alloc bT; have := aF.size; replace e0 := e0.gn aF; replace aB := aB.gn aF; replace bx9 := bx9.gn aF; replace aC := aC.gn aF; replace aD := aD.gn aF; replace aE := aE.gn aF; replace aH := aH.gn aF; replace aJ := aJ.gn aF; replace bF := bF.gn aF; replace bG := bG.gn aF; replace bH := bH.gn aF; replace bI := bI.gn aF
 have bU : Bx cQ (aA.heap.size) [.slice none 0 0, .slice none 0 0, .slice none 0 0, .slice none 0 0] 32 := Bx.new bT; have := bU.lt; clear aF bT
 refine At.store cK (t := 32) (b := aA.heap.size) (off := 0) (v := .agg #[.slice aK la.length aQ, .slice aL lb.length aR, .slice aM ma.length aS, .slice aN mb.length aT]) (by kernel_rfl) bU (by kernel_rfl) (fun dL aI aG aP cL => ?_)
 clear cK; replace aP : Bx aI (aA.heap.size) [.slice aK la.length aQ, .slice aL lb.length aR, .slice aM ma.length aS, .slice aN mb.length aT] 32 := aP; have := aG.size; replace e0 := e0.gr aG (fun k h => by injection h; omega); replace aB := aB.gb aG (by omega); replace bx9 := bx9.gb aG (by omega); replace aC := aC.gb aG (by omega); replace aD := aD.gb aG (by omega)
 replace aE := aE.gb aG (by omega); replace aH := aH.gb aG (by omega); replace aJ := aJ.gb aG (by omega); replace bF := bF.gb aG (by omega); replace bG := bG.gb aG (by omega); replace bH := bH.gb aG (by omega); replace bI := bI.gb aG (by omega); clear bU aG
 refine At.rd cL 1 [[]] [(3, .int .i64 (dd))] [] (by kernel_rfl) trivial (fun dM cM => ?_)
 clear cL
 refine At.done rfl ?_
 refine t_n ?_
 clear bx9; clear aC; clear aD; clear aE; clear aH; clear aJ
 refine wp_seq ?_
 refine wp_seq ?_
 refine At.start ?_
 refine At.rd cM 26 [[], [], [.ld (.slice aK la.length aQ)], [], [.as_ (.bool false)], [], [], [], [.ld (.slice aL lb.length aR)], [], [.as_ (.bool false)], [], [], [], [], [.ld (.slice aM ma.length aS)], [], [.as_ (.bool false)], [], [], [], [], [.ld (.slice aN mb.length aT)], [], [.as_ (.bool false)], []] [(40, .bool false), (39, .bool false), (38, .int .i64 (((mb.length : Nat) : Int))), (37, .slice aN mb.length aT), (36, .pointer (some ⟨aA.heap.size, 3, none⟩)), (35, .pointer (some ⟨aA.heap.size, 2, none⟩)), (34, .bool false), (33, .bool false), (32, .bool false), (31, .int .i64 (((ma.length : Nat) : Int))), (30, .slice aM ma.length aS), (29, .pointer (some ⟨aA.heap.size, 2, none⟩)), (28, .pointer (some ⟨aA.heap.size, 2, none⟩)), (27, .bool false), (26, .bool false), (25, .bool false), (24, .int .i64 (((lb.length : Nat) : Int))), (23, .slice aL lb.length aR), (22, .pointer (some ⟨aA.heap.size, 1, none⟩)), (21, .pointer (some ⟨aA.heap.size, 0, none⟩)), (20, .bool false), (19, .bool false), (18, .int .i64 (((la.length : Nat) : Int))), (17, .slice aK la.length aQ), (16, .pointer (some ⟨aA.heap.size, 0, none⟩)), (15, .pointer (some ⟨aA.heap.size, 0, none⟩))] [(0 ≤ (0 : Int)), ((0 : Int) < (2 : Nat)), (aI.cell? ⟨aA.heap.size, 0, none⟩ = some (.slice aK la.length aQ)), ((.bool ((((la.length : Nat) : Int) : Int) != 1) : Value) = .bool false), (0 ≤ (1 : Int)), ((1 : Int) < (2 : Nat)), (aI.cell? ⟨aA.heap.size, 1, none⟩ = some (.slice aL lb.length aR)), ((.bool ((((lb.length : Nat) : Int) : Int) != 1) : Value) = .bool false), (0 ≤ (0 : Int)), ((0 : Int) < (2 : Nat)), (aI.cell? ⟨aA.heap.size, 2, none⟩ = some (.slice aM ma.length aS)), ((.bool ((((ma.length : Nat) : Int) : Int) != 2) : Value) = .bool false), (0 ≤ (1 : Int)), ((1 : Int) < (2 : Nat)), (aI.cell? ⟨aA.heap.size, 3, none⟩ = some (.slice aN mb.length aT)), ((.bool ((((mb.length : Nat) : Int) : Int) != 2) : Value) = .bool false)] (by kernel_rfl) ⟨(by decide), (by decide), (aP.cell (i := 0) rfl), (congrArg Value.bool (bneF (by omega))), (by decide), (by decide), (aP.cell (i := 1) rfl), (congrArg Value.bool (bneF (by omega))), (by decide), (by decide), (aP.cell (i := 2) rfl), (congrArg Value.bool (bneF (by omega))), (by decide), (by decide), (aP.cell (i := 3) rfl), (congrArg Value.bool (bneF (by omega))), trivial⟩ (fun dN cN => ?_)
 clear cM
 refine At.done rfl ?_
 refine t_n ?_
 have bV := cN.sub (r := [(40, .bool false), (3, .int .i64 (dd)), (2, .pointer (some ⟨aA.heap.size, 0, none⟩))]) ⟨rfl, rfl, rfl, trivial⟩; clear cN
 refine cond_F bV rfl ?_
 refine wp_skip ?_
 refine t_n ?_
 refine wp_seq ?_
 refine At.start ?_
 obtain ⟨bJ, cR, _, _, cS⟩ := RdI.get bF (0) (by omega) (by omega)
 obtain ⟨bK, cT, _, _, cU⟩ := RdI.get bG (0) (by omega) (by omega)
 obtain ⟨bL, cV, _, _, cW⟩ := RdI.get bH (0) (by omega) (by omega)
 obtain ⟨bM, cX, _, _, cY⟩ := RdI.get bI (1) (by omega) (by omega)
 refine At.rd bV 35 [[], [], [.ld (.slice aK la.length aQ)], [.ad bJ], [.ld (.int .i64 (gI la (0)))], [.as_ (.bool true)], [], [], [], [.ld (.slice aL lb.length aR)], [.ad bK], [.ld (.int .i64 (gI lb (0)))], [.as_ (.bool true)], [], [], [], [], [.ld (.slice aM ma.length aS)], [.ad bL], [.ld (.int .i64 (gI ma (0)))], [.as_ (.bool true)], [], [], [], [], [.ld (.slice aN mb.length aT)], [.ad bM], [.ld (.int .i64 (gI mb (1)))], [.as_ (.bool true)], [], [], [], [.as_ (.bool true)], [], []] [(0, .bool true), (74, .bool true), (73, .bool true), (72, .int .i64 (dd)), (71, .bool true), (70, .bool true), (69, .bool true), (68, .int .i64 (gI mb (1))), (67, .pointer (some (bM.add ((1 : Int).toNat * 1)))), (66, .slice aN mb.length aT), (65, .pointer (some ⟨aA.heap.size, 3, none⟩)), (64, .pointer (some ⟨aA.heap.size, 2, none⟩)), (63, .bool true), (62, .bool true), (61, .bool true), (60, .int .i64 (gI ma (0))), (59, .pointer (some (bL.add ((0 : Int).toNat * 1)))), (58, .slice aM ma.length aS), (57, .pointer (some ⟨aA.heap.size, 2, none⟩)), (56, .pointer (some ⟨aA.heap.size, 2, none⟩)), (55, .bool true), (54, .bool true), (53, .bool true), (52, .int .i64 (gI lb (0))), (51, .pointer (some (bK.add ((0 : Int).toNat * 1)))), (50, .slice aL lb.length aR), (49, .pointer (some ⟨aA.heap.size, 1, none⟩)), (48, .pointer (some ⟨aA.heap.size, 0, none⟩)), (47, .bool true), (46, .bool true), (45, .int .i64 (gI la (0))), (44, .pointer (some (bJ.add ((0 : Int).toNat * 1)))), (43, .slice aK la.length aQ), (42, .pointer (some ⟨aA.heap.size, 0, none⟩)), (41, .pointer (some ⟨aA.heap.size, 0, none⟩))] [(0 ≤ (0 : Int)), ((0 : Int) < (2 : Nat)), (aI.cell? ⟨aA.heap.size, 0, none⟩ = some (.slice aK la.length aQ)), (aK = some bJ), (0 ≤ (0 : Int)), ((0 : Int) < (la.length : Nat)), (aI.cell? (bJ.add ((0 : Int).toNat * 1)) = some (.int .i64 (gI la (0)))), ((.bool ((gI la (0) : Int) == 0) : Value) = .bool true), (0 ≤ (1 : Int)), ((1 : Int) < (2 : Nat)), (aI.cell? ⟨aA.heap.size, 1, none⟩ = some (.slice aL lb.length aR)), (aL = some bK), (0 ≤ (0 : Int)), ((0 : Int) < (lb.length : Nat)), (aI.cell? (bK.add ((0 : Int).toNat * 1)) = some (.int .i64 (gI lb (0)))), ((.bool ((gI lb (0) : Int) == 1) : Value) = .bool true), (0 ≤ (0 : Int)), ((0 : Int) < (2 : Nat)), (aI.cell? ⟨aA.heap.size, 2, none⟩ = some (.slice aM ma.length aS)), (aM = some bL), (0 ≤ (0 : Int)), ((0 : Int) < (ma.length : Nat)), (aI.cell? (bL.add ((0 : Int).toNat * 1)) = some (.int .i64 (gI ma (0)))), ((.bool ((gI ma (0) : Int) == 0) : Value) = .bool true), (0 ≤ (1 : Int)), ((1 : Int) < (2 : Nat)), (aI.cell? ⟨aA.heap.size, 3, none⟩ = some (.slice aN mb.length aT)), (aN = some bM), (0 ≤ (1 : Int)), ((1 : Int) < (mb.length : Nat)), (aI.cell? (bM.add ((1 : Int).toNat * 1)) = some (.int .i64 (gI mb (1)))), ((.bool ((gI mb (1) : Int) == 1) : Value) = .bool true), ((.bool (decide ((dd : Int) ≥ 1)) : Value) = .bool true)] (by kernel_rfl) ⟨(by decide), (by decide), (aP.cell (i := 0) rfl), cR, (by omega), (by omega), cS, (congrArg Value.bool (beqT (by omega))), (by decide), (by decide), (aP.cell (i := 1) rfl), cT, (by omega), (by omega), cU, (congrArg Value.bool (beqT (by omega))), (by decide), (by decide), (aP.cell (i := 2) rfl), cV, (by omega), (by omega), cW, (congrArg Value.bool (beqT (by omega))), (by decide), (by decide), (aP.cell (i := 3) rfl), cX, (by omega), (by omega), cY, (congrArg Value.bool (beqT (by omega))), (congrArg Value.bool (decide_eq_true (by omega))), trivial⟩ (fun dO cO => ?_)
 clear bV
 refine At.done rfl ?_
 refine t_n ?_
 clear aP; have cZ := cO.sub (r := [(0, .bool true)]) ⟨rfl, trivial⟩; clear cO
 refine wp_ret ?_
 refine ret_ cZ [] [.bool true] [] (by kernel_rfl) trivial ?_
 exact ⟨rfl, e0⟩

end Go.Proofs.YtplpgfcjjnaigaaDoor
