/-
  A walk of a Go function, printed by a program of this repo. Conditions: what the theorems name.
-/
import Derived.Test.YtklbpajmoklheaaPurePlayL
import Derived.Test.YtklbpajmoklheaaWRunM
import Derived.Test.YtklbpajmoklheaaWSame
set_option linter.unusedVariables false
set_option linter.unusedSimpArgs false
namespace Go.Proofs.Ytklbpajmoklheaa
open Go Go.RowKit

set_option maxHeartbeats 4000000 in
theorem shown17_any {w : World} :
    Calls Try.prog 14 #[] w fun e w' => e = .returned (.bool true) ∧ Ext w w' := by
 refine enter_ (args := []) Try.func14 rfl Try.ntmps14 (Nat.le_of_ble_eq_true rfl) (fun act0 f0 => ?_)
 have e0 : Ext w w := Ext.refl w
 refine wp_seq ?_
 refine At.start ?_
 refine At.rd f0 1 [[]] [(0, .bool false)] [] (by kernel_rfl) trivial (fun act2 f1 => ?_)
 clear f0
 refine At.done rfl ?_
 refine t_n ?_
 refine wp_seq ?_
 refine At.start ?_
 refine At.seq f1 1 [[]] [(4, .slice (some ⟨w.heap.size, 0, none⟩) 2 2)] (w.alloc (.cells #[.int .i64 (0), .int .i64 (1)] 3 (0, 0))) [] (by kernel_rfl) trivial (fun act6 w3 hw4 f5 => ?_)
 clear f1; have g7 := gr_alloc hw4; have := g7.size; replace e0 := e0.gn g7; have bx9 : Bx w3 (w.heap.size) [.int .i64 (0), .int .i64 (1)] 3 := Bx.new hw4; have := bx9.lt; clear g7 hw4
 refine At.seq f5 1 [[]] [(5, .slice (some ⟨w3.heap.size, 0, none⟩) 2 2)] (w3.alloc (.cells #[.int .i64 (0), .int .i64 (1)] 3 (0, 0))) [] (by kernel_rfl) trivial (fun cO aY bI bS => ?_)
 clear f5; have bG := gr_alloc bI; have := bG.size; replace e0 := e0.gn bG; replace bx9 := bx9.gn bG; have aA : Bx aY (w3.heap.size) [.int .i64 (0), .int .i64 (1)] 3 := Bx.new bI; have := aA.lt; clear bG bI
 refine At.seq bS 1 [[]] [(6, .slice (some ⟨aY.heap.size, 0, none⟩) 2 2)] (aY.alloc (.cells #[.int .i64 (0), .int .i64 (1)] 3 (0, 0))) [] (by kernel_rfl) trivial (fun cP aZ bJ bT => ?_)
 clear bS; have bD := gr_alloc bJ; have := bD.size; replace e0 := e0.gn bD; replace bx9 := bx9.gn bD; replace aA := aA.gn bD; have aB : Bx aZ (aY.heap.size) [.int .i64 (0), .int .i64 (1)] 3 := Bx.new bJ; have := aB.lt; clear bD bJ
 refine At.seq bT 1 [[]] [(7, .slice (some ⟨aZ.heap.size, 0, none⟩) 2 2)] (aZ.alloc (.cells #[.int .i64 (0), .int .i64 (1)] 3 (0, 0))) [] (by kernel_rfl) trivial (fun cQ aI bK bU => ?_)
 clear bT; have bA := gr_alloc bK; have := bA.size; replace e0 := e0.gn bA; replace bx9 := bx9.gn bA; replace aA := aA.gn bA; replace aB := aB.gn bA; have aC : Bx aI (aZ.heap.size) [.int .i64 (0), .int .i64 (1)] 3 := Bx.new bK; have := aC.lt; clear bA bK
 refine At.seq bU 1 [[]] [(8, .slice (some ⟨aI.heap.size, 0, none⟩) 2 2)] (aI.alloc (.cells #[.slice (some ⟨aY.heap.size, 0, none⟩) 2 2, .slice (some ⟨aZ.heap.size, 0, none⟩) 2 2] 22 (0, 0))) [] (by kernel_rfl) trivial (fun cR aO bL bV => ?_)
 clear bU; have aU := gr_alloc bL; have := aU.size; replace e0 := e0.gn aU; replace bx9 := bx9.gn aU; replace aA := aA.gn aU; replace aB := aB.gn aU; replace aC := aC.gn aU; have aD : Bx aO (aI.heap.size) [.slice (some ⟨aY.heap.size, 0, none⟩) 2 2, .slice (some ⟨aZ.heap.size, 0, none⟩) 2 2] 22 := Bx.new bL; have := aD.lt; clear aU bL
 refine At.rd bV 1 [[]] [(9, .agg #[.slice (some ⟨w.heap.size, 0, none⟩) 2 2, .slice (some ⟨w3.heap.size, 0, none⟩) 2 2, .slice (some ⟨aI.heap.size, 0, none⟩) 2 2])] [] (by kernel_rfl) trivial (fun cS bW => ?_)
 clear bV
 refine At.seq bW 1 [[]] [(1, .pointer (some ⟨aO.heap.size, 0, none⟩))] (aO.alloc (.cells #[.slice none 0 0, .slice none 0 0, .slice none 0 0] 25 (0, 0))) [] (by kernel_rfl) trivial (fun cT cI bM bX => ?_)
 clear bW; have aR := gr_alloc bM; have := aR.size; replace e0 := e0.gn aR; replace bx9 := bx9.gn aR; replace aA := aA.gn aR; replace aB := aB.gn aR; replace aC := aC.gn aR; replace aD := aD.gn aR; have bN : Bx cI (aO.heap.size) [.slice none 0 0, .slice none 0 0, .slice none 0 0] 25 := Bx.new bM; have := bN.lt; clear aR bM
 refine At.store bX (t := 25) (b := aO.heap.size) (off := 0) (v := .agg #[.slice (some ⟨w.heap.size, 0, none⟩) 2 2, .slice (some ⟨w3.heap.size, 0, none⟩) 2 2, .slice (some ⟨aI.heap.size, 0, none⟩) 2 2]) (by kernel_rfl) bN (by kernel_rfl) (fun cU aS aT aE bY => ?_)
 clear bX
 replace aE : Bx aS (aO.heap.size) [.slice (some ⟨w.heap.size, 0, none⟩) 2 2, .slice (some ⟨w3.heap.size, 0, none⟩) 2 2, .slice (some ⟨aI.heap.size, 0, none⟩) 2 2] 25 := aE
 have := aT.size; replace e0 := e0.gr aT (fun k h => by injection h; omega); replace bx9 := bx9.gb aT (by omega); replace aA := aA.gb aT (by omega); replace aB := aB.gb aT (by omega); replace aC := aC.gb aT (by omega); replace aD := aD.gb aT (by omega); clear bN aT
 refine At.done rfl ?_
 refine t_n ?_
 refine wp_seq ?_
 refine At.start ?_
 refine At.rd bY 1 [[.ld (.slice (some ⟨w.heap.size, 0, none⟩) 2 2), .ld (.slice (some ⟨w3.heap.size, 0, none⟩) 2 2), .ld (.slice (some ⟨aI.heap.size, 0, none⟩) 2 2)]] [(11, .agg #[.slice (some ⟨w.heap.size, 0, none⟩) 2 2, .slice (some ⟨w3.heap.size, 0, none⟩) 2 2, .slice (some ⟨aI.heap.size, 0, none⟩) 2 2])] [(aS.cell? ⟨aO.heap.size, 0, none⟩ = some (.slice (some ⟨w.heap.size, 0, none⟩) 2 2)), (aS.cell? ⟨aO.heap.size, 1, none⟩ = some (.slice (some ⟨w3.heap.size, 0, none⟩) 2 2)), (aS.cell? ⟨aO.heap.size, 2, none⟩ = some (.slice (some ⟨aI.heap.size, 0, none⟩) 2 2))] (by kernel_rfl) ⟨(aE.cell (i := 0) rfl), (aE.cell (i := 1) rfl), (aE.cell (i := 2) rfl), trivial⟩ (fun cV bZ => ?_)
 clear bY
 refine At.seq bZ 1 [[]] [(12, .slice (some ⟨aS.heap.size, 0, none⟩) 1 1)] (aS.alloc (.cells #[.int .i64 (0)] 3 (0, 0))) [] (by kernel_rfl) trivial (fun cW bE bO cA => ?_)
 clear bZ; have aP := gr_alloc bO; have := aP.size; replace e0 := e0.gn aP; replace bx9 := bx9.gn aP; replace aA := aA.gn aP; replace aB := aB.gn aP; replace aC := aC.gn aP; replace aD := aD.gn aP; replace aE := aE.gn aP; have aJ : Bx bE (aS.heap.size) [.int .i64 (0)] 3 := Bx.new bO; have := aJ.lt; clear aP bO
 refine At.seq cA 1 [[]] [(13, .slice (some ⟨bE.heap.size, 0, none⟩) 3 3)] (bE.alloc (.cells #[.int .i64 (1), .int .i64 (1), .int .i64 (0)] 3 (0, 0))) [] (by kernel_rfl) trivial (fun cX cJ bP cB => ?_)
 clear cA; have aM := gr_alloc bP; have := aM.size; replace e0 := e0.gn aM; replace bx9 := bx9.gn aM; replace aA := aA.gn aM; replace aB := aB.gn aM; replace aC := aC.gn aM; replace aD := aD.gn aM; replace aE := aE.gn aM; replace aJ := aJ.gn aM; have aQ : Bx cJ (bE.heap.size) [.int .i64 (1), .int .i64 (1), .int .i64 (0)] 3 := Bx.new bP; have := aQ.lt; clear aM bP
 refine At.call cB 17 #[.agg #[.slice (some ⟨w.heap.size, 0, none⟩) 2 2, .slice (some ⟨w3.heap.size, 0, none⟩) 2 2, .slice (some ⟨aI.heap.size, 0, none⟩) 2 2], .int .i64 (1), .int .i64 (0), .slice (some ⟨aS.heap.size, 0, none⟩) 1 1, .slice (some ⟨bE.heap.size, 0, none⟩) 3 3] (some 14) (by kernel_rfl) (runM_any (g := showG17) (i := 1) (p := 0) (lm := ([0] : List Int)) (ls := ([1, 1, 0] : List Int)) (RdG.mk (G := showG17) (Bx.rdI (l := ([0, 1] : List Int)) bx9 rfl (by first | decide | exact Nat.le_of_ble_eq_true rfl)) (Bx.rdI (l := ([0, 1] : List Int)) aA rfl (by first | decide | exact Nat.le_of_ble_eq_true rfl)) (Bx.rdII (ls := ([([0, 1] : List Int), ([0, 1] : List Int)] : List (List Int))) aD ⟨⟨_, _, rfl, (by decide), (Bx.rdI (l := ([0, 1] : List Int)) aB rfl (by first | decide | exact Nat.le_of_ble_eq_true rfl))⟩, ⟨_, _, rfl, (by decide), (Bx.rdI (l := ([0, 1] : List Int)) aC rfl (by first | decide | exact Nat.le_of_ble_eq_true rfl))⟩, trivial⟩ (by decide)) (by decide) (by decide) (by decide)) (Bx.rdI (l := ([0] : List Int)) aJ rfl (by first | decide | exact Nat.le_of_ble_eq_true rfl)) (Bx.rdI (l := ([1, 1, 0] : List Int)) aQ rfl (by first | decide | exact Nat.le_of_ble_eq_true rfl))) ?_
 rintro e_ aF ⟨r, hr, aV, aW, aK, aN, rfl, he, bF, bB⟩
 have hlr := run_len hr
 refine ⟨_, rfl, _, rfl, fun cY cC => ?_⟩
 clear cB; have aL := gr_ext he; have := aL.size; replace e0 := e0.gn aL; replace bx9 := bx9.gn aL; replace aA := aA.gn aL; replace aB := aB.gn aL; replace aC := aC.gn aL; replace aD := aD.gn aL; replace aE := aE.gn aL; replace aJ := aJ.gn aL; replace aQ := aQ.gn aL; clear aL he
 refine At.rd cC 3 [[], [], []] [(16, .int .i64 (r.err)), (15, .agg #[.slice aV r.ah.length aW, .slice aK r.ro.length aN, .int .i64 (r.win)]), (10, .tuple #[.agg #[.slice aV r.ah.length aW, .slice aK r.ro.length aN, .int .i64 (r.win)], .int .i64 (r.err)])] [] (by kernel_rfl) trivial (fun cZ cD => ?_)
 clear cC
 refine At.seq cD 1 [[]] [(2, .pointer (some ⟨aF.heap.size, 0, none⟩))] (aF.alloc (.cells #[.slice none 0 0, .slice none 0 0, .int .i64 (0)] 29 (0, 0))) [] (by kernel_rfl) trivial (fun dA cK bQ cE => ?_)
 clear cD; have aG := gr_alloc bQ; have := aG.size; replace e0 := e0.gn aG; replace bx9 := bx9.gn aG; replace aA := aA.gn aG; replace aB := aB.gn aG; replace aC := aC.gn aG; replace aD := aD.gn aG; replace aE := aE.gn aG; replace aJ := aJ.gn aG; replace aQ := aQ.gn aG; replace bF := bF.grN aG; replace bB := bB.grN aG
 have bR : Bx cK (aF.heap.size) [.slice none 0 0, .slice none 0 0, .int .i64 (0)] 29 := Bx.new bQ; have := bR.lt; clear aG bQ
 refine At.store cE (t := 29) (b := aF.heap.size) (off := 0) (v := .agg #[.slice aV r.ah.length aW, .slice aK r.ro.length aN, .int .i64 (r.win)]) (by kernel_rfl) bR (by kernel_rfl) (fun dB bC aH aX cF => ?_)
 clear cE; replace aX : Bx bC (aF.heap.size) [.slice aV r.ah.length aW, .slice aK r.ro.length aN, .int .i64 (r.win)] 29 := aX; have := aH.size; replace e0 := e0.gr aH (fun k h => by injection h; omega); replace bx9 := bx9.gb aH (by omega); replace aA := aA.gb aH (by omega); replace aB := aB.gb aH (by omega); replace aC := aC.gb aH (by omega); replace aD := aD.gb aH (by omega)
 replace aE := aE.gb aH (by omega); replace aJ := aJ.gb aH (by omega); replace aQ := aQ.gb aH (by omega); replace bF := bF.gr aH (fun k hk => hk.1); replace bB := bB.gr aH (fun k hk => hk.1); clear bR aH
 refine At.rd cF 1 [[]] [(3, .int .i64 (r.err))] [] (by kernel_rfl) trivial (fun dC cG => ?_)
 clear cF
 refine At.done rfl ?_
 refine t_n ?_
 clear bx9; clear aA; clear aB; clear aC; clear aD; clear aE; clear aJ; clear aQ
 refine wp_seq ?_
 have hrr := shown_run hr
 have hrl : r.ro.length = 1 := by rw [hrr]; rfl
 refine At.start ?_
 obtain ⟨bH, cL, dD, cM, dE⟩ := bB.get (0) (by omega) (by omega) (sz := 1) rfl
 refine At.rd cG 27 [[], [.as_ (.bool true)], [], [], [.ld (.slice aV r.ah.length aW)], [], [.as_ (.bool true)], [], [], [], [.ld (.slice aK r.ro.length aN)], [], [.as_ (.bool true)], [], [], [], [.ld (.slice aK r.ro.length aN)], [.ad bH], [.ld (.int .i64 (gI r.ro 0))], [.as_ (.bool true)], [], [], [], [.ld (.int .i64 (r.win))], [.as_ (.bool true)], [], []] [(0, .bool true), (42, .bool true), (41, .bool true), (40, .int .i64 (r.win)), (39, .pointer (some ⟨aF.heap.size, 2, none⟩)), (38, .bool true), (37, .bool true), (36, .bool true), (35, .int .i64 (gI r.ro 0)), (34, .pointer (some (bH.add ((0 : Int).toNat * 1)))), (33, .slice aK r.ro.length aN), (32, .pointer (some ⟨aF.heap.size, 1, none⟩)), (31, .bool true), (30, .bool true), (29, .bool true), (28, .int .i64 (((r.ro.length : Nat) : Int))), (27, .slice aK r.ro.length aN), (26, .pointer (some ⟨aF.heap.size, 1, none⟩)), (25, .bool true), (24, .bool true), (23, .bool true), (22, .int .i64 (((r.ah.length : Nat) : Int))), (21, .slice aV r.ah.length aW), (20, .pointer (some ⟨aF.heap.size, 0, none⟩)), (19, .bool true), (18, .bool true), (17, .int .i64 (r.err))] [((.bool ((r.err : Int) == 0) : Value) = .bool true), (bC.cell? ⟨aF.heap.size, 0, none⟩ = some (.slice aV r.ah.length aW)), ((.bool ((((r.ah.length : Nat) : Int) : Int) == 3) : Value) = .bool true), (bC.cell? ⟨aF.heap.size, 1, none⟩ = some (.slice aK r.ro.length aN)), ((.bool ((((r.ro.length : Nat) : Int) : Int) == 1) : Value) = .bool true), (bC.cell? ⟨aF.heap.size, 1, none⟩ = some (.slice aK r.ro.length aN)), (aK = some bH), (0 ≤ (0 : Int)), ((0 : Int) < (r.ro.length : Nat)), (bC.cell? (bH.add ((0 : Int).toNat * 1)) = some (.int .i64 (gI r.ro 0))), ((.bool ((gI r.ro 0 : Int) == 0) : Value) = .bool true), (bC.cell? ⟨aF.heap.size, 2, none⟩ = some (.int .i64 (r.win))), ((.bool ((r.win : Int) == 0) : Value) = .bool true)] (by kernel_rfl) ⟨(congrArg Value.bool (by rw [hrr]; rfl)), (aX.cell (i := 0) rfl), (congrArg Value.bool (by rw [hrr]; rfl)), (aX.cell (i := 1) rfl), (congrArg Value.bool (by rw [hrr]; rfl)), (aX.cell (i := 1) rfl), cL, (by omega), (by omega), cM, (congrArg Value.bool (by rw [hrr]; rfl)), (aX.cell (i := 2) rfl), (congrArg Value.bool (by rw [hrr]; rfl)), trivial⟩ (fun dF cH => ?_)
 clear cG
 refine At.done rfl ?_
 refine t_n ?_
 clear bF; clear bB; clear aX; have cN := cH.sub (r := [(0, .bool true)]) ⟨rfl, trivial⟩; clear cH
 refine wp_ret ?_
 refine ret_ cN [] [.bool true] [] (by kernel_rfl) trivial ?_
 exact ⟨rfl, e0⟩

set_option maxHeartbeats 4000000 in
theorem same17_any {Aa0 : Option Addr} {ca0 : Nat} {la0 : List Int} {Aa1 : Option Addr} {ca1 : Nat} {la1 : List Int} {Ab0 : Option Addr} {cb0 : Nat} {lb0 : List Int} {Ab1 : Option Addr} {cb1 : Nat} {lb1 : List Int} {va vb : Int} {w : World} (ra0 : RdI w 0 w.heap.size Aa0 la0) (ra1 : RdI w 0 w.heap.size Aa1 la1) (rb0 : RdI w 0 w.heap.size Ab0 lb0) (rb1 : RdI w 0 w.heap.size Ab1 lb1) :
    Calls Try.prog 18 #[.agg #[.slice Aa0 la0.length ca0, .slice Aa1 la1.length ca1, .int .i64 (va)], .agg #[.slice Ab0 lb0.length cb0, .slice Ab1 lb1.length cb1, .int .i64 (vb)]] w fun e w' => e = .returned (.bool (decide (la0 = lb0 ∧ la1 = lb1 ∧ va = vb))) ∧ Ext w w' := by
 refine enter_ (args := [.agg #[.slice Aa0 la0.length ca0, .slice Aa1 la1.length ca1, .int .i64 (va)], .agg #[.slice Ab0 lb0.length cb0, .slice Ab1 lb1.length cb1, .int .i64 (vb)]]) Try.func18 rfl Try.ntmps18 (Nat.le_of_ble_eq_true rfl) (fun act0 f0 => ?_)
 have e0 : Ext w w := Ext.refl w
 refine wp_seq ?_
 refine At.start ?_
 refine At.seq f0 1 [[]] [(2, .pointer (some ⟨w.heap.size, 0, none⟩))] (w.alloc (.cells #[.slice Aa0 la0.length ca0, .slice Aa1 la1.length ca1, .int .i64 (va)] 29 (0, 0))) [] (by kernel_rfl) trivial (fun act4 w1 hw2 f3 => ?_)
 clear f0; have g5 := gr_alloc hw2; have := g5.size; replace e0 := e0.gn g5; have r8 := ra0.gn g5; clear ra0; have r9 := ra1.gn g5; clear ra1; have aF := rb0.gn g5; clear rb0; have aG := rb1.gn g5; clear rb1; have aA : Bx w1 (w.heap.size) [.slice Aa0 la0.length ca0, .slice Aa1 la1.length ca1, .int .i64 (va)] 29 := Bx.new hw2; have := aA.lt; clear g5 hw2
 refine At.seq f3 1 [[]] [(3, .pointer (some ⟨w1.heap.size, 0, none⟩))] (w1.alloc (.cells #[.slice Ab0 lb0.length cb0, .slice Ab1 lb1.length cb1, .int .i64 (vb)] 29 (0, 0))) [] (by kernel_rfl) trivial (fun bE aK aL aM => ?_)
 clear f3; have aD := gr_alloc aL; have := aD.size; replace e0 := e0.gn aD; replace r8 := r8.gn aD; replace r9 := r9.gn aD; replace aF := aF.gn aD; replace aG := aG.gn aD; replace aA := aA.gn aD; have aE : Bx aK (w1.heap.size) [.slice Ab0 lb0.length cb0, .slice Ab1 lb1.length cb1, .int .i64 (vb)] 29 := Bx.new aL; have := aE.lt; clear aD aL
 refine At.rd aM 1 [[]] [(4, .bool false)] [] (by kernel_rfl) trivial (fun bF aN => ?_)
 clear aM
 refine At.done rfl ?_
 refine t_n ?_
 have aO := aN.sub (r := [(3, .pointer (some ⟨w1.heap.size, 0, none⟩)), (2, .pointer (some ⟨w.heap.size, 0, none⟩))]) ⟨rfl, rfl, trivial⟩; clear aN
 refine wp_seq ?_
 refine At.start ?_
 refine At.rd aO 4 [[], [.ld (.slice Aa0 la0.length ca0)], [], [.ld (.slice Ab0 lb0.length cb0)]] [(10, .slice Ab0 lb0.length cb0), (9, .pointer (some ⟨w1.heap.size, 0, none⟩)), (8, .slice Aa0 la0.length ca0), (7, .pointer (some ⟨w.heap.size, 0, none⟩))] [(aK.cell? ⟨w.heap.size, 0, none⟩ = some (.slice Aa0 la0.length ca0)), (aK.cell? ⟨w1.heap.size, 0, none⟩ = some (.slice Ab0 lb0.length cb0))] (by kernel_rfl) ⟨(aA.cell (i := 0) rfl), (aE.cell (i := 0) rfl), trivial⟩ (fun bG aP => ?_)
 clear aO
 refine At.call aP 20 #[.slice Aa0 la0.length ca0, .slice Ab0 lb0.length cb0] (some 11) (by kernel_rfl) (sameInts_any (la := la0) (lb := lb0) (r8.wide (Nat.zero_le _) (by omega)) (aF.wide (Nat.zero_le _) (by omega))) ?_
 rintro e_ aQ ⟨rfl, he⟩
 refine ⟨_, rfl, _, rfl, fun bH aR => ?_⟩
 clear aP; have aB := gr_ext he; have := aB.size; replace e0 := e0.gn aB; replace r8 := r8.gn aB; replace r9 := r9.gn aB; replace aF := aF.gn aB; replace aG := aG.gn aB; replace aA := aA.gn aB; replace aE := aE.gn aB; clear aB he
 refine At.rd aR 1 [[]] [(5, .bool (decide (la0 = lb0)))] [] (by kernel_rfl) trivial (fun bI aS => ?_)
 clear aR
 refine At.done rfl ?_
 refine t_n ?_
 have aT := aS.sub (r := [(5, .bool (decide (la0 = lb0))), (3, .pointer (some ⟨w1.heap.size, 0, none⟩)), (2, .pointer (some ⟨w.heap.size, 0, none⟩))]) ⟨rfl, rfl, rfl, trivial⟩
 clear aS
 refine wp_seq ?_
 refine At.start ?_
 refine At.rd aT 4 [[], [.ld (.slice Aa1 la1.length ca1)], [], [.ld (.slice Ab1 lb1.length cb1)]] [(15, .slice Ab1 lb1.length cb1), (14, .pointer (some ⟨w1.heap.size, 1, none⟩)), (13, .slice Aa1 la1.length ca1), (12, .pointer (some ⟨w.heap.size, 1, none⟩))] [(aQ.cell? ⟨w.heap.size, 1, none⟩ = some (.slice Aa1 la1.length ca1)), (aQ.cell? ⟨w1.heap.size, 1, none⟩ = some (.slice Ab1 lb1.length cb1))] (by kernel_rfl) ⟨(aA.cell (i := 1) rfl), (aE.cell (i := 1) rfl), trivial⟩ (fun bJ aU => ?_)
 clear aT
 refine At.call aU 20 #[.slice Aa1 la1.length ca1, .slice Ab1 lb1.length cb1] (some 16) (by kernel_rfl) (sameInts_any (la := la1) (lb := lb1) (r9.wide (Nat.zero_le _) (by omega)) (aG.wide (Nat.zero_le _) (by omega))) ?_
 rintro e_ aV ⟨rfl, he⟩
 refine ⟨_, rfl, _, rfl, fun bK aW => ?_⟩
 clear aU; have aC := gr_ext he; have := aC.size; replace e0 := e0.gn aC; replace r8 := r8.gn aC; replace r9 := r9.gn aC; replace aF := aF.gn aC; replace aG := aG.gn aC; replace aA := aA.gn aC; replace aE := aE.gn aC; clear aC he
 refine At.rd aW 1 [[]] [(6, .bool (decide (la1 = lb1)))] [] (by kernel_rfl) trivial (fun bL aX => ?_)
 clear aW
 refine At.done rfl ?_
 refine t_n ?_
 have aH := aX.sub (r := [(6, .bool (decide (la1 = lb1))), (5, .bool (decide (la0 = lb0))), (3, .pointer (some ⟨w1.heap.size, 0, none⟩)), (2, .pointer (some ⟨w.heap.size, 0, none⟩))]) ⟨rfl, rfl, rfl, rfl, trivial⟩
 clear aX
 refine wp_seq ?_
 refine At.start ?_
 rcases Bool.eq_false_or_eq_true (decide (la0 = lb0)) with aI | aI
 ·have bM := of_decide_eq_true aI
  rcases Bool.eq_false_or_eq_true (decide (la1 = lb1)) with aJ | aJ
  ·have bN := of_decide_eq_true aJ
   refine At.rd aH 12 [[], [.as_ (.bool true)], [], [], [.as_ (.bool true)], [], [.ld (.int .i64 (va))], [], [.ld (.int .i64 (vb))], [], [], []] [(4, .bool ((va : Int) == vb)), (27, .bool ((va : Int) == vb)), (26, .bool ((va : Int) == vb)), (25, .int .i64 (vb)), (24, .pointer (some ⟨w1.heap.size, 2, none⟩)), (23, .int .i64 (va)), (22, .pointer (some ⟨w.heap.size, 2, none⟩)), (21, .bool true), (20, .bool (decide (la1 = lb1))), (19, .bool (decide (la1 = lb1))), (18, .bool true), (17, .bool (decide (la0 = lb0)))] [((.bool (decide (la0 = lb0)) : Value) = .bool true), ((.bool (decide (la1 = lb1)) : Value) = .bool true), (aV.cell? ⟨w.heap.size, 2, none⟩ = some (.int .i64 (va))), (aV.cell? ⟨w1.heap.size, 2, none⟩ = some (.int .i64 (vb)))] (by kernel_rfl) ⟨(congrArg Value.bool aI), (congrArg Value.bool aJ), (aA.cell (i := 2) rfl), (aE.cell (i := 2) rfl), trivial⟩ (fun bO aY => ?_)
   clear aH
   refine At.done rfl ?_
   refine t_n ?_
   have bB := aY.sub (r := [(4, .bool ((va : Int) == vb))]) ⟨rfl, trivial⟩; clear aY
   refine wp_ret ?_
   refine ret_ bB [] [.bool ((va : Int) == vb)] [] (by kernel_rfl) trivial ?_
   exact ⟨ret_eq (congrArg Value.bool (by first | (simp_all; done) | (rw [Bool.eq_iff_iff]; simp_all))), e0⟩
  have bP := of_decide_eq_false aJ
  refine At.rd aH 12 [[], [.as_ (.bool true)], [], [], [.as_ (.bool false)], [], [], [], [], [], [], []] [(4, .bool false), (27, .bool false), (26, undef), (25, undef), (24, undef), (23, undef), (22, undef), (21, .bool false), (20, .bool (decide (la1 = lb1))), (19, .bool (decide (la1 = lb1))), (18, .bool true), (17, .bool (decide (la0 = lb0)))] [((.bool (decide (la0 = lb0)) : Value) = .bool true), ((.bool (decide (la1 = lb1)) : Value) = .bool false)] (by kernel_rfl) ⟨(congrArg Value.bool aI), (congrArg Value.bool aJ), trivial⟩ (fun bQ aZ => ?_)
  clear aH
  refine At.done rfl ?_
  refine t_n ?_
  have bC := aZ.sub (r := [(4, .bool false)]) ⟨rfl, trivial⟩; clear aZ
  refine wp_ret ?_
  refine ret_ bC [] [.bool false] [] (by kernel_rfl) trivial ?_
  exact ⟨ret_eq (congrArg Value.bool (by first | (simp_all; done) | (rw [Bool.eq_iff_iff]; simp_all))), e0⟩
 have bR := of_decide_eq_false aI
 refine At.rd aH 12 [[], [.as_ (.bool false)], [], [], [], [], [], [], [], [], [], []] [(4, .bool false), (27, .bool false), (26, undef), (25, undef), (24, undef), (23, undef), (22, undef), (21, .bool false), (20, .bool false), (19, undef), (18, .bool false), (17, .bool (decide (la0 = lb0)))] [((.bool (decide (la0 = lb0)) : Value) = .bool false)] (by kernel_rfl) ⟨(congrArg Value.bool aI), trivial⟩ (fun bS bA => ?_)
 clear aH
 refine At.done rfl ?_
 refine t_n ?_
 have bD := bA.sub (r := [(4, .bool false)]) ⟨rfl, trivial⟩; clear bA
 refine wp_ret ?_
 refine ret_ bD [] [.bool false] [] (by kernel_rfl) trivial ?_
 exact ⟨ret_eq (congrArg Value.bool (by first | (simp_all; done) | (rw [Bool.eq_iff_iff]; simp_all))), e0⟩

set_option maxHeartbeats 4000000 in
theorem step17_any {Aa : Option Addr} {ca : Nat} {la : List Int} {Ab : Option Addr} {cb : Nat} {lb : List Int} {v j : Int} {w : World} (ra : RdI w 0 w.heap.size Aa la) (rb : RdI w 0 w.heap.size Ab lb) (h0 : 0 ≤ j) (hj : j ≤ 1000000) (hn : 0 < lb.length) :
    Calls Try.prog 21 #[.agg #[.slice Aa la.length ca, .slice Ab lb.length cb, .int .i64 (v)], .int .i64 (j)] w fun e w' => e = .returned (.int .i64 (stepI la lb j)) ∧ Ext w w' := by
 have hla := ra.len; have hlb := rb.len
 refine enter_ (args := [.agg #[.slice Aa la.length ca, .slice Ab lb.length cb, .int .i64 (v)], .int .i64 (j)]) Try.func21 rfl Try.ntmps21 (Nat.le_of_ble_eq_true rfl) (fun act0 f0 => ?_)
 have e0 : Ext w w := Ext.refl w
 refine wp_seq ?_
 refine At.start ?_
 refine At.seq f0 1 [[]] [(2, .pointer (some ⟨w.heap.size, 0, none⟩))] (w.alloc (.cells #[.slice Aa la.length ca, .slice Ab lb.length cb, .int .i64 (v)] 29 (0, 0))) [] (by kernel_rfl) trivial (fun act4 w1 hw2 f3 => ?_)
 clear f0; have g5 := gr_alloc hw2; have := g5.size; replace e0 := e0.gn g5; have r8 := ra.gn g5; clear ra; have r9 := rb.gn g5; clear rb; have aA : Bx w1 (w.heap.size) [.slice Aa la.length ca, .slice Ab lb.length cb, .int .i64 (v)] 29 := Bx.new hw2; have := aA.lt; clear g5 hw2
 refine At.rd f3 1 [[]] [(4, .int .i64 (0))] [] (by kernel_rfl) trivial (fun aT aG => ?_)
 clear f3
 refine At.done rfl ?_
 refine t_n ?_
 have aH := aG.sub (r := [(2, .pointer (some ⟨w.heap.size, 0, none⟩)), (1, .int .i64 (j))]) ⟨rfl, rfl, trivial⟩; clear aG
 refine wp_seq ?_
 refine wp_seq ?_
 refine At.start ?_
 refine At.rd aH 5 [[], [], [.ld (.slice Aa la.length ca)], [], []] [(9, .bool (decide ((j : Int) < ((la.length : Nat) : Int)))), (8, .int .i64 (((la.length : Nat) : Int))), (7, .slice Aa la.length ca), (6, .pointer (some ⟨w.heap.size, 0, none⟩)), (5, .int .i64 (j))] [(w1.cell? ⟨w.heap.size, 0, none⟩ = some (.slice Aa la.length ca))] (by kernel_rfl) ⟨(aA.cell (i := 0) rfl), trivial⟩ (fun aU aI => ?_)
 clear aH
 refine At.done rfl ?_
 refine t_n ?_
 have aC := aI.sub (r := [(9, .bool (decide ((j : Int) < ((la.length : Nat) : Int)))), (2, .pointer (some ⟨w.heap.size, 0, none⟩)), (1, .int .i64 (j))]) ⟨rfl, rfl, rfl, trivial⟩
 clear aI
 refine cond_S aC (t := decide ((j : Int) < ((la.length : Nat) : Int))) rfl (fun aF => ?_) (fun aF => ?_)
 ·have aV := of_decide_eq_true aF
  refine wp_seq ?_
  refine At.start ?_
  obtain ⟨aD, aN, _, _, aO⟩ := RdI.get r8 (j) (by omega) (by omega)
  refine At.rd aC 6 [[], [.ld (.slice Aa la.length ca)], [], [.ad aD], [.ld (.int .i64 (gI la (j)))], []] [(4, .int .i64 (gI la (j))), (14, .int .i64 (gI la (j))), (13, .pointer (some (aD.add ((j : Int).toNat * 1)))), (12, .int .i64 (j)), (11, .slice Aa la.length ca), (10, .pointer (some ⟨w.heap.size, 0, none⟩))] [(w1.cell? ⟨w.heap.size, 0, none⟩ = some (.slice Aa la.length ca)), (Aa = some aD), (0 ≤ (j : Int)), ((j : Int) < (la.length : Nat)), (w1.cell? (aD.add ((j : Int).toNat * 1)) = some (.int .i64 (gI la (j))))] (by kernel_rfl) ⟨(aA.cell (i := 0) rfl), aN, (by omega), (by omega), aO, trivial⟩ (fun aW aJ => ?_)
  clear aC
  refine At.done rfl ?_
  refine t_n ?_
  have aP := aJ.sub (r := [(4, .int .i64 (gI la (j)))]) ⟨rfl, trivial⟩; clear aJ
  refine wp_ret ?_
  refine t_r ?_
  refine ret_ aP [] [.int .i64 (gI la (j))] [] (by kernel_rfl) trivial ?_
  exact ⟨ret_eq (congrArg (Value.int .i64) (by unfold stepI; rw [if_pos (by omega)])), e0⟩
 have aX := of_decide_eq_false aF
 refine wp_skip ?_
 refine t_n ?_
 have aK := aC.sub (r := [(2, .pointer (some ⟨w.heap.size, 0, none⟩)), (1, .int .i64 (j))]) ⟨rfl, rfl, trivial⟩; clear aC
 refine wp_seq ?_
 have hem := Int.emod_nonneg (j - (la.length : Int)) (show (lb.length : Int) ≠ 0 by omega); have hem2 := Int.emod_lt_of_pos (j - (la.length : Int)) (show (0 : Int) < (lb.length : Int) by omega)
 obtain ⟨aE, aQ, _, _, aR⟩ := RdI.get r9 ((j - ((la.length : Nat) : Int) : Int) % ((lb.length : Nat) : Int)) (by omega) (by omega)
 refine drawn_ro aK (by kernel_rfl) (by kernel_rfl) [[], [.ld (.slice Ab lb.length cb)], [], [], [.ld (.slice Aa la.length ca)], [], [.as_ (.int .i64 (j - ((la.length : Nat) : Int)))], [], [.ld (.slice Ab lb.length cb)], [], [.as_ (.int .i64 ((j - ((la.length : Nat) : Int) : Int) % ((lb.length : Nat) : Int)))], [.ad aE], [.ld (.int .i64 (gI lb ((j - ((la.length : Nat) : Int) : Int) % ((lb.length : Nat) : Int))))], []] [(4, .int .i64 (gI lb ((j - ((la.length : Nat) : Int) : Int) % ((lb.length : Nat) : Int)))), (27, .int .i64 (gI lb ((j - ((la.length : Nat) : Int) : Int) % ((lb.length : Nat) : Int)))), (26, .pointer (some (aE.add (((j - ((la.length : Nat) : Int) : Int) % ((lb.length : Nat) : Int) : Int).toNat * 1)))), (25, .int .i64 ((j - ((la.length : Nat) : Int) : Int) % ((lb.length : Nat) : Int))), (24, .int .i64 (((lb.length : Nat) : Int))), (23, .slice Ab lb.length cb), (22, .pointer (some ⟨w.heap.size, 1, none⟩)), (21, .int .i64 (j - ((la.length : Nat) : Int))), (20, .int .i64 (((la.length : Nat) : Int))), (19, .slice Aa la.length ca), (18, .pointer (some ⟨w.heap.size, 0, none⟩)), (17, .int .i64 (j)), (16, .slice Ab lb.length cb), (15, .pointer (some ⟨w.heap.size, 1, none⟩))] [(w1.cell? ⟨w.heap.size, 1, none⟩ = some (.slice Ab lb.length cb)), (w1.cell? ⟨w.heap.size, 0, none⟩ = some (.slice Aa la.length ca)), ((.int .i64 (IntKind.i64.wrap (j - ((la.length : Nat) : Int))) : Value) = .int .i64 (j - ((la.length : Nat) : Int))), (w1.cell? ⟨w.heap.size, 1, none⟩ = some (.slice Ab lb.length cb)), ((((lb.length : Nat) : Int) : Int) ≠ 0), ((.int .i64 ((j - ((la.length : Nat) : Int) : Int).tmod ((lb.length : Nat) : Int)) : Value) = .int .i64 ((j - ((la.length : Nat) : Int) : Int) % ((lb.length : Nat) : Int))), (Ab = some aE), (0 ≤ ((j - ((la.length : Nat) : Int) : Int) % ((lb.length : Nat) : Int) : Int)), (((j - ((la.length : Nat) : Int) : Int) % ((lb.length : Nat) : Int) : Int) < (lb.length : Nat)), (w1.cell? (aE.add (((j - ((la.length : Nat) : Int) : Int) % ((lb.length : Nat) : Int) : Int).toNat * 1)) = some (.int .i64 (gI lb ((j - ((la.length : Nat) : Int) : Int) % ((lb.length : Nat) : Int)))))] (by kernel_rfl) ⟨(aA.cell (i := 1) rfl), (aA.cell (i := 0) rfl), (w64 (by omega) (by omega)), (aA.cell (i := 1) rfl), (by omega), (congrArg (Value.int .i64) (Int.tmod_eq_emod_of_nonneg (by omega))), aQ, (by omega), (by omega), aR, trivial⟩ (fun aY aZ aL aM => ?_)
 clear aK; have aB := gr_drew aL; have := aB.size; replace e0 := e0.gn aB; replace r8 := r8.gn aB; replace r9 := r9.gn aB; replace aA := aA.gn aB; clear aB aL
 refine t_n ?_
 have aS := aM.sub (r := [(4, .int .i64 (gI lb ((j - ((la.length : Nat) : Int) : Int) % ((lb.length : Nat) : Int))))]) ⟨rfl, trivial⟩; clear aM
 refine wp_ret ?_
 refine ret_ aS [] [.int .i64 (gI lb ((j - ((la.length : Nat) : Int) : Int) % ((lb.length : Nat) : Int)))] [] (by kernel_rfl) trivial ?_
 exact ⟨ret_eq (congrArg (Value.int .i64) (by unfold stepI; rw [if_neg (by omega)])), e0⟩

end Go.Proofs.Ytklbpajmoklheaa
