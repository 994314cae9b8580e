/-
  Texts of this repo, laid together: the frame of the walks, plain lemmas, walks of Go functions. Conditions: what the theorems name.
-/
import Derived.Deep.DeepHandedRow
import Derived.Deep.Matrix
import Derived.JoinedCond
import Derived.Lib.LaidTab
import Derived.Lib.SmallJoins
import Derived.OpenShut
import Derived.ProofKit
import Derived.Test.YtplpgfcjjnaigaaDoorRows
import Derived.WalkKit
import Derived.Test.YtplpgfcjjnaigaaDoorZ7
set_option linter.unusedVariables false
set_option linter.unusedSimpArgs false
namespace Go.Proofs.YtplpgfcjjnaigaaDoor
open Go Go.RowKit
attribute [local irreducible] ofZ fromW wordsD ofD ofW lsD lenW lenN fullW withW lessW hasW hasD inW inD leastD putD onI tzI orS andS minusS orD andD minusD fullD emptyD
set_option maxHeartbeats 4000000 in
theorem regions13_any {Ag0 Ag1 Ag2 : Option Addr} {cg0 cg1 cg2 : Nat} {g : GameL} {w : World} (rg : RdG w 0 w.heap.size Ag0 Ag1 Ag2 cg0 cg1 cg2 g) (rT : RdT w 0 w.heap.size) :
    Calls Tryd.prog 3 #[.agg #[.slice Ag0 g.ow.length cg0, .slice Ag1 g.pr.length cg1, .slice Ag2 g.mv.length cg2]] w fun e w' => e = .returned (.bool true) ∧ Ext w w' := by
 have hlg0 := rg.ow.len; have hlg1 := rg.pr.len; have hlg2 := rg.mv.len; have hkg0 := rg.k0; have hkg1 := rg.k1; have hkg2 := rg.k2
 refine enter_ (args := [.agg #[.slice Ag0 g.ow.length cg0, .slice Ag1 g.pr.length cg1, .slice Ag2 g.mv.length cg2]]) Tryd.func3 rfl Tryd.ntmps3 (Nat.le_of_ble_eq_true rfl) (fun act0 f0 => ?_)
 have e0 : Ext w w := Ext.refl w
 refine sqs ?_
 refine At.bx f0 1 [.slice Ag0 g.ow.length cg0, .slice Ag1 g.pr.length cg1, .slice Ag2 g.mv.length cg2] 25 (fun w1 g5 bx6 act4 f3 => ?_)
 clear f0; have szw1 := g5.size; replace e0 := e0.gn g5; have r9 := rg.gn g5; clear rg; have bG := rT.gn g5; clear rT; have := bx6.lt; clear g5
 refine At.rk f3 1 [(2, .bool false)] .n (fun nF hL => ?_)
 clear f3
 refine At.dn ?_
 refine sqs ?_
 refine At.cl hL (some 19) (shown13_any (bG.wide (Nat.zero_le _) ω)) ?_
 rintro e_ nG ⟨rfl, he⟩
 refine ⟨_, rfl, _, rfl, fun nH hM => ?_⟩
 clear hL; have eM := gr_ext he; have szw13 := eM.size; replace e0 := e0.gn eM; replace r9 := r9.gn eM; replace bG := bG.gn eM; replace bx6 := bx6.gn eM; clear eM he
 refine At.rk hM 1 [(3, .bool true)] .n (fun nI hN => ?_)
 clear hM
 refine At.dn ?_
 refine sqs ?_
 refine At.rk hN 1 [(20, .agg #[.slice Ag0 g.ow.length cg0, .slice Ag1 g.pr.length cg1, .slice Ag2 g.mv.length cg2])] (.l (bx6.cell (i := 0) rfl) <| .l (bx6.cell (i := 1) rfl) <| .l (bx6.cell (i := 2) rfl) <| .n) (fun nJ hO => ?_)
 clear hN
 refine At.cl hO (some 21) (args := #[.agg #[.slice Ag0 g.ow.length cg0, .slice Ag1 g.pr.length cg1, .slice Ag2 g.mv.length cg2]]) (isR_any (r9.wide (Nat.zero_le _) ω)) ?_
 rintro e_ aM ⟨rfl, he⟩
 refine ⟨_, rfl, _, rfl, fun nK hP => ?_⟩
 clear hO; have eN := gr_ext he; have szw25 := eN.size; replace e0 := e0.gn eN; replace r9 := r9.gn eN; replace bG := bG.gn eN; replace bx6 := bx6.gn eN; clear eN he
 refine At.rk hP 1 [(4, .bool (isR g))] .n (fun nL hQ => ?_)
 clear hP
 refine At.dn ?_
 refine sqs ?_
 refine At.rk hQ 1 [(22, .agg #[.slice Ag0 g.ow.length cg0, .slice Ag1 g.pr.length cg1, .slice Ag2 g.mv.length cg2])] (.l (bx6.cell (i := 0) rfl) <| .l (bx6.cell (i := 1) rfl) <| .l (bx6.cell (i := 2) rfl) <| .n) (fun nM hS => ?_)
 clear hQ
 refine At.cl hS (some 23) (args := #[.agg #[.slice Ag0 g.ow.length cg0, .slice Ag1 g.pr.length cg1, .slice Ag2 g.mv.length cg2]]) (copyR_any (g := g) (r9.wide (Nat.zero_le _) ω)) ?_
 rintro e_ aJ ⟨aB, bK, aC, bL, aD, bM, rfl, he, cX, cY, cZ⟩
 have hip49 := inner_len (RdG.mv (r9.wide (Nat.zero_le _) ω))
 refine ⟨_, rfl, _, rfl, fun nN hT => ?_⟩
 clear hS; have eO := gr_ext he; have szw50 := eO.size; replace e0 := e0.gn eO; replace r9 := r9.gn eO; replace bG := bG.gn eO; replace bx6 := bx6.gn eO; clear eO he
 refine At.bx hT 5 [.slice none 0 0, .slice none 0 0, .slice none 0 0] 25 (fun nO eC gK nP hU => ?_)
 clear hT; have szw58 := eC.size; replace e0 := e0.gn eC; replace r9 := r9.gn eC; replace bG := bG.gn eC; replace bx6 := bx6.gn eC; replace cX := cX.grN eC; replace cY := cY.grN eC; replace cZ := cZ.grN eC; have := gK.lt; clear eC
 refine At.store hU (t := 25) (b := aJ.heap.size) (off := 0) (v := .agg #[.slice aB g.ow.length bK, .slice aC g.pr.length bL, .slice aD g.mv.length bM]) κ gK κ (fun nQ aR eD dZ hV => ?_)
 clear hU; replace dZ : Bx aR (aJ.heap.size) [.slice aB g.ow.length bK, .slice aC g.pr.length bL, .slice aD g.mv.length bM] 25 := dZ; have szw72 := eD.size; replace e0 := e0.gr eD (fun k h => by injection h; omega); replace r9 := r9.gb eD ω; replace bG := bG.gb eD ω; replace bx6 := bx6.gb eD ω; replace cX := cX.gr eD (fun k hk => hk.1); replace cY := cY.gr eD (fun k hk => hk.1)
 replace cZ := cZ.gr eD (fun k hk => hk.1); clear gK eD
 refine At.dn ?_
 refine sqs ?_
 refine At.rk hV 1 [(24, .agg #[.slice Ag0 g.ow.length cg0, .slice Ag1 g.pr.length cg1, .slice Ag2 g.mv.length cg2])] (.l (bx6.cell (i := 0) rfl) <| .l (bx6.cell (i := 1) rfl) <| .l (bx6.cell (i := 2) rfl) <| .n) (fun nR hW => ?_)
 clear hV
 refine At.cl hW (some 25) (args := #[.agg #[.slice Ag0 g.ow.length cg0, .slice Ag1 g.pr.length cg1, .slice Ag2 g.mv.length cg2]]) (solve13_any (g := g) (r9.wide (Nat.zero_le _) ω)) ?_
 rintro e_ aG ⟨aE, bN, aF, bO, wa, wb, rfl, he, dV, dW, hwa⟩
 have hlwa := doc_len hwa
 refine ⟨_, rfl, _, rfl, fun nS hX => ?_⟩
 clear hW; have eA := gr_ext he; have gL := cX.lt; have gM := cY.lt; have gN := cZ.lt; have szw94 := eA.size; replace e0 := e0.gn eA; replace r9 := r9.gn eA; replace bG := bG.gn eA; replace bx6 := bx6.gn eA
 replace cX : OwnR aG (Sx (aM.heap.size) [obk (aE), obk (aF), some (aJ.heap.size), obk (aC), obk (aD)]) aB bK 3 (g.ow : List Int) := cX.grA eA (fun _ _ h => by cases h) (fun k hk hs => ⟨(fun e => by have := dV.ge _ e; omega), (fun e => by have := dW.ge _ e; omega), hs.1, hs.2.1, hs.2.2.1, hs.2.2.2⟩)
 replace cY : OwnR aG (Sx (aM.heap.size) [obk (aE), obk (aF), some (aJ.heap.size), obk (aB), obk (aD)]) aC bL 3 (g.pr : List Int) := cY.grA eA (fun _ _ h => by cases h) (fun k hk hs => ⟨(fun e => by have := dV.ge _ e; omega), (fun e => by have := dW.ge _ e; omega), hs.1, hs.2.1, hs.2.2.1, hs.2.2.2⟩)
 replace cZ : OwnLL aG (aM.heap.size) [obk (aE), obk (aF), some (aJ.heap.size), obk (aB), obk (aC)] aD bM 22 3 (g.mv : List (List Int)) := cZ.grA eA (fun _ _ h => by cases h) (fun k hk hs => ⟨(fun e => by have := dV.ge _ e; omega), (fun e => by have := dW.ge _ e; omega), hs.1, hs.2.1, hs.2.2.1, hs.2.2.2⟩)
 replace dZ := dZ.gn eA
 replace dV : OwnR aG (Sx (aR.heap.size) [obk (aB), obk (aC), obk (aD), obk (aF)]) aE bN 3 (wa : List Int) := dV.imp (fun g _ hs => ⟨(fun e => by have := gL _ e; have := Sx_base hs; omega), (fun e => by have := gM _ e; have := Sx_base hs; omega), (fun e => by have := gN _ e; have := Sx_base hs; omega), hs⟩)
 replace dW : OwnR aG (Sx (aR.heap.size) [obk (aB), obk (aC), obk (aD), obk (aE)]) aF bO 3 (wb : List Int) := dW.imp (fun g _ hs => ⟨(fun e => by have := gL _ e; have := Sx_base hs; omega), (fun e => by have := gM _ e; have := Sx_base hs; omega), (fun e => by have := gN _ e; have := Sx_base hs; omega), hs⟩)
 clear gL gM gN; clear eA he
 refine At.bx hX 6 [.slice none 0 0, .slice none 0 0] 29 (fun nT dS gO nU hY => ?_)
 clear hX; have szw111 := dS.size; replace e0 := e0.gn dS; replace r9 := r9.gn dS; replace bG := bG.gn dS; replace bx6 := bx6.gn dS; replace cX := cX.grN dS; replace cY := cY.grN dS; replace cZ := cZ.grN dS; replace dZ := dZ.gn dS; replace dV := dV.grN dS; replace dW := dW.grN dS; have := gO.lt; clear dS
 refine At.store hY (t := 29) (b := aG.heap.size) (off := 0) (v := .agg #[.slice aE wa.length bN, .slice aF wb.length bO]) κ gO κ (fun nV lD dT fW hZ => ?_)
 clear hY; replace fW : Bx lD (aG.heap.size) [.slice aE wa.length bN, .slice aF wb.length bO] 29 := fW; have szw128 := dT.size; replace e0 := e0.gr dT (fun k h => by injection h; omega); replace r9 := r9.gb dT ω; replace bG := bG.gb dT ω; replace bx6 := bx6.gb dT ω; replace cX := cX.gr dT (fun k hk => hk.1); replace cY := cY.gr dT (fun k hk => hk.1); replace cZ := cZ.gr dT (fun k hk => hk.1)
 replace dZ := dZ.gb dT ω; replace dV := dV.gr dT (fun k hk => hk.1); replace dW := dW.gr dT (fun k hk => hk.1); clear gO dT
 refine At.dn ?_
 refine wp_seq ?_
 refine sqs ?_
 refine At.rk hZ 1 [(7, .int .i64 (0))] .n (fun nW iA => ?_)
 clear hZ
 refine At.dn ?_
 refine wp_block ?_
 refine loop_g (fun (m_ : Nat) a_ w_ => ∃ (n_ : Int), m_ = (2 - n_).toNat ∧ (Frm 169 a_ [(7, .int .i64 (n_)), (6, pt aG.heap.size 0), (5, pt aJ.heap.size 0), (4, .bool (isR g)), (3, .bool true), (1, pt w.heap.size 0)]) ∧ (Ext w w_) ∧ (RdG w_ 0 w.heap.size Ag0 Ag1 Ag2 cg0 cg1 cg2 g) ∧ (RdT w_ 0 w.heap.size) ∧ (Bx w_ (w.heap.size) [.slice Ag0 g.ow.length cg0, .slice Ag1 g.pr.length cg1, .slice Ag2 g.mv.length cg2] 25) ∧ (OwnR w_ (Sx (aM.heap.size) [some (aG.heap.size), obk (aE), obk (aF), some (aJ.heap.size), obk (aC), obk (aD)]) aB bK 3 (g.ow : List Int)) ∧ (OwnR w_ (Sx (aM.heap.size) [some (aG.heap.size), obk (aE), obk (aF), some (aJ.heap.size), obk (aB), obk (aD)]) aC bL 3 (g.pr : List Int)) ∧ (OwnLL w_ (aM.heap.size) [some (aG.heap.size), obk (aE), obk (aF), some (aJ.heap.size), obk (aB), obk (aC)] aD bM 22 3 (g.mv : List (List Int))) ∧ (Bx w_ (aJ.heap.size) [.slice aB g.ow.length bK, .slice aC g.pr.length bL, .slice aD g.mv.length bM] 25) ∧ (OwnR w_ (Sx (aR.heap.size) [some (aG.heap.size), obk (aB), obk (aC), obk (aD), obk (aF)]) aE bN 3 (wa : List Int)) ∧ (OwnR w_ (Sx (aR.heap.size) [some (aG.heap.size), obk (aB), obk (aC), obk (aD), obk (aE)]) aF bO 3 (wb : List Int)) ∧ (Bx w_ (aG.heap.size) [.slice aE wa.length bN, .slice aF wb.length bO] 29) ∧ (0 ≤ n_) ∧ (n_ ≤ 2) ∧ (aM.heap.size ≤ w_.heap.size) ∧ (aR.heap.size ≤ w_.heap.size)) _ ⟨0, rfl, iA.sb, e0, r9, bG, bx6, cX, cY, cZ, dZ, dV, dW, fW, ω, ω, ω, ω⟩ ?_
 clear iA; clear r9; clear bG; clear bx6; clear cX; clear cY; clear cZ; clear dZ; clear dV; clear dW; clear fW; clear e0
 intro m_ nX aQ ⟨n_, hm149, iB, bH, bD, bP, aT, aY, aZ, eE, aV, bQ, bR, bI, i161, i162, i163, i164⟩
 have szw147 := bH.size; have := aT.lt; have := aV.lt; have := bI.lt
 have szc165 : w.heap.size < aM.heap.size := by omega
 have szc166 : aM.heap.size ≤ aJ.heap.size := by omega
 have szc167 : aJ.heap.size < aR.heap.size := by omega
 have szc168 : aR.heap.size ≤ aG.heap.size := by omega
 have szc169 : aG.heap.size < aQ.heap.size := by omega
 clear szw1 szw13 szw25 szw50 szw58 szw72 szw94 szw111 szw128 szw147
 refine wp_seq ?_
 refine sqs ?_
 refine At.rk iB 2 [(27, .bool (decide ((n_ : Int) < 2)))] .n (fun nY eX => ?_)
 clear iB
 refine At.dn ?_
 refine cond_S eX (t := decide ((n_ : Int) < 2)) rfl (fun gP => ?_) (fun gP => ?_)
 ·have nZ := of_decide_eq_true gP
  refine wp_skip ?_
  refine t_n ?_
  refine wp_seq ?_
  refine wp_block ?_
  refine sqs ?_
  refine At.rk eX 1 [(31, .agg #[.slice aB g.ow.length bK, .slice aC g.pr.length bL, .slice aD g.mv.length bM])] (.l (aV.cell (i := 0) rfl) <| .l (aV.cell (i := 1) rfl) <| .l (aV.cell (i := 2) rfl) <| .n) (fun oA iC => ?_)
  clear eX
  refine At.cl iC (some 32) (args := #[.agg #[.slice aB g.ow.length bK, .slice aC g.pr.length bL, .slice aD g.mv.length bM]]) (solve_any (g := g) (RdG.mk (G := g) (aY.rdI0 (by first | omega | (simp only [List.length_cons, List.length_nil]; omega) | (simp; done) | (simp; omega))) (aZ.rdI0 (by first | omega | (simp only [List.length_cons, List.length_nil]; omega) | (simp; done) | (simp; omega))) (eE.rdII0 (by first | omega | (simp only [List.length_cons, List.length_nil]; omega) | (simp; done) | (simp; omega)) hip49) aY.cap aZ.cap eE.cap) (bP.wide (Nat.zero_le _) ω)) ?_
  rintro e_ aA ⟨aS, cO, aI, bA, cI, eI, aK, cJ, la, lb, ma, mb, da, rfl, he, bB, bC, bE, bF, hsA⟩
  have hln_hsA := solve_lens hsA
  refine ⟨_, rfl, _, rfl, fun oB iD => ?_⟩
  clear iC; have dA := gr_ext he; have eY := aY.lt; have eZ := aZ.lt; have fA := eE.lt; have fB := bQ.lt; have fC := bR.lt; have szw192 := dA.size; replace bH := bH.gn dA; replace bD := bD.gn dA; replace bP := bP.gn dA; replace aT := aT.gn dA
  replace aY : OwnR aA (Sx (aM.heap.size) [obk (aS), obk (aI), obk (cI), obk (aK), some (aG.heap.size), obk (aE), obk (aF), some (aJ.heap.size), obk (aC), obk (aD)]) aB bK 3 (g.ow : List Int) := aY.grA dA (fun _ _ h => by cases h) (fun k hk hs => ⟨(fun e => by have := bB.ge _ e; omega), (fun e => by have := bC.ge _ e; omega), (fun e => by have := bE.ge _ e; omega), (fun e => by have := bF.ge _ e; omega), hs.1, hs.2.1, hs.2.2.1, hs.2.2.2.1, hs.2.2.2.2.1, hs.2.2.2.2.2.1, hs.2.2.2.2.2.2⟩)
  replace aZ : OwnR aA (Sx (aM.heap.size) [obk (aS), obk (aI), obk (cI), obk (aK), some (aG.heap.size), obk (aE), obk (aF), some (aJ.heap.size), obk (aB), obk (aD)]) aC bL 3 (g.pr : List Int) := aZ.grA dA (fun _ _ h => by cases h) (fun k hk hs => ⟨(fun e => by have := bB.ge _ e; omega), (fun e => by have := bC.ge _ e; omega), (fun e => by have := bE.ge _ e; omega), (fun e => by have := bF.ge _ e; omega), hs.1, hs.2.1, hs.2.2.1, hs.2.2.2.1, hs.2.2.2.2.1, hs.2.2.2.2.2.1, hs.2.2.2.2.2.2⟩)
  have dB : OwnLL aA (aM.heap.size) [obk (aS), obk (aI), obk (cI), obk (aK), some (aG.heap.size), obk (aE), obk (aF), some (aJ.heap.size), obk (aB), obk (aC)] aD bM 22 3 (g.mv : List (List Int)) := eE.grA dA (fun _ _ h => by cases h) (fun k hk hs => ⟨(fun e => by have := bB.ge _ e; omega), (fun e => by have := bC.ge _ e; omega), (fun e => by have := bE.ge _ e; omega), (fun e => by have := bF.ge _ e; omega), hs.1, hs.2.1, hs.2.2.1, hs.2.2.2.1, hs.2.2.2.2.1, hs.2.2.2.2.2.1, hs.2.2.2.2.2.2⟩)
  clear eE; replace aV := aV.gn dA
  replace bQ : OwnR aA (Sx (aR.heap.size) [obk (aS), obk (aI), obk (cI), obk (aK), some (aG.heap.size), obk (aB), obk (aC), obk (aD), obk (aF)]) aE bN 3 (wa : List Int) := bQ.grA dA (fun _ _ h => by cases h) (fun k hk hs => ⟨(fun e => by have := bB.ge _ e; omega), (fun e => by have := bC.ge _ e; omega), (fun e => by have := bE.ge _ e; omega), (fun e => by have := bF.ge _ e; omega), hs.1, hs.2.1, hs.2.2.1, hs.2.2.2.1, hs.2.2.2.2.1, hs.2.2.2.2.2⟩)
  replace bR : OwnR aA (Sx (aR.heap.size) [obk (aS), obk (aI), obk (cI), obk (aK), some (aG.heap.size), obk (aB), obk (aC), obk (aD), obk (aE)]) aF bO 3 (wb : List Int) := bR.grA dA (fun _ _ h => by cases h) (fun k hk hs => ⟨(fun e => by have := bB.ge _ e; omega), (fun e => by have := bC.ge _ e; omega), (fun e => by have := bE.ge _ e; omega), (fun e => by have := bF.ge _ e; omega), hs.1, hs.2.1, hs.2.2.1, hs.2.2.2.1, hs.2.2.2.2.1, hs.2.2.2.2.2⟩)
  replace bI := bI.gn dA
  replace bB : OwnR aA (Sx (aQ.heap.size) [obk (aB), obk (aC), obk (aD), obk (aE), obk (aF), obk (aI), obk (cI), obk (aK)]) aS cO 3 (la : List Int) := bB.imp (fun g _ hs => ⟨(fun e => by have := eY _ e; have := Sx_base hs; omega), (fun e => by have := eZ _ e; have := Sx_base hs; omega), (fun e => by have := fA _ e; have := Sx_base hs; omega), (fun e => by have := fB _ e; have := Sx_base hs; omega), (fun e => by have := fC _ e; have := Sx_base hs; omega), hs⟩)
  replace bC : OwnR aA (Sx (aQ.heap.size) [obk (aB), obk (aC), obk (aD), obk (aE), obk (aF), obk (aS), obk (cI), obk (aK)]) aI bA 3 (lb : List Int) := bC.imp (fun g _ hs => ⟨(fun e => by have := eY _ e; have := Sx_base hs; omega), (fun e => by have := eZ _ e; have := Sx_base hs; omega), (fun e => by have := fA _ e; have := Sx_base hs; omega), (fun e => by have := fB _ e; have := Sx_base hs; omega), (fun e => by have := fC _ e; have := Sx_base hs; omega), hs⟩)
  replace bE : OwnR aA (Sx (aQ.heap.size) [obk (aB), obk (aC), obk (aD), obk (aE), obk (aF), obk (aS), obk (aI), obk (aK)]) cI eI 3 (ma : List Int) := bE.imp (fun g _ hs => ⟨(fun e => by have := eY _ e; have := Sx_base hs; omega), (fun e => by have := eZ _ e; have := Sx_base hs; omega), (fun e => by have := fA _ e; have := Sx_base hs; omega), (fun e => by have := fB _ e; have := Sx_base hs; omega), (fun e => by have := fC _ e; have := Sx_base hs; omega), hs⟩)
  replace bF : OwnR aA (Sx (aQ.heap.size) [obk (aB), obk (aC), obk (aD), obk (aE), obk (aF), obk (aS), obk (aI), obk (cI)]) aK cJ 3 (mb : List Int) := bF.imp (fun g _ hs => ⟨(fun e => by have := eY _ e; have := Sx_base hs; omega), (fun e => by have := eZ _ e; have := Sx_base hs; omega), (fun e => by have := fA _ e; have := Sx_base hs; omega), (fun e => by have := fB _ e; have := Sx_base hs; omega), (fun e => by have := fC _ e; have := Sx_base hs; omega), hs⟩)
  clear eY eZ fA fB fC; clear dA he
  refine At.rk iD 3 [(34, .int .i64 (da)), (33, .agg #[.slice aS la.length cO, .slice aI lb.length bA, .slice cI ma.length eI, .slice aK mb.length cJ])] .n (fun oC iE => ?_)
  clear iD
  refine At.bx iE 8 [.slice none 0 0, .slice none 0 0, .slice none 0 0, .slice none 0 0] 32 (fun oD bY gQ oE iF => ?_)
  clear iE; have szw218 := bY.size; replace bH := bH.gn bY; replace bD := bD.gn bY; replace bP := bP.gn bY; replace aT := aT.gn bY; replace aY := aY.grN bY; replace aZ := aZ.grN bY; replace dB := dB.grN bY; replace aV := aV.gn bY; replace bQ := bQ.grN bY; replace bR := bR.grN bY; replace bI := bI.gn bY; replace bB := bB.grN bY; replace bC := bC.grN bY; replace bE := bE.grN bY; replace bF := bF.grN bY
  have := gQ.lt; clear bY
  refine At.store iF (t := 32) (b := aA.heap.size) (off := 0) (v := .agg #[.slice aS la.length cO, .slice aI lb.length bA, .slice cI ma.length eI, .slice aK mb.length cJ]) κ gQ κ (fun oF lE bZ bJ iG => ?_)
  clear iF; replace bJ : Bx lE (aA.heap.size) [.slice aS la.length cO, .slice aI lb.length bA, .slice cI ma.length eI, .slice aK mb.length cJ] 32 := bJ; have szw240 := bZ.size; replace bH := bH.gr bZ (fun k h => by injection h; omega); replace bD := bD.gb bZ ω; replace bP := bP.gb bZ ω; replace aT := aT.gb bZ ω; replace aY := aY.gr bZ (fun k hk => hk.1); replace aZ := aZ.gr bZ (fun k hk => hk.1)
  replace dB := dB.gr bZ (fun k hk => hk.1); replace aV := aV.gb bZ ω; replace bQ := bQ.gr bZ (fun k hk => hk.1); replace bR := bR.gr bZ (fun k hk => hk.1); replace bI := bI.gb bZ ω; replace bB := bB.gr bZ (fun k hk => hk.1); replace bC := bC.gr bZ (fun k hk => hk.1); replace bE := bE.gr bZ (fun k hk => hk.1); replace bF := bF.gr bZ (fun k hk => hk.1); clear gQ bZ
  refine At.rk iG 1 [(9, .int .i64 (da))] .n (fun oG iH => ?_)
  clear iG
  refine At.dn ?_
  refine sqs ?_
  refine At.rk iH 3 [(37, .agg #[.slice aE wa.length bN, .slice aF wb.length bO]), (36, .agg #[.slice aS la.length cO, .slice aI lb.length bA])] (.l (bJ.cell (i := 0) rfl) <| .l (bJ.cell (i := 1) rfl) <| .l (bI.cell (i := 0) rfl) <| .l (bI.cell (i := 1) rfl) <| .n) (fun oH iI => ?_)
  clear iH
  refine At.cl iI (some 38) (args := #[.agg #[.slice aS la.length cO, .slice aI lb.length bA], .agg #[.slice aE wa.length bN, .slice aF wb.length bO]]) ((alike_any (la := la) (lb := lb) (lc := wa) (ld := wb) (bB.rdI0 (by first | omega | (simp only [List.length_cons, List.length_nil]; omega) | (simp; done) | (simp; omega))) (bC.rdI0 (by first | omega | (simp only [List.length_cons, List.length_nil]; omega) | (simp; done) | (simp; omega))) (bQ.rdI0 (by first | omega | (simp only [List.length_cons, List.length_nil]; omega) | (simp; done) | (simp; omega))) (bR.rdI0 (by first | omega | (simp only [List.length_cons, List.length_nil]; omega) | (simp; done) | (simp; omega)))).mono (R' := fun e w' => e = .returned (.bool true) ∧ Ext _ w') (fun e_ w_ h_ => by rw [show (decide (la = wa) && decide (lb = wb) : Bool) = true from (by rw [decide_eq_true (reg_same hsA hwa).1, decide_eq_true (reg_same hsA hwa).2]; rfl)] at h_; exact h_)) ?_
  rintro e_ oI ⟨rfl, he⟩
  refine ⟨_, rfl, _, rfl, fun oJ iJ => ?_⟩
  clear iI; have bS := gr_ext he; have szw264 := bS.size; replace bH := bH.gn bS; replace bD := bD.gn bS; replace bP := bP.gn bS; replace aT := aT.gn bS; replace aY := aY.gn bS; replace aZ := aZ.gn bS; replace dB := dB.gn bS; replace aV := aV.gn bS; replace bQ := bQ.gn bS; replace bR := bR.gn bS; replace bI := bI.gn bS; replace bB := bB.gn bS; replace bC := bC.gn bS; replace bE := bE.gn bS
  replace bF := bF.gn bS; replace bJ := bJ.gn bS; clear bS he
  refine At.rk iJ 1 [(10, .bool true)] .n (fun oK iK => ?_)
  clear iJ
  refine At.dn ?_
  refine wp_seq ?_
  refine sqs ?_
  refine At.rk iK 2 [(40, .bool (!(isR g)))] .n (fun oL fD => ?_)
  clear iK
  refine At.dn ?_
  refine cond_S fD (t := !(isR g)) rfl (fun eJ => ?_) (fun eJ => ?_)
  ·have oM : (isR g) = false := by first | exact Eq.mp (Bool.not_eq_true' _) eJ | exact Eq.mp (Bool.not_eq_false' _) eJ | simpa using eJ
   refine wp_seq ?_
   refine wp_seq ?_
   have hno := reg_no σ hsA
   refine At.start ?_
   refine At.rk fD 20 [(60, .bool false), (59, .bool false), (58, .int .i64 (((mb.length : Nat) : Int))), (57, .slice aK mb.length cJ), (56, pt aA.heap.size 3), (55, pt aA.heap.size 2), (52, .bool false), (51, .int .i64 (((ma.length : Nat) : Int))), (50, .slice cI ma.length eI), (49, pt aA.heap.size 2), (48, pt aA.heap.size 2), (45, .bool false), (44, .bool true)] (.v 42 (show (.bool ((da : Int) != 0) : Value) = .bool false from (congrArg Value.bool (bneF ω))) <| .b 0 2 <| .l (bJ.cell (i := 2) rfl) <| .v 52 (show (.bool ((((ma.length : Nat) : Int) : Int) != 0) : Value) = .bool false from (congrArg Value.bool (bneF ω))) <| .b 1 2 <| .l (bJ.cell (i := 3) rfl) <| .v 59 (show (.bool ((((mb.length : Nat) : Int) : Int) != 0) : Value) = .bool false from (congrArg Value.bool (bneF ω))) <| .n) (fun oN gR => ?_)
   clear fD
   refine At.dn ?_
   refine cond_F gR rfl ?_
   refine wp_skip ?_
   refine t_n ?_
   refine wp_exit ?_
   refine t_e ?_
   refine b_e ?_
   refine t_n ?_
   refine At.start ?_
   refine At.rk gR 3 [(7, .int .i64 (n_ + 1))] (.w 29 (n_ + 1) <| .n) (fun oO lF => ?_)
   clear gR
   refine At.dn ?_
   exact ⟨_, ω, (n_ + 1), rfl, lF.sb, bH, bD, bP, aT, (aY.imp (fun g _ hs => ⟨hs.2.2.2.2.2.1, hs.2.2.2.2.2.2.1, hs.2.2.2.2.2.2.2.1, hs.2.2.2.2.2.2.2.2.1, hs.2.2.2.2.2.2.2.2.2.1, hs.2.2.2.2.2.2.2.2.2.2.1, hs.2.2.2.2.2.2.2.2.2.2.2⟩)), (aZ.imp (fun g _ hs => ⟨hs.2.2.2.2.2.1, hs.2.2.2.2.2.2.1, hs.2.2.2.2.2.2.2.1, hs.2.2.2.2.2.2.2.2.1, hs.2.2.2.2.2.2.2.2.2.1, hs.2.2.2.2.2.2.2.2.2.2.1, hs.2.2.2.2.2.2.2.2.2.2.2⟩)), (dB.imp (fun g _ hs => ⟨hs.2.2.2.2.2.1, hs.2.2.2.2.2.2.1, hs.2.2.2.2.2.2.2.1, hs.2.2.2.2.2.2.2.2.1, hs.2.2.2.2.2.2.2.2.2.1, hs.2.2.2.2.2.2.2.2.2.2.1, hs.2.2.2.2.2.2.2.2.2.2.2⟩)), aV, (bQ.imp (fun g _ hs => ⟨hs.2.2.2.2.2.1, hs.2.2.2.2.2.2.1, hs.2.2.2.2.2.2.2.1, hs.2.2.2.2.2.2.2.2.1, hs.2.2.2.2.2.2.2.2.2.1, hs.2.2.2.2.2.2.2.2.2.2⟩)), (bR.imp (fun g _ hs => ⟨hs.2.2.2.2.2.1, hs.2.2.2.2.2.2.1, hs.2.2.2.2.2.2.2.1, hs.2.2.2.2.2.2.2.2.1, hs.2.2.2.2.2.2.2.2.2.1, hs.2.2.2.2.2.2.2.2.2.2⟩)), bI, ω, ω, ω, ω⟩
  have oP : (isR g) = true := by first | exact Eq.mp (Bool.not_eq_true' _) eJ | exact Eq.mp (Bool.not_eq_false' _) eJ | simpa using eJ
  refine wp_skip ?_
  refine t_n ?_
  refine wp_seq ?_
  refine sqs ?_
  refine At.rk fD 2 [(62, .bool false)] .n (fun oQ gS => ?_)
  clear fD
  refine At.dn ?_
  refine cond_F gS rfl ?_
  refine wp_skip ?_
  refine t_n ?_
  refine wp_seq ?_
  have hR : isR g = true := by assumption
  have hG := isR_ok hR; have hn1 := hG.n1; have hd := reg_d hR hsA
  refine At.start ?_
  refine At.rk gS 4 [(11, .int .i64 (((g.ow.length : Nat) : Int)))] (.l (aT.cell (i := 0) rfl) <| .n) (fun oR iL => ?_)
  clear gS
  refine At.dn ?_
  refine sqs ?_
  refine At.rk iL 7 [(72, .slice cI ma.length eI), (69, .slice aS la.length cO), (66, .agg #[.slice Ag0 g.ow.length cg0, .slice Ag1 g.pr.length cg1, .slice Ag2 g.mv.length cg2])] (.l (aT.cell (i := 0) rfl) <| .l (aT.cell (i := 1) rfl) <| .l (aT.cell (i := 2) rfl) <| .b 0 2 <| .l (bJ.cell (i := 0) rfl) <| .b 0 2 <| .l (bJ.cell (i := 2) rfl) <| .n) (fun oS iM => ?_)
  clear iL
  refine At.cl iM (some 73) (args := #[.agg #[.slice Ag0 g.ow.length cg0, .slice Ag1 g.pr.length cg1, .slice Ag2 g.mv.length cg2], .slice aS la.length cO, .slice cI ma.length eI, .int .i64 (0)]) (wins_any (g := g) (lr := la) (lm := ma) (p := 0) (bD.wide (Nat.zero_le _) ω) (bB.rdI0 (by first | omega | (simp only [List.length_cons, List.length_nil]; omega) | (simp; done) | (simp; omega))) (bE.rdI0 (by first | omega | (simp only [List.length_cons, List.length_nil]; omega) | (simp; done) | (simp; omega))) hR (reg_wins0 hR hsA)) ?_
  rintro e_ oT ⟨rfl, he⟩
  refine ⟨_, rfl, _, rfl, fun oU iN => ?_⟩
  clear iM; have bT := gr_ext he; have szw303 := bT.size; replace bH := bH.gn bT; replace bD := bD.gn bT; replace bP := bP.gn bT; replace aT := aT.gn bT; replace aY := aY.gn bT; replace aZ := aZ.gn bT; replace dB := dB.gn bT; replace aV := aV.gn bT; replace bQ := bQ.gn bT; replace bR := bR.gn bT; replace bI := bI.gn bT; replace bB := bB.gn bT; replace bC := bC.gn bT; replace bE := bE.gn bT
  replace bF := bF.gn bT; replace bJ := bJ.gn bT; clear bT he
  refine At.rk iN 1 [(12, .bool true)] .n (fun oV iO => ?_)
  clear iN
  refine At.dn ?_
  refine sqs ?_
  refine At.rk iO 7 [(80, .slice aK mb.length cJ), (77, .slice aI lb.length bA), (74, .agg #[.slice Ag0 g.ow.length cg0, .slice Ag1 g.pr.length cg1, .slice Ag2 g.mv.length cg2])] (.l (aT.cell (i := 0) rfl) <| .l (aT.cell (i := 1) rfl) <| .l (aT.cell (i := 2) rfl) <| .b 1 2 <| .l (bJ.cell (i := 1) rfl) <| .b 1 2 <| .l (bJ.cell (i := 3) rfl) <| .n) (fun oW iP => ?_)
  clear iO
  refine At.cl iP (some 81) (args := #[.agg #[.slice Ag0 g.ow.length cg0, .slice Ag1 g.pr.length cg1, .slice Ag2 g.mv.length cg2], .slice aI lb.length bA, .slice aK mb.length cJ, .int .i64 (1)]) (wins_any (g := g) (lr := lb) (lm := mb) (p := 1) (bD.wide (Nat.zero_le _) ω) (bC.rdI0 (by first | omega | (simp only [List.length_cons, List.length_nil]; omega) | (simp; done) | (simp; omega))) (bF.rdI0 (by first | omega | (simp only [List.length_cons, List.length_nil]; omega) | (simp; done) | (simp; omega))) hR (reg_wins1 hR hsA)) ?_
  rintro e_ oX ⟨rfl, he⟩
  refine ⟨_, rfl, _, rfl, fun oY iQ => ?_⟩
  clear iP; have bU := gr_ext he; have szw327 := bU.size; replace bH := bH.gn bU; replace bD := bD.gn bU; replace bP := bP.gn bU; replace aT := aT.gn bU; replace aY := aY.gn bU; replace aZ := aZ.gn bU; replace dB := dB.gn bU; replace aV := aV.gn bU; replace bQ := bQ.gn bU; replace bR := bR.gn bU; replace bI := bI.gn bU; replace bB := bB.gn bU; replace bC := bC.gn bU; replace bE := bE.gn bU
  replace bF := bF.gn bU; replace bJ := bJ.gn bU; clear bU he
  refine At.rk iQ 1 [(13, .bool true)] .n (fun oZ iR => ?_)
  clear iQ
  refine At.dn ?_
  refine wp_seq ?_
  refine sqs ?_
  refine At.rk iR 16 [(97, .bool false), (96, .bool false), (95, .int .i64 (((g.ow.length : Nat) : Int) + 1)), (94, .int .i64 (((g.ow.length : Nat) : Int))), (93, .int .i64 (da)), (90, .bool false), (89, .int .i64 (da)), (86, .bool false), (85, .bool true)] (.v 90 (show (.bool (decide ((da : Int) < 1)) : Value) = .bool false from (congrArg Value.bool (decide_eq_false ω))) <| .w 95 (((g.ow.length : Nat) : Int) + 1) <| .v 96 (show (.bool (decide ((da : Int) > (((g.ow.length : Nat) : Int) + 1))) : Value) = .bool false from (congrArg Value.bool (decide_eq_false ω))) <| .n) (fun pA gT => ?_)
  clear iR
  refine At.dn ?_
  refine cond_F gT rfl ?_
  refine wp_skip ?_
  refine t_n ?_
  refine sqs ?_
  refine At.rk gT 1 [(14, .int .i64 (0))] .n (fun pB iS => ?_)
  clear gT
  refine At.dn ?_
  refine wp_block ?_
  have iT := iS.sb (r := [(14, .int .i64 (0)), (96, .bool false), (95, .int .i64 (((g.ow.length : Nat) : Int) + 1)), (94, .int .i64 (((g.ow.length : Nat) : Int))), (93, .int .i64 (da)), (90, .bool false), (89, .int .i64 (da)), (86, .bool false), (85, .bool true), (11, .int .i64 (((g.ow.length : Nat) : Int))), (8, pt aA.heap.size 0), (7, .int .i64 (n_)), (6, pt aG.heap.size 0), (5, pt aJ.heap.size 0), (4, .bool (isR g)), (3, .bool true), (1, pt w.heap.size 0)])
  clear iS
  refine loop_u0 ?_
  refine loop_u ?_
  refine wp_seq ?_
  refine sqs ?_
  refine At.rk iT 2 [(99, .bool true)] (.v 99 (show (.bool (decide ((0 : Int) < 2)) : Value) = .bool true from κ) <| .n) (fun pC gU => ?_)
  clear iT
  refine At.dn ?_
  refine cond_T gU rfl ?_
  refine wp_skip ?_
  refine t_n ?_
  refine wp_seq ?_
  refine wp_block ?_
  refine wp_seq ?_
  refine sqs ?_
  refine At.rk gU 7 [(108, .bool false)] (.b 0 2 <| .l (bJ.cell (i := 2) rfl) <| .v 108 (show (.bool ((((ma.length : Nat) : Int) : Int) != ((g.ow.length : Nat) : Int)) : Value) = .bool false from (congrArg Value.bool (bneF ω))) <| .n) (fun pD gV => ?_)
  clear gU
  refine At.dn ?_
  refine cond_F gV rfl ?_
  refine wp_skip ?_
  refine t_n ?_
  refine wp_seq ?_
  refine sqs ?_
  refine At.rk gV 1 [(15, .int .i64 (0))] .n (fun pE iU => ?_)
  clear gV
  refine At.dn ?_
  refine wp_block ?_
  refine loop_g (fun (m_ : Nat) a_ w_ => ∃ (k02_ : Int) (ya : List Int) (aH : Option Addr) (aU : Nat), m_ = ((g.ow.length : Int) - k02_).toNat ∧ (Frm 169 a_ [(15, .int .i64 (k02_)), (14, .int .i64 (0)), (96, .bool false), (95, .int .i64 (((g.ow.length : Nat) : Int) + 1)), (94, .int .i64 (((g.ow.length : Nat) : Int))), (93, .int .i64 (da)), (90, .bool false), (89, .int .i64 (da)), (86, .bool false), (85, .bool true), (11, .int .i64 (((g.ow.length : Nat) : Int))), (8, pt aA.heap.size 0), (7, .int .i64 (n_)), (6, pt aG.heap.size 0), (5, pt aJ.heap.size 0), (4, .bool (isR g)), (3, .bool true), (1, pt w.heap.size 0)]) ∧ (Ext w w_) ∧ (RdG w_ 0 w.heap.size Ag0 Ag1 Ag2 cg0 cg1 cg2 g) ∧ (RdT w_ 0 w.heap.size) ∧ (Bx w_ (w.heap.size) [.slice Ag0 g.ow.length cg0, .slice Ag1 g.pr.length cg1, .slice Ag2 g.mv.length cg2] 25) ∧ (OwnR w_ (Sx (aM.heap.size) [some (aA.heap.size), obk (aS), obk (aI), obk (aH), obk (aK), some (aG.heap.size), obk (aE), obk (aF), some (aJ.heap.size), obk (aC), obk (aD)]) aB bK 3 (g.ow : List Int)) ∧ (OwnR w_ (Sx (aM.heap.size) [some (aA.heap.size), obk (aS), obk (aI), obk (aH), obk (aK), some (aG.heap.size), obk (aE), obk (aF), some (aJ.heap.size), obk (aB), obk (aD)]) aC bL 3 (g.pr : List Int)) ∧ (OwnLL w_ (aM.heap.size) [some (aA.heap.size), obk (aS), obk (aI), obk (aH), obk (aK), some (aG.heap.size), obk (aE), obk (aF), some (aJ.heap.size), obk (aB), obk (aC)] aD bM 22 3 (g.mv : List (List Int))) ∧ (Bx w_ (aJ.heap.size) [.slice aB g.ow.length bK, .slice aC g.pr.length bL, .slice aD g.mv.length bM] 25) ∧ (OwnR w_ (Sx (aR.heap.size) [some (aA.heap.size), obk (aS), obk (aI), obk (aH), obk (aK), some (aG.heap.size), obk (aB), obk (aC), obk (aD), obk (aF)]) aE bN 3 (wa : List Int)) ∧ (OwnR w_ (Sx (aR.heap.size) [some (aA.heap.size), obk (aS), obk (aI), obk (aH), obk (aK), some (aG.heap.size), obk (aB), obk (aC), obk (aD), obk (aE)]) aF bO 3 (wb : List Int)) ∧ (Bx w_ (aG.heap.size) [.slice aE wa.length bN, .slice aF wb.length bO] 29) ∧ (OwnR w_ (Sx (aQ.heap.size) [some (aA.heap.size), obk (aB), obk (aC), obk (aD), obk (aE), obk (aF), obk (aI), obk (aH), obk (aK)]) aS cO 3 (la : List Int)) ∧ (OwnR w_ (Sx (aQ.heap.size) [some (aA.heap.size), obk (aB), obk (aC), obk (aD), obk (aE), obk (aF), obk (aS), obk (aH), obk (aK)]) aI bA 3 (lb : List Int)) ∧ (OwnR w_ (Sx (aQ.heap.size) [some (aA.heap.size), obk (aB), obk (aC), obk (aD), obk (aE), obk (aF), obk (aS), obk (aI), obk (aK)]) aH aU 3 (ya : List Int)) ∧ (OwnR w_ (Sx (aQ.heap.size) [some (aA.heap.size), obk (aB), obk (aC), obk (aD), obk (aE), obk (aF), obk (aS), obk (aI), obk (aH)]) aK cJ 3 (mb : List Int)) ∧ (Bx w_ (aA.heap.size) [.slice aS la.length cO, .slice aI lb.length bA, .slice aH ya.length aU, .slice aK mb.length cJ] 32) ∧ (0 ≤ k02_) ∧ (k02_ ≤ (g.ow.length : Int)) ∧ (OverK ma ya k02_) ∧ (aM.heap.size ≤ w_.heap.size) ∧ (aR.heap.size ≤ w_.heap.size) ∧ (aQ.heap.size ≤ w_.heap.size)) _ ⟨0, (ma : List Int), cI, eI, rfl, iU.sb, bH, bD, bP, aT, aY, aZ, dB, aV, bQ, bR, bI, bB, bC, bE, bF, (bJ.as (by first | rfl | (simp only [List.cons.injEq, Value.slice.injEq, true_and, and_true]; omega))), ω, (Int.natCast_nonneg _), over_0, ω, ω, ω⟩ ?_
  clear iU; clear bD; clear bP; clear aT; clear aY; clear aZ; clear dB; clear aV; clear bQ; clear bR; clear bI; clear bB; clear bC; clear bE; clear bF; clear bJ; clear bH
  intro m_ pF lG ⟨k02_, ya, aH, aU, hm366, iV, cP, cQ, dC, cK, dD, dE, eP, cR, cS, dF, cM, dG, dH, aN, dI, aW, i383, i384, hov02, i385, i386, i387⟩
  have szw364 := cP.size; have := cK.lt; have := cR.lt; have := cM.lt; have := aW.lt
  have szc388 : w.heap.size < aM.heap.size := by omega
  have szc389 : aM.heap.size ≤ aJ.heap.size := by omega
  have szc390 : aJ.heap.size < aR.heap.size := by omega
  have szc391 : aR.heap.size ≤ aG.heap.size := by omega
  have szc392 : aG.heap.size < aQ.heap.size := by omega
  have szc393 : aQ.heap.size ≤ aA.heap.size := by omega
  have szc394 : aA.heap.size < lG.heap.size := by omega
  clear szc165 szc166 szc167 szc168 szc169 szw192 szw218 szw240 szw264 szw303 szw327 szw364; have hol02 := hov02.1
  refine wp_seq ?_
  refine sqs ?_
  refine At.rk iV 3 [(111, .bool (decide ((k02_ : Int) < ((g.ow.length : Nat) : Int))))] .n (fun pG eK => ?_)
  clear iV
  refine At.dn ?_
  refine cond_S eK (t := decide ((k02_ : Int) < ((g.ow.length : Nat) : Int))) rfl (fun gW => ?_) (fun gW => ?_)
  ·have pH := of_decide_eq_true gW
   refine wp_skip ?_
   refine t_n ?_
   refine wp_seq ?_
   refine wp_block ?_
   refine sqs ?_
   obtain ⟨pI, iW, _, _, iX⟩ := RdI.get cQ.ow (k02_) ω ω
   rcases Bool.eq_false_or_eq_true ((gI g.ow (k02_) : Int) == 0) with fE | fE
   ·have pJ := eq_of_beq fE
    refine At.rk eK 12 [(125, .int .i64 (k02_)), (124, .slice aE wa.length bN), (123, pt aG.heap.size 0), (122, .int .i64 (0)), (121, .bool true)] (.l (cK.cell (i := 0) rfl) <| .a k02_ g.ow.length iW <| .l iX <| .e 121 fE <| .b 0 2 <| .l (cM.cell (i := 0) rfl) <| .n) (fun pK iY => ?_)
    clear eK
    refine At.cl iY (some 126) (args := #[.slice aE wa.length bN, .int .i64 (k02_)]) (count_any (la := wa) (v := k02_) (cS.rdI0 (by first | omega | (simp only [List.length_cons, List.length_nil]; omega) | (simp; done) | (simp; omega)))) ?_
    rintro e_ pL ⟨rfl, he⟩
    refine ⟨_, rfl, _, rfl, fun pM iZ => ?_⟩
    clear iY; have bV := gr_ext he; have := bV.size; replace cP := cP.gn bV; replace cQ := cQ.gn bV; replace dC := dC.gn bV; replace cK := cK.gn bV; replace dD := dD.gn bV; replace dE := dE.gn bV; have eQ := eP.gn bV; clear eP; replace cR := cR.gn bV; replace cS := cS.gn bV; replace dF := dF.gn bV; replace cM := cM.gn bV; replace dG := dG.gn bV; replace dH := dH.gn bV; replace aN := aN.gn bV
    replace dI := dI.gn bV; replace aW := aW.gn bV; clear bV he
    refine At.rk iZ 3 [(16, .bool (((wa.count k02_ : Int) : Int) == 1)), (127, .bool (((wa.count k02_ : Int) : Int) == 1))] .n (fun pN fX => ?_)
    clear iZ
    refine At.dn ?_
    refine wp_seq ?_
    refine sqs ?_
    rcases Bool.eq_false_or_eq_true (!(((wa.count k02_ : Int) : Int) == 1)) with eF | eF
    ·have lH : (((wa.count k02_ : Int) : Int) == 1) = false := by first | exact Eq.mp (Bool.not_eq_true' _) eF | exact Eq.mp (Bool.not_eq_false' _) eF | simpa using eF
     have pO := ne_of_beq_false lH
     obtain ⟨lI, lJ, pP, lK, pQ⟩ := aN.get (k02_) ω ω (sz := 1) rfl
     refine At.rk fX 12 [(140, .bool false), (139, .bool false), (138, .int .i64 (gI ya k02_)), (137, .pointer (some (lI.add ((k02_ : Int).toNat * 1)))), (136, .int .i64 (k02_)), (135, .slice aH ya.length aU), (134, pt aA.heap.size 2), (133, pt aA.heap.size 2), (132, .int .i64 (0))] (.e 131 eF <| .b 0 2 <| .l (aW.cell (i := 2) rfl) <| .a k02_ ya.length lJ <| .l lK <| .v 139 (show (.bool ((gI ya k02_ : Int) != (-1)) : Value) = .bool false from (congrArg Value.bool (bneF (by first | (rw [hov02.2 _ ω]; exact reg_mv0 hR hsA hwa ω ω (by first | exact .inl ω | exact .inr ω)) | (rw [hov12.2 _ ω]; exact reg_mv1 hR hsA hwa ω ω (by first | exact .inl ω | exact .inr ω)))))) <| .n) (fun pR gX => ?_)
     clear fX
     refine At.dn ?_
     refine cond_F gX rfl ?_
     refine wp_skip ?_
     refine t_n ?_
     refine At.start ?_
     obtain ⟨jA, jB, pS, pT, pU⟩ := aN.get (k02_) ω ω (sz := 1) rfl
     refine At.rk gX 6 [(146, .pointer (some (jA.add ((k02_ : Int).toNat * 1))))] (.b 0 2 <| .l (aW.cell (i := 2) rfl) <| .a k02_ ya.length jB <| .n) (fun pV jC => ?_)
     clear gX
     refine At.act jC (storeR (α := Int) (t := 3) (i := k02_) (ad := jA) (v := .int .i64 (99)) (99) κ rfl rfl κ jB aN ω ω) ?_
     rintro d_ v_ lL ⟨rfl, cA, lM⟩
     refine ⟨_, rfl, fun pW jD => ?_⟩
     clear jC; have pX : ((ya).set (k02_ : Int).toNat 99).length = (ya).length := List.length_set; have := cA.size; replace cP := cP.gr cA (fun k hk => by have := aN.ge k hk; omega); replace cQ := cQ.gr cA (fun k hk => by have := aN.ge k hk; omega); replace dC := dC.gr cA (fun k hk => by have := aN.ge k hk; omega); replace cK := cK.gr cA (fun e => by have := aN.ge _ e; omega)
     replace dD := dD.gr cA (fun k hk => hk.2.2.2.1); replace dE := dE.gr cA (fun k hk => hk.2.2.2.1); replace eQ := eQ.gr cA (fun k hk => hk.2.2.2.1); replace cR := cR.gr cA (fun e => by have := aN.ge _ e; omega); replace cS := cS.gr cA (fun k hk => hk.2.2.2.1); replace dF := dF.gr cA (fun k hk => hk.2.2.2.1); replace cM := cM.gr cA (fun e => by have := aN.ge _ e; omega)
     replace dG := dG.gr cA (fun k hk => hk.2.2.2.2.2.2.2.1); replace dH := dH.gr cA (fun k hk => hk.2.2.2.2.2.2.2.1); replace dI := dI.gr cA (fun k hk => hk.2.2.2.2.2.2.2.2.1); replace aW := aW.gr cA (aN.neb (fun g hs => hs.1)); clear aN cA
     have jE := jD.as 135 (.slice aH ya.length aU) (.slice aH (((ya).set (k02_ : Int).toNat 99 : List Int).length) aU) rfl (slice_len (by first | (simp only [List.length_set]; done) | rfl | omega | (simp; done) | (simp; omega)))
     clear jD
     replace aW : Bx lL (aA.heap.size) [.slice aS la.length cO, .slice aI lb.length bA, .slice aH (((ya).set (k02_ : Int).toNat 99).length) aU, .slice aK mb.length cJ] 32 := aW.as (by first | rfl | (simp only [List.length_set]; done))
     refine At.done rfl ?_
     refine b_n ?_
     refine t_n ?_
     refine At.start ?_
     refine At.rk jE 3 [(15, .int .i64 (k02_ + 1))] (.w 113 (k02_ + 1) <| .n) (fun pY lN => ?_)
     clear jE
     refine At.dn ?_
     exact ⟨_, ω, (k02_ + 1), ((ya).set (k02_ : Int).toNat 99 : List Int), aH, aU, rfl, lN.sb, cP, cQ, dC, cK, dD, dE, eQ, cR, cS, dF, cM, dG, dH, lM, dI, aW, ω, ω, (over_next hov02 ω), ω, ω, ω⟩
    have lO : (((wa.count k02_ : Int) : Int) == 1) = true := by first | exact Eq.mp (Bool.not_eq_true' _) eF | exact Eq.mp (Bool.not_eq_false' _) eF | simpa using eF
    have pZ := eq_of_beq lO
    refine At.rk fX 12 [(140, .bool false)] (.e 131 eF <| .n) (fun qA gY => ?_)
    clear fX
    refine At.dn ?_
    refine cond_F gY rfl ?_
    refine wp_skip ?_
    refine t_n ?_
    refine At.start ?_
    obtain ⟨jF, jG, qB, qC, qD⟩ := aN.get (k02_) ω ω (sz := 1) rfl
    refine At.rk gY 6 [(146, .pointer (some (jF.add ((k02_ : Int).toNat * 1))))] (.b 0 2 <| .l (aW.cell (i := 2) rfl) <| .a k02_ ya.length jG <| .n) (fun qE jH => ?_)
    clear gY
    refine At.act jH (storeR (α := Int) (t := 3) (i := k02_) (ad := jF) (v := .int .i64 (99)) (99) κ rfl rfl κ jG aN ω ω) ?_
    rintro d_ v_ lP ⟨rfl, cB, lQ⟩
    refine ⟨_, rfl, fun qF jI => ?_⟩
    clear jH; have qG : ((ya).set (k02_ : Int).toNat 99).length = (ya).length := List.length_set; have := cB.size; replace cP := cP.gr cB (fun k hk => by have := aN.ge k hk; omega); replace cQ := cQ.gr cB (fun k hk => by have := aN.ge k hk; omega); replace dC := dC.gr cB (fun k hk => by have := aN.ge k hk; omega); replace cK := cK.gr cB (fun e => by have := aN.ge _ e; omega)
    replace dD := dD.gr cB (fun k hk => hk.2.2.2.1); replace dE := dE.gr cB (fun k hk => hk.2.2.2.1); replace eQ := eQ.gr cB (fun k hk => hk.2.2.2.1); replace cR := cR.gr cB (fun e => by have := aN.ge _ e; omega); replace cS := cS.gr cB (fun k hk => hk.2.2.2.1); replace dF := dF.gr cB (fun k hk => hk.2.2.2.1); replace cM := cM.gr cB (fun e => by have := aN.ge _ e; omega)
    replace dG := dG.gr cB (fun k hk => hk.2.2.2.2.2.2.2.1); replace dH := dH.gr cB (fun k hk => hk.2.2.2.2.2.2.2.1); replace dI := dI.gr cB (fun k hk => hk.2.2.2.2.2.2.2.2.1); replace aW := aW.gr cB (aN.neb (fun g hs => hs.1)); clear aN cB
    replace aW : Bx lP (aA.heap.size) [.slice aS la.length cO, .slice aI lb.length bA, .slice aH (((ya).set (k02_ : Int).toNat 99).length) aU, .slice aK mb.length cJ] 32 := aW.as (by first | rfl | (simp only [List.length_set]; done))
    refine At.done rfl ?_
    refine b_n ?_
    refine t_n ?_
    refine At.start ?_
    refine At.rk jI 3 [(15, .int .i64 (k02_ + 1))] (.w 113 (k02_ + 1) <| .n) (fun qH lR => ?_)
    clear jI
    refine At.dn ?_
    exact ⟨_, ω, (k02_ + 1), ((ya).set (k02_ : Int).toNat 99 : List Int), aH, aU, rfl, lR.sb, cP, cQ, dC, cK, dD, dE, eQ, cR, cS, dF, cM, dG, dH, lQ, dI, aW, ω, ω, (over_next hov02 ω), ω, ω, ω⟩
   have qI := ne_of_beq_false fE
   refine At.rk eK 16 [(16, .bool false)] (.l (cK.cell (i := 0) rfl) <| .a k02_ g.ow.length iW <| .l iX <| .e 121 fE <| .n) (fun qJ jJ => ?_)
   clear eK
   refine At.dn ?_
   refine wp_seq ?_
   refine sqs ?_
   obtain ⟨lS, lT, qK, lU, qL⟩ := aN.get (k02_) ω ω (sz := 1) rfl
   refine At.rk jJ 12 [(140, .bool false), (139, .bool false), (138, .int .i64 (gI ya k02_)), (137, .pointer (some (lS.add ((k02_ : Int).toNat * 1)))), (136, .int .i64 (k02_)), (135, .slice aH ya.length aU), (134, pt aA.heap.size 2), (133, pt aA.heap.size 2), (132, .int .i64 (0))] (.b 0 2 <| .l (aW.cell (i := 2) rfl) <| .a k02_ ya.length lT <| .l lU <| .v 139 (show (.bool ((gI ya k02_ : Int) != (-1)) : Value) = .bool false from (congrArg Value.bool (bneF (by first | (rw [hov02.2 _ ω]; exact reg_mv0 hR hsA hwa ω ω (by first | exact .inl ω | exact .inr ω)) | (rw [hov12.2 _ ω]; exact reg_mv1 hR hsA hwa ω ω (by first | exact .inl ω | exact .inr ω)))))) <| .n) (fun qM gZ => ?_)
   clear jJ
   refine At.dn ?_
   refine cond_F gZ rfl ?_
   refine wp_skip ?_
   refine t_n ?_
   refine At.start ?_
   obtain ⟨jK, jL, qN, qO, qP⟩ := aN.get (k02_) ω ω (sz := 1) rfl
   refine At.rk gZ 6 [(146, .pointer (some (jK.add ((k02_ : Int).toNat * 1))))] (.b 0 2 <| .l (aW.cell (i := 2) rfl) <| .a k02_ ya.length jL <| .n) (fun qQ jM => ?_)
   clear gZ
   refine At.act jM (storeR (α := Int) (t := 3) (i := k02_) (ad := jK) (v := .int .i64 (99)) (99) κ rfl rfl κ jL aN ω ω) ?_
   rintro d_ v_ lV ⟨rfl, cC, lW⟩
   refine ⟨_, rfl, fun qR jN => ?_⟩
   clear jM; have qS : ((ya).set (k02_ : Int).toNat 99).length = (ya).length := List.length_set; have := cC.size; replace cP := cP.gr cC (fun k hk => by have := aN.ge k hk; omega); replace cQ := cQ.gr cC (fun k hk => by have := aN.ge k hk; omega); replace dC := dC.gr cC (fun k hk => by have := aN.ge k hk; omega); replace cK := cK.gr cC (fun e => by have := aN.ge _ e; omega)
   replace dD := dD.gr cC (fun k hk => hk.2.2.2.1); replace dE := dE.gr cC (fun k hk => hk.2.2.2.1); have lX := eP.gr cC (fun k hk => hk.2.2.2.1); clear eP; replace cR := cR.gr cC (fun e => by have := aN.ge _ e; omega); replace cS := cS.gr cC (fun k hk => hk.2.2.2.1); replace dF := dF.gr cC (fun k hk => hk.2.2.2.1); replace cM := cM.gr cC (fun e => by have := aN.ge _ e; omega)
   replace dG := dG.gr cC (fun k hk => hk.2.2.2.2.2.2.2.1); replace dH := dH.gr cC (fun k hk => hk.2.2.2.2.2.2.2.1); replace dI := dI.gr cC (fun k hk => hk.2.2.2.2.2.2.2.2.1); replace aW := aW.gr cC (aN.neb (fun g hs => hs.1)); clear aN cC
   have jO := jN.as 135 (.slice aH ya.length aU) (.slice aH (((ya).set (k02_ : Int).toNat 99 : List Int).length) aU) rfl (slice_len (by first | (simp only [List.length_set]; done) | rfl | omega | (simp; done) | (simp; omega)))
   clear jN
   replace aW : Bx lV (aA.heap.size) [.slice aS la.length cO, .slice aI lb.length bA, .slice aH (((ya).set (k02_ : Int).toNat 99).length) aU, .slice aK mb.length cJ] 32 := aW.as (by first | rfl | (simp only [List.length_set]; done))
   refine At.done rfl ?_
   refine b_n ?_
   refine t_n ?_
   refine At.start ?_
   refine At.rk jO 3 [(15, .int .i64 (k02_ + 1))] (.w 113 (k02_ + 1) <| .n) (fun qT lY => ?_)
   clear jO
   refine At.dn ?_
   exact ⟨_, ω, (k02_ + 1), ((ya).set (k02_ : Int).toNat 99 : List Int), aH, aU, rfl, lY.sb, cP, cQ, dC, cK, dD, dE, lX, cR, cS, dF, cM, dG, dH, lW, dI, aW, ω, ω, (over_next hov02 ω), ω, ω, ω⟩
  have qU := of_decide_eq_false gW
  refine wp_exit ?_
  refine t_e ?_
  clear hm366
  refine t_e ?_
  refine b_e ?_
  refine t_n ?_
  refine sqs ?_
  refine At.rk eK 1 [(17, .int .i64 (0))] .n (fun qV jP => ?_)
  clear eK
  refine At.dn ?_
  refine wp_block ?_
  refine loop_g (fun (m_ : Nat) a_ w_ => ∃ (k00_ : Int) (xa : List Int) (aL : Option Addr) (dJ : Nat), m_ = ((la.length : Int) - k00_).toNat ∧ (Frm 169 a_ [(17, .int .i64 (k00_)), (14, .int .i64 (0)), (96, .bool false), (95, .int .i64 (((g.ow.length : Nat) : Int) + 1)), (94, .int .i64 (((g.ow.length : Nat) : Int))), (93, .int .i64 (da)), (90, .bool false), (89, .int .i64 (da)), (86, .bool false), (85, .bool true), (11, .int .i64 (((g.ow.length : Nat) : Int))), (8, pt aA.heap.size 0), (7, .int .i64 (n_)), (6, pt aG.heap.size 0), (5, pt aJ.heap.size 0), (4, .bool (isR g)), (3, .bool true), (1, pt w.heap.size 0)]) ∧ (Ext w w_) ∧ (RdG w_ 0 w.heap.size Ag0 Ag1 Ag2 cg0 cg1 cg2 g) ∧ (RdT w_ 0 w.heap.size) ∧ (Bx w_ (w.heap.size) [.slice Ag0 g.ow.length cg0, .slice Ag1 g.pr.length cg1, .slice Ag2 g.mv.length cg2] 25) ∧ (OwnR w_ (Sx (aM.heap.size) [some (aA.heap.size), obk (aL), obk (aI), obk (aH), obk (aK), some (aG.heap.size), obk (aE), obk (aF), some (aJ.heap.size), obk (aC), obk (aD)]) aB bK 3 (g.ow : List Int)) ∧ (OwnR w_ (Sx (aM.heap.size) [some (aA.heap.size), obk (aL), obk (aI), obk (aH), obk (aK), some (aG.heap.size), obk (aE), obk (aF), some (aJ.heap.size), obk (aB), obk (aD)]) aC bL 3 (g.pr : List Int)) ∧ (OwnLL w_ (aM.heap.size) [some (aA.heap.size), obk (aL), obk (aI), obk (aH), obk (aK), some (aG.heap.size), obk (aE), obk (aF), some (aJ.heap.size), obk (aB), obk (aC)] aD bM 22 3 (g.mv : List (List Int))) ∧ (Bx w_ (aJ.heap.size) [.slice aB g.ow.length bK, .slice aC g.pr.length bL, .slice aD g.mv.length bM] 25) ∧ (OwnR w_ (Sx (aR.heap.size) [some (aA.heap.size), obk (aL), obk (aI), obk (aH), obk (aK), some (aG.heap.size), obk (aB), obk (aC), obk (aD), obk (aF)]) aE bN 3 (wa : List Int)) ∧ (OwnR w_ (Sx (aR.heap.size) [some (aA.heap.size), obk (aL), obk (aI), obk (aH), obk (aK), some (aG.heap.size), obk (aB), obk (aC), obk (aD), obk (aE)]) aF bO 3 (wb : List Int)) ∧ (Bx w_ (aG.heap.size) [.slice aE wa.length bN, .slice aF wb.length bO] 29) ∧ (OwnR w_ (Sx (aQ.heap.size) [some (aA.heap.size), obk (aB), obk (aC), obk (aD), obk (aE), obk (aF), obk (aI), obk (aH), obk (aK)]) aL dJ 3 (xa : List Int)) ∧ (OwnR w_ (Sx (aQ.heap.size) [some (aA.heap.size), obk (aB), obk (aC), obk (aD), obk (aE), obk (aF), obk (aL), obk (aH), obk (aK)]) aI bA 3 (lb : List Int)) ∧ (OwnR w_ (Sx (aQ.heap.size) [some (aA.heap.size), obk (aB), obk (aC), obk (aD), obk (aE), obk (aF), obk (aL), obk (aI), obk (aK)]) aH aU 3 (ya : List Int)) ∧ (OwnR w_ (Sx (aQ.heap.size) [some (aA.heap.size), obk (aB), obk (aC), obk (aD), obk (aE), obk (aF), obk (aL), obk (aI), obk (aH)]) aK cJ 3 (mb : List Int)) ∧ (Bx w_ (aA.heap.size) [.slice aL xa.length dJ, .slice aI lb.length bA, .slice aH ya.length aU, .slice aK mb.length cJ] 32) ∧ (0 ≤ k00_) ∧ (k00_ ≤ (la.length : Int)) ∧ (OverK la xa k00_) ∧ (aM.heap.size ≤ w_.heap.size) ∧ (aR.heap.size ≤ w_.heap.size) ∧ (aQ.heap.size ≤ w_.heap.size)) _ ⟨0, (la : List Int), aS, cO, rfl, jP.sb, cP, cQ, dC, cK, dD, dE, eP, cR, cS, dF, cM, dG, dH, aN, dI, (aW.as (by first | rfl | (simp only [List.cons.injEq, Value.slice.injEq, true_and, and_true]; omega))), ω, (Int.natCast_nonneg _), over_0, ω, ω, ω⟩ ?_
  clear jP; clear cQ; clear dC; clear cK; clear dD; clear dE; clear eP; clear cR; clear cS; clear dF; clear cM; clear dG; clear dH; clear aN; clear dI; clear aW; clear cP
  intro m_ qW lZ ⟨k00_, xa, aL, dJ, hm553, jQ, eR, fF, fG, eS, fH, fI, fY, eT, fJ, fK, eU, dU, fL, fM, fN, dX, i570, i571, hov00, i572, i573, i574⟩
  have szw551 := eR.size; have := eS.lt; have := eT.lt; have := eU.lt; have := dX.lt
  have szc575 : w.heap.size < aM.heap.size := by omega
  have szc576 : aM.heap.size ≤ aJ.heap.size := by omega
  have szc577 : aJ.heap.size < aR.heap.size := by omega
  have szc578 : aR.heap.size ≤ aG.heap.size := by omega
  have szc579 : aG.heap.size < aQ.heap.size := by omega
  have szc580 : aQ.heap.size ≤ aA.heap.size := by omega
  have szc581 : aA.heap.size < lZ.heap.size := by omega
  clear szc388 szc389 szc390 szc391 szc392 szc393 szc394 szw551; have hol00 := hov00.1
  refine wp_seq ?_
  refine sqs ?_
  refine At.rk jQ 7 [(153, .bool (decide ((k00_ : Int) < ((xa.length : Nat) : Int))))] (.b 0 2 <| .l (dX.cell (i := 0) rfl) <| .n) (fun qX fO => ?_)
  clear jQ
  refine At.dn ?_
  refine cond_S fO (t := decide ((k00_ : Int) < ((xa.length : Nat) : Int))) rfl (fun hA => ?_) (fun hA => ?_)
  ·have qY := of_decide_eq_true hA
   refine wp_skip ?_
   refine t_n ?_
   refine wp_seq ?_
   refine wp_block ?_
   refine At.start ?_
   obtain ⟨jR, jS, qZ, rA, rB⟩ := dU.get (k00_) ω ω (sz := 1) rfl
   refine At.rk fO 6 [(161, .pointer (some (jR.add ((k00_ : Int).toNat * 1))))] (.b 0 2 <| .l (dX.cell (i := 0) rfl) <| .a k00_ xa.length jS <| .n) (fun rC jT => ?_)
   clear fO
   refine At.act jT (storeR (α := Int) (t := 3) (i := k00_) (ad := jR) (v := .int .i64 (99)) (99) κ rfl rfl κ jS dU ω ω) ?_
   rintro d_ v_ mA ⟨rfl, cD, mB⟩
   refine ⟨_, rfl, fun rD jU => ?_⟩
   clear jT; have rE : ((xa).set (k00_ : Int).toNat 99).length = (xa).length := List.length_set; have := cD.size; replace eR := eR.gr cD (fun k hk => by have := dU.ge k hk; omega); replace fF := fF.gr cD (fun k hk => by have := dU.ge k hk; omega); replace fG := fG.gr cD (fun k hk => by have := dU.ge k hk; omega); replace eS := eS.gr cD (fun e => by have := dU.ge _ e; omega)
   replace fH := fH.gr cD (fun k hk => hk.2.1); replace fI := fI.gr cD (fun k hk => hk.2.1); have mC := fY.gr cD (fun k hk => hk.2.1); clear fY; replace eT := eT.gr cD (fun e => by have := dU.ge _ e; omega); replace fJ := fJ.gr cD (fun k hk => hk.2.1); replace fK := fK.gr cD (fun k hk => hk.2.1); replace eU := eU.gr cD (fun e => by have := dU.ge _ e; omega)
   replace fL := fL.gr cD (fun k hk => hk.2.2.2.2.2.2.1); replace fM := fM.gr cD (fun k hk => hk.2.2.2.2.2.2.1); replace fN := fN.gr cD (fun k hk => hk.2.2.2.2.2.2.1); replace dX := dX.gr cD (dU.neb (fun g hs => hs.1)); clear dU cD
   replace dX : Bx mA (aA.heap.size) [.slice aL (((xa).set (k00_ : Int).toNat 99).length) dJ, .slice aI lb.length bA, .slice aH ya.length aU, .slice aK mb.length cJ] 32 := dX.as (by first | rfl | (simp only [List.length_set]; done))
   refine At.done rfl ?_
   refine b_n ?_
   refine t_n ?_
   refine At.start ?_
   refine At.rk jU 3 [(17, .int .i64 (k00_ + 1))] (.w 155 (k00_ + 1) <| .n) (fun rF mD => ?_)
   clear jU
   refine At.dn ?_
   exact ⟨_, ω, (k00_ + 1), ((xa).set (k00_ : Int).toNat 99 : List Int), aL, dJ, rfl, mD.sb, eR, fF, fG, eS, fH, fI, mC, eT, fJ, fK, eU, mB, fL, fM, fN, dX, ω, ω, (over_next hov00 ω), ω, ω, ω⟩
  have rG := of_decide_eq_false hA
  refine wp_exit ?_
  refine t_e ?_
  clear hm553
  refine t_e ?_
  refine b_e ?_
  refine b_n ?_
  refine t_n ?_
  refine At.start ?_
  refine At.rk fO 3 [(14, .int .i64 (1))] (.v 101 (show (.int .i64 (IntKind.i64.wrap (0 + 1)) : Value) = .int .i64 (1) from κ) <| .n) (fun rH jV => ?_)
  clear fO
  refine At.dn ?_
  have jW := jV.sb (r := [(14, .int .i64 (1)), (96, .bool false), (95, .int .i64 (((g.ow.length : Nat) : Int) + 1)), (94, .int .i64 (((g.ow.length : Nat) : Int))), (93, .int .i64 (da)), (90, .bool false), (89, .int .i64 (da)), (86, .bool false), (85, .bool true), (11, .int .i64 (((g.ow.length : Nat) : Int))), (8, pt aA.heap.size 0), (7, .int .i64 (n_)), (6, pt aG.heap.size 0), (5, pt aJ.heap.size 0), (4, .bool (isR g)), (3, .bool true), (1, pt w.heap.size 0)])
  clear jV
  refine loop_u ?_
  refine wp_seq ?_
  refine sqs ?_
  refine At.rk jW 2 [(99, .bool true)] (.v 99 (show (.bool (decide ((1 : Int) < 2)) : Value) = .bool true from κ) <| .n) (fun rI hB => ?_)
  clear jW
  refine At.dn ?_
  refine cond_T hB rfl ?_
  refine wp_skip ?_
  refine t_n ?_
  refine wp_seq ?_
  refine wp_block ?_
  refine wp_seq ?_
  refine sqs ?_
  refine At.rk hB 7 [(108, .bool false)] (.b 1 2 <| .l (dX.cell (i := 3) rfl) <| .v 108 (show (.bool ((((mb.length : Nat) : Int) : Int) != ((g.ow.length : Nat) : Int)) : Value) = .bool false from (congrArg Value.bool (bneF ω))) <| .n) (fun rJ hC => ?_)
  clear hB
  refine At.dn ?_
  refine cond_F hC rfl ?_
  refine wp_skip ?_
  refine t_n ?_
  refine wp_seq ?_
  refine sqs ?_
  refine At.rk hC 1 [(15, .int .i64 (0))] .n (fun rK jX => ?_)
  clear hC
  refine At.dn ?_
  refine wp_block ?_
  refine loop_g (fun (m_ : Nat) a_ w_ => ∃ (k12_ : Int) (yb : List Int) (aP : Option Addr) (bW : Nat), m_ = ((g.ow.length : Int) - k12_).toNat ∧ (Frm 169 a_ [(15, .int .i64 (k12_)), (14, .int .i64 (1)), (96, .bool false), (95, .int .i64 (((g.ow.length : Nat) : Int) + 1)), (94, .int .i64 (((g.ow.length : Nat) : Int))), (93, .int .i64 (da)), (90, .bool false), (89, .int .i64 (da)), (86, .bool false), (85, .bool true), (11, .int .i64 (((g.ow.length : Nat) : Int))), (8, pt aA.heap.size 0), (7, .int .i64 (n_)), (6, pt aG.heap.size 0), (5, pt aJ.heap.size 0), (4, .bool (isR g)), (3, .bool true), (1, pt w.heap.size 0)]) ∧ (Ext w w_) ∧ (RdG w_ 0 w.heap.size Ag0 Ag1 Ag2 cg0 cg1 cg2 g) ∧ (RdT w_ 0 w.heap.size) ∧ (Bx w_ (w.heap.size) [.slice Ag0 g.ow.length cg0, .slice Ag1 g.pr.length cg1, .slice Ag2 g.mv.length cg2] 25) ∧ (OwnR w_ (Sx (aM.heap.size) [some (aA.heap.size), obk (aL), obk (aI), obk (aH), obk (aP), some (aG.heap.size), obk (aE), obk (aF), some (aJ.heap.size), obk (aC), obk (aD)]) aB bK 3 (g.ow : List Int)) ∧ (OwnR w_ (Sx (aM.heap.size) [some (aA.heap.size), obk (aL), obk (aI), obk (aH), obk (aP), some (aG.heap.size), obk (aE), obk (aF), some (aJ.heap.size), obk (aB), obk (aD)]) aC bL 3 (g.pr : List Int)) ∧ (OwnLL w_ (aM.heap.size) [some (aA.heap.size), obk (aL), obk (aI), obk (aH), obk (aP), some (aG.heap.size), obk (aE), obk (aF), some (aJ.heap.size), obk (aB), obk (aC)] aD bM 22 3 (g.mv : List (List Int))) ∧ (Bx w_ (aJ.heap.size) [.slice aB g.ow.length bK, .slice aC g.pr.length bL, .slice aD g.mv.length bM] 25) ∧ (OwnR w_ (Sx (aR.heap.size) [some (aA.heap.size), obk (aL), obk (aI), obk (aH), obk (aP), some (aG.heap.size), obk (aB), obk (aC), obk (aD), obk (aF)]) aE bN 3 (wa : List Int)) ∧ (OwnR w_ (Sx (aR.heap.size) [some (aA.heap.size), obk (aL), obk (aI), obk (aH), obk (aP), some (aG.heap.size), obk (aB), obk (aC), obk (aD), obk (aE)]) aF bO 3 (wb : List Int)) ∧ (Bx w_ (aG.heap.size) [.slice aE wa.length bN, .slice aF wb.length bO] 29) ∧ (OwnR w_ (Sx (aQ.heap.size) [some (aA.heap.size), obk (aB), obk (aC), obk (aD), obk (aE), obk (aF), obk (aI), obk (aH), obk (aP)]) aL dJ 3 (xa : List Int)) ∧ (OwnR w_ (Sx (aQ.heap.size) [some (aA.heap.size), obk (aB), obk (aC), obk (aD), obk (aE), obk (aF), obk (aL), obk (aH), obk (aP)]) aI bA 3 (lb : List Int)) ∧ (OwnR w_ (Sx (aQ.heap.size) [some (aA.heap.size), obk (aB), obk (aC), obk (aD), obk (aE), obk (aF), obk (aL), obk (aI), obk (aP)]) aH aU 3 (ya : List Int)) ∧ (OwnR w_ (Sx (aQ.heap.size) [some (aA.heap.size), obk (aB), obk (aC), obk (aD), obk (aE), obk (aF), obk (aL), obk (aI), obk (aH)]) aP bW 3 (yb : List Int)) ∧ (Bx w_ (aA.heap.size) [.slice aL xa.length dJ, .slice aI lb.length bA, .slice aH ya.length aU, .slice aP yb.length bW] 32) ∧ (0 ≤ k12_) ∧ (k12_ ≤ (g.ow.length : Int)) ∧ (OverK mb yb k12_) ∧ (aM.heap.size ≤ w_.heap.size) ∧ (aR.heap.size ≤ w_.heap.size) ∧ (aQ.heap.size ≤ w_.heap.size)) _ ⟨0, (mb : List Int), aK, cJ, rfl, jX.sb, eR, fF, fG, eS, fH, fI, fY, eT, fJ, fK, eU, dU, fL, fM, fN, (dX.as (by first | rfl | (simp only [List.cons.injEq, Value.slice.injEq, true_and, and_true]; omega))), ω, (Int.natCast_nonneg _), over_0, ω, ω, ω⟩ ?_
  clear jX; clear fF; clear fG; clear eS; clear fH; clear fI; clear fY; clear eT; clear fJ; clear fK; clear eU; clear dU; clear fL; clear fM; clear fN; clear dX; clear eR
  intro m_ rL mE ⟨k12_, yb, aP, bW, hm632, jY, cT, cU, dK, cL, dL, dM, eV, cV, dN, cW, cN, dO, dP, dQ, aO, aX, i649, i650, hov12, i651, i652, i653⟩
  have szw630 := cT.size; have := cL.lt; have := cV.lt; have := cN.lt; have := aX.lt
  have szc654 : w.heap.size < aM.heap.size := by omega
  have szc655 : aM.heap.size ≤ aJ.heap.size := by omega
  have szc656 : aJ.heap.size < aR.heap.size := by omega
  have szc657 : aR.heap.size ≤ aG.heap.size := by omega
  have szc658 : aG.heap.size < aQ.heap.size := by omega
  have szc659 : aQ.heap.size ≤ aA.heap.size := by omega
  have szc660 : aA.heap.size < mE.heap.size := by omega
  clear szc575 szc576 szc577 szc578 szc579 szc580 szc581 szw630; have hol12 := hov12.1
  refine wp_seq ?_
  refine sqs ?_
  refine At.rk jY 3 [(111, .bool (decide ((k12_ : Int) < ((g.ow.length : Nat) : Int))))] .n (fun rM eL => ?_)
  clear jY
  refine At.dn ?_
  refine cond_S eL (t := decide ((k12_ : Int) < ((g.ow.length : Nat) : Int))) rfl (fun hD => ?_) (fun hD => ?_)
  ·have rN := of_decide_eq_true hD
   refine wp_skip ?_
   refine t_n ?_
   refine wp_seq ?_
   refine wp_block ?_
   refine sqs ?_
   obtain ⟨rO, jZ, _, _, kA⟩ := RdI.get cU.ow (k12_) ω ω
   rcases Bool.eq_false_or_eq_true ((gI g.ow (k12_) : Int) == 1) with fP | fP
   ·have rP := eq_of_beq fP
    refine At.rk eL 12 [(125, .int .i64 (k12_)), (124, .slice aF wb.length bO), (123, pt aG.heap.size 1), (122, .int .i64 (1)), (121, .bool true)] (.l (cL.cell (i := 0) rfl) <| .a k12_ g.ow.length jZ <| .l kA <| .e 121 fP <| .b 1 2 <| .l (cN.cell (i := 1) rfl) <| .n) (fun rQ kB => ?_)
    clear eL
    refine At.cl kB (some 126) (args := #[.slice aF wb.length bO, .int .i64 (k12_)]) (count_any (la := wb) (v := k12_) (cW.rdI0 (by first | omega | (simp only [List.length_cons, List.length_nil]; omega) | (simp; done) | (simp; omega)))) ?_
    rintro e_ rR ⟨rfl, he⟩
    refine ⟨_, rfl, _, rfl, fun rS kC => ?_⟩
    clear kB; have bX := gr_ext he; have := bX.size; replace cT := cT.gn bX; replace cU := cU.gn bX; replace dK := dK.gn bX; replace cL := cL.gn bX; replace dL := dL.gn bX; replace dM := dM.gn bX; have eW := eV.gn bX; clear eV; replace cV := cV.gn bX; replace dN := dN.gn bX; replace cW := cW.gn bX; replace cN := cN.gn bX; replace dO := dO.gn bX; replace dP := dP.gn bX; replace dQ := dQ.gn bX
    replace aO := aO.gn bX; replace aX := aX.gn bX; clear bX he
    refine At.rk kC 3 [(16, .bool (((wb.count k12_ : Int) : Int) == 1)), (127, .bool (((wb.count k12_ : Int) : Int) == 1))] .n (fun rU fZ => ?_)
    clear kC
    refine At.dn ?_
    refine wp_seq ?_
    refine sqs ?_
    rcases Bool.eq_false_or_eq_true (!(((wb.count k12_ : Int) : Int) == 1)) with eG | eG
    ·have mF : (((wb.count k12_ : Int) : Int) == 1) = false := by first | exact Eq.mp (Bool.not_eq_true' _) eG | exact Eq.mp (Bool.not_eq_false' _) eG | simpa using eG
     have rV := ne_of_beq_false mF
     obtain ⟨mG, mH, rW, mI, rX⟩ := aO.get (k12_) ω ω (sz := 1) rfl
     refine At.rk fZ 12 [(140, .bool false), (139, .bool false), (138, .int .i64 (gI yb k12_)), (137, .pointer (some (mG.add ((k12_ : Int).toNat * 1)))), (136, .int .i64 (k12_)), (135, .slice aP yb.length bW), (134, pt aA.heap.size 3), (133, pt aA.heap.size 2), (132, .int .i64 (1))] (.e 131 eG <| .b 1 2 <| .l (aX.cell (i := 3) rfl) <| .a k12_ yb.length mH <| .l mI <| .v 139 (show (.bool ((gI yb k12_ : Int) != (-1)) : Value) = .bool false from (congrArg Value.bool (bneF (by first | (rw [hov02.2 _ ω]; exact reg_mv0 hR hsA hwa ω ω (by first | exact .inl ω | exact .inr ω)) | (rw [hov12.2 _ ω]; exact reg_mv1 hR hsA hwa ω ω (by first | exact .inl ω | exact .inr ω)))))) <| .n) (fun rY hE => ?_)
     clear fZ
     refine At.dn ?_
     refine cond_F hE rfl ?_
     refine wp_skip ?_
     refine t_n ?_
     refine At.start ?_
     obtain ⟨kD, kE, rZ, sA, sB⟩ := aO.get (k12_) ω ω (sz := 1) rfl
     refine At.rk hE 6 [(146, .pointer (some (kD.add ((k12_ : Int).toNat * 1))))] (.b 1 2 <| .l (aX.cell (i := 3) rfl) <| .a k12_ yb.length kE <| .n) (fun sC kF => ?_)
     clear hE
     refine At.act kF (storeR (α := Int) (t := 3) (i := k12_) (ad := kD) (v := .int .i64 (99)) (99) κ rfl rfl κ kE aO ω ω) ?_
     rintro d_ v_ mJ ⟨rfl, cE, mK⟩
     refine ⟨_, rfl, fun sD kG => ?_⟩
     clear kF; have sE : ((yb).set (k12_ : Int).toNat 99).length = (yb).length := List.length_set; have := cE.size; replace cT := cT.gr cE (fun k hk => by have := aO.ge k hk; omega); replace cU := cU.gr cE (fun k hk => by have := aO.ge k hk; omega); replace dK := dK.gr cE (fun k hk => by have := aO.ge k hk; omega); replace cL := cL.gr cE (fun e => by have := aO.ge _ e; omega)
     replace dL := dL.gr cE (fun k hk => hk.2.2.2.2.1); replace dM := dM.gr cE (fun k hk => hk.2.2.2.2.1); replace eW := eW.gr cE (fun k hk => hk.2.2.2.2.1); replace cV := cV.gr cE (fun e => by have := aO.ge _ e; omega); replace dN := dN.gr cE (fun k hk => hk.2.2.2.2.1); replace cW := cW.gr cE (fun k hk => hk.2.2.2.2.1); replace cN := cN.gr cE (fun e => by have := aO.ge _ e; omega)
     replace dO := dO.gr cE (fun k hk => hk.2.2.2.2.2.2.2.2.1); replace dP := dP.gr cE (fun k hk => hk.2.2.2.2.2.2.2.2.1); replace dQ := dQ.gr cE (fun k hk => hk.2.2.2.2.2.2.2.2.1); replace aX := aX.gr cE (aO.neb (fun g hs => hs.1)); clear aO cE
     have kH := kG.as 135 (.slice aP yb.length bW) (.slice aP (((yb).set (k12_ : Int).toNat 99 : List Int).length) bW) rfl (slice_len (by first | (simp only [List.length_set]; done) | rfl | omega | (simp; done) | (simp; omega)))
     clear kG
     replace aX : Bx mJ (aA.heap.size) [.slice aL xa.length dJ, .slice aI lb.length bA, .slice aH ya.length aU, .slice aP (((yb).set (k12_ : Int).toNat 99).length) bW] 32 := aX.as (by first | rfl | (simp only [List.length_set]; done))
     refine At.done rfl ?_
     refine b_n ?_
     refine t_n ?_
     refine At.start ?_
     refine At.rk kH 3 [(15, .int .i64 (k12_ + 1))] (.w 113 (k12_ + 1) <| .n) (fun sF mL => ?_)
     clear kH
     refine At.dn ?_
     exact ⟨_, ω, (k12_ + 1), ((yb).set (k12_ : Int).toNat 99 : List Int), aP, bW, rfl, mL.sb, cT, cU, dK, cL, dL, dM, eW, cV, dN, cW, cN, dO, dP, dQ, mK, aX, ω, ω, (over_next hov12 ω), ω, ω, ω⟩
    have mM : (((wb.count k12_ : Int) : Int) == 1) = true := by first | exact Eq.mp (Bool.not_eq_true' _) eG | exact Eq.mp (Bool.not_eq_false' _) eG | simpa using eG
    have sG := eq_of_beq mM
    refine At.rk fZ 12 [(140, .bool false)] (.e 131 eG <| .n) (fun sH hF => ?_)
    clear fZ
    refine At.dn ?_
    refine cond_F hF rfl ?_
    refine wp_skip ?_
    refine t_n ?_
    refine At.start ?_
    obtain ⟨kI, kJ, sI, sJ, sK⟩ := aO.get (k12_) ω ω (sz := 1) rfl
    refine At.rk hF 6 [(146, .pointer (some (kI.add ((k12_ : Int).toNat * 1))))] (.b 1 2 <| .l (aX.cell (i := 3) rfl) <| .a k12_ yb.length kJ <| .n) (fun sL kK => ?_)
    clear hF
    refine At.act kK (storeR (α := Int) (t := 3) (i := k12_) (ad := kI) (v := .int .i64 (99)) (99) κ rfl rfl κ kJ aO ω ω) ?_
    rintro d_ v_ mN ⟨rfl, cF, mO⟩
    refine ⟨_, rfl, fun sM kL => ?_⟩
    clear kK; have sN : ((yb).set (k12_ : Int).toNat 99).length = (yb).length := List.length_set; have := cF.size; replace cT := cT.gr cF (fun k hk => by have := aO.ge k hk; omega); replace cU := cU.gr cF (fun k hk => by have := aO.ge k hk; omega); replace dK := dK.gr cF (fun k hk => by have := aO.ge k hk; omega); replace cL := cL.gr cF (fun e => by have := aO.ge _ e; omega)
    replace dL := dL.gr cF (fun k hk => hk.2.2.2.2.1); replace dM := dM.gr cF (fun k hk => hk.2.2.2.2.1); replace eW := eW.gr cF (fun k hk => hk.2.2.2.2.1); replace cV := cV.gr cF (fun e => by have := aO.ge _ e; omega); replace dN := dN.gr cF (fun k hk => hk.2.2.2.2.1); replace cW := cW.gr cF (fun k hk => hk.2.2.2.2.1); replace cN := cN.gr cF (fun e => by have := aO.ge _ e; omega)
    replace dO := dO.gr cF (fun k hk => hk.2.2.2.2.2.2.2.2.1); replace dP := dP.gr cF (fun k hk => hk.2.2.2.2.2.2.2.2.1); replace dQ := dQ.gr cF (fun k hk => hk.2.2.2.2.2.2.2.2.1); replace aX := aX.gr cF (aO.neb (fun g hs => hs.1)); clear aO cF
    replace aX : Bx mN (aA.heap.size) [.slice aL xa.length dJ, .slice aI lb.length bA, .slice aH ya.length aU, .slice aP (((yb).set (k12_ : Int).toNat 99).length) bW] 32 := aX.as (by first | rfl | (simp only [List.length_set]; done))
    refine At.done rfl ?_
    refine b_n ?_
    refine t_n ?_
    refine At.start ?_
    refine At.rk kL 3 [(15, .int .i64 (k12_ + 1))] (.w 113 (k12_ + 1) <| .n) (fun sO mP => ?_)
    clear kL
    refine At.dn ?_
    exact ⟨_, ω, (k12_ + 1), ((yb).set (k12_ : Int).toNat 99 : List Int), aP, bW, rfl, mP.sb, cT, cU, dK, cL, dL, dM, eW, cV, dN, cW, cN, dO, dP, dQ, mO, aX, ω, ω, (over_next hov12 ω), ω, ω, ω⟩
   have sP := ne_of_beq_false fP
   refine At.rk eL 16 [(16, .bool false)] (.l (cL.cell (i := 0) rfl) <| .a k12_ g.ow.length jZ <| .l kA <| .e 121 fP <| .n) (fun sQ kM => ?_)
   clear eL
   refine At.dn ?_
   refine wp_seq ?_
   refine sqs ?_
   obtain ⟨mQ, mR, sR, mS, sS⟩ := aO.get (k12_) ω ω (sz := 1) rfl
   refine At.rk kM 12 [(140, .bool false), (139, .bool false), (138, .int .i64 (gI yb k12_)), (137, .pointer (some (mQ.add ((k12_ : Int).toNat * 1)))), (136, .int .i64 (k12_)), (135, .slice aP yb.length bW), (134, pt aA.heap.size 3), (133, pt aA.heap.size 2), (132, .int .i64 (1))] (.b 1 2 <| .l (aX.cell (i := 3) rfl) <| .a k12_ yb.length mR <| .l mS <| .v 139 (show (.bool ((gI yb k12_ : Int) != (-1)) : Value) = .bool false from (congrArg Value.bool (bneF (by first | (rw [hov02.2 _ ω]; exact reg_mv0 hR hsA hwa ω ω (by first | exact .inl ω | exact .inr ω)) | (rw [hov12.2 _ ω]; exact reg_mv1 hR hsA hwa ω ω (by first | exact .inl ω | exact .inr ω)))))) <| .n) (fun sT hH => ?_)
   clear kM
   refine At.dn ?_
   refine cond_F hH rfl ?_
   refine wp_skip ?_
   refine t_n ?_
   refine At.start ?_
   obtain ⟨kN, kO, sU, sV, sW⟩ := aO.get (k12_) ω ω (sz := 1) rfl
   refine At.rk hH 6 [(146, .pointer (some (kN.add ((k12_ : Int).toNat * 1))))] (.b 1 2 <| .l (aX.cell (i := 3) rfl) <| .a k12_ yb.length kO <| .n) (fun sX kP => ?_)
   clear hH
   refine At.act kP (storeR (α := Int) (t := 3) (i := k12_) (ad := kN) (v := .int .i64 (99)) (99) κ rfl rfl κ kO aO ω ω) ?_
   rintro d_ v_ mT ⟨rfl, cG, mU⟩
   refine ⟨_, rfl, fun sY kQ => ?_⟩
   clear kP; have sZ : ((yb).set (k12_ : Int).toNat 99).length = (yb).length := List.length_set; have := cG.size; replace cT := cT.gr cG (fun k hk => by have := aO.ge k hk; omega); replace cU := cU.gr cG (fun k hk => by have := aO.ge k hk; omega); replace dK := dK.gr cG (fun k hk => by have := aO.ge k hk; omega); replace cL := cL.gr cG (fun e => by have := aO.ge _ e; omega)
   replace dL := dL.gr cG (fun k hk => hk.2.2.2.2.1); replace dM := dM.gr cG (fun k hk => hk.2.2.2.2.1); have mV := eV.gr cG (fun k hk => hk.2.2.2.2.1); clear eV; replace cV := cV.gr cG (fun e => by have := aO.ge _ e; omega); replace dN := dN.gr cG (fun k hk => hk.2.2.2.2.1); replace cW := cW.gr cG (fun k hk => hk.2.2.2.2.1); replace cN := cN.gr cG (fun e => by have := aO.ge _ e; omega)
   replace dO := dO.gr cG (fun k hk => hk.2.2.2.2.2.2.2.2.1); replace dP := dP.gr cG (fun k hk => hk.2.2.2.2.2.2.2.2.1); replace dQ := dQ.gr cG (fun k hk => hk.2.2.2.2.2.2.2.2.1); replace aX := aX.gr cG (aO.neb (fun g hs => hs.1)); clear aO cG
   have kR := kQ.as 135 (.slice aP yb.length bW) (.slice aP (((yb).set (k12_ : Int).toNat 99 : List Int).length) bW) rfl (slice_len (by first | (simp only [List.length_set]; done) | rfl | omega | (simp; done) | (simp; omega)))
   clear kQ
   replace aX : Bx mT (aA.heap.size) [.slice aL xa.length dJ, .slice aI lb.length bA, .slice aH ya.length aU, .slice aP (((yb).set (k12_ : Int).toNat 99).length) bW] 32 := aX.as (by first | rfl | (simp only [List.length_set]; done))
   refine At.done rfl ?_
   refine b_n ?_
   refine t_n ?_
   refine At.start ?_
   refine At.rk kR 3 [(15, .int .i64 (k12_ + 1))] (.w 113 (k12_ + 1) <| .n) (fun tA mW => ?_)
   clear kR
   refine At.dn ?_
   exact ⟨_, ω, (k12_ + 1), ((yb).set (k12_ : Int).toNat 99 : List Int), aP, bW, rfl, mW.sb, cT, cU, dK, cL, dL, dM, mV, cV, dN, cW, cN, dO, dP, dQ, mU, aX, ω, ω, (over_next hov12 ω), ω, ω, ω⟩
  have tB := of_decide_eq_false hD
  refine wp_exit ?_
  refine t_e ?_
  clear hm632
  refine t_e ?_
  refine b_e ?_
  refine t_n ?_
  refine sqs ?_
  refine At.rk eL 1 [(17, .int .i64 (0))] .n (fun tC kS => ?_)
  clear eL
  refine At.dn ?_
  refine wp_block ?_
  refine loop_g (fun (m_ : Nat) a_ w_ => ∃ (k10_ : Int) (xb : List Int) (dR : Option Addr) (fQ : Nat), m_ = ((lb.length : Int) - k10_).toNat ∧ (Frm 169 a_ [(17, .int .i64 (k10_)), (14, .int .i64 (1)), (96, .bool false), (95, .int .i64 (((g.ow.length : Nat) : Int) + 1)), (94, .int .i64 (((g.ow.length : Nat) : Int))), (93, .int .i64 (da)), (90, .bool false), (89, .int .i64 (da)), (86, .bool false), (85, .bool true), (11, .int .i64 (((g.ow.length : Nat) : Int))), (8, pt aA.heap.size 0), (7, .int .i64 (n_)), (6, pt aG.heap.size 0), (5, pt aJ.heap.size 0), (4, .bool (isR g)), (3, .bool true), (1, pt w.heap.size 0)]) ∧ (Ext w w_) ∧ (RdG w_ 0 w.heap.size Ag0 Ag1 Ag2 cg0 cg1 cg2 g) ∧ (RdT w_ 0 w.heap.size) ∧ (Bx w_ (w.heap.size) [.slice Ag0 g.ow.length cg0, .slice Ag1 g.pr.length cg1, .slice Ag2 g.mv.length cg2] 25) ∧ (OwnR w_ (Sx (aM.heap.size) [some (aA.heap.size), obk (aL), obk (dR), obk (aH), obk (aP), some (aG.heap.size), obk (aE), obk (aF), some (aJ.heap.size), obk (aC), obk (aD)]) aB bK 3 (g.ow : List Int)) ∧ (OwnR w_ (Sx (aM.heap.size) [some (aA.heap.size), obk (aL), obk (dR), obk (aH), obk (aP), some (aG.heap.size), obk (aE), obk (aF), some (aJ.heap.size), obk (aB), obk (aD)]) aC bL 3 (g.pr : List Int)) ∧ (OwnLL w_ (aM.heap.size) [some (aA.heap.size), obk (aL), obk (dR), obk (aH), obk (aP), some (aG.heap.size), obk (aE), obk (aF), some (aJ.heap.size), obk (aB), obk (aC)] aD bM 22 3 (g.mv : List (List Int))) ∧ (Bx w_ (aJ.heap.size) [.slice aB g.ow.length bK, .slice aC g.pr.length bL, .slice aD g.mv.length bM] 25) ∧ (OwnR w_ (Sx (aR.heap.size) [some (aA.heap.size), obk (aL), obk (dR), obk (aH), obk (aP), some (aG.heap.size), obk (aB), obk (aC), obk (aD), obk (aF)]) aE bN 3 (wa : List Int)) ∧ (OwnR w_ (Sx (aR.heap.size) [some (aA.heap.size), obk (aL), obk (dR), obk (aH), obk (aP), some (aG.heap.size), obk (aB), obk (aC), obk (aD), obk (aE)]) aF bO 3 (wb : List Int)) ∧ (Bx w_ (aG.heap.size) [.slice aE wa.length bN, .slice aF wb.length bO] 29) ∧ (OwnR w_ (Sx (aQ.heap.size) [some (aA.heap.size), obk (aB), obk (aC), obk (aD), obk (aE), obk (aF), obk (dR), obk (aH), obk (aP)]) aL dJ 3 (xa : List Int)) ∧ (OwnR w_ (Sx (aQ.heap.size) [some (aA.heap.size), obk (aB), obk (aC), obk (aD), obk (aE), obk (aF), obk (aL), obk (aH), obk (aP)]) dR fQ 3 (xb : List Int)) ∧ (OwnR w_ (Sx (aQ.heap.size) [some (aA.heap.size), obk (aB), obk (aC), obk (aD), obk (aE), obk (aF), obk (aL), obk (dR), obk (aP)]) aH aU 3 (ya : List Int)) ∧ (OwnR w_ (Sx (aQ.heap.size) [some (aA.heap.size), obk (aB), obk (aC), obk (aD), obk (aE), obk (aF), obk (aL), obk (dR), obk (aH)]) aP bW 3 (yb : List Int)) ∧ (Bx w_ (aA.heap.size) [.slice aL xa.length dJ, .slice dR xb.length fQ, .slice aH ya.length aU, .slice aP yb.length bW] 32) ∧ (0 ≤ k10_) ∧ (k10_ ≤ (lb.length : Int)) ∧ (OverK lb xb k10_) ∧ (aM.heap.size ≤ w_.heap.size) ∧ (aR.heap.size ≤ w_.heap.size) ∧ (aQ.heap.size ≤ w_.heap.size)) _ ⟨0, (lb : List Int), aI, bA, rfl, kS.sb, cT, cU, dK, cL, dL, dM, eV, cV, dN, cW, cN, dO, dP, dQ, aO, (aX.as (by first | rfl | (simp only [List.cons.injEq, Value.slice.injEq, true_and, and_true]; omega))), ω, (Int.natCast_nonneg _), over_0, ω, ω, ω⟩ ?_
  clear kS; clear cU; clear dK; clear cL; clear dL; clear dM; clear eV; clear cV; clear dN; clear cW; clear cN; clear dO; clear dP; clear dQ; clear aO; clear aX; clear cT
  intro m_ tD mX ⟨k10_, xb, dR, fQ, hm819, kT, fR, gA, gB, fS, gC, gD, hI, fT, gE, gF, fU, gG, dY, gH, gJ, eH, i836, i837, hov10, i838, i839, i840⟩
  have szw817 := fR.size; have := fS.lt; have := fT.lt; have := fU.lt; have := eH.lt
  have szc841 : w.heap.size < aM.heap.size := by omega
  have szc842 : aM.heap.size ≤ aJ.heap.size := by omega
  have szc843 : aJ.heap.size < aR.heap.size := by omega
  have szc844 : aR.heap.size ≤ aG.heap.size := by omega
  have szc845 : aG.heap.size < aQ.heap.size := by omega
  have szc846 : aQ.heap.size ≤ aA.heap.size := by omega
  have szc847 : aA.heap.size < mX.heap.size := by omega
  clear szc654 szc655 szc656 szc657 szc658 szc659 szc660 szw817; have hol10 := hov10.1
  refine wp_seq ?_
  refine sqs ?_
  refine At.rk kT 7 [(153, .bool (decide ((k10_ : Int) < ((xb.length : Nat) : Int))))] (.b 1 2 <| .l (eH.cell (i := 1) rfl) <| .n) (fun tE fV => ?_)
  clear kT
  refine At.dn ?_
  refine cond_S fV (t := decide ((k10_ : Int) < ((xb.length : Nat) : Int))) rfl (fun hJ => ?_) (fun hJ => ?_)
  ·have tF := of_decide_eq_true hJ
   refine wp_skip ?_
   refine t_n ?_
   refine wp_seq ?_
   refine wp_block ?_
   refine At.start ?_
   obtain ⟨kU, kV, tG, tH, tI⟩ := dY.get (k10_) ω ω (sz := 1) rfl
   refine At.rk fV 6 [(161, .pointer (some (kU.add ((k10_ : Int).toNat * 1))))] (.b 1 2 <| .l (eH.cell (i := 1) rfl) <| .a k10_ xb.length kV <| .n) (fun tJ kW => ?_)
   clear fV
   refine At.act kW (storeR (α := Int) (t := 3) (i := k10_) (ad := kU) (v := .int .i64 (99)) (99) κ rfl rfl κ kV dY ω ω) ?_
   rintro d_ v_ mY ⟨rfl, cH, mZ⟩
   refine ⟨_, rfl, fun tK kX => ?_⟩
   clear kW; have tL : ((xb).set (k10_ : Int).toNat 99).length = (xb).length := List.length_set; have := cH.size; replace fR := fR.gr cH (fun k hk => by have := dY.ge k hk; omega); replace gA := gA.gr cH (fun k hk => by have := dY.ge k hk; omega); replace gB := gB.gr cH (fun k hk => by have := dY.ge k hk; omega); replace fS := fS.gr cH (fun e => by have := dY.ge _ e; omega)
   replace gC := gC.gr cH (fun k hk => hk.2.2.1); replace gD := gD.gr cH (fun k hk => hk.2.2.1); have nA := hI.gr cH (fun k hk => hk.2.2.1); clear hI; replace fT := fT.gr cH (fun e => by have := dY.ge _ e; omega); replace gE := gE.gr cH (fun k hk => hk.2.2.1); replace gF := gF.gr cH (fun k hk => hk.2.2.1); replace fU := fU.gr cH (fun e => by have := dY.ge _ e; omega)
   replace gG := gG.gr cH (fun k hk => hk.2.2.2.2.2.2.1); replace gH := gH.gr cH (fun k hk => hk.2.2.2.2.2.2.2.1); replace gJ := gJ.gr cH (fun k hk => hk.2.2.2.2.2.2.2.1); replace eH := eH.gr cH (dY.neb (fun g hs => hs.1)); clear dY cH
   replace eH : Bx mY (aA.heap.size) [.slice aL xa.length dJ, .slice dR (((xb).set (k10_ : Int).toNat 99).length) fQ, .slice aH ya.length aU, .slice aP yb.length bW] 32 := eH.as (by first | rfl | (simp only [List.length_set]; done))
   refine At.done rfl ?_
   refine b_n ?_
   refine t_n ?_
   refine At.start ?_
   refine At.rk kX 3 [(17, .int .i64 (k10_ + 1))] (.w 155 (k10_ + 1) <| .n) (fun tM nB => ?_)
   clear kX
   refine At.dn ?_
   exact ⟨_, ω, (k10_ + 1), ((xb).set (k10_ : Int).toNat 99 : List Int), dR, fQ, rfl, nB.sb, fR, gA, gB, fS, gC, gD, nA, fT, gE, gF, fU, gG, mZ, gH, gJ, eH, ω, ω, (over_next hov10 ω), ω, ω, ω⟩
  have tN := of_decide_eq_false hJ
  refine wp_exit ?_
  refine t_e ?_
  clear hm819
  refine t_e ?_
  refine b_e ?_
  refine b_n ?_
  refine t_n ?_
  refine At.start ?_
  refine At.rk fV 3 [(14, .int .i64 (2))] (.v 101 (show (.int .i64 (IntKind.i64.wrap (1 + 1)) : Value) = .int .i64 (2) from κ) <| .n) (fun tO kY => ?_)
  clear fV
  refine At.dn ?_
  have kZ := kY.sb (r := [(14, .int .i64 (2)), (96, .bool false), (95, .int .i64 (((g.ow.length : Nat) : Int) + 1)), (94, .int .i64 (((g.ow.length : Nat) : Int))), (93, .int .i64 (da)), (90, .bool false), (89, .int .i64 (da)), (86, .bool false), (85, .bool true), (11, .int .i64 (((g.ow.length : Nat) : Int))), (8, pt aA.heap.size 0), (7, .int .i64 (n_)), (6, pt aG.heap.size 0), (5, pt aJ.heap.size 0), (4, .bool (isR g)), (3, .bool true), (1, pt w.heap.size 0)])
  clear kY
  refine loop_u ?_
  refine wp_seq ?_
  refine sqs ?_
  refine At.rk kZ 2 [(99, .bool false)] (.v 99 (show (.bool (decide ((2 : Int) < 2)) : Value) = .bool false from κ) <| .n) (fun tP hK => ?_)
  clear kZ
  refine At.dn ?_
  refine cond_F hK rfl ?_
  refine wp_exit ?_
  refine t_e ?_
  refine t_e ?_
  refine b_e ?_
  refine b_n ?_
  refine t_n ?_
  clear gG; clear dY; clear gH; clear gJ; clear eH
  refine At.start ?_
  refine At.rk hK 3 [(7, .int .i64 (n_ + 1))] (.w 29 (n_ + 1) <| .n) (fun tQ nC => ?_)
  clear hK
  refine At.dn ?_
  exact ⟨_, ω, (n_ + 1), rfl, nC.sb, fR, gA, gB, fS, (gC.imp (fun g _ hs => ⟨hs.2.2.2.2.2.1, hs.2.2.2.2.2.2.1, hs.2.2.2.2.2.2.2.1, hs.2.2.2.2.2.2.2.2.1, hs.2.2.2.2.2.2.2.2.2.1, hs.2.2.2.2.2.2.2.2.2.2.1, hs.2.2.2.2.2.2.2.2.2.2.2⟩)), (gD.imp (fun g _ hs => ⟨hs.2.2.2.2.2.1, hs.2.2.2.2.2.2.1, hs.2.2.2.2.2.2.2.1, hs.2.2.2.2.2.2.2.2.1, hs.2.2.2.2.2.2.2.2.2.1, hs.2.2.2.2.2.2.2.2.2.2.1, hs.2.2.2.2.2.2.2.2.2.2.2⟩)), (hI.imp (fun g _ hs => ⟨hs.2.2.2.2.2.1, hs.2.2.2.2.2.2.1, hs.2.2.2.2.2.2.2.1, hs.2.2.2.2.2.2.2.2.1, hs.2.2.2.2.2.2.2.2.2.1, hs.2.2.2.2.2.2.2.2.2.2.1, hs.2.2.2.2.2.2.2.2.2.2.2⟩)), fT, (gE.imp (fun g _ hs => ⟨hs.2.2.2.2.2.1, hs.2.2.2.2.2.2.1, hs.2.2.2.2.2.2.2.1, hs.2.2.2.2.2.2.2.2.1, hs.2.2.2.2.2.2.2.2.2.1, hs.2.2.2.2.2.2.2.2.2.2⟩)), (gF.imp (fun g _ hs => ⟨hs.2.2.2.2.2.1, hs.2.2.2.2.2.2.1, hs.2.2.2.2.2.2.2.1, hs.2.2.2.2.2.2.2.2.1, hs.2.2.2.2.2.2.2.2.2.1, hs.2.2.2.2.2.2.2.2.2.2⟩)), fU, ω, ω, ω, ω⟩
 have tR := of_decide_eq_false gP
 refine wp_exit ?_
 refine t_e ?_
 clear hm149
 refine t_e ?_
 refine b_e ?_
 refine t_n ?_
 clear bQ; clear bR; clear bI
 refine sqs ?_
 refine At.rk eX 2 [(163, .agg #[.slice Ag0 g.ow.length cg0, .slice Ag1 g.pr.length cg1, .slice Ag2 g.mv.length cg2]), (162, .agg #[.slice aB g.ow.length bK, .slice aC g.pr.length bL, .slice aD g.mv.length bM])] (.l (aV.cell (i := 0) rfl) <| .l (aV.cell (i := 1) rfl) <| .l (aV.cell (i := 2) rfl) <| .l (aT.cell (i := 0) rfl) <| .l (aT.cell (i := 1) rfl) <| .l (aT.cell (i := 2) rfl) <| .n) (fun tS lA => ?_)
 clear eX
 refine At.cl lA (some 164) (args := #[.agg #[.slice aB g.ow.length bK, .slice aC g.pr.length bL, .slice aD g.mv.length bM], .agg #[.slice Ag0 g.ow.length cg0, .slice Ag1 g.pr.length cg1, .slice Ag2 g.mv.length cg2]]) ((same_any (a := g) (b := g) (RdG.mk (G := g) (aY.rdI0 (by first | omega | (simp only [List.length_cons, List.length_nil]; omega) | (simp; done) | (simp; omega))) (aZ.rdI0 (by first | omega | (simp only [List.length_cons, List.length_nil]; omega) | (simp; done) | (simp; omega))) (eE.rdII0 (by first | omega | (simp only [List.length_cons, List.length_nil]; omega) | (simp; done) | (simp; omega)) hip49) aY.cap aZ.cap eE.cap) (bD.wide (Nat.zero_le _) ω)).mono (R' := fun e w' => e = .returned (.bool true) ∧ Ext _ w') (fun e_ w_ h_ => by rw [show (decide (g = g) : Bool) = true from decide_eq_true rfl] at h_; exact h_)) ?_
 rintro e_ tT ⟨rfl, he⟩
 refine ⟨_, rfl, _, rfl, fun tU lB => ?_⟩
 clear lA; have eB := gr_ext he; have := eB.size; replace bH := bH.gn eB; replace bD := bD.gn eB; replace bP := bP.gn eB; replace aT := aT.gn eB; replace aY := aY.gn eB; replace aZ := aZ.gn eB; have nD := eE.gn eB; clear eE; replace aV := aV.gn eB; clear eB he
 refine At.rk lB 1 [(18, .bool true)] .n (fun tV lC => ?_)
 clear lB
 refine At.dn ?_
 clear aT; clear aY; clear aZ; clear nD; clear aV
 refine sqs ?_
 refine At.rk lC 5 [(2, .bool true)] .n (fun tW nE => ?_)
 clear lC
 refine At.dn ?_
 refine wp_ret ?_
 refine ret_ nE [] [.bool true] [] κ trivial ?_
 exact ⟨rfl, bH⟩
end Go.Proofs.YtplpgfcjjnaigaaDoor
namespace Go.Proofs.YtplpgfcjjnaigaaDoor
open Go Go.RowKit Go.ChangeShapes Go.WideShapes Go.ChangeAt
section
variable {H : Type} {enc : TypeId × Value → H} {P : Program} {W W' : World}
theorem trodAll_stays (hl : laidOutB P = true) {sp : Nat → Bool} (hb : Below W.heap.size W W') : ∀ {ts : List TypeId} {vs : List Value} {ds : List (DataW H)} {ps : List MemPlace}, (∀ t ∈ ts, P.readableRec t = true ∧ t < P.types.size) →
    DataW.TrodAll enc P W 0 (fun _ => true) true ts vs ds ps → (∀ p ∈ ps, p.block < W.heap.size) → (∀ p ∈ ps, sp p.block = true) → DataW.TrodAll enc P W' 0 sp true ts vs ds ps
  | [], [], [], _, _, h, _, _ => h
  | _ :: _, _ :: _, _ :: _, _, hT, ⟨p, q, h1, h2, e⟩, hlt, hs => ⟨p, q, WideElems.Trod_stays hl (hT _ List.mem_cons_self).1 (hT _ List.mem_cons_self).2 h1 (fun x hx => hb.same (hlt x (by rw [e]; exact List.mem_append_left _ hx))) (fun x hx => hs x (by rw [e]; exact List.mem_append_left _ hx)),
      trodAll_stays hl hb (fun t ht => hT t (List.mem_cons_of_mem _ ht)) h2 (fun x hx => hlt x (by rw [e]; exact List.mem_append_right _ hx)) (fun x hx => hs x (by rw [e]; exact List.mem_append_right _ hx)), e⟩
theorem trodAll_len {w : World} {b : Nat} {sp : Nat → Bool} {hd : Bool} : ∀ {ts : List TypeId} {vs : List Value} {ds : List (DataW H)} {ps : List MemPlace}, DataW.TrodAll enc P w b sp hd ts vs ds ps → ds.length = ts.length
  | [], [], [], _, _ => rfl
  | _ :: _, _ :: _, _ :: _, _, ⟨_, _, _, h2, _⟩ => by simp [trodAll_len h2]
theorem law_post {f : Func} {s : ChangeSpec} {args : Array Value} {ds gs : List (DataW H)} {before : List MemPlace} (hl : laidOutB P = true) (hT : ∀ t ∈ f.params.toList, P.readableRec t = true ∧ t < P.types.size)
    (hv : s.vars = []) (hs : ∀ l : List (DataW H), l.length = f.params.size → s.fn H l = { results := [.lit (.bool true)], args := l }) {tb : TypeId} (hr : f.resultTypes = #[tb]) (htb : P.underlying tb = some .bool)
    (hW : DataW.Whole enc P f.params.toList s.vars false W args.toList ds gs before) (hE : Ext W W') :
    s.post enc P f false true false false W args (.bool true) W' := by
  have hW' := hW
  obtain ⟨p, q, hA, hV, rfl, hfz, hnd⟩ := hW
  rw [hv] at hV
  obtain ⟨rfl, rfl⟩ := trodVars_none hV
  have hlen : ds.length = f.params.size := by have := trodAll_len hA; simpa using this
  have hlt : ∀ x ∈ p, x.block < W.heap.size := fun x hx => by
    have := DataW.TrodAll.lt hA x hx
    exact this
  have e := hs (ds ++ []) (by simpa using hlen)
  refine ⟨ds, [], p ++ [], [], p, [], hW', ?_, ?_, ?_, Below.frame hE _, fun h => by cases h⟩
  · rw [e, hr]
    exact trodAll_cons_mk (shut_bool htb true) trodAll_mk0
  · rw [e]
    simp only [List.append_nil]
    exact trodAll_stays hl hE hT hA hlt (fun x hx => by simpa using hlt x hx)
  · rw [e, hv]
    rfl
def Fits (P : Program) (t : TypeId) (d : DataW H) : Prop := ∀ x ∈ d.weights P t, x ≤ reachBytes
theorem fits_each {t : TypeId} {ts : List TypeId} {d : DataW H} {ds : List (DataW H)} (h : ∀ x ∈ DataW.weightsEach P (t :: ts) (d :: ds), x ≤ reachBytes) : Fits P t d ∧ ∀ x ∈ DataW.weightsEach P ts ds, x ≤ reachBytes := by
  simp only [DataW.weightsEach, List.mem_append] at h
  exact ⟨fun x hx => h x (.inl hx), fun x hx => h x (.inr hx)⟩
theorem fits_all {e : TypeId} : ∀ {l : List (DataW H)}, (∀ x ∈ DataW.weightsAll P e l, x ≤ reachBytes) → ∀ d ∈ l, Fits P e d
  | [], _, _, hd => by cases hd
  | d :: r, h, d', hd => by
    simp only [DataW.weightsAll, List.mem_append] at h
    rcases List.mem_cons.1 hd with rfl | hd
    · exact fun x hx => h x (.inl hx)
    · exact fits_all (fun x hx => h x (.inr hx)) d' hd
theorem fits_slice {t e : TypeId} {el sp : List (DataW H)} (ht : P.underlying t = some (.slice e)) (h : Fits P t (.slice el sp)) : (el.length + sp.length) * P.bytesOf e ≤ reachBytes ∧ ∀ d ∈ el, Fits P e d := by
  simp only [Fits, DataW.weights, ht, List.mem_cons, List.mem_append] at h
  exact ⟨h _ (.inl rfl), fits_all (fun x hx => h x (.inr (.inl hx)))⟩
theorem fits_struct {t : TypeId} {fs : Array Field} {ps : List (DataW H)} (ht : P.underlying t = some (.struct fs)) (h : Fits P t (.agg ps)) : ∀ x ∈ DataW.weightsEach P (fs.toList.map (·.type)) ps, x ≤ reachBytes := by
  simp only [Fits, DataW.weights, ht] at h
  exact h
def I64 (z : Int) : Prop := -9223372036854775808 ≤ z ∧ z ≤ 9223372036854775807
theorem getD_take {l : List Int} {n i : Nat} (h : i < n) : (l.take n).getD i 0 = l.getD i 0 := by
  simp only [List.getD_eq_getElem?_getD, List.getElem?_take, if_pos h]
theorem bulk_one (d : DataW H) : 1 ≤ Rows.uptoBulk d := by
  cases d with
  | lit l => cases l <;> simp [Rows.uptoBulk]
  | _ => simp [Rows.uptoBulk]
theorem bulk_len : ∀ l : List (DataW H), l.length ≤ Rows.uptoBulkAll l
  | [] => Nat.zero_le _
  | x :: r => by
    have := bulk_one x
    have := bulk_len r
    simp only [Rows.uptoBulkAll, List.length_cons]
    omega
theorem bulk_slice (el sp : List (DataW H)) : el.length ≤ Rows.uptoBulk (.slice el sp) := by
  have := bulk_len el
  simp only [Rows.uptoBulk]
  omega
theorem openI {t e : TypeId} (ht : P.underlying t = some (.slice e)) (he : P.underlying e = some (.int .i64)) (hc : P.cellsOf e = 1) (hb : P.bytesOf e = 8) {n : Nat} {cs : List Value} {x : DataW H × List MemPlace}
    (h : DataW.trod enc P W 0 (fun _ => true) true n t cs = some x) (hf : Fits P t x.1) : ∃ A l c, cs = [.slice A l.length c] ∧ l.length ≤ c ∧ RdI W 0 W.heap.size A l ∧ (∀ z ∈ l, I64 z) ∧ l.length ≤ Rows.uptoBulk x.1 := by
  rcases open_ints ht he hc h with ⟨rfl, rfl⟩ | ⟨a, len, cap, zs, rfl, _, hle, hm, hz, rfl, hcell, hw⟩
  · exact ⟨none, [], 0, rfl, Nat.le_refl _, rdI_nil, (fun z hz => by cases hz), Nat.zero_le _⟩
  · simp only [if_true] at hz
    have h1 := (fits_slice ht hf).1
    rw [hb] at h1
    simp only [lits, List.length_map, List.length_take, List.length_drop, reachBytes] at h1
    have hlen : (zs.take len).length = len := by rw [List.length_take]; omega
    refine ⟨some a, zs.take len, cap, by rw [hlen], by omega, ⟨by omega, fun i q hi hq => ?_⟩, fun z hz' => ?_, ?_⟩
    · obtain rfl : q = 0 := by omega
      have hc' := hcell i (by omega)
      refine ⟨a, rfl, Nat.zero_le _, ?_, ?_⟩
      · have := World.block_lt_of_cell? _ _ hc'
        rwa [add_block] at this
      · rw [add_zero, Nat.mul_one, hc']
        show some _ = some (Value.int .i64 ((zs.take len).getD i 0))
        rw [getD_take (by omega)]
    · have := bounds_i64 (hw z (List.mem_of_mem_take hz'))
      exact this
    · have := bulk_slice (H := H) (lits .i64 (zs.take len)) (lits .i64 (zs.drop len))
      simpa [lits] using this
theorem openII {t e q : TypeId} (ht : P.underlying t = some (.slice e)) (he : P.underlying e = some (.slice q)) (hq : P.underlying q = some (.int .i64)) (ce : P.cellsOf e = 1) (cq : P.cellsOf q = 1) (be : P.bytesOf e = 24) (bq : P.bytesOf q = 8) {n : Nat} {cs : List Value} {x : DataW H × List MemPlace}
    (h : DataW.trod enc P W 0 (fun _ => true) true n t cs = some x) (hf : Fits P t x.1) : ∃ A l c, cs = [.slice A l.length c] ∧ l.length ≤ c ∧ RdII W 0 W.heap.size A l ∧ (∀ r ∈ l, ∀ z ∈ r, I64 z) ∧ l.length ≤ Rows.uptoBulk x.1 := by
  rcases Go.Deep.open_slice1 ht ce h with ⟨rfl, rfl⟩ | ⟨a, len, cap, m, n', V, D, Pl, rfl, _, hle, hm, hmm, rfl, hx⟩
  · exact ⟨none, [], 0, rfl, Nat.le_refl _, rdII_nil, (fun z hz => by cases hz), Nat.zero_le _⟩
  · simp only [if_true] at hmm
    subst hmm
    obtain ⟨h1, h2⟩ := fits_slice ht hf
    rw [be] at h1
    simp only [List.length_map, List.length_range, reachBytes] at h1
    have each : ∀ r, r < len → ∃ y : Option Addr × List Int × Nat, V r = .slice y.1 y.2.1.length y.2.2 ∧ y.2.1.length ≤ y.2.2 ∧ RdI W 0 W.heap.size y.1 y.2.1 ∧ ∀ z ∈ y.2.1, I64 z := fun r hr => by
      obtain ⟨A, l, c, e1, e2, e3, e4, _⟩ := openI he hq cq bq (hx r (by omega)).2 (h2 (D r) (List.mem_map.2 ⟨r, by simpa using hr, rfl⟩))
      exact ⟨(A, l, c), by simpa using e1, e2, e3, e4⟩
    obtain ⟨y, hy⟩ := Go.Deep.choose_lt each
    have hget : ∀ i, i < len → ((List.range len).map fun r => (y r).2.1).getD i [] = (y i).2.1 := fun i hi => by
      simp only [List.getD_eq_getElem?_getD, List.getElem?_map, List.getElem?_range hi, Option.map_some, Option.getD_some]
    refine ⟨some a, (List.range len).map fun r => (y r).2.1, m, by simp, by simpa using hle, ⟨by simp; omega, fun r => (y r).1, fun r => (y r).2.2, fun i q hi hq => ?_, fun i hi => ?_⟩, fun r hr => ?_, ?_⟩
    · obtain rfl : q = 0 := by omega
      simp only [List.length_map, List.length_range] at hi
      have hc' := (hx i (by omega)).1
      refine ⟨a, rfl, Nat.zero_le _, ?_, ?_⟩
      · have := World.block_lt_of_cell? _ _ hc'
        rwa [add_block] at this
      · rw [add_zero, Nat.mul_one, hc', (hy i hi).1]
        show _ = some (Value.slice _ (((List.range len).map fun r => (y r).2.1).getD i []).length _)
        rw [hget i hi]
    · simp only [List.length_map, List.length_range] at hi
      rw [hget i hi]
      exact ⟨(hy i hi).2.1, (hy i hi).2.2.1⟩
    · obtain ⟨i, hi, rfl⟩ := List.mem_map.1 hr
      exact (hy i (by simpa using hi)).2.2.2
    · have := bulk_slice ((List.range len).map D) ((List.range (m - len)).map fun j => D (len + j))
      simpa using this
end
end Go.Proofs.YtplpgfcjjnaigaaDoor
namespace Go.Proofs.YtplpgfcjjnaigaaDoor
open Go Go.RowKit Go.ChangeShapes Go.WideShapes Go.ChangeAt
section
variable {H : Type} {enc : TypeId × Value → H} {W : World}
theorem openG {n : Nat} {cs : List Value} {x : DataW H × List MemPlace} (h : DataW.trod enc Tryd.prog W 0 (fun _ => true) true n 25 cs = some x) (hf : Fits Tryd.prog 25 x.1) :
    ∃ A0 A1 A2 c0 c1 c2 g, cs = [.slice A0 (GameL.ow g).length c0, .slice A1 (GameL.pr g).length c1, .slice A2 (GameL.mv g).length c2] ∧ RdG W 0 W.heap.size A0 A1 A2 c0 c1 c2 g ∧ (∀ z ∈ g.ow, I64 z) ∧ (∀ z ∈ g.pr, I64 z) ∧ (∀ r ∈ g.mv, ∀ z ∈ r, I64 z) ∧ g.ow.length ≤ Rows.uptoBulk x.1 := by
  have hcI : Tryd.prog.cellsOf 22 = 1 := by kernel_rfl
  have hcII : Tryd.prog.cellsOf 23 = 1 := by kernel_rfl
  have hci : Tryd.prog.cellsOf 3 = 1 := by kernel_rfl
  have hbi : Tryd.prog.bytesOf 3 = 8 := by kernel_rfl
  have hbI : Tryd.prog.bytesOf 22 = 24 := by kernel_rfl
  have hcG : Tryd.prog.cellsOf 25 = 3 := by kernel_rfl
  obtain ⟨y0, y1, y2, n', rfl, hl, h0, h1, h2⟩ := Go.Deep.trod_struct3 Tryd.underlying25 h
  rw [hcG] at hl
  match cs, hl with
  | [v0, v1, v2], _ =>
    simp only [hcI, hcII] at h0 h1 h2
    obtain ⟨f0, hf⟩ := fits_each (fits_struct Tryd.underlying25 hf)
    obtain ⟨f1, hf⟩ := fits_each hf
    obtain ⟨f2, _⟩ := fits_each hf
    obtain ⟨A0, l0, c0, e0, k0, r0, b0, m0⟩ := openI Tryd.underlying22 Tryd.underlying3 hci hbi h0 f0
    obtain ⟨A1, l1, c1, e1, k1, r1, b1, m1⟩ := openI Tryd.underlying22 Tryd.underlying3 hci hbi h1 f1
    obtain ⟨A2, l2, c2, e2, k2, r2, b2, m2⟩ := openII Tryd.underlying23 Tryd.underlying22 Tryd.underlying3 hcI hci hbI hbi h2 f2
    obtain rfl : v0 = _ := by simpa using e0
    obtain rfl : v1 = _ := by simpa using e1
    obtain rfl : v2 = _ := by simpa using e2
    exact ⟨A0, A1, A2, c0, c1, c2, ⟨l0, l1, l2⟩, rfl, ⟨r0, r1, r2, k0, k1, k2⟩, b0, b1, b2, by
      simp only [Rows.uptoBulk, Rows.uptoBulkAll]
      show l0.length ≤ _
      omega⟩
end
end Go.Proofs.YtplpgfcjjnaigaaDoor
namespace Go.Proofs.YtplpgfcjjnaigaaDoor
open Go Go.RowKit Go.ChangeShapes Go.WideShapes Go.ChangeAt
section
variable {H : Type} {enc : TypeId × Value → H} {W : World}
end
theorem gTab : Tryd.prog.globalNamed "math/bits.deBruijn64tab" = some 0 := by kernel_rfl
theorem gTabType : (Tryd.prog.globals[0]?).map (·.type) = some 102 := by kernel_rfl
def tabI : List Int := Lib.deBruijn64tab.map Int.ofNat
theorem tabI_get : ∀ i, i < 64 → tabI.getD i 0 = ((Lib.deBruijn64tab.getD i 0 : Nat) : Int) := by decide +kernel
theorem rdT_of {W : World} (h : laidMetH Tryd.prog [("math/bits.deBruijn64tab", Rows.laid_math_bits_deBruijn64tab)] W) : RdT W 0 W.heap.size := by
  have ht : Lib.TabIs Tryd.prog W "math/bits.deBruijn64tab" .u8 tabI := Lib.tabIs_of_head (rest := []) gTab gTabType Tryd.underlying102 Tryd.underlying5 (by kernel_rfl) (by kernel_rfl) h
  intro i q hi hq
  obtain rfl : q = 0 := by omega
  have hc := ht.cell gTab i (by show i < 64; exact hi)
  refine ⟨⟨0, 0, none⟩, rfl, Nat.zero_le _, (show (⟨0, i, none⟩ : Addr).block < W.heap.size from World.block_lt_of_cell? _ _ hc), ?_⟩
  have ea : ((⟨0, 0, none⟩ : Addr).add (i * 1)).add 0 = ⟨0, i, none⟩ := by
    rw [add_zero, Nat.mul_one]
    simp [Addr.add]
    exact fun h => h.symm
  rw [ea, hc, tabI_get i hi]
  show _ = some (Value.int .u8 (deI ((i : Nat) : Int)))
  rw [deI, Int.toNat_natCast]
noncomputable def laidWorld (os : Os) : World :=
  { World.holding Tryd.prog os ⟨#[], #[], []⟩ with heap := (World.holding Tryd.prog os ⟨#[], #[], []⟩).heap.modify 0 fun
      | .cells _ t frozen => .cells (tabI.map (Value.int .u8)).toArray t frozen
      | o => o }
end Go.Proofs.YtplpgfcjjnaigaaDoor
