/-
  Texts of this repo, laid together: the frame of the walks, plain lemmas, walks of Go functions. Conditions: what the theorems name.
-/
import Derived.Deep.DeepHandedRow
import Derived.Deep.Matrix
import Derived.JoinedCond
import Derived.Lib.LaidTab
import Derived.Lib.SmallJoins
import Derived.OpenShut
import Derived.ProofKit
import Derived.Test.YtkkophhnliplhaaDoorRows
import Derived.WalkKit
import Derived.Test.YtkkophhnliplhaaDoorZ4
set_option linter.unusedVariables false
set_option linter.unusedSimpArgs false
namespace Go.Proofs.YtkkophhnliplhaaDoor
open Go Go.RowKit
attribute [local irreducible] ofZ fromW wordsD ofD ofW lsD lenW lenN fullW withW lessW hasW hasD inW inD leastD putD onI tzI orS andS minusS orD andD minusD fullD emptyD
set_option maxHeartbeats 4000000 in
theorem copies09_any {Ag0 Ag1 Ag2 : Option Addr} {cg0 cg1 cg2 : Nat} {g : GameL} {w : World} (rg : RdG w 0 w.heap.size Ag0 Ag1 Ag2 cg0 cg1 cg2 g) (rT : RdT w 0 w.heap.size) :
    Calls Tryd.prog 4 #[.agg #[.slice Ag0 g.ow.length cg0, .slice Ag1 g.pr.length cg1, .slice Ag2 g.mv.length cg2]] w fun e w' => e = .returned (.bool true) ∧ Ext w w' := by
 have hlg0 := rg.ow.len; have hlg1 := rg.pr.len; have hlg2 := rg.mv.len; have hkg0 := rg.k0; have hkg1 := rg.k1; have hkg2 := rg.k2
 refine enter_ (args := [.agg #[.slice Ag0 g.ow.length cg0, .slice Ag1 g.pr.length cg1, .slice Ag2 g.mv.length cg2]]) Tryd.func4 rfl Tryd.ntmps4 (Nat.le_of_ble_eq_true rfl) (fun act0 f0 => ?_)
 have e0 : Ext w w := Ext.refl w
 refine sqs ?_
 refine At.bx f0 1 [.slice Ag0 g.ow.length cg0, .slice Ag1 g.pr.length cg1, .slice Ag2 g.mv.length cg2] 25 (fun w1 g5 bx6 act4 f3 => ?_)
 clear f0; have := g5.size; replace e0 := e0.gn g5; have r9 := rg.gn g5; clear rg; have aB := rT.gn g5; clear rT; have := bx6.lt; clear g5
 refine At.rk f3 1 [] .n (fun gF eE => ?_)
 clear f3
 refine At.dn ?_
 refine sqs ?_
 refine At.cl eE (some 15) (shown09_any (aB.wide (Nat.zero_le _) ω)) ?_
 rintro e_ gC ⟨rfl, he⟩
 refine ⟨_, rfl, _, rfl, fun gG eF => ?_⟩
 clear eE; have cP := gr_ext he; have := cP.size; replace e0 := e0.gn cP; replace r9 := r9.gn cP; replace aB := aB.gn cP; replace bx6 := bx6.gn cP; clear cP he
 refine At.rk eF 1 [(3, .bool true)] .n (fun gH eG => ?_)
 clear eF
 refine At.dn ?_
 refine sqs ?_
 refine At.rk eG 1 [(16, .agg #[.slice Ag0 g.ow.length cg0, .slice Ag1 g.pr.length cg1, .slice Ag2 g.mv.length cg2])] (.l (bx6.cell (i := 0) rfl) <| .l (bx6.cell (i := 1) rfl) <| .l (bx6.cell (i := 2) rfl) <| .n) (fun gI eH => ?_)
 clear eG
 refine At.cl eH (some 17) (args := #[.agg #[.slice Ag0 g.ow.length cg0, .slice Ag1 g.pr.length cg1, .slice Ag2 g.mv.length cg2]]) (copyR_any (g := g) (r9.wide (Nat.zero_le _) ω)) ?_
 rintro e_ cR ⟨bP, bQ, bR, bS, bT, bU, rfl, he, dK, dL, dM⟩
 have hip37 := inner_len (RdG.mv (r9.wide (Nat.zero_le _) ω))
 have aC : RdG cR (gC.heap.size) cR.heap.size bP bR bT bQ bS bU g := ⟨(OwnR.rdR dK (by show _ * 8 ≤ _; omega)).rdI, (OwnR.rdR dL (by show _ * 8 ≤ _; omega)).rdI, OwnLLP.rdII dM ω hip37, dK.cap, dL.cap, dM.cap⟩
 clear dK dL dM
 refine ⟨_, rfl, _, rfl, fun gJ eI => ?_⟩
 clear eH; have cQ := gr_ext he; have := cQ.size; replace e0 := e0.gn cQ; replace r9 := r9.gn cQ; replace aB := aB.gn cQ; replace bx6 := bx6.gn cQ; clear cQ he
 refine At.bx eI 4 [.slice none 0 0, .slice none 0 0, .slice none 0 0] 25 (fun gK cH dN gL eJ => ?_)
 clear eI; have := cH.size; replace e0 := e0.gn cH; replace r9 := r9.gn cH; replace aB := aB.gn cH; replace bx6 := bx6.gn cH; replace aC := aC.gn cH; have := dN.lt; clear cH
 refine At.store eJ (t := 25) (b := cR.heap.size) (off := 0) (v := .agg #[.slice bP g.ow.length bQ, .slice bR g.pr.length bS, .slice bT g.mv.length bU]) κ dN κ (fun gM bY cI aA eK => ?_)
 clear eJ; replace aA : Bx bY (cR.heap.size) [.slice bP g.ow.length bQ, .slice bR g.pr.length bS, .slice bT g.mv.length bU] 25 := aA; have := cI.size; replace e0 := e0.gr cI (fun k h => by injection h; omega); replace r9 := r9.gb cI ω; replace aB := aB.gb cI ω; replace bx6 := bx6.gb cI ω; replace aC := aC.gb cI ω; clear dN cI
 refine At.dn ?_
 refine sqs ?_
 refine At.rk eK 1 [(18, .agg #[.slice Ag0 g.ow.length cg0, .slice Ag1 g.pr.length cg1, .slice Ag2 g.mv.length cg2])] (.l (bx6.cell (i := 0) rfl) <| .l (bx6.cell (i := 1) rfl) <| .l (bx6.cell (i := 2) rfl) <| .n) (fun gN eL => ?_)
 clear eK
 refine At.cl eL (some 19) (args := #[.agg #[.slice Ag0 g.ow.length cg0, .slice Ag1 g.pr.length cg1, .slice Ag2 g.mv.length cg2]]) (copyM_any (g := g) (r9.wide (Nat.zero_le _) ω)) ?_
 rintro e_ bI ⟨aU, bZ, aV, cA, aW, cB, rfl, he, aD, aE, aF⟩
 have hip84 := inner_len (RdG.mv (r9.wide (Nat.zero_le _) ω))
 refine ⟨_, rfl, _, rfl, fun gO eM => ?_⟩
 clear eL; have cC := gr_ext he; have := cC.size; replace e0 := e0.gn cC; replace r9 := r9.gn cC; replace aB := aB.gn cC; replace bx6 := bx6.gn cC; replace aC := aC.gn cC; replace aA := aA.gn cC
 replace aD : OwnR bI (SxP (fun k_ => (bY.heap.size ≤ k_ ∧ k_ < bI.heap.size)) [obk (aV), obk (aW)]) aU bZ 3 (g.ow : List Int) := aD.imp (fun g hg hs => ⟨hs.1, hs.2.1, ⟨(by have := Sx_base hs; omega), hg⟩⟩)
 replace aE : OwnR bI (SxP (fun k_ => (bY.heap.size ≤ k_ ∧ k_ < bI.heap.size)) [obk (aU), obk (aW)]) aV cA 3 (g.pr : List Int) := aE.imp (fun g hg hs => ⟨hs.1, hs.2.1, ⟨(by have := Sx_base hs; omega), hg⟩⟩)
 replace aF : OwnLLP bI (fun k_ => (bY.heap.size ≤ k_ ∧ k_ < bI.heap.size)) [obk (aU), obk (aV)] aW cB 22 3 (g.mv : List (List Int)) := aF.imp (fun g hg hs => ⟨hs.1, hs.2.1, ⟨(by have := Sx_base hs; omega), hg⟩⟩)
 clear cC he
 refine At.bx eM 5 [.slice none 0 0, .slice none 0 0, .slice none 0 0] 25 (fun gP bV dO gQ eN => ?_)
 clear eM; have := bV.size; replace e0 := e0.gn bV; replace r9 := r9.gn bV; replace aB := aB.gn bV; replace bx6 := bx6.gn bV; replace aC := aC.gn bV; replace aA := aA.gn bV; replace aD := aD.grN bV; replace aE := aE.grN bV; replace aF := aF.grN bV; have := dO.lt; clear bV
 refine At.store eN (t := 25) (b := bI.heap.size) (off := 0) (v := .agg #[.slice aU g.ow.length bZ, .slice aV g.pr.length cA, .slice aW g.mv.length cB]) κ dO κ (fun gR cD bW aG eO => ?_)
 clear eN; replace aG : Bx cD (bI.heap.size) [.slice aU g.ow.length bZ, .slice aV g.pr.length cA, .slice aW g.mv.length cB] 25 := aG; have := bW.size; replace e0 := e0.gr bW (fun k h => by injection h; omega); replace r9 := r9.gb bW ω; replace aB := aB.gb bW ω; replace bx6 := bx6.gb bW ω; replace aC := aC.gb bW ω; replace aA := aA.gb bW ω; replace aD := aD.gr bW (fun k hk => hk.1)
 replace aE := aE.gr bW (fun k hk => hk.1); replace aF := aF.gr bW (fun k hk => hk.1); clear dO bW
 refine At.dn ?_
 refine sqs ?_
 refine At.rk eO 1 [(20, .agg #[.slice Ag0 g.ow.length cg0, .slice Ag1 g.pr.length cg1, .slice Ag2 g.mv.length cg2])] (.l (bx6.cell (i := 0) rfl) <| .l (bx6.cell (i := 1) rfl) <| .l (bx6.cell (i := 2) rfl) <| .n) (fun gS eP => ?_)
 clear eO
 refine At.cl eP (some 21) (args := #[.agg #[.slice Ag0 g.ow.length cg0, .slice Ag1 g.pr.length cg1, .slice Ag2 g.mv.length cg2]]) (dualM_any (g := g) (r9.wide (Nat.zero_le _) ω)) ?_
 rintro e_ bJ ⟨bC, cE, bD, cF, bE, cG, rfl, he, aH, aI, aJ⟩
 have hip142 := dual_inner (inner_len (RdG.mv (r9.wide (Nat.zero_le _) ω))); have := dual_lens g
 refine ⟨_, rfl, _, rfl, fun gT eQ => ?_⟩
 clear eP; have bO := gr_ext he; have dH := aD.lt; have dI := aE.lt; have dJ := aF.lt; have := bO.size; replace e0 := e0.gn bO; replace r9 := r9.gn bO; replace aB := aB.gn bO; replace bx6 := bx6.gn bO; replace aC := aC.gn bO; replace aA := aA.gn bO
 replace aD : OwnR bJ (SxP (fun k_ => (bY.heap.size ≤ k_ ∧ k_ < bI.heap.size)) [obk (bC), obk (bD), obk (bE), some (bI.heap.size), obk (aV), obk (aW)]) aU bZ 3 (g.ow : List Int) := aD.grA bO (fun _ _ h => by cases h) (fun k hk hs => ⟨(fun e => by have := aH.ge _ e; omega), (fun e => by have := aI.ge _ e; omega), (fun e => by have := aJ.ge _ e; omega), hs.1, hs.2.1, hs.2.2.1, hs.2.2.2⟩)
 replace aE : OwnR bJ (SxP (fun k_ => (bY.heap.size ≤ k_ ∧ k_ < bI.heap.size)) [obk (bC), obk (bD), obk (bE), some (bI.heap.size), obk (aU), obk (aW)]) aV cA 3 (g.pr : List Int) := aE.grA bO (fun _ _ h => by cases h) (fun k hk hs => ⟨(fun e => by have := aH.ge _ e; omega), (fun e => by have := aI.ge _ e; omega), (fun e => by have := aJ.ge _ e; omega), hs.1, hs.2.1, hs.2.2.1, hs.2.2.2⟩)
 replace aF : OwnLLP bJ (fun k_ => (bY.heap.size ≤ k_ ∧ k_ < bI.heap.size)) [obk (bC), obk (bD), obk (bE), some (bI.heap.size), obk (aU), obk (aV)] aW cB 22 3 (g.mv : List (List Int)) := aF.grA bO (fun _ _ h => by cases h) (fun k hk hs => ⟨(fun e => by have := aH.ge _ e; omega), (fun e => by have := aI.ge _ e; omega), (fun e => by have := aJ.ge _ e; omega), hs.1, hs.2.1, hs.2.2.1, hs.2.2.2⟩)
 replace aG := aG.gn bO
 replace aH : OwnR bJ (Sx (cD.heap.size) [obk (aU), obk (aV), obk (aW), obk (bD), obk (bE)]) bC cE 3 ((dualG g).ow : List Int) := aH.imp (fun g _ hs => ⟨(fun e => by have := dH _ e; have := Sx_base hs; omega), (fun e => by have := dI _ e; have := Sx_base hs; omega), (fun e => by have := dJ _ e; have := Sx_base hs; omega), hs⟩)
 replace aI : OwnR bJ (Sx (cD.heap.size) [obk (aU), obk (aV), obk (aW), obk (bC), obk (bE)]) bD cF 3 ((dualG g).pr : List Int) := aI.imp (fun g _ hs => ⟨(fun e => by have := dH _ e; have := Sx_base hs; omega), (fun e => by have := dI _ e; have := Sx_base hs; omega), (fun e => by have := dJ _ e; have := Sx_base hs; omega), hs⟩)
 replace aJ : OwnLL bJ (cD.heap.size) [obk (aU), obk (aV), obk (aW), obk (bC), obk (bD)] bE cG 22 3 ((dualG g).mv : List (List Int)) := aJ.imp (fun g _ hs => ⟨(fun e => by have := dH _ e; have := Sx_base hs; omega), (fun e => by have := dI _ e; have := Sx_base hs; omega), (fun e => by have := dJ _ e; have := Sx_base hs; omega), hs⟩)
 clear dH dI dJ
 replace aH : OwnR bJ (SxP (fun k_ => (cD.heap.size ≤ k_ ∧ k_ < bJ.heap.size)) [obk (aU), obk (aV), obk (aW), obk (bD), obk (bE)]) bC cE 3 ((dualG g).ow : List Int) := aH.imp (fun g hg hs => ⟨hs.1, hs.2.1, hs.2.2.1, hs.2.2.2.1, hs.2.2.2.2.1, ⟨(by have := Sx_base hs; omega), hg⟩⟩)
 replace aI : OwnR bJ (SxP (fun k_ => (cD.heap.size ≤ k_ ∧ k_ < bJ.heap.size)) [obk (aU), obk (aV), obk (aW), obk (bC), obk (bE)]) bD cF 3 ((dualG g).pr : List Int) := aI.imp (fun g hg hs => ⟨hs.1, hs.2.1, hs.2.2.1, hs.2.2.2.1, hs.2.2.2.2.1, ⟨(by have := Sx_base hs; omega), hg⟩⟩)
 replace aJ : OwnLLP bJ (fun k_ => (cD.heap.size ≤ k_ ∧ k_ < bJ.heap.size)) [obk (aU), obk (aV), obk (aW), obk (bC), obk (bD)] bE cG 22 3 ((dualG g).mv : List (List Int)) := aJ.imp (fun g hg hs => ⟨hs.1, hs.2.1, hs.2.2.1, hs.2.2.2.1, hs.2.2.2.2.1, ⟨(by have := Sx_base hs; omega), hg⟩⟩)
 clear bO he
 refine At.bx eQ 6 [.slice none 0 0, .slice none 0 0, .slice none 0 0] 25 (fun gU bK dP gV eR => ?_)
 clear eQ; have := bK.size; replace e0 := e0.gn bK; replace r9 := r9.gn bK; replace aB := aB.gn bK; replace bx6 := bx6.gn bK; replace aC := aC.gn bK; replace aA := aA.gn bK; replace aD := aD.grN bK; replace aE := aE.grN bK; replace aF := aF.grN bK; replace aG := aG.gn bK; replace aH := aH.grN bK; replace aI := aI.grN bK; replace aJ := aJ.grN bK; have := dP.lt; clear bK
 refine At.store eR (t := 25) (b := bJ.heap.size) (off := 0) (v := .agg #[.slice bC ((dualG g).ow.length) cE, .slice bD ((dualG g).pr.length) cF, .slice bE ((dualG g).mv.length) cG]) κ dP κ (fun gW eS bL aK eT => ?_)
 clear eR; replace aK : Bx eS (bJ.heap.size) [.slice bC ((dualG g).ow.length) cE, .slice bD ((dualG g).pr.length) cF, .slice bE ((dualG g).mv.length) cG] 25 := aK; have := bL.size; replace e0 := e0.gr bL (fun k h => by injection h; omega); replace r9 := r9.gb bL ω; replace aB := aB.gb bL ω; replace bx6 := bx6.gb bL ω; replace aC := aC.gb bL ω; replace aA := aA.gb bL ω
 replace aD := aD.gr bL (fun k hk => hk.1); replace aE := aE.gr bL (fun k hk => hk.1); replace aF := aF.gr bL (fun k hk => hk.1); replace aG := aG.gb bL ω; replace aH := aH.gr bL (fun k hk => hk.1); replace aI := aI.gr bL (fun k hk => hk.1); replace aJ := aJ.gr bL (fun k hk => hk.1); clear dP bL
 refine At.dn ?_
 refine sqs ?_
 refine At.rk eT 1 [(22, .agg #[.slice Ag0 g.ow.length cg0, .slice Ag1 g.pr.length cg1, .slice Ag2 g.mv.length cg2])] (.l (bx6.cell (i := 0) rfl) <| .l (bx6.cell (i := 1) rfl) <| .l (bx6.cell (i := 2) rfl) <| .n) (fun gX eU => ?_)
 clear eT
 refine At.cl eU (some 23) (args := #[.agg #[.slice Ag0 g.ow.length cg0, .slice Ag1 g.pr.length cg1, .slice Ag2 g.mv.length cg2]]) (copyM_any (g := g) (r9.wide (Nat.zero_le _) ω)) ?_
 rintro e_ cS ⟨cT, cU, cV, cW, cX, cY, rfl, he, dQ, dR, dS⟩
 have hip218 := inner_len (RdG.mv (r9.wide (Nat.zero_le _) ω))
 have aL : RdG cS (eS.heap.size) cS.heap.size cT cV cX cU cW cY g := ⟨(OwnR.rdR dQ (by show _ * 8 ≤ _; omega)).rdI, (OwnR.rdR dR (by show _ * 8 ≤ _; omega)).rdI, OwnLLP.rdII dS ω hip218, dQ.cap, dR.cap, dS.cap⟩
 clear dQ dR dS
 refine ⟨_, rfl, _, rfl, fun gY eV => ?_⟩
 clear eU; have bH := gr_ext he; have := bH.size; replace e0 := e0.gn bH; replace r9 := r9.gn bH; replace aB := aB.gn bH; replace bx6 := bx6.gn bH; replace aC := aC.gn bH; replace aA := aA.gn bH; replace aD := aD.gn bH; replace aE := aE.gn bH; replace aF := aF.gn bH; replace aG := aG.gn bH; replace aH := aH.gn bH; replace aI := aI.gn bH; replace aJ := aJ.gn bH; replace aK := aK.gn bH; clear bH he
 refine At.bx eV 7 [.slice none 0 0, .slice none 0 0, .slice none 0 0] 25 (fun gZ bF dT hA eW => ?_)
 clear eV; have := bF.size; replace e0 := e0.gn bF; replace r9 := r9.gn bF; replace aB := aB.gn bF; replace bx6 := bx6.gn bF; replace aC := aC.gn bF; replace aA := aA.gn bF; replace aD := aD.grN bF; replace aE := aE.grN bF; replace aF := aF.grN bF; replace aG := aG.gn bF; replace aH := aH.grN bF; replace aI := aI.grN bF; replace aJ := aJ.grN bF; replace aK := aK.gn bF; replace aL := aL.gn bF
 have := dT.lt; clear bF
 refine At.store eW (t := 25) (b := cS.heap.size) (off := 0) (v := .agg #[.slice cT g.ow.length cU, .slice cV g.pr.length cW, .slice cX g.mv.length cY]) κ dT κ (fun hB eX bG aM eY => ?_)
 clear eW; replace aM : Bx eX (cS.heap.size) [.slice cT g.ow.length cU, .slice cV g.pr.length cW, .slice cX g.mv.length cY] 25 := aM; have := bG.size; replace e0 := e0.gr bG (fun k h => by injection h; omega); replace r9 := r9.gb bG ω; replace aB := aB.gb bG ω; replace bx6 := bx6.gb bG ω; replace aC := aC.gb bG ω; replace aA := aA.gb bG ω; replace aD := aD.gr bG (fun k hk => hk.1)
 replace aE := aE.gr bG (fun k hk => hk.1); replace aF := aF.gr bG (fun k hk => hk.1); replace aG := aG.gb bG ω; replace aH := aH.gr bG (fun k hk => hk.1); replace aI := aI.gr bG (fun k hk => hk.1); replace aJ := aJ.gr bG (fun k hk => hk.1); replace aK := aK.gb bG ω; replace aL := aL.gb bG ω; clear dT bG
 refine At.dn ?_
 refine sqs ?_
 refine At.rk eY 1 [(24, .agg #[.slice Ag0 g.ow.length cg0, .slice Ag1 g.pr.length cg1, .slice Ag2 g.mv.length cg2])] (.l (bx6.cell (i := 0) rfl) <| .l (bx6.cell (i := 1) rfl) <| .l (bx6.cell (i := 2) rfl) <| .n) (fun hC eZ => ?_)
 clear eY
 refine At.cl eZ (some 25) (args := #[.agg #[.slice Ag0 g.ow.length cg0, .slice Ag1 g.pr.length cg1, .slice Ag2 g.mv.length cg2]]) (dualM_any (g := g) (r9.wide (Nat.zero_le _) ω)) ?_
 rintro e_ cZ ⟨dA, dB, dC, dD, dE, dF, rfl, he, dU, dV, dW⟩
 have hip295 := dual_inner (inner_len (RdG.mv (r9.wide (Nat.zero_le _) ω))); have := dual_lens g
 have aO : RdG cZ (eX.heap.size) cZ.heap.size dA dC dE dB dD dF (dualG g) := ⟨(OwnR.rdR dU (by show _ * 8 ≤ _; omega)).rdI, (OwnR.rdR dV (by show _ * 8 ≤ _; omega)).rdI, OwnLLP.rdII dW ω hip295, dU.cap, dV.cap, dW.cap⟩
 clear dU dV dW
 refine ⟨_, rfl, _, rfl, fun hD fA => ?_⟩
 clear eZ; have bB := gr_ext he; have := bB.size; replace e0 := e0.gn bB; replace r9 := r9.gn bB; replace aB := aB.gn bB; replace bx6 := bx6.gn bB; replace aC := aC.gn bB; replace aA := aA.gn bB; replace aD := aD.gn bB; replace aE := aE.gn bB; replace aF := aF.gn bB; replace aG := aG.gn bB; replace aH := aH.gn bB; replace aI := aI.gn bB; replace aJ := aJ.gn bB; replace aK := aK.gn bB
 replace aL := aL.gn bB; replace aM := aM.gn bB; clear bB he
 refine At.bx fA 8 [.slice none 0 0, .slice none 0 0, .slice none 0 0] 25 (fun hE aZ dX hF fB => ?_)
 clear fA; have := aZ.size; replace e0 := e0.gn aZ; replace r9 := r9.gn aZ; replace aB := aB.gn aZ; replace bx6 := bx6.gn aZ; replace aC := aC.gn aZ; replace aA := aA.gn aZ; replace aD := aD.grN aZ; replace aE := aE.grN aZ; replace aF := aF.grN aZ; replace aG := aG.gn aZ; replace aH := aH.grN aZ; replace aI := aI.grN aZ; replace aJ := aJ.grN aZ; replace aK := aK.gn aZ; replace aL := aL.gn aZ
 replace aM := aM.gn aZ; replace aO := aO.gn aZ; have := dX.lt; clear aZ
 refine At.store fB (t := 25) (b := cZ.heap.size) (off := 0) (v := .agg #[.slice dA ((dualG g).ow.length) dB, .slice dC ((dualG g).pr.length) dD, .slice dE ((dualG g).mv.length) dF]) κ dX κ (fun hG fC bA aN fD => ?_)
 clear fB; replace aN : Bx fC (cZ.heap.size) [.slice dA ((dualG g).ow.length) dB, .slice dC ((dualG g).pr.length) dD, .slice dE ((dualG g).mv.length) dF] 25 := aN; have := bA.size; replace e0 := e0.gr bA (fun k h => by injection h; omega); replace r9 := r9.gb bA ω; replace aB := aB.gb bA ω; replace bx6 := bx6.gb bA ω; replace aC := aC.gb bA ω; replace aA := aA.gb bA ω
 replace aD := aD.gr bA (fun k hk => hk.1); replace aE := aE.gr bA (fun k hk => hk.1); replace aF := aF.gr bA (fun k hk => hk.1); replace aG := aG.gb bA ω; replace aH := aH.gr bA (fun k hk => hk.1); replace aI := aI.gr bA (fun k hk => hk.1); replace aJ := aJ.gr bA (fun k hk => hk.1); replace aK := aK.gb bA ω; replace aL := aL.gb bA ω; replace aM := aM.gb bA ω; replace aO := aO.gb bA ω; clear dX bA
 refine At.dn ?_
 refine sqs ?_
 refine At.rk fD 1 [(26, .agg #[.slice bP g.ow.length bQ, .slice bR g.pr.length bS, .slice bT g.mv.length bU])] (.l (aA.cell (i := 0) rfl) <| .l (aA.cell (i := 1) rfl) <| .l (aA.cell (i := 2) rfl) <| .n) (fun hH fE => ?_)
 clear fD
 refine At.cl fE (some 27) (args := #[.agg #[.slice bP g.ow.length bQ, .slice bR g.pr.length bS, .slice bT g.mv.length bU]]) (dualR_any (g := g) (aC.wide (Nat.zero_le _) ω)) ?_
 rintro e_ dG ⟨cJ, cK, cL, cM, cN, cO, rfl, he, dY, dZ, eA⟩
 have hip378 := dual_inner (inner_len (RdG.mv (aC.wide (Nat.zero_le _) ω))); have := dual_lens g
 have aX : RdG dG (fC.heap.size) dG.heap.size cJ cL cN cK cM cO (dualG g) := ⟨(OwnR.rdR dY (by show _ * 8 ≤ _; omega)).rdI, (OwnR.rdR dZ (by show _ * 8 ≤ _; omega)).rdI, OwnLLP.rdII eA ω hip378, dY.cap, dZ.cap, eA.cap⟩
 clear dY dZ eA
 refine ⟨_, rfl, _, rfl, fun hI fF => ?_⟩
 clear fE; have aY := gr_ext he; have := aY.size; replace e0 := e0.gn aY; replace r9 := r9.gn aY; replace aB := aB.gn aY; replace bx6 := bx6.gn aY; replace aC := aC.gn aY; replace aA := aA.gn aY; replace aD := aD.gn aY; replace aE := aE.gn aY; replace aF := aF.gn aY; replace aG := aG.gn aY; replace aH := aH.gn aY; replace aI := aI.gn aY; replace aJ := aJ.gn aY; replace aK := aK.gn aY
 replace aL := aL.gn aY; replace aM := aM.gn aY; replace aO := aO.gn aY; replace aN := aN.gn aY; clear aY he
 refine At.bx fF 9 [.slice none 0 0, .slice none 0 0, .slice none 0 0] 25 (fun hJ aS eB hK fG => ?_)
 clear fF; have := aS.size; replace e0 := e0.gn aS; replace r9 := r9.gn aS; replace aB := aB.gn aS; replace bx6 := bx6.gn aS; replace aC := aC.gn aS; replace aA := aA.gn aS; replace aD := aD.grN aS; replace aE := aE.grN aS; replace aF := aF.grN aS; replace aG := aG.gn aS; replace aH := aH.grN aS; replace aI := aI.grN aS; replace aJ := aJ.grN aS; replace aK := aK.gn aS; replace aL := aL.gn aS
 replace aM := aM.gn aS; replace aO := aO.gn aS; replace aN := aN.gn aS; replace aX := aX.gn aS; have := eB.lt; clear aS
 refine At.store fG (t := 25) (b := dG.heap.size) (off := 0) (v := .agg #[.slice cJ ((dualG g).ow.length) cK, .slice cL ((dualG g).pr.length) cM, .slice cN ((dualG g).mv.length) cO]) κ eB κ (fun hL gD aT aP fH => ?_)
 clear fG; replace aP : Bx gD (dG.heap.size) [.slice cJ ((dualG g).ow.length) cK, .slice cL ((dualG g).pr.length) cM, .slice cN ((dualG g).mv.length) cO] 25 := aP; have := aT.size; replace e0 := e0.gr aT (fun k h => by injection h; omega); replace r9 := r9.gb aT ω; replace aB := aB.gb aT ω; replace bx6 := bx6.gb aT ω; replace aC := aC.gb aT ω; replace aA := aA.gb aT ω
 replace aD := aD.gr aT (fun k hk => hk.1); replace aE := aE.gr aT (fun k hk => hk.1); replace aF := aF.gr aT (fun k hk => hk.1); replace aG := aG.gb aT ω; replace aH := aH.gr aT (fun k hk => hk.1); replace aI := aI.gr aT (fun k hk => hk.1); replace aJ := aJ.gr aT (fun k hk => hk.1); replace aK := aK.gb aT ω; replace aL := aL.gb aT ω; replace aM := aM.gb aT ω; replace aO := aO.gb aT ω
 replace aN := aN.gb aT ω; replace aX := aX.gb aT ω; clear eB aT
 refine At.dn ?_
 refine sqs ?_
 refine At.rk fH 2 [(29, .agg #[.slice bP g.ow.length bQ, .slice bR g.pr.length bS, .slice bT g.mv.length bU]), (28, .agg #[.slice aU g.ow.length bZ, .slice aV g.pr.length cA, .slice aW g.mv.length cB])] (.l (aG.cell (i := 0) rfl) <| .l (aG.cell (i := 1) rfl) <| .l (aG.cell (i := 2) rfl) <| .l (aA.cell (i := 0) rfl) <| .l (aA.cell (i := 1) rfl) <| .l (aA.cell (i := 2) rfl) <| .n) (fun hM fI => ?_)
 clear fH
 refine At.cl fI (some 30) (args := #[.agg #[.slice aU g.ow.length bZ, .slice aV g.pr.length cA, .slice aW g.mv.length cB], .agg #[.slice bP g.ow.length bQ, .slice bR g.pr.length bS, .slice bT g.mv.length bU]]) ((same_any (a := g) (b := g) (RdG.mk (G := g) (aD.rdIA (by first | omega | (simp only [List.length_cons, List.length_nil]; omega) | (simp; done) | (simp; omega))) (aE.rdIA (by first | omega | (simp only [List.length_cons, List.length_nil]; omega) | (simp; done) | (simp; omega))) (aF.rdIIA (by first | omega | (simp only [List.length_cons, List.length_nil]; omega) | (simp; done) | (simp; omega)) hip84) aD.cap aE.cap aF.cap) (aC.wide (Nat.zero_le _) ω)).mono (R' := fun e w' => e = .returned (.bool true) ∧ Ext _ w') (fun e_ w_ h_ => by rw [show (decide (g = g) : Bool) = true from decide_eq_true rfl] at h_; exact h_)) ?_
 rintro e_ hN ⟨rfl, he⟩
 refine ⟨_, rfl, _, rfl, fun hO fJ => ?_⟩
 clear fI; have aQ := gr_ext he; have := aQ.size; replace e0 := e0.gn aQ; replace r9 := r9.gn aQ; replace aB := aB.gn aQ; replace bx6 := bx6.gn aQ; replace aC := aC.gn aQ; replace aA := aA.gn aQ; replace aD := aD.gn aQ; replace aE := aE.gn aQ; replace aF := aF.gn aQ; replace aG := aG.gn aQ; replace aH := aH.gn aQ; replace aI := aI.gn aQ; replace aJ := aJ.gn aQ; replace aK := aK.gn aQ
 replace aL := aL.gn aQ; replace aM := aM.gn aQ; replace aO := aO.gn aQ; replace aN := aN.gn aQ; replace aX := aX.gn aQ; replace aP := aP.gn aQ; clear aQ he
 refine At.rk fJ 1 [(10, .bool true)] .n (fun hP fK => ?_)
 clear fJ
 refine At.dn ?_
 refine sqs ?_
 refine At.rk fK 2 [(32, .agg #[.slice cJ ((dualG g).ow.length) cK, .slice cL ((dualG g).pr.length) cM, .slice cN ((dualG g).mv.length) cO]), (31, .agg #[.slice bC ((dualG g).ow.length) cE, .slice bD ((dualG g).pr.length) cF, .slice bE ((dualG g).mv.length) cG])] (.l (aK.cell (i := 0) rfl) <| .l (aK.cell (i := 1) rfl) <| .l (aK.cell (i := 2) rfl) <| .l (aP.cell (i := 0) rfl) <| .l (aP.cell (i := 1) rfl) <| .l (aP.cell (i := 2) rfl) <| .n) (fun hQ fL => ?_)
 clear fK
 refine At.cl fL (some 33) (args := #[.agg #[.slice bC ((dualG g).ow.length) cE, .slice bD ((dualG g).pr.length) cF, .slice bE ((dualG g).mv.length) cG], .agg #[.slice cJ ((dualG g).ow.length) cK, .slice cL ((dualG g).pr.length) cM, .slice cN ((dualG g).mv.length) cO]]) ((same_any (a := (dualG g)) (b := (dualG g)) (RdG.mk (G := (dualG g)) (aH.rdIA (by first | omega | (simp only [List.length_cons, List.length_nil]; omega) | (simp; done) | (simp; omega))) (aI.rdIA (by first | omega | (simp only [List.length_cons, List.length_nil]; omega) | (simp; done) | (simp; omega))) (aJ.rdIIA (by first | omega | (simp only [List.length_cons, List.length_nil]; omega) | (simp; done) | (simp; omega)) hip142) aH.cap aI.cap aJ.cap) (aX.wide (Nat.zero_le _) ω)).mono (R' := fun e w' => e = .returned (.bool true) ∧ Ext _ w') (fun e_ w_ h_ => by rw [show (decide ((dualG g) = (dualG g)) : Bool) = true from decide_eq_true rfl] at h_; exact h_)) ?_
 rintro e_ eC ⟨rfl, he⟩
 refine ⟨_, rfl, _, rfl, fun hR fM => ?_⟩
 clear fL; have aR := gr_ext he; have := aR.size; replace e0 := e0.gn aR; replace r9 := r9.gn aR; replace aB := aB.gn aR; replace bx6 := bx6.gn aR; replace aC := aC.gn aR; replace aA := aA.gn aR; replace aD := aD.gn aR; replace aE := aE.gn aR; replace aF := aF.gn aR; replace aG := aG.gn aR; replace aH := aH.gn aR; replace aI := aI.gn aR; replace aJ := aJ.gn aR; replace aK := aK.gn aR
 replace aL := aL.gn aR; replace aM := aM.gn aR; replace aO := aO.gn aR; replace aN := aN.gn aR; replace aX := aX.gn aR; replace aP := aP.gn aR; clear aR he
 refine At.rk fM 1 [(11, .bool true)] .n (fun hS fN => ?_)
 clear fM
 refine At.dn ?_
 refine sqs ?_
 refine At.rk fN 1 [(34, .agg #[.slice aU g.ow.length bZ, .slice aV g.pr.length cA, .slice aW g.mv.length cB])] (.l (aG.cell (i := 0) rfl) <| .l (aG.cell (i := 1) rfl) <| .l (aG.cell (i := 2) rfl) <| .n) (fun hT fO => ?_)
 clear fN
 refine At.cl fO (some 35) (args := #[.agg #[.slice aU g.ow.length bZ, .slice aV g.pr.length cA, .slice aW g.mv.length cB]]) (full09_any (T := fun k_ => (bY.heap.size ≤ k_ ∧ k_ < bI.heap.size)) (aD.toP (n := eC.heap.size) (os := [obk (aV), obk (aW)]) (fun g hg hs => ⟨hs.2.2.2.2.2.2.2.2.1, hs.2.2.2.2.2.2.2.2.2.1, hs.2.2.2.2.2.2.2.2.2.2⟩)) (aE.toP (n := eC.heap.size) (os := [obk (aU), obk (aW)]) (fun g hg hs => ⟨hs.2.2.2.2.2.2.2.2.1, hs.2.2.2.2.2.2.2.2.2.1, hs.2.2.2.2.2.2.2.2.2.2⟩)) (aF.toP (n := eC.heap.size) (os := [obk (aU), obk (aV)]) (fun g hg hs => ⟨hs.2.2.2.2.2.2.2.2.1, hs.2.2.2.2.2.2.2.2.2.1, hs.2.2.2.2.2.2.2.2.2.2⟩)) ω ω ω hip84) ?_
 rintro e_ eD ⟨rfl, het511⟩
 refine ⟨_, rfl, _, rfl, fun hU fP => ?_⟩
 clear fO; have := het511.size; replace e0 := e0.tch het511 (fun k hk => by have := hk.1; omega); replace r9 := r9.tch het511 (fun k hk => by have := hk; omega); replace aB := aB.tch het511 (fun k hk => by have := hk; omega); replace bx6 := bx6.tch het511 (fun h_ => by have := h_; omega); replace aC := aC.tch het511 (fun k hk => by have := hk; omega)
 replace aA := aA.tch het511 (fun h_ => by have := h_; omega); clear aD; clear aE; clear aF; replace aG := aG.tch het511 (fun h_ => by have := h_; omega); replace aH := aH.tch het511 (fun k hk e_ h_ => by have h1_ := (show _ ∧ _ from hk.2.2.2.2.2.2.2.2.2); have h2_ := h_; have h3_ := h1_; omega)
 replace aI := aI.tch het511 (fun k hk e_ h_ => by have h1_ := (show _ ∧ _ from hk.2.2.2.2.2.2.2.2.2); have h2_ := h_; have h3_ := h1_; omega); replace aJ := aJ.tch het511 (fun k hk h_ => by have h1_ := (show _ ∧ _ from hk.2.2.2.2.2.2.2.2.2); have h2_ := h_; have h3_ := h1_; omega); replace aK := aK.tch het511 (fun h_ => by have := h_; omega)
 replace aL := aL.tch het511 (fun k hk => by have := hk; omega); replace aM := aM.tch het511 (fun h_ => by have := h_; omega); replace aO := aO.tch het511 (fun k hk => by have := hk; omega); replace aN := aN.tch het511 (fun h_ => by have := h_; omega); replace aX := aX.tch het511 (fun k hk => by have := hk; omega); replace aP := aP.tch het511 (fun h_ => by have := h_; omega); clear het511
 refine At.dn ?_
 clear aG
 refine sqs ?_
 refine At.rk fP 1 [(36, .agg #[.slice bC ((dualG g).ow.length) cE, .slice bD ((dualG g).pr.length) cF, .slice bE ((dualG g).mv.length) cG])] (.l (aK.cell (i := 0) rfl) <| .l (aK.cell (i := 1) rfl) <| .l (aK.cell (i := 2) rfl) <| .n) (fun hV fQ => ?_)
 clear fP
 refine At.cl fQ (some 37) (args := #[.agg #[.slice bC ((dualG g).ow.length) cE, .slice bD ((dualG g).pr.length) cF, .slice bE ((dualG g).mv.length) cG]]) (full09_any (T := fun k_ => (cD.heap.size ≤ k_ ∧ k_ < bJ.heap.size)) (aH.toP (n := eD.heap.size) (os := [obk (bD), obk (bE)]) (fun g hg hs => ⟨hs.2.2.2.2.2.2.2.1, hs.2.2.2.2.2.2.2.2.1, hs.2.2.2.2.2.2.2.2.2⟩)) (aI.toP (n := eD.heap.size) (os := [obk (bC), obk (bE)]) (fun g hg hs => ⟨hs.2.2.2.2.2.2.2.1, hs.2.2.2.2.2.2.2.2.1, hs.2.2.2.2.2.2.2.2.2⟩)) (aJ.toP (n := eD.heap.size) (os := [obk (bC), obk (bD)]) (fun g hg hs => ⟨hs.2.2.2.2.2.2.2.1, hs.2.2.2.2.2.2.2.2.1, hs.2.2.2.2.2.2.2.2.2⟩)) ω ω ω hip142) ?_
 rintro e_ hW ⟨rfl, het535⟩
 refine ⟨_, rfl, _, rfl, fun hX fR => ?_⟩
 clear fQ; have := het535.size; replace e0 := e0.tch het535 (fun k hk => by have := hk.1; omega); replace r9 := r9.tch het535 (fun k hk => by have := hk; omega); replace aB := aB.tch het535 (fun k hk => by have := hk; omega); replace bx6 := bx6.tch het535 (fun h_ => by have := h_; omega); replace aC := aC.tch het535 (fun k hk => by have := hk; omega)
 replace aA := aA.tch het535 (fun h_ => by have := h_; omega); clear aH; clear aI; clear aJ; replace aK := aK.tch het535 (fun h_ => by have := h_; omega); replace aL := aL.tch het535 (fun k hk => by have := hk; omega); replace aM := aM.tch het535 (fun h_ => by have := h_; omega); replace aO := aO.tch het535 (fun k hk => by have := hk; omega)
 replace aN := aN.tch het535 (fun h_ => by have := h_; omega); replace aX := aX.tch het535 (fun k hk => by have := hk; omega); replace aP := aP.tch het535 (fun h_ => by have := h_; omega); clear het535
 refine At.dn ?_
 clear aK
 have fS := fR.sb (r := [(11, .bool true), (10, .bool true), (9, pt dG.heap.size 0), (8, pt cZ.heap.size 0), (7, pt cS.heap.size 0), (4, pt cR.heap.size 0), (3, .bool true), (1, pt w.heap.size 0)])
 clear fR
 refine sqs ?_
 refine At.rk fS 2 [(39, .agg #[.slice bP g.ow.length bQ, .slice bR g.pr.length bS, .slice bT g.mv.length bU]), (38, .agg #[.slice Ag0 g.ow.length cg0, .slice Ag1 g.pr.length cg1, .slice Ag2 g.mv.length cg2])] (.l (bx6.cell (i := 0) rfl) <| .l (bx6.cell (i := 1) rfl) <| .l (bx6.cell (i := 2) rfl) <| .l (aA.cell (i := 0) rfl) <| .l (aA.cell (i := 1) rfl) <| .l (aA.cell (i := 2) rfl) <| .n) (fun hY fT => ?_)
 clear fS
 refine At.cl fT (some 40) (args := #[.agg #[.slice Ag0 g.ow.length cg0, .slice Ag1 g.pr.length cg1, .slice Ag2 g.mv.length cg2], .agg #[.slice bP g.ow.length bQ, .slice bR g.pr.length bS, .slice bT g.mv.length bU]]) ((same_any (a := g) (b := g) (r9.wide (Nat.zero_le _) ω) (aC.wide (Nat.zero_le _) ω)).mono (R' := fun e w' => e = .returned (.bool true) ∧ Ext _ w') (fun e_ w_ h_ => by rw [show (decide (g = g) : Bool) = true from decide_eq_true rfl] at h_; exact h_)) ?_
 rintro e_ hZ ⟨rfl, he⟩
 refine ⟨_, rfl, _, rfl, fun iA fU => ?_⟩
 clear fT; have bM := gr_ext he; have := bM.size; replace e0 := e0.gn bM; replace r9 := r9.gn bM; replace aB := aB.gn bM; replace bx6 := bx6.gn bM; replace aC := aC.gn bM; replace aA := aA.gn bM; replace aL := aL.gn bM; replace aM := aM.gn bM; replace aO := aO.gn bM; replace aN := aN.gn bM; replace aX := aX.gn bM; replace aP := aP.gn bM; clear bM he
 refine At.rk fU 1 [(12, .bool true)] .n (fun iB fV => ?_)
 clear fU
 refine At.dn ?_
 clear bx6
 refine sqs ?_
 refine At.rk fV 2 [(42, .agg #[.slice bP g.ow.length bQ, .slice bR g.pr.length bS, .slice bT g.mv.length bU]), (41, .agg #[.slice cT g.ow.length cU, .slice cV g.pr.length cW, .slice cX g.mv.length cY])] (.l (aM.cell (i := 0) rfl) <| .l (aM.cell (i := 1) rfl) <| .l (aM.cell (i := 2) rfl) <| .l (aA.cell (i := 0) rfl) <| .l (aA.cell (i := 1) rfl) <| .l (aA.cell (i := 2) rfl) <| .n) (fun iC fW => ?_)
 clear fV
 refine At.cl fW (some 43) (args := #[.agg #[.slice cT g.ow.length cU, .slice cV g.pr.length cW, .slice cX g.mv.length cY], .agg #[.slice bP g.ow.length bQ, .slice bR g.pr.length bS, .slice bT g.mv.length bU]]) ((same_any (a := g) (b := g) (aL.wide (Nat.zero_le _) ω) (aC.wide (Nat.zero_le _) ω)).mono (R' := fun e w' => e = .returned (.bool true) ∧ Ext _ w') (fun e_ w_ h_ => by rw [show (decide (g = g) : Bool) = true from decide_eq_true rfl] at h_; exact h_)) ?_
 rintro e_ iD ⟨rfl, he⟩
 refine ⟨_, rfl, _, rfl, fun iE fX => ?_⟩
 clear fW; have bN := gr_ext he; have := bN.size; replace e0 := e0.gn bN; replace r9 := r9.gn bN; replace aB := aB.gn bN; replace aC := aC.gn bN; replace aA := aA.gn bN; replace aL := aL.gn bN; replace aM := aM.gn bN; replace aO := aO.gn bN; replace aN := aN.gn bN; replace aX := aX.gn bN; replace aP := aP.gn bN; clear bN he
 refine At.rk fX 1 [(13, .bool true)] .n (fun iF fY => ?_)
 clear fX
 refine At.dn ?_
 clear aA; clear aM
 refine sqs ?_
 refine At.rk fY 2 [(45, .agg #[.slice cJ ((dualG g).ow.length) cK, .slice cL ((dualG g).pr.length) cM, .slice cN ((dualG g).mv.length) cO]), (44, .agg #[.slice dA ((dualG g).ow.length) dB, .slice dC ((dualG g).pr.length) dD, .slice dE ((dualG g).mv.length) dF])] (.l (aN.cell (i := 0) rfl) <| .l (aN.cell (i := 1) rfl) <| .l (aN.cell (i := 2) rfl) <| .l (aP.cell (i := 0) rfl) <| .l (aP.cell (i := 1) rfl) <| .l (aP.cell (i := 2) rfl) <| .n) (fun iG fZ => ?_)
 clear fY
 refine At.cl fZ (some 46) (args := #[.agg #[.slice dA ((dualG g).ow.length) dB, .slice dC ((dualG g).pr.length) dD, .slice dE ((dualG g).mv.length) dF], .agg #[.slice cJ ((dualG g).ow.length) cK, .slice cL ((dualG g).pr.length) cM, .slice cN ((dualG g).mv.length) cO]]) ((same_any (a := (dualG g)) (b := (dualG g)) (aO.wide (Nat.zero_le _) ω) (aX.wide (Nat.zero_le _) ω)).mono (R' := fun e w' => e = .returned (.bool true) ∧ Ext _ w') (fun e_ w_ h_ => by rw [show (decide ((dualG g) = (dualG g)) : Bool) = true from decide_eq_true rfl] at h_; exact h_)) ?_
 rintro e_ iH ⟨rfl, he⟩
 refine ⟨_, rfl, _, rfl, fun iI gA => ?_⟩
 clear fZ; have bX := gr_ext he; have := bX.size; replace e0 := e0.gn bX; replace r9 := r9.gn bX; replace aB := aB.gn bX; replace aC := aC.gn bX; replace aL := aL.gn bX; replace aO := aO.gn bX; replace aN := aN.gn bX; replace aX := aX.gn bX; replace aP := aP.gn bX; clear bX he
 refine At.rk gA 1 [(14, .bool true)] .n (fun iJ gB => ?_)
 clear gA
 refine At.dn ?_
 clear aN; clear aP
 refine sqs ?_
 refine At.rk gB 17 [(2, .bool true)] .n (fun iK gE => ?_)
 clear gB
 refine At.dn ?_
 refine wp_ret ?_
 refine ret_ gE [] [.bool true] [] κ trivial ?_
 exact ⟨rfl, e0⟩
end Go.Proofs.YtkkophhnliplhaaDoor
namespace Go.Proofs.YtkkophhnliplhaaDoor
open Go Go.RowKit Go.ChangeShapes Go.WideShapes Go.ChangeAt
section
variable {H : Type} {enc : TypeId × Value → H} {P : Program} {W W' : World}
theorem trodAll_stays (hl : laidOutB P = true) {sp : Nat → Bool} (hb : Below W.heap.size W W') : ∀ {ts : List TypeId} {vs : List Value} {ds : List (DataW H)} {ps : List MemPlace}, (∀ t ∈ ts, P.readableRec t = true ∧ t < P.types.size) →
    DataW.TrodAll enc P W 0 (fun _ => true) true ts vs ds ps → (∀ p ∈ ps, p.block < W.heap.size) → (∀ p ∈ ps, sp p.block = true) → DataW.TrodAll enc P W' 0 sp true ts vs ds ps
  | [], [], [], _, _, h, _, _ => h
  | _ :: _, _ :: _, _ :: _, _, hT, ⟨p, q, h1, h2, e⟩, hlt, hs => ⟨p, q, WideElems.Trod_stays hl (hT _ List.mem_cons_self).1 (hT _ List.mem_cons_self).2 h1 (fun x hx => hb.same (hlt x (by rw [e]; exact List.mem_append_left _ hx))) (fun x hx => hs x (by rw [e]; exact List.mem_append_left _ hx)),
      trodAll_stays hl hb (fun t ht => hT t (List.mem_cons_of_mem _ ht)) h2 (fun x hx => hlt x (by rw [e]; exact List.mem_append_right _ hx)) (fun x hx => hs x (by rw [e]; exact List.mem_append_right _ hx)), e⟩
theorem trodAll_len {w : World} {b : Nat} {sp : Nat → Bool} {hd : Bool} : ∀ {ts : List TypeId} {vs : List Value} {ds : List (DataW H)} {ps : List MemPlace}, DataW.TrodAll enc P w b sp hd ts vs ds ps → ds.length = ts.length
  | [], [], [], _, _ => rfl
  | _ :: _, _ :: _, _ :: _, _, ⟨_, _, _, h2, _⟩ => by simp [trodAll_len h2]
theorem law_post {f : Func} {s : ChangeSpec} {args : Array Value} {ds gs : List (DataW H)} {before : List MemPlace} (hl : laidOutB P = true) (hT : ∀ t ∈ f.params.toList, P.readableRec t = true ∧ t < P.types.size)
    (hv : s.vars = []) (hs : ∀ l : List (DataW H), l.length = f.params.size → s.fn H l = { results := [.lit (.bool true)], args := l }) {tb : TypeId} (hr : f.resultTypes = #[tb]) (htb : P.underlying tb = some .bool)
    (hW : DataW.Whole enc P f.params.toList s.vars false W args.toList ds gs before) (hE : Ext W W') :
    s.post enc P f false true false false W args (.bool true) W' := by
  have hW' := hW
  obtain ⟨p, q, hA, hV, rfl, hfz, hnd⟩ := hW
  rw [hv] at hV
  obtain ⟨rfl, rfl⟩ := trodVars_none hV
  have hlen : ds.length = f.params.size := by have := trodAll_len hA; simpa using this
  have hlt : ∀ x ∈ p, x.block < W.heap.size := fun x hx => by
    have := DataW.TrodAll.lt hA x hx
    exact this
  have e := hs (ds ++ []) (by simpa using hlen)
  refine ⟨ds, [], p ++ [], [], p, [], hW', ?_, ?_, ?_, Below.frame hE _, fun h => by cases h⟩
  · rw [e, hr]
    exact trodAll_cons_mk (shut_bool htb true) trodAll_mk0
  · rw [e]
    simp only [List.append_nil]
    exact trodAll_stays hl hE hT hA hlt (fun x hx => by simpa using hlt x hx)
  · rw [e, hv]
    rfl
def Fits (P : Program) (t : TypeId) (d : DataW H) : Prop := ∀ x ∈ d.weights P t, x ≤ reachBytes
theorem fits_each {t : TypeId} {ts : List TypeId} {d : DataW H} {ds : List (DataW H)} (h : ∀ x ∈ DataW.weightsEach P (t :: ts) (d :: ds), x ≤ reachBytes) : Fits P t d ∧ ∀ x ∈ DataW.weightsEach P ts ds, x ≤ reachBytes := by
  simp only [DataW.weightsEach, List.mem_append] at h
  exact ⟨fun x hx => h x (.inl hx), fun x hx => h x (.inr hx)⟩
theorem fits_all {e : TypeId} : ∀ {l : List (DataW H)}, (∀ x ∈ DataW.weightsAll P e l, x ≤ reachBytes) → ∀ d ∈ l, Fits P e d
  | [], _, _, hd => by cases hd
  | d :: r, h, d', hd => by
    simp only [DataW.weightsAll, List.mem_append] at h
    rcases List.mem_cons.1 hd with rfl | hd
    · exact fun x hx => h x (.inl hx)
    · exact fits_all (fun x hx => h x (.inr hx)) d' hd
theorem fits_slice {t e : TypeId} {el sp : List (DataW H)} (ht : P.underlying t = some (.slice e)) (h : Fits P t (.slice el sp)) : (el.length + sp.length) * P.bytesOf e ≤ reachBytes ∧ ∀ d ∈ el, Fits P e d := by
  simp only [Fits, DataW.weights, ht, List.mem_cons, List.mem_append] at h
  exact ⟨h _ (.inl rfl), fits_all (fun x hx => h x (.inr (.inl hx)))⟩
theorem fits_struct {t : TypeId} {fs : Array Field} {ps : List (DataW H)} (ht : P.underlying t = some (.struct fs)) (h : Fits P t (.agg ps)) : ∀ x ∈ DataW.weightsEach P (fs.toList.map (·.type)) ps, x ≤ reachBytes := by
  simp only [Fits, DataW.weights, ht] at h
  exact h
def I64 (z : Int) : Prop := -9223372036854775808 ≤ z ∧ z ≤ 9223372036854775807
theorem getD_take {l : List Int} {n i : Nat} (h : i < n) : (l.take n).getD i 0 = l.getD i 0 := by
  simp only [List.getD_eq_getElem?_getD, List.getElem?_take, if_pos h]
theorem bulk_one (d : DataW H) : 1 ≤ Rows.uptoBulk d := by
  cases d with
  | lit l => cases l <;> simp [Rows.uptoBulk]
  | _ => simp [Rows.uptoBulk]
theorem bulk_len : ∀ l : List (DataW H), l.length ≤ Rows.uptoBulkAll l
  | [] => Nat.zero_le _
  | x :: r => by
    have := bulk_one x
    have := bulk_len r
    simp only [Rows.uptoBulkAll, List.length_cons]
    omega
theorem bulk_slice (el sp : List (DataW H)) : el.length ≤ Rows.uptoBulk (.slice el sp) := by
  have := bulk_len el
  simp only [Rows.uptoBulk]
  omega
theorem openI {t e : TypeId} (ht : P.underlying t = some (.slice e)) (he : P.underlying e = some (.int .i64)) (hc : P.cellsOf e = 1) (hb : P.bytesOf e = 8) {n : Nat} {cs : List Value} {x : DataW H × List MemPlace}
    (h : DataW.trod enc P W 0 (fun _ => true) true n t cs = some x) (hf : Fits P t x.1) : ∃ A l c, cs = [.slice A l.length c] ∧ l.length ≤ c ∧ RdI W 0 W.heap.size A l ∧ (∀ z ∈ l, I64 z) ∧ l.length ≤ Rows.uptoBulk x.1 := by
  rcases open_ints ht he hc h with ⟨rfl, rfl⟩ | ⟨a, len, cap, zs, rfl, _, hle, hm, hz, rfl, hcell, hw⟩
  · exact ⟨none, [], 0, rfl, Nat.le_refl _, rdI_nil, (fun z hz => by cases hz), Nat.zero_le _⟩
  · simp only [if_true] at hz
    have h1 := (fits_slice ht hf).1
    rw [hb] at h1
    simp only [lits, List.length_map, List.length_take, List.length_drop, reachBytes] at h1
    have hlen : (zs.take len).length = len := by rw [List.length_take]; omega
    refine ⟨some a, zs.take len, cap, by rw [hlen], by omega, ⟨by omega, fun i q hi hq => ?_⟩, fun z hz' => ?_, ?_⟩
    · obtain rfl : q = 0 := by omega
      have hc' := hcell i (by omega)
      refine ⟨a, rfl, Nat.zero_le _, ?_, ?_⟩
      · have := World.block_lt_of_cell? _ _ hc'
        rwa [add_block] at this
      · rw [add_zero, Nat.mul_one, hc']
        show some _ = some (Value.int .i64 ((zs.take len).getD i 0))
        rw [getD_take (by omega)]
    · have := bounds_i64 (hw z (List.mem_of_mem_take hz'))
      exact this
    · have := bulk_slice (H := H) (lits .i64 (zs.take len)) (lits .i64 (zs.drop len))
      simpa [lits] using this
theorem openII {t e q : TypeId} (ht : P.underlying t = some (.slice e)) (he : P.underlying e = some (.slice q)) (hq : P.underlying q = some (.int .i64)) (ce : P.cellsOf e = 1) (cq : P.cellsOf q = 1) (be : P.bytesOf e = 24) (bq : P.bytesOf q = 8) {n : Nat} {cs : List Value} {x : DataW H × List MemPlace}
    (h : DataW.trod enc P W 0 (fun _ => true) true n t cs = some x) (hf : Fits P t x.1) : ∃ A l c, cs = [.slice A l.length c] ∧ l.length ≤ c ∧ RdII W 0 W.heap.size A l ∧ (∀ r ∈ l, ∀ z ∈ r, I64 z) ∧ l.length ≤ Rows.uptoBulk x.1 := by
  rcases Go.Deep.open_slice1 ht ce h with ⟨rfl, rfl⟩ | ⟨a, len, cap, m, n', V, D, Pl, rfl, _, hle, hm, hmm, rfl, hx⟩
  · exact ⟨none, [], 0, rfl, Nat.le_refl _, rdII_nil, (fun z hz => by cases hz), Nat.zero_le _⟩
  · simp only [if_true] at hmm
    subst hmm
    obtain ⟨h1, h2⟩ := fits_slice ht hf
    rw [be] at h1
    simp only [List.length_map, List.length_range, reachBytes] at h1
    have each : ∀ r, r < len → ∃ y : Option Addr × List Int × Nat, V r = .slice y.1 y.2.1.length y.2.2 ∧ y.2.1.length ≤ y.2.2 ∧ RdI W 0 W.heap.size y.1 y.2.1 ∧ ∀ z ∈ y.2.1, I64 z := fun r hr => by
      obtain ⟨A, l, c, e1, e2, e3, e4, _⟩ := openI he hq cq bq (hx r (by omega)).2 (h2 (D r) (List.mem_map.2 ⟨r, by simpa using hr, rfl⟩))
      exact ⟨(A, l, c), by simpa using e1, e2, e3, e4⟩
    obtain ⟨y, hy⟩ := Go.Deep.choose_lt each
    have hget : ∀ i, i < len → ((List.range len).map fun r => (y r).2.1).getD i [] = (y i).2.1 := fun i hi => by
      simp only [List.getD_eq_getElem?_getD, List.getElem?_map, List.getElem?_range hi, Option.map_some, Option.getD_some]
    refine ⟨some a, (List.range len).map fun r => (y r).2.1, m, by simp, by simpa using hle, ⟨by simp; omega, fun r => (y r).1, fun r => (y r).2.2, fun i q hi hq => ?_, fun i hi => ?_⟩, fun r hr => ?_, ?_⟩
    · obtain rfl : q = 0 := by omega
      simp only [List.length_map, List.length_range] at hi
      have hc' := (hx i (by omega)).1
      refine ⟨a, rfl, Nat.zero_le _, ?_, ?_⟩
      · have := World.block_lt_of_cell? _ _ hc'
        rwa [add_block] at this
      · rw [add_zero, Nat.mul_one, hc', (hy i hi).1]
        show _ = some (Value.slice _ (((List.range len).map fun r => (y r).2.1).getD i []).length _)
        rw [hget i hi]
    · simp only [List.length_map, List.length_range] at hi
      rw [hget i hi]
      exact ⟨(hy i hi).2.1, (hy i hi).2.2.1⟩
    · obtain ⟨i, hi, rfl⟩ := List.mem_map.1 hr
      exact (hy i (by simpa using hi)).2.2.2
    · have := bulk_slice ((List.range len).map D) ((List.range (m - len)).map fun j => D (len + j))
      simpa using this
end
end Go.Proofs.YtkkophhnliplhaaDoor
namespace Go.Proofs.YtkkophhnliplhaaDoor
open Go Go.RowKit Go.ChangeShapes Go.WideShapes Go.ChangeAt
section
variable {H : Type} {enc : TypeId × Value → H} {W : World}
theorem openG {n : Nat} {cs : List Value} {x : DataW H × List MemPlace} (h : DataW.trod enc Tryd.prog W 0 (fun _ => true) true n 25 cs = some x) (hf : Fits Tryd.prog 25 x.1) :
    ∃ A0 A1 A2 c0 c1 c2 g, cs = [.slice A0 (GameL.ow g).length c0, .slice A1 (GameL.pr g).length c1, .slice A2 (GameL.mv g).length c2] ∧ RdG W 0 W.heap.size A0 A1 A2 c0 c1 c2 g ∧ (∀ z ∈ g.ow, I64 z) ∧ (∀ z ∈ g.pr, I64 z) ∧ (∀ r ∈ g.mv, ∀ z ∈ r, I64 z) ∧ g.ow.length ≤ Rows.uptoBulk x.1 := by
  have hcI : Tryd.prog.cellsOf 22 = 1 := by kernel_rfl
  have hcII : Tryd.prog.cellsOf 23 = 1 := by kernel_rfl
  have hci : Tryd.prog.cellsOf 3 = 1 := by kernel_rfl
  have hbi : Tryd.prog.bytesOf 3 = 8 := by kernel_rfl
  have hbI : Tryd.prog.bytesOf 22 = 24 := by kernel_rfl
  have hcG : Tryd.prog.cellsOf 25 = 3 := by kernel_rfl
  obtain ⟨y0, y1, y2, n', rfl, hl, h0, h1, h2⟩ := Go.Deep.trod_struct3 Tryd.underlying25 h
  rw [hcG] at hl
  match cs, hl with
  | [v0, v1, v2], _ =>
    simp only [hcI, hcII] at h0 h1 h2
    obtain ⟨f0, hf⟩ := fits_each (fits_struct Tryd.underlying25 hf)
    obtain ⟨f1, hf⟩ := fits_each hf
    obtain ⟨f2, _⟩ := fits_each hf
    obtain ⟨A0, l0, c0, e0, k0, r0, b0, m0⟩ := openI Tryd.underlying22 Tryd.underlying3 hci hbi h0 f0
    obtain ⟨A1, l1, c1, e1, k1, r1, b1, m1⟩ := openI Tryd.underlying22 Tryd.underlying3 hci hbi h1 f1
    obtain ⟨A2, l2, c2, e2, k2, r2, b2, m2⟩ := openII Tryd.underlying23 Tryd.underlying22 Tryd.underlying3 hcI hci hbI hbi h2 f2
    obtain rfl : v0 = _ := by simpa using e0
    obtain rfl : v1 = _ := by simpa using e1
    obtain rfl : v2 = _ := by simpa using e2
    exact ⟨A0, A1, A2, c0, c1, c2, ⟨l0, l1, l2⟩, rfl, ⟨r0, r1, r2, k0, k1, k2⟩, b0, b1, b2, by
      simp only [Rows.uptoBulk, Rows.uptoBulkAll]
      show l0.length ≤ _
      omega⟩
end
end Go.Proofs.YtkkophhnliplhaaDoor
namespace Go.Proofs.YtkkophhnliplhaaDoor
open Go Go.RowKit Go.ChangeShapes Go.WideShapes Go.ChangeAt
section
variable {H : Type} {enc : TypeId × Value → H} {W : World}
end
theorem gTab : Tryd.prog.globalNamed "math/bits.deBruijn64tab" = some 0 := by kernel_rfl
theorem gTabType : (Tryd.prog.globals[0]?).map (·.type) = some 66 := by kernel_rfl
def tabI : List Int := Lib.deBruijn64tab.map Int.ofNat
theorem tabI_get : ∀ i, i < 64 → tabI.getD i 0 = ((Lib.deBruijn64tab.getD i 0 : Nat) : Int) := by decide +kernel
theorem rdT_of {W : World} (h : laidMetH Tryd.prog [("math/bits.deBruijn64tab", Rows.laid_math_bits_deBruijn64tab)] W) : RdT W 0 W.heap.size := by
  have ht : Lib.TabIs Tryd.prog W "math/bits.deBruijn64tab" .u8 tabI := Lib.tabIs_of_head (rest := []) gTab gTabType Tryd.underlying66 Tryd.underlying5 (by kernel_rfl) (by kernel_rfl) h
  intro i q hi hq
  obtain rfl : q = 0 := by omega
  have hc := ht.cell gTab i (by show i < 64; exact hi)
  refine ⟨⟨0, 0, none⟩, rfl, Nat.zero_le _, (show (⟨0, i, none⟩ : Addr).block < W.heap.size from World.block_lt_of_cell? _ _ hc), ?_⟩
  have ea : ((⟨0, 0, none⟩ : Addr).add (i * 1)).add 0 = ⟨0, i, none⟩ := by
    rw [add_zero, Nat.mul_one]
    simp [Addr.add]
    exact fun h => h.symm
  rw [ea, hc, tabI_get i hi]
  show _ = some (Value.int .u8 (deI ((i : Nat) : Int)))
  rw [deI, Int.toNat_natCast]
noncomputable def laidWorld (os : Os) : World :=
  { World.holding Tryd.prog os ⟨#[], #[], []⟩ with heap := (World.holding Tryd.prog os ⟨#[], #[], []⟩).heap.modify 0 fun
      | .cells _ t frozen => .cells (tabI.map (Value.int .u8)).toArray t frozen
      | o => o }
end Go.Proofs.YtkkophhnliplhaaDoor
