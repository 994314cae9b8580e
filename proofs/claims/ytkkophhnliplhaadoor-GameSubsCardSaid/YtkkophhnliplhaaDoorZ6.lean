/-
  Texts of this repo, laid together: the frame of the walks, plain lemmas, walks of Go functions. Conditions: what the theorems name.
-/
import Derived.Deep.DeepHandedRow
import Derived.Deep.Matrix
import Derived.JoinedCond
import Derived.Lib.LaidTab
import Derived.Lib.SmallJoins
import Derived.OpenShut
import Derived.ProofKit
import Derived.Test.YtkkophhnliplhaaDoorRows
import Derived.WalkKit
import Derived.Test.YtkkophhnliplhaaDoorZ5
set_option linter.unusedVariables false
set_option linter.unusedSimpArgs false
namespace Go.Proofs.YtkkophhnliplhaaDoor
open Go Go.RowKit
attribute [local irreducible] ofZ fromW wordsD ofD ofW lsD lenW lenN fullW withW lessW hasW hasD inW inD leastD putD onI tzI orS andS minusS orD andD minusD fullD emptyD
set_option maxHeartbeats 4000000 in
theorem subs09_any {Ag0 Ag1 Ag2 : Option Addr} {cg0 cg1 cg2 : Nat} {g : GameL} {s : List Int} {w : World} (rg : RdG w 0 w.heap.size Ag0 Ag1 Ag2 cg0 cg1 cg2 g) (hs : OkW s) (rT : RdT w 0 w.heap.size) :
    Calls Tryd.prog 5 #[.agg #[.slice Ag0 g.ow.length cg0, .slice Ag1 g.pr.length cg1, .slice Ag2 g.mv.length cg2], .agg ((s : List Int).map wV).toArray] w fun e w' => e = .returned (.bool true) ∧ Ext w w' := by
 have hlg0 := rg.ow.len; have hlg1 := rg.pr.len; have hlg2 := rg.mv.len; have hkg0 := rg.k0; have hkg1 := rg.k1; have hkg2 := rg.k2; have hls := hs.1
 refine enter_ (args := [.agg #[.slice Ag0 g.ow.length cg0, .slice Ag1 g.pr.length cg1, .slice Ag2 g.mv.length cg2], .agg ((s : List Int).map wV).toArray]) Tryd.func5 rfl Tryd.ntmps5 (Nat.le_of_ble_eq_true rfl) (fun act0 f0 => ?_)
 have e0 : Ext w w := Ext.refl w
 refine sqs ?_
 refine At.bx f0 2 [.slice Ag0 g.ow.length cg0, .slice Ag1 g.pr.length cg1, .slice Ag2 g.mv.length cg2] 25 (fun w1 g5 bx6 act4 f3 => ?_)
 clear f0; have := g5.size; replace e0 := e0.gn g5; have r9 := rg.gn g5; clear rg; have aA := rT.gn g5; clear rT; have := bx6.lt; clear g5
 refine At.bx f3 3 ((s : List Int).map wV) 35 (fun kZ eV aS lA gG => ?_)
 clear f3; have := eV.size; replace e0 := e0.gn eV; replace r9 := r9.gn eV; replace aA := aA.gn eV; replace bx6 := bx6.gn eV; have := aS.lt; clear eV
 refine At.rk gG 1 [(4, .bool false)] .n (fun lB gH => ?_)
 clear gG
 refine At.dn ?_
 refine sqs ?_
 refine At.cl gH (some 21) (shown09_any (aA.wide (Nat.zero_le _) ω)) ?_
 rintro e_ fJ ⟨rfl, he⟩
 refine ⟨_, rfl, _, rfl, fun lC gI => ?_⟩
 clear gH; have eT := gr_ext he; have := eT.size; replace e0 := e0.gn eT; replace r9 := r9.gn eT; replace aA := aA.gn eT; replace bx6 := bx6.gn eT; replace aS := aS.gn eT; clear eT he
 refine At.rk gI 1 [(5, .bool true)] .n (fun lD gJ => ?_)
 clear gI
 refine At.dn ?_
 refine sqs ?_
 refine At.rk gJ 1 [(22, .agg #[.slice Ag0 g.ow.length cg0, .slice Ag1 g.pr.length cg1, .slice Ag2 g.mv.length cg2])] (.l (bx6.cell (i := 0) rfl) <| .l (bx6.cell (i := 1) rfl) <| .l (bx6.cell (i := 2) rfl) <| .n) (fun lE gK => ?_)
 clear gJ
 refine At.cl gK (some 23) (args := #[.agg #[.slice Ag0 g.ow.length cg0, .slice Ag1 g.pr.length cg1, .slice Ag2 g.mv.length cg2]]) (copyR_any (g := g) (r9.wide (Nat.zero_le _) ω)) ?_
 rintro e_ bQ ⟨bR, bS, bT, bU, bV, bW, rfl, he, fK, fL, fM⟩
 have hip49 := inner_len (RdG.mv (r9.wide (Nat.zero_le _) ω))
 have aB : RdG bQ (fJ.heap.size) bQ.heap.size bR bT bV bS bU bW g := ⟨(OwnR.rdR fK (by show _ * 8 ≤ _; omega)).rdI, (OwnR.rdR fL (by show _ * 8 ≤ _; omega)).rdI, OwnLLP.rdII fM ω hip49, fK.cap, fL.cap, fM.cap⟩
 clear fK fL fM
 refine ⟨_, rfl, _, rfl, fun lF gL => ?_⟩
 clear gK; have eU := gr_ext he; have := eU.size; replace e0 := e0.gn eU; replace r9 := r9.gn eU; replace aA := aA.gn eU; replace bx6 := bx6.gn eU; replace aS := aS.gn eU; clear eU he
 refine At.bx gL 6 [.slice none 0 0, .slice none 0 0, .slice none 0 0] 25 (fun lG eP fN lH gM => ?_)
 clear gL; have := eP.size; replace e0 := e0.gn eP; replace r9 := r9.gn eP; replace aA := aA.gn eP; replace bx6 := bx6.gn eP; replace aS := aS.gn eP; replace aB := aB.gn eP; have := fN.lt; clear eP
 refine At.store gM (t := 25) (b := bQ.heap.size) (off := 0) (v := .agg #[.slice bR g.ow.length bS, .slice bT g.pr.length bU, .slice bV g.mv.length bW]) κ fN κ (fun lI kM eQ aC gN => ?_)
 clear gM; replace aC : Bx kM (bQ.heap.size) [.slice bR g.ow.length bS, .slice bT g.pr.length bU, .slice bV g.mv.length bW] 25 := aC; have := eQ.size; replace e0 := e0.gr eQ (fun k h => by injection h; omega); replace r9 := r9.gb eQ ω; replace aA := aA.gb eQ ω; replace bx6 := bx6.gb eQ ω; replace aS := aS.gb eQ ω; replace aB := aB.gb eQ ω; clear fN eQ
 refine At.dn ?_
 refine sqs ?_
 refine At.rk gN 1 [(24, .agg ((s : List Int).map wV).toArray)] (.p (show ((s : List Int).map wV).length = 4 from ((List.length_map _).trans σ)) <| .p aS.whole <| .o (.cs ((s : List Int).map wV)) <| .n) (fun lJ gO => ?_)
 clear gN
 refine At.cl gO (some 25) (from_any (s := s) σ) ?_
 rintro e_ fF ⟨rfl, he⟩
 refine ⟨_, rfl, _, rfl, fun lK gP => ?_⟩
 clear gO; have eK := gr_ext he; have := eK.size; replace e0 := e0.gn eK; replace r9 := r9.gn eK; replace aA := aA.gn eK; replace bx6 := bx6.gn eK; replace aS := aS.gn eK; replace aB := aB.gn eK; replace aC := aC.gn eK; clear eK he
 refine At.bx gP 7 ((List.replicate 256 false : List Bool).map Value.bool) 37 (fun lL eL fO lM gQ => ?_)
 clear gP; have := eL.size; replace e0 := e0.gn eL; replace r9 := r9.gn eL; replace aA := aA.gn eL; replace bx6 := bx6.gn eL; replace aS := aS.gn eL; replace aB := aB.gn eL; replace aC := aC.gn eL; have := fO.lt; clear eL
 refine At.act gQ (storeBlk (t := 37) (b := fF.heap.size) (n := 256) (cs' := ((fromW s : List Bool).map Value.bool)) κ κ ((List.length_map _).trans (from_len _)) oneB ((show ((fromW s : List Bool).map Value.bool).length = 256 from ((List.length_map _).trans (from_len _))).trans (show ((List.replicate 256 false : List Bool).map Value.bool).length = 256 from len_P).symm) fO) ?_
 rintro d_ v_ aU ⟨rfl, eM, aT⟩
 refine ⟨_, rfl, fun lN gR => ?_⟩
 clear gQ; have := eM.size; replace e0 := e0.gr eM (fun k h => by injection h; omega); replace r9 := r9.gb eM ω; replace aA := aA.gb eM ω; replace bx6 := bx6.gb eM ω; replace aS := aS.gb eM ω; replace aB := aB.gb eM ω; replace aC := aC.gb eM ω; clear fO eM
 refine At.dn ?_
 refine sqs ?_
 refine At.rk gR 2 [(28, .agg ((s : List Int).map wV).toArray), (27, .agg #[.slice Ag0 g.ow.length cg0, .slice Ag1 g.pr.length cg1, .slice Ag2 g.mv.length cg2])] (.l (bx6.cell (i := 0) rfl) <| .l (bx6.cell (i := 1) rfl) <| .l (bx6.cell (i := 2) rfl) <| .p (show ((s : List Int).map wV).length = 4 from ((List.length_map _).trans σ)) <| .p aS.whole <| .o (.cs ((s : List Int).map wV)) <| .n) (fun lO gS => ?_)
 clear gR
 refine At.cl gS (some 29) (args := #[.agg #[.slice Ag0 g.ow.length cg0, .slice Ag1 g.pr.length cg1, .slice Ag2 g.mv.length cg2], .agg ((s : List Int).map wV).toArray]) (subM_any (g := g) (s := s) (r9.wide (Nat.zero_le _) ω) σ (aA.wide (Nat.zero_le _) ω)) ?_
 rintro e_ aK ⟨aL, bX, aM, bY, aN, bZ, aD, bH, rfl, he, aG, aH, aI, aF⟩
 have hip142 := sub_inner g s; have := sub_lens g (inT g s)
 refine ⟨_, rfl, _, rfl, fun lP gT => ?_⟩
 clear gS; have dW := gr_ext he; have := dW.size; replace e0 := e0.gn dW; replace r9 := r9.gn dW; replace aA := aA.gn dW; replace bx6 := bx6.gn dW; replace aS := aS.gn dW; replace aB := aB.gn dW; replace aC := aC.gn dW; replace aT := aT.gn dW
 replace aF : OwnR aK (SxP (fun k_ => aU.heap.size ≤ k_ ∧ k_ < aK.heap.size) [obk (aL), obk (aM), obk (aN)]) aD bH 3 ((subO g (inT g s)) : List Int) := aF.imp (fun g hg hs => ⟨hs.1, hs.2.1, hs.2.2.1, ⟨(by have := Sx_base hs; omega), hg⟩⟩)
 replace aG : OwnR aK (SxP (fun k_ => (aU.heap.size ≤ k_ ∧ k_ < aK.heap.size) ∧ obk (aD) ≠ some k_) [obk (aM), obk (aN), obk (aD)]) aL bX 3 ((subG g (inT g s)).ow : List Int) := aG.imp (fun g hg hs => ⟨hs.1, hs.2.1, hs.2.2.1, ⟨⟨(by have := Sx_base hs; omega), hg⟩, hs.2.2.1⟩⟩)
 replace aH : OwnR aK (SxP (fun k_ => (aU.heap.size ≤ k_ ∧ k_ < aK.heap.size) ∧ obk (aD) ≠ some k_) [obk (aL), obk (aN), obk (aD)]) aM bY 3 ((subG g (inT g s)).pr : List Int) := aH.imp (fun g hg hs => ⟨hs.1, hs.2.1, hs.2.2.1, ⟨⟨(by have := Sx_base hs; omega), hg⟩, hs.2.2.1⟩⟩)
 replace aI : OwnLLP aK (fun k_ => (aU.heap.size ≤ k_ ∧ k_ < aK.heap.size) ∧ obk (aD) ≠ some k_) [obk (aL), obk (aM), obk (aD)] aN bZ 22 3 ((subG g (inT g s)).mv : List (List Int)) := aI.imp (fun g hg hs => ⟨hs.1, hs.2.1, hs.2.2.1, ⟨⟨(by have := Sx_base hs; omega), hg⟩, hs.2.2.1⟩⟩)
 clear dW he
 refine At.rk gT 4 [(32, .bool (subB g (inT g s))), (31, .slice aD ((subO g (inT g s)).length) bH), (30, .agg #[.slice aL ((subG g (inT g s)).ow.length) bX, .slice aM ((subG g (inT g s)).pr.length) bY, .slice aN ((subG g (inT g s)).mv.length) bZ])] .n (fun lQ gU => ?_)
 clear gT
 refine At.bx gU 8 [.slice none 0 0, .slice none 0 0, .slice none 0 0] 25 (fun lR cB fP lS gV => ?_)
 clear gU; have := cB.size; replace e0 := e0.gn cB; replace r9 := r9.gn cB; replace aA := aA.gn cB; replace bx6 := bx6.gn cB; replace aS := aS.gn cB; replace aB := aB.gn cB; replace aC := aC.gn cB; replace aT := aT.gn cB; replace aG := aG.grN cB; replace aH := aH.grN cB; replace aI := aI.grN cB; replace aF := aF.grN cB; have := fP.lt; clear cB
 refine At.store gV (t := 25) (b := aK.heap.size) (off := 0) (v := .agg #[.slice aL ((subG g (inT g s)).ow.length) bX, .slice aM ((subG g (inT g s)).pr.length) bY, .slice aN ((subG g (inT g s)).mv.length) bZ]) κ fP κ (fun lT cQ cC aE gW => ?_)
 clear gV
 replace aE : Bx cQ (aK.heap.size) [.slice aL ((subG g (inT g s)).ow.length) bX, .slice aM ((subG g (inT g s)).pr.length) bY, .slice aN ((subG g (inT g s)).mv.length) bZ] 25 := aE
 have := cC.size; replace e0 := e0.gr cC (fun k h => by injection h; omega); replace r9 := r9.gb cC ω; replace aA := aA.gb cC ω; replace bx6 := bx6.gb cC ω; replace aS := aS.gb cC ω; replace aB := aB.gb cC ω; replace aC := aC.gb cC ω; replace aT := aT.gb cC ω; replace aG := aG.gr cC (fun k hk => hk.1); replace aH := aH.gr cC (fun k hk => hk.1); replace aI := aI.gr cC (fun k hk => hk.1)
 replace aF := aF.gr cC (fun k hk => hk.1); clear fP cC
 refine At.rk gW 2 [(10, .bool (subB g (inT g s))), (9, .slice aD ((subO g (inT g s)).length) bH)] .n (fun lU gX => ?_)
 clear gW
 refine At.dn ?_
 refine sqs ?_
 refine At.rk gX 2 [(35, .agg ((s : List Int).map wV).toArray), (34, .agg #[.slice Ag0 g.ow.length cg0, .slice Ag1 g.pr.length cg1, .slice Ag2 g.mv.length cg2])] (.l (bx6.cell (i := 0) rfl) <| .l (bx6.cell (i := 1) rfl) <| .l (bx6.cell (i := 2) rfl) <| .p (show ((s : List Int).map wV).length = 4 from ((List.length_map _).trans σ)) <| .p aS.whole <| .o (.cs ((s : List Int).map wV)) <| .n) (fun lV gY => ?_)
 clear gX
 refine At.cl gY (some 36) (args := #[.agg #[.slice Ag0 g.ow.length cg0, .slice Ag1 g.pr.length cg1, .slice Ag2 g.mv.length cg2], .agg ((s : List Int).map wV).toArray]) (subM_any (g := g) (s := s) (r9.wide (Nat.zero_le _) ω) σ (aA.wide (Nat.zero_le _) ω)) ?_
 rintro e_ aQ ⟨cR, cS, cT, cU, cV, cW, aO, bP, rfl, he, fQ, fR, fS, aJ⟩
 have hip217 := sub_inner g s; have := sub_lens g (inT g s)
 have aP : RdG aQ (cQ.heap.size) aQ.heap.size cR cT cV cS cU cW (subG g (inT g s)) := ⟨(OwnR.rdR fQ (by show _ * 8 ≤ _; omega)).rdI, (OwnR.rdR fR (by show _ * 8 ≤ _; omega)).rdI, OwnLLP.rdII fS ω hip217, fQ.cap, fR.cap, fS.cap⟩
 replace aJ : OwnR aQ (Sx (cQ.heap.size) []) aO bP 3 ((subO g (inT g s)) : List Int) := aJ.imp (fun g _ hs => hs.2.2.2); clear fQ fR fS
 refine ⟨_, rfl, _, rfl, fun lW gZ => ?_⟩
 clear gY; have cA := gr_ext he; have hA := aG.lt; have hB := aH.lt; have hC := aI.lt; have hD := aF.lt; have := cA.size; replace e0 := e0.gn cA; replace r9 := r9.gn cA; replace aA := aA.gn cA; replace bx6 := bx6.gn cA; replace aS := aS.gn cA; replace aB := aB.gn cA; replace aC := aC.gn cA; replace aT := aT.gn cA
 replace aG : OwnR aQ (SxP (fun k_ => (aU.heap.size ≤ k_ ∧ k_ < aK.heap.size) ∧ obk (aD) ≠ some k_) [obk (aO), some (aK.heap.size), obk (aM), obk (aN), obk (aD)]) aL bX 3 ((subG g (inT g s)).ow : List Int) := aG.grA cA (fun _ _ h => by cases h) (fun k hk hs => ⟨(fun e => by have := aJ.ge _ e; omega), hs.1, hs.2.1, hs.2.2.1, hs.2.2.2.1, hs.2.2.2.2⟩)
 replace aH : OwnR aQ (SxP (fun k_ => (aU.heap.size ≤ k_ ∧ k_ < aK.heap.size) ∧ obk (aD) ≠ some k_) [obk (aO), some (aK.heap.size), obk (aL), obk (aN), obk (aD)]) aM bY 3 ((subG g (inT g s)).pr : List Int) := aH.grA cA (fun _ _ h => by cases h) (fun k hk hs => ⟨(fun e => by have := aJ.ge _ e; omega), hs.1, hs.2.1, hs.2.2.1, hs.2.2.2.1, hs.2.2.2.2⟩)
 replace aI : OwnLLP aQ (fun k_ => (aU.heap.size ≤ k_ ∧ k_ < aK.heap.size) ∧ obk (aD) ≠ some k_) [obk (aO), some (aK.heap.size), obk (aL), obk (aM), obk (aD)] aN bZ 22 3 ((subG g (inT g s)).mv : List (List Int)) := aI.grA cA (fun _ _ h => by cases h) (fun k hk hs => ⟨(fun e => by have := aJ.ge _ e; omega), hs.1, hs.2.1, hs.2.2.1, hs.2.2.2.1, hs.2.2.2.2⟩)
 replace aF : OwnR aQ (SxP (fun k_ => aU.heap.size ≤ k_ ∧ k_ < aK.heap.size) [obk (aO), some (aK.heap.size), obk (aL), obk (aM), obk (aN)]) aD bH 3 ((subO g (inT g s)) : List Int) := aF.grA cA (fun _ _ h => by cases h) (fun k hk hs => ⟨(fun e => by have := aJ.ge _ e; omega), hs.1, hs.2.1, hs.2.2.1, hs.2.2.2.1, hs.2.2.2.2⟩)
 replace aE := aE.gn cA
 replace aJ : OwnR aQ (Sx (cQ.heap.size) [obk (aL), obk (aM), obk (aN), obk (aD)]) aO bP 3 ((subO g (inT g s)) : List Int) := aJ.imp (fun g _ hs => ⟨(fun e => by have := hA _ e; have := Sx_base hs; omega), (fun e => by have := hB _ e; have := Sx_base hs; omega), (fun e => by have := hC _ e; have := Sx_base hs; omega), (fun e => by have := hD _ e; have := Sx_base hs; omega), hs⟩)
 clear hA hB hC hD; clear cA he
 refine At.rk gZ 4 [(39, .bool (subB g (inT g s))), (38, .slice aO ((subO g (inT g s)).length) bP), (37, .agg #[.slice cR ((subG g (inT g s)).ow.length) cS, .slice cT ((subG g (inT g s)).pr.length) cU, .slice cV ((subG g (inT g s)).mv.length) cW])] .n (fun lX hE => ?_)
 clear gZ
 refine At.bx hE 11 [.slice none 0 0, .slice none 0 0, .slice none 0 0] 25 (fun lY bM fT lZ hF => ?_)
 clear hE; have := bM.size; replace e0 := e0.gn bM; replace r9 := r9.gn bM; replace aA := aA.gn bM; replace bx6 := bx6.gn bM; replace aS := aS.gn bM; replace aB := aB.gn bM; replace aC := aC.gn bM; replace aT := aT.gn bM; replace aG := aG.grN bM; replace aH := aH.grN bM; replace aI := aI.grN bM; replace aF := aF.grN bM; replace aE := aE.gn bM; replace aJ := aJ.grN bM; replace aP := aP.gn bM
 have := fT.lt; clear bM
 refine At.store hF (t := 25) (b := aQ.heap.size) (off := 0) (v := .agg #[.slice cR ((subG g (inT g s)).ow.length) cS, .slice cT ((subG g (inT g s)).pr.length) cU, .slice cV ((subG g (inT g s)).mv.length) cW]) κ fT κ (fun mA hG bN aR hH => ?_)
 clear hF
 replace aR : Bx hG (aQ.heap.size) [.slice cR ((subG g (inT g s)).ow.length) cS, .slice cT ((subG g (inT g s)).pr.length) cU, .slice cV ((subG g (inT g s)).mv.length) cW] 25 := aR
 have := bN.size; replace e0 := e0.gr bN (fun k h => by injection h; omega); replace r9 := r9.gb bN ω; replace aA := aA.gb bN ω; replace bx6 := bx6.gb bN ω; replace aS := aS.gb bN ω; replace aB := aB.gb bN ω; replace aC := aC.gb bN ω; replace aT := aT.gb bN ω; replace aG := aG.gr bN (fun k hk => hk.1); replace aH := aH.gr bN (fun k hk => hk.1); replace aI := aI.gr bN (fun k hk => hk.1)
 replace aF := aF.gr bN (fun k hk => hk.1); replace aE := aE.gb bN ω; replace aJ := aJ.gr bN (fun k hk => hk.1); replace aP := aP.gb bN ω; clear fT bN
 refine At.rk hH 2 [(13, .bool (subB g (inT g s))), (12, .slice aO ((subO g (inT g s)).length) bP)] .n (fun mB hI => ?_)
 clear hH
 refine At.dn ?_
 clear aS
 refine wp_seq ?_
 obtain ⟨hJ, eW⟩ : ∃ c : List (Addr × Value), c = [(⟨bQ.heap.size, 0, none⟩, (.slice bR g.ow.length bS)), (⟨bQ.heap.size, 1, none⟩, (.slice bT g.pr.length bU)), (⟨bQ.heap.size, 2, none⟩, (.slice bV g.mv.length bW))] := ⟨_, rfl⟩
 have hK : HoldsC hJ hG := by rw [eW]; exact ⟨(aC.cell (i := 0) rfl), (aC.cell (i := 1) rfl), (aC.cell (i := 2) rfl), trivial⟩
 refine AtH.start hJ 11 _ κ rfl rfl (fun bI hL => ?_)
 have bJ := gr_drew hL; have fU := hK.gr bJ; have := bJ.size; replace e0 := e0.gn bJ; replace r9 := r9.gn bJ; replace aA := aA.gn bJ; replace bx6 := bx6.gn bJ; replace aB := aB.gn bJ; replace aC := aC.gn bJ; replace aT := aT.gn bJ; replace aG := aG.gn bJ; replace aH := aH.gn bJ; replace aI := aI.gn bJ; replace aF := aF.gn bJ; replace aE := aE.gn bJ; replace aJ := aJ.gn bJ; replace aP := aP.gn bJ
 replace aR := aR.gn bJ; clear bJ hL hK
 refine AtH.rk fU hI [0, 1] 9 [(42, .slice (some ⟨fF.heap.size, 0, none⟩) 256 256), (41, .agg #[.slice bR g.ow.length bS, .slice bT g.pr.length bU, .slice bV g.mv.length bW])] (.l (CsC_at eW 0 rfl) <| .l (CsC_at eW 1 rfl) <| .l (CsC_at eW 2 rfl) <| .n) (fun mC fG => ?_)
 clear hI
 refine AtH.all [2, 7] 8 κ (by simp) ⟨?_, ?_, trivial⟩
 ·refine OneH.cl fG (some 43) (args := #[.agg #[.slice bR g.ow.length bS, .slice bT g.pr.length bU, .slice bV g.mv.length bW], .slice (some ⟨fF.heap.size, 0, none⟩) 256 256]) (subR_any (g := g) (s := s) (aB.wide (Nat.zero_le _) ω) hs (Bx.rdBl aT (by rw [from_len]; omega)) (from_len _).symm) ?_
  rintro e_ bK ⟨dD, dE, dF, dG, dH, dI, aZ, cX, rfl, he, fV, fW, fX, aV⟩
  have hip329 := sub_inner g s; have := sub_lens g (inT g s)
  have cN : RdG bK (bI.heap.size) bK.heap.size dD dF dH dE dG dI (subG g (inT g s)) := ⟨(OwnR.rdR fV (by show _ * 8 ≤ _; omega)).rdI, (OwnR.rdR fW (by show _ * 8 ≤ _; omega)).rdI, OwnLLP.rdII fX ω hip329, fV.cap, fW.cap, fX.cap⟩
  replace aV : OwnR bK (Sx (bI.heap.size) []) aZ cX 3 ((subO g (inT g s)) : List Int) := aV.imp (fun g _ hs => hs.2.2.2); clear fV fW fX
  refine ⟨_, rfl, _, rfl, fun mD hM => ?_⟩
  clear fG; have bL := gr_ext he; have eX := fU.gr bL; have hN := aG.lt; have hO := aH.lt; have hP := aI.lt; have hQ := aF.lt; have hR := aJ.lt; have := bL.size; replace e0 := e0.gn bL; replace r9 := r9.gn bL; replace aA := aA.gn bL; replace bx6 := bx6.gn bL; replace aB := aB.gn bL; replace aC := aC.gn bL; replace aT := aT.gn bL
  replace aG : OwnR bK (SxP (fun k_ => (aU.heap.size ≤ k_ ∧ k_ < aK.heap.size) ∧ obk (aD) ≠ some k_) [obk (aZ), some (aQ.heap.size), obk (aO), some (aK.heap.size), obk (aM), obk (aN), obk (aD)]) aL bX 3 ((subG g (inT g s)).ow : List Int) := aG.grA bL (fun _ _ h => by cases h) (fun k hk hs => ⟨(fun e => by have := aV.ge _ e; omega), hs.1, hs.2.1, hs.2.2.1, hs.2.2.2.1, hs.2.2.2.2.1, hs.2.2.2.2.2.1, hs.2.2.2.2.2.2⟩)
  replace aH : OwnR bK (SxP (fun k_ => (aU.heap.size ≤ k_ ∧ k_ < aK.heap.size) ∧ obk (aD) ≠ some k_) [obk (aZ), some (aQ.heap.size), obk (aO), some (aK.heap.size), obk (aL), obk (aN), obk (aD)]) aM bY 3 ((subG g (inT g s)).pr : List Int) := aH.grA bL (fun _ _ h => by cases h) (fun k hk hs => ⟨(fun e => by have := aV.ge _ e; omega), hs.1, hs.2.1, hs.2.2.1, hs.2.2.2.1, hs.2.2.2.2.1, hs.2.2.2.2.2.1, hs.2.2.2.2.2.2⟩)
  replace aI : OwnLLP bK (fun k_ => (aU.heap.size ≤ k_ ∧ k_ < aK.heap.size) ∧ obk (aD) ≠ some k_) [obk (aZ), some (aQ.heap.size), obk (aO), some (aK.heap.size), obk (aL), obk (aM), obk (aD)] aN bZ 22 3 ((subG g (inT g s)).mv : List (List Int)) := aI.grA bL (fun _ _ h => by cases h) (fun k hk hs => ⟨(fun e => by have := aV.ge _ e; omega), hs.1, hs.2.1, hs.2.2.1, hs.2.2.2.1, hs.2.2.2.2.1, hs.2.2.2.2.2.1, hs.2.2.2.2.2.2⟩)
  replace aF : OwnR bK (SxP (fun k_ => aU.heap.size ≤ k_ ∧ k_ < aK.heap.size) [obk (aZ), some (aQ.heap.size), obk (aO), some (aK.heap.size), obk (aL), obk (aM), obk (aN)]) aD bH 3 ((subO g (inT g s)) : List Int) := aF.grA bL (fun _ _ h => by cases h) (fun k hk hs => ⟨(fun e => by have := aV.ge _ e; omega), hs.1, hs.2.1, hs.2.2.1, hs.2.2.2.1, hs.2.2.2.2.1, hs.2.2.2.2.2.1, hs.2.2.2.2.2.2⟩)
  replace aE := aE.gn bL
  replace aJ : OwnR bK (Sx (cQ.heap.size) [obk (aZ), some (aQ.heap.size), obk (aL), obk (aM), obk (aN), obk (aD)]) aO bP 3 ((subO g (inT g s)) : List Int) := aJ.grA bL (fun _ _ h => by cases h) (fun k hk hs => ⟨(fun e => by have := aV.ge _ e; omega), hs.1, hs.2.1, hs.2.2.1, hs.2.2.2.1, hs.2.2.2.2.1, hs.2.2.2.2.2⟩)
  replace aP := aP.gn bL; replace aR := aR.gn bL
  replace aV : OwnR bK (Sx (bI.heap.size) [obk (aL), obk (aM), obk (aN), obk (aD), obk (aO)]) aZ cX 3 ((subO g (inT g s)) : List Int) := aV.imp (fun g _ hs => ⟨(fun e => by have := hN _ e; have := Sx_base hs; omega), (fun e => by have := hO _ e; have := Sx_base hs; omega), (fun e => by have := hP _ e; have := Sx_base hs; omega), (fun e => by have := hQ _ e; have := Sx_base hs; omega), (fun e => by have := hR _ e; have := Sx_base hs; omega), hs⟩)
  clear hN hO hP hQ hR; clear bL he
  refine ⟨eX, ?_⟩
  refine AtH.rk eX hM [3] 7 [(40, .tuple #[.agg #[.slice dD ((subG g (inT g s)).ow.length) dE, .slice dF ((subG g (inT g s)).pr.length) dG, .slice dH ((subG g (inT g s)).mv.length) dI], .slice aZ ((subO g (inT g s)).length) cX, .bool (subB g (inT g s))])] .n (fun mE hS => ?_)
  clear hM
  refine AtH.rk eX hS [4] 6 [(44, .agg #[.slice dD ((subG g (inT g s)).ow.length) dE, .slice dF ((subG g (inT g s)).pr.length) dG, .slice dH ((subG g (inT g s)).mv.length) dI])] .n (fun mF hT => ?_)
  clear hS
  refine AtH.rk eX hT [5] 5 [(45, .slice aZ ((subO g (inT g s)).length) cX)] .n (fun mG hU => ?_)
  clear hT
  refine AtH.rk eX hU [6] 4 [(46, .bool (subB g (inT g s)))] .n (fun mH hV => ?_)
  clear hU
  refine AtH.all [7] 3 κ (by simp) ⟨?_, trivial⟩
  refine OneH.bx hV eX 14 [.slice none 0 0, .slice none 0 0, .slice none 0 0] 25 (fun mI bA fY kN mJ hW => ?_)
  clear hV; have := bA.size; replace e0 := e0.gn bA; replace r9 := r9.gn bA; replace aA := aA.gn bA; replace bx6 := bx6.gn bA; replace aB := aB.gn bA; replace aC := aC.gn bA; replace aT := aT.gn bA; replace aG := aG.grN bA; replace aH := aH.grN bA; replace aI := aI.grN bA; replace aF := aF.grN bA; replace aE := aE.gn bA; replace aJ := aJ.grN bA; replace aP := aP.gn bA; replace aR := aR.gn bA
  replace aV := aV.grN bA; replace cN := cN.gn bA; have := fY.lt; clear bA
  refine AtH.all [8] 2 κ (by simp) ⟨?_, trivial⟩
  refine OneH.store hW (t := 25) (b := bK.heap.size) (off := 0) (v := .agg #[.slice dD ((subG g (inT g s)).ow.length) dE, .slice dF ((subG g (inT g s)).pr.length) dG, .slice dH ((subG g (inT g s)).mv.length) dI]) _ rfl κ fY κ (fun mK kO aW cO hX => ?_)
  clear hW
  replace cO : Bx kO (bK.heap.size) [.slice dD ((subG g (inT g s)).ow.length) dE, .slice dF ((subG g (inT g s)).pr.length) dG, .slice dH ((subG g (inT g s)).mv.length) dI] 25 := cO
  have fH := kN.gr' aW (by rw [eW]; exact ⟨(by simp only [add_block]; omega), (by simp only [add_block]; omega), (by simp only [add_block]; omega), trivial⟩); have := aW.size; replace e0 := e0.gr aW (fun k h => by injection h; omega); replace r9 := r9.gb aW ω; replace aA := aA.gb aW ω; replace bx6 := bx6.gb aW ω; replace aB := aB.gb aW ω; replace aC := aC.gb aW ω; replace aT := aT.gb aW ω
  replace aG := aG.gr aW (fun k hk => hk.1); replace aH := aH.gr aW (fun k hk => hk.1); replace aI := aI.gr aW (fun k hk => hk.1); replace aF := aF.gr aW (fun k hk => hk.1); replace aE := aE.gb aW ω; replace aJ := aJ.gr aW (fun k hk => hk.1); replace aP := aP.gb aW ω; replace aR := aR.gb aW ω; replace aV := aV.gr aW (fun k hk => hk.1); replace cN := cN.gb aW ω; clear fY aW
  refine ⟨fH, ?_⟩
  refine AtH.rk fH hX [9] 1 [(15, .slice aZ ((subO g (inT g s)).length) cX)] .n (fun mL hY => ?_)
  clear hX
  refine AtH.rk fH hY [10] 0 [(16, .bool (subB g (inT g s)))] .n (fun mM hZ => ?_)
  clear hY
  refine AtH.done κ ?_
  clear fH
  refine t_n ?_
  clear aT
  have iA := hZ.sb (r := [(16, .bool (subB g (inT g s))), (15, .slice aZ ((subO g (inT g s)).length) cX), (14, pt bK.heap.size 0), (13, .bool (subB g (inT g s))), (12, .slice aO ((subO g (inT g s)).length) bP), (11, pt aQ.heap.size 0), (10, .bool (subB g (inT g s))), (9, .slice aD ((subO g (inT g s)).length) bH), (8, pt aK.heap.size 0), (6, pt bQ.heap.size 0), (5, .bool true), (4, .bool false), (2, pt w.heap.size 0)])
  clear hZ
  refine sqs ?_
  refine At.rk iA 2 [(48, .agg #[.slice dD ((subG g (inT g s)).ow.length) dE, .slice dF ((subG g (inT g s)).pr.length) dG, .slice dH ((subG g (inT g s)).mv.length) dI]), (47, .agg #[.slice aL ((subG g (inT g s)).ow.length) bX, .slice aM ((subG g (inT g s)).pr.length) bY, .slice aN ((subG g (inT g s)).mv.length) bZ])] (.l (aE.cell (i := 0) rfl) <| .l (aE.cell (i := 1) rfl) <| .l (aE.cell (i := 2) rfl) <| .l (cO.cell (i := 0) rfl) <| .l (cO.cell (i := 1) rfl) <| .l (cO.cell (i := 2) rfl) <| .n) (fun mN iB => ?_)
  clear iA
  refine At.cl iB (some 49) (args := #[.agg #[.slice aL ((subG g (inT g s)).ow.length) bX, .slice aM ((subG g (inT g s)).pr.length) bY, .slice aN ((subG g (inT g s)).mv.length) bZ], .agg #[.slice dD ((subG g (inT g s)).ow.length) dE, .slice dF ((subG g (inT g s)).pr.length) dG, .slice dH ((subG g (inT g s)).mv.length) dI]]) ((same_any (a := (subG g (inT g s))) (b := (subG g (inT g s))) (RdG.mk (G := (subG g (inT g s))) (aG.rdIA (by first | omega | (simp only [List.length_cons, List.length_nil]; omega) | (simp; done) | (simp; omega))) (aH.rdIA (by first | omega | (simp only [List.length_cons, List.length_nil]; omega) | (simp; done) | (simp; omega))) (aI.rdIIA (by first | omega | (simp only [List.length_cons, List.length_nil]; omega) | (simp; done) | (simp; omega)) hip142) aG.cap aH.cap aI.cap) (cN.wide (Nat.zero_le _) ω)).mono (R' := fun e w' => e = .returned (.bool true) ∧ Ext _ w') (fun e_ w_ h_ => by rw [show (decide ((subG g (inT g s)) = (subG g (inT g s))) : Bool) = true from decide_eq_true rfl] at h_; exact h_)) ?_
  rintro e_ mO ⟨rfl, he⟩
  refine ⟨_, rfl, _, rfl, fun mP iC => ?_⟩
  clear iB; have bB := gr_ext he; have := bB.size; replace e0 := e0.gn bB; replace r9 := r9.gn bB; replace aA := aA.gn bB; replace bx6 := bx6.gn bB; replace aB := aB.gn bB; replace aC := aC.gn bB; replace aG := aG.gn bB; replace aH := aH.gn bB; replace aI := aI.gn bB; replace aF := aF.gn bB; replace aE := aE.gn bB; replace aJ := aJ.gn bB; replace aP := aP.gn bB; replace aR := aR.gn bB
  replace aV := aV.gn bB; replace cN := cN.gn bB; replace cO := cO.gn bB; clear bB he
  refine At.rk iC 3 [(52, .slice aZ ((subO g (inT g s)).length) cX), (51, .slice aD ((subO g (inT g s)).length) bH), (50, .bool true)] .n (fun mQ iD => ?_)
  clear iC
  refine At.cl iD (some 53) (args := #[.slice aD ((subO g (inT g s)).length) bH, .slice aZ ((subO g (inT g s)).length) cX]) ((sameInts_any (la := (subO g (inT g s))) (lb := (subO g (inT g s))) (aF.rdIA (by first | omega | (simp only [List.length_cons, List.length_nil]; omega) | (simp; done) | (simp; omega))) (aV.rdI0 (by first | omega | (simp only [List.length_cons, List.length_nil]; omega) | (simp; done) | (simp; omega)))).mono (R' := fun e w' => e = .returned (.bool true) ∧ Ext _ w') (fun e_ w_ h_ => by rw [show (decide ((subO g (inT g s)) = (subO g (inT g s))) : Bool) = true from decide_eq_true rfl] at h_; exact h_)) ?_
  rintro e_ fZ ⟨rfl, he⟩
  refine ⟨_, rfl, _, rfl, fun mR iE => ?_⟩
  clear iD; have bC := gr_ext he; have := bC.size; replace e0 := e0.gn bC; replace r9 := r9.gn bC; replace aA := aA.gn bC; replace bx6 := bx6.gn bC; replace aB := aB.gn bC; replace aC := aC.gn bC; replace aG := aG.gn bC; replace aH := aH.gn bC; replace aI := aI.gn bC; replace aF := aF.gn bC; replace aE := aE.gn bC; replace aJ := aJ.gn bC; replace aP := aP.gn bC; replace aR := aR.gn bC
  replace aV := aV.gn bC; replace cN := cN.gn bC; replace cO := cO.gn bC; clear bC he
  refine At.rk iE 7 [(17, .bool true)] (.v 58 (show (.bool ((subB g (inT g s)) == (subB g (inT g s))) : Value) = .bool true from (congrArg Value.bool (beq_self_eq_true _))) <| .n) (fun mS iF => ?_)
  clear iE
  refine At.dn ?_
  refine sqs ?_
  refine At.rk iF 1 [(60, .agg #[.slice aL ((subG g (inT g s)).ow.length) bX, .slice aM ((subG g (inT g s)).pr.length) bY, .slice aN ((subG g (inT g s)).mv.length) bZ])] (.l (aE.cell (i := 0) rfl) <| .l (aE.cell (i := 1) rfl) <| .l (aE.cell (i := 2) rfl) <| .n) (fun mT iG => ?_)
  clear iF
  refine At.cl iG (some 61) (args := #[.agg #[.slice aL ((subG g (inT g s)).ow.length) bX, .slice aM ((subG g (inT g s)).pr.length) bY, .slice aN ((subG g (inT g s)).mv.length) bZ]]) (full09_any (T := fun k_ => (aU.heap.size ≤ k_ ∧ k_ < aK.heap.size) ∧ obk (aD) ≠ some k_) (aG.toP (n := fZ.heap.size) (os := [obk (aM), obk (aN)]) (fun g hg hs => ⟨hs.2.2.2.2.2.1, hs.2.2.2.2.2.2.1, hs.2.2.2.2.2.2.2.2⟩)) (aH.toP (n := fZ.heap.size) (os := [obk (aL), obk (aN)]) (fun g hg hs => ⟨hs.2.2.2.2.2.1, hs.2.2.2.2.2.2.1, hs.2.2.2.2.2.2.2.2⟩)) (aI.toP (n := fZ.heap.size) (os := [obk (aL), obk (aM)]) (fun g hg hs => ⟨hs.2.2.2.2.2.1, hs.2.2.2.2.2.2.1, hs.2.2.2.2.2.2.2.2⟩)) ω ω ω hip142) ?_
  rintro e_ kP ⟨rfl, het468⟩
  refine ⟨_, rfl, _, rfl, fun mU iH => ?_⟩
  clear iG; have := het468.size; replace e0 := e0.tch het468 (fun k hk => by have := hk.1.1; omega); replace r9 := r9.tch het468 (fun k hk => by have := hk.1; omega); replace aA := aA.tch het468 (fun k hk => by have := hk.1; omega); replace bx6 := bx6.tch het468 (fun h_ => by have := h_.1; omega); replace aB := aB.tch het468 (fun k hk => by have := hk.1; omega)
  replace aC := aC.tch het468 (fun h_ => by have := h_.1; omega); clear aG; clear aH; clear aI; replace aF := aF.tch het468 (fun k hk e_ h_ => h_.2 e_); replace aE := aE.tch het468 (fun h_ => by have := h_.1; omega); replace aJ := aJ.tch het468 (fun k hk e_ h_ => by have h1_ := Sx_base hk; have h2_ := h_.1; omega); replace aP := aP.tch het468 (fun k hk => by have := hk.1; omega)
  replace aR := aR.tch het468 (fun h_ => by have := h_.1; omega); replace aV := aV.tch het468 (fun k hk e_ h_ => by have h1_ := Sx_base hk; have h2_ := h_.1; omega); replace cN := cN.tch het468 (fun k hk => by have := hk.1; omega); replace cO := cO.tch het468 (fun h_ => by have := h_.1; omega); clear het468
  refine At.dn ?_
  clear aE
  refine wp_seq ?_
  refine sqs ?_
  refine At.rk iH 1 [(18, .int .i64 (0))] .n (fun mV iI => ?_)
  clear iH
  refine At.dn ?_
  refine wp_block ?_
  have iJ := iI.as 9 (.slice aD ((subO g (inT g s)).length) bH) (.slice aD (((subO g (inT g s)) : List Int).length) bH) rfl (slice_len (by first | rfl | omega | (simp; done) | (simp; omega)))
  clear iI
  refine loop_g (fun (m_ : Nat) a_ w_ => ∃ (k : Int) (xs : List Int) (eR : Option Addr) (eY : Nat), m_ = ((xs.length : Int) - k).toNat ∧ (Frm 97 a_ [(18, .int .i64 (k)), (17, .bool true), (16, .bool (subB g (inT g s))), (15, .slice aZ ((subO g (inT g s)).length) cX), (14, pt bK.heap.size 0), (13, .bool (subB g (inT g s))), (12, .slice aO ((subO g (inT g s)).length) bP), (11, pt aQ.heap.size 0), (9, .slice eR xs.length eY), (6, pt bQ.heap.size 0), (5, .bool true), (4, .bool false), (2, pt w.heap.size 0)]) ∧ (Ext w w_) ∧ (RdG w_ 0 w.heap.size Ag0 Ag1 Ag2 cg0 cg1 cg2 g) ∧ (RdT w_ 0 w.heap.size) ∧ (Bx w_ (w.heap.size) [.slice Ag0 g.ow.length cg0, .slice Ag1 g.pr.length cg1, .slice Ag2 g.mv.length cg2] 25) ∧ (RdG w_ (fJ.heap.size) bQ.heap.size bR bT bV bS bU bW g) ∧ (Bx w_ (bQ.heap.size) [.slice bR g.ow.length bS, .slice bT g.pr.length bU, .slice bV g.mv.length bW] 25) ∧ (OwnR w_ (SxP (fun k_ => aU.heap.size ≤ k_ ∧ k_ < aK.heap.size) [some (bK.heap.size), obk (aZ), some (aQ.heap.size), obk (aO)]) eR eY 3 (xs : List Int)) ∧ (OwnR w_ (Sx (cQ.heap.size) [some (bK.heap.size), obk (aZ), some (aQ.heap.size), obk (eR)]) aO bP 3 ((subO g (inT g s)) : List Int)) ∧ (RdG w_ (cQ.heap.size) aQ.heap.size cR cT cV cS cU cW (subG g (inT g s))) ∧ (Bx w_ (aQ.heap.size) [.slice cR ((subG g (inT g s)).ow.length) cS, .slice cT ((subG g (inT g s)).pr.length) cU, .slice cV ((subG g (inT g s)).mv.length) cW] 25) ∧ (OwnR w_ (Sx (bI.heap.size) [some (bK.heap.size), obk (eR), obk (aO)]) aZ cX 3 ((subO g (inT g s)) : List Int)) ∧ (RdG w_ (bI.heap.size) bK.heap.size dD dF dH dE dG dI (subG g (inT g s))) ∧ (Bx w_ (bK.heap.size) [.slice dD ((subG g (inT g s)).ow.length) dE, .slice dF ((subG g (inT g s)).pr.length) dG, .slice dH ((subG g (inT g s)).mv.length) dI] 25) ∧ (0 ≤ k) ∧ (k ≤ (xs.length : Int)) ∧ (xs.length ≤ 256) ∧ (aU.heap.size ≤ w_.heap.size) ∧ (cQ.heap.size ≤ w_.heap.size) ∧ (bI.heap.size ≤ w_.heap.size) ∧ (kP.heap.size ≤ w_.heap.size)) _ ⟨0, ((subO g (inT g s)) : List Int), aD, bH, rfl, iJ.sb, e0, r9, aA, bx6, aB, aC, (aF.imp (fun g _ hs => ⟨hs.1, hs.2.1, hs.2.2.1, hs.2.2.2.1, hs.2.2.2.2.2.2.2.2⟩)), (aJ.imp (fun g _ hs => ⟨hs.1, hs.2.1, hs.2.2.1, hs.2.2.2.2.2.2.1, hs.2.2.2.2.2.2.2⟩)), aP, aR, (aV.imp (fun g _ hs => ⟨hs.1, hs.2.2.2.2.1, hs.2.2.2.2.2.1, hs.2.2.2.2.2.2⟩)), cN, cO, ω, (Int.natCast_nonneg _), ω, ω, ω, ω, ω⟩ ?_
  clear iJ; clear r9; clear aA; clear bx6; clear aB; clear aC; clear aF; clear aJ; clear aP; clear aR; clear aV; clear cN; clear cO; clear e0
  intro m_ mW mX ⟨k, xs, eR, eY, hm496, iK, dJ, dX, eN, dY, dZ, eA, cD, dK, eB, cE, dL, eC, cF, i510, i511, i512, i513, i514, i515, i516⟩
  have := dJ.size; have := dY.lt; have := eA.lt; have := cE.lt; have := cF.lt
  refine wp_seq ?_
  refine sqs ?_
  refine At.rk iK 4 [(65, .bool (decide ((k : Int) < ((xs.length : Nat) : Int))))] .n (fun mY fC => ?_)
  clear iK
  refine At.dn ?_
  refine cond_S fC (t := decide ((k : Int) < ((xs.length : Nat) : Int))) rfl (fun gA => ?_) (fun gA => ?_)
  ·have mZ := of_decide_eq_true gA
   refine wp_skip ?_
   refine t_n ?_
   refine wp_seq ?_
   refine wp_block ?_
   refine At.start ?_
   obtain ⟨iL, iM, nA, nB, nC⟩ := cD.get (k) ω ω (sz := 1) rfl
   refine At.rk fC 3 [(70, .pointer (some (iL.add ((k : Int).toNat * 1))))] (.a k xs.length iM <| .n) (fun nD iN => ?_)
   clear fC
   refine At.act iN (storeR (α := Int) (t := 3) (i := k) (ad := iL) (v := .int .i64 (9)) (9) κ rfl rfl κ iM cD ω ω) ?_
   rintro d_ v_ nE ⟨rfl, cG, kQ⟩
   refine ⟨_, rfl, fun nF iO => ?_⟩
   clear iN; have nG : ((xs).set (k : Int).toNat 9).length = (xs).length := List.length_set; have := cG.size; replace dJ := dJ.gr cG (fun k hk => by have h_ := (cD.inS k hk).2.2.2.2; have := h_.1; have := h_.2; omega); replace dX := dX.gr cG (fun k hk => by have h_ := (cD.inS k hk).2.2.2.2; have := h_.1; have := h_.2; omega)
   replace eN := eN.gr cG (fun k hk => by have h_ := (cD.inS k hk).2.2.2.2; have := h_.1; have := h_.2; omega); replace dY := dY.gr cG (fun e => by have h_ := (cD.inS _ e).2.2.2.2; have := h_.1; have := h_.2; omega); replace dZ := dZ.gr cG (fun k hk => by have h_ := (cD.inS k hk).2.2.2.2; have := h_.1; have := h_.2; omega)
   replace eA := eA.gr cG (fun e => by have h_ := (cD.inS _ e).2.2.2.2; have := h_.1; have := h_.2; omega); replace dK := dK.gr cG (fun k hk => hk.2.2.2.1); replace eB := eB.gr cG (fun k hk => by have h_ := (cD.inS k hk).2.2.2.2; have := h_.1; have := h_.2; omega); replace cE := cE.gr cG (cD.neb (fun g hs => hs.2.2.1)); replace dL := dL.gr cG (fun k hk => hk.2.1)
   replace eC := eC.gr cG (fun k hk => by have h_ := (cD.inS k hk).2.2.2.2; have := h_.1; have := h_.2; omega); replace cF := cF.gr cG (cD.neb (fun g hs => hs.1)); clear cD cG
   have iP := iO.as 9 (.slice eR xs.length eY) (.slice eR (((xs).set (k : Int).toNat 9 : List Int).length) eY) rfl (slice_len (by first | (simp only [List.length_set]; done) | rfl | omega | (simp; done) | (simp; omega)))
   clear iO
   refine At.done rfl ?_
   refine b_n ?_
   refine t_n ?_
   refine At.start ?_
   refine At.rk iP 3 [(18, .int .i64 (k + 1))] (.w 67 (k + 1) <| .n) (fun nH kR => ?_)
   clear iP
   refine At.dn ?_
   exact ⟨_, ω, (k + 1), ((xs).set (k : Int).toNat 9 : List Int), eR, eY, rfl, kR.sb, dJ, dX, eN, dY, dZ, eA, kQ, dK, eB, cE, dL, eC, cF, ω, ω, (by rw [List.length_set]; assumption), ω, ω, ω, ω⟩
  have nI := of_decide_eq_false gA
  refine wp_exit ?_
  refine t_e ?_
  clear hm496
  refine t_e ?_
  refine b_e ?_
  refine t_n ?_
  clear cD
  refine sqs ?_
  refine At.rk fC 2 [(72, .agg #[.slice bR g.ow.length bS, .slice bT g.pr.length bU, .slice bV g.mv.length bW]), (71, .agg #[.slice Ag0 g.ow.length cg0, .slice Ag1 g.pr.length cg1, .slice Ag2 g.mv.length cg2])] (.l (dY.cell (i := 0) rfl) <| .l (dY.cell (i := 1) rfl) <| .l (dY.cell (i := 2) rfl) <| .l (eA.cell (i := 0) rfl) <| .l (eA.cell (i := 1) rfl) <| .l (eA.cell (i := 2) rfl) <| .n) (fun nJ iQ => ?_)
  clear fC
  refine At.cl iQ (some 73) (args := #[.agg #[.slice Ag0 g.ow.length cg0, .slice Ag1 g.pr.length cg1, .slice Ag2 g.mv.length cg2], .agg #[.slice bR g.ow.length bS, .slice bT g.pr.length bU, .slice bV g.mv.length bW]]) ((same_any (a := g) (b := g) (dX.wide (Nat.zero_le _) ω) (dZ.wide (Nat.zero_le _) ω)).mono (R' := fun e w' => e = .returned (.bool true) ∧ Ext _ w') (fun e_ w_ h_ => by rw [show (decide (g = g) : Bool) = true from decide_eq_true rfl] at h_; exact h_)) ?_
  rintro e_ nK ⟨rfl, he⟩
  refine ⟨_, rfl, _, rfl, fun nL iR => ?_⟩
  clear iQ; have cH := gr_ext he; have := cH.size; replace dJ := dJ.gn cH; replace dX := dX.gn cH; replace eN := eN.gn cH; replace dY := dY.gn cH; replace dZ := dZ.gn cH; replace eA := eA.gn cH; replace dK := dK.gn cH; replace eB := eB.gn cH; replace cE := cE.gn cH; replace dL := dL.gn cH; replace eC := eC.gn cH; replace cF := cF.gn cH; clear cH he
  refine At.rk iR 1 [(19, .bool true)] .n (fun nM iS => ?_)
  clear iR
  refine At.dn ?_
  clear dY; clear eA
  refine sqs ?_
  refine At.rk iS 2 [(75, .agg #[.slice dD ((subG g (inT g s)).ow.length) dE, .slice dF ((subG g (inT g s)).pr.length) dG, .slice dH ((subG g (inT g s)).mv.length) dI]), (74, .agg #[.slice cR ((subG g (inT g s)).ow.length) cS, .slice cT ((subG g (inT g s)).pr.length) cU, .slice cV ((subG g (inT g s)).mv.length) cW])] (.l (cE.cell (i := 0) rfl) <| .l (cE.cell (i := 1) rfl) <| .l (cE.cell (i := 2) rfl) <| .l (cF.cell (i := 0) rfl) <| .l (cF.cell (i := 1) rfl) <| .l (cF.cell (i := 2) rfl) <| .n) (fun nN iT => ?_)
  clear iS
  refine At.cl iT (some 76) (args := #[.agg #[.slice cR ((subG g (inT g s)).ow.length) cS, .slice cT ((subG g (inT g s)).pr.length) cU, .slice cV ((subG g (inT g s)).mv.length) cW], .agg #[.slice dD ((subG g (inT g s)).ow.length) dE, .slice dF ((subG g (inT g s)).pr.length) dG, .slice dH ((subG g (inT g s)).mv.length) dI]]) ((same_any (a := (subG g (inT g s))) (b := (subG g (inT g s))) (eB.wide (Nat.zero_le _) ω) (eC.wide (Nat.zero_le _) ω)).mono (R' := fun e w' => e = .returned (.bool true) ∧ Ext _ w') (fun e_ w_ h_ => by rw [show (decide ((subG g (inT g s)) = (subG g (inT g s))) : Bool) = true from decide_eq_true rfl] at h_; exact h_)) ?_
  rintro e_ nO ⟨rfl, he⟩
  refine ⟨_, rfl, _, rfl, fun nP iU => ?_⟩
  clear iT; have cY := gr_ext he; have := cY.size; replace dJ := dJ.gn cY; replace dX := dX.gn cY; replace eN := eN.gn cY; replace dZ := dZ.gn cY; replace dK := dK.gn cY; replace eB := eB.gn cY; replace cE := cE.gn cY; replace dL := dL.gn cY; replace eC := eC.gn cY; replace cF := cF.gn cY; clear cY he
  refine At.rk iU 3 [(79, .slice aZ ((subO g (inT g s)).length) cX), (78, .slice aO ((subO g (inT g s)).length) bP), (77, .bool true)] .n (fun nQ iV => ?_)
  clear iU
  refine At.cl iV (some 80) (args := #[.slice aO ((subO g (inT g s)).length) bP, .slice aZ ((subO g (inT g s)).length) cX]) ((sameInts_any (la := (subO g (inT g s))) (lb := (subO g (inT g s))) (dK.rdI0 (by first | omega | (simp only [List.length_cons, List.length_nil]; omega) | (simp; done) | (simp; omega))) (dL.rdI0 (by first | omega | (simp only [List.length_cons, List.length_nil]; omega) | (simp; done) | (simp; omega)))).mono (R' := fun e w' => e = .returned (.bool true) ∧ Ext _ w') (fun e_ w_ h_ => by rw [show (decide ((subO g (inT g s)) = (subO g (inT g s))) : Bool) = true from decide_eq_true rfl] at h_; exact h_)) ?_
  rintro e_ nR ⟨rfl, he⟩
  refine ⟨_, rfl, _, rfl, fun nS iW => ?_⟩
  clear iV; have cZ := gr_ext he; have := cZ.size; replace dJ := dJ.gn cZ; replace dX := dX.gn cZ; replace eN := eN.gn cZ; replace dZ := dZ.gn cZ; replace dK := dK.gn cZ; replace eB := eB.gn cZ; replace cE := cE.gn cZ; replace dL := dL.gn cZ; replace eC := eC.gn cZ; replace cF := cF.gn cZ; clear cZ he
  refine At.rk iW 7 [(20, .bool true)] (.v 85 (show (.bool ((subB g (inT g s)) == (subB g (inT g s))) : Value) = .bool true from (congrArg Value.bool (beq_self_eq_true _))) <| .n) (fun nT iX => ?_)
  clear iW
  refine At.dn ?_
  clear dK; clear cE; clear dL; clear cF
  refine sqs ?_
  refine At.rk iX 11 [(4, .bool true)] .n (fun nU iY => ?_)
  clear iX
  refine At.dn ?_
  have kS := iY.sb (r := [(4, .bool true)]); clear iY
  refine wp_ret ?_
  refine ret_ kS [] [.bool true] [] κ trivial ?_
  exact ⟨rfl, dJ⟩
 refine OneH.bx fG fU 14 [.slice none 0 0, .slice none 0 0, .slice none 0 0] 25 (fun eZ bO fD kT nV iZ => ?_)
 clear fG; have := bO.size; replace e0 := e0.gn bO; replace r9 := r9.gn bO; replace aA := aA.gn bO; replace bx6 := bx6.gn bO; replace aB := aB.gn bO; replace aC := aC.gn bO; replace aT := aT.gn bO; replace aG := aG.grN bO; replace aH := aH.grN bO; replace aI := aI.grN bO; replace aF := aF.grN bO; replace aE := aE.gn bO; replace aJ := aJ.grN bO; replace aP := aP.gn bO; replace aR := aR.gn bO
 have := fD.lt; clear bO
 refine AtH.all [2] 7 κ (by simp) ⟨?_, trivial⟩
 refine OneH.cl iZ (some 43) (args := #[.agg #[.slice bR g.ow.length bS, .slice bT g.pr.length bU, .slice bV g.mv.length bW], .slice (some ⟨fF.heap.size, 0, none⟩) 256 256]) (subR_any (g := g) (s := s) (aB.wide (Nat.zero_le _) ω) hs (Bx.rdBl aT (by rw [from_len]; omega)) (from_len _).symm) ?_
 rintro e_ eD ⟨dM, dN, dO, dP, dQ, dR, bD, dA, rfl, he, gB, gC, gD, aX⟩
 have hip647 := sub_inner g s; have := sub_lens g (inT g s)
 have dS : RdG eD (eZ.heap.size) eD.heap.size dM dO dQ dN dP dR (subG g (inT g s)) := ⟨(OwnR.rdR gB (by show _ * 8 ≤ _; omega)).rdI, (OwnR.rdR gC (by show _ * 8 ≤ _; omega)).rdI, OwnLLP.rdII gD ω hip647, gB.cap, gC.cap, gD.cap⟩
 replace aX : OwnR eD (Sx (eZ.heap.size) []) bD dA 3 ((subO g (inT g s)) : List Int) := aX.imp (fun g _ hs => hs.2.2.2); clear gB gC gD
 refine ⟨_, rfl, _, rfl, fun nW jA => ?_⟩
 clear iZ; have bE := gr_ext he; have fA := kT.gr bE; have jB := aG.lt; have jC := aH.lt; have jD := aI.lt; have jE := aF.lt; have jF := aJ.lt; have := bE.size; replace e0 := e0.gn bE; replace r9 := r9.gn bE; replace aA := aA.gn bE; replace bx6 := bx6.gn bE; replace aB := aB.gn bE; replace aC := aC.gn bE; replace aT := aT.gn bE
 replace aG : OwnR eD (SxP (fun k_ => (aU.heap.size ≤ k_ ∧ k_ < aK.heap.size) ∧ obk (aD) ≠ some k_) [obk (bD), some (bI.heap.size), some (aQ.heap.size), obk (aO), some (aK.heap.size), obk (aM), obk (aN), obk (aD)]) aL bX 3 ((subG g (inT g s)).ow : List Int) := aG.grA bE (fun _ _ h => by cases h) (fun k hk hs => ⟨(fun e => by have := aX.ge _ e; omega), hs.1, hs.2.1, hs.2.2.1, hs.2.2.2.1, hs.2.2.2.2.1, hs.2.2.2.2.2.1, hs.2.2.2.2.2.2.1, hs.2.2.2.2.2.2.2⟩)
 replace aH : OwnR eD (SxP (fun k_ => (aU.heap.size ≤ k_ ∧ k_ < aK.heap.size) ∧ obk (aD) ≠ some k_) [obk (bD), some (bI.heap.size), some (aQ.heap.size), obk (aO), some (aK.heap.size), obk (aL), obk (aN), obk (aD)]) aM bY 3 ((subG g (inT g s)).pr : List Int) := aH.grA bE (fun _ _ h => by cases h) (fun k hk hs => ⟨(fun e => by have := aX.ge _ e; omega), hs.1, hs.2.1, hs.2.2.1, hs.2.2.2.1, hs.2.2.2.2.1, hs.2.2.2.2.2.1, hs.2.2.2.2.2.2.1, hs.2.2.2.2.2.2.2⟩)
 replace aI : OwnLLP eD (fun k_ => (aU.heap.size ≤ k_ ∧ k_ < aK.heap.size) ∧ obk (aD) ≠ some k_) [obk (bD), some (bI.heap.size), some (aQ.heap.size), obk (aO), some (aK.heap.size), obk (aL), obk (aM), obk (aD)] aN bZ 22 3 ((subG g (inT g s)).mv : List (List Int)) := aI.grA bE (fun _ _ h => by cases h) (fun k hk hs => ⟨(fun e => by have := aX.ge _ e; omega), hs.1, hs.2.1, hs.2.2.1, hs.2.2.2.1, hs.2.2.2.2.1, hs.2.2.2.2.2.1, hs.2.2.2.2.2.2.1, hs.2.2.2.2.2.2.2⟩)
 replace aF : OwnR eD (SxP (fun k_ => aU.heap.size ≤ k_ ∧ k_ < aK.heap.size) [obk (bD), some (bI.heap.size), some (aQ.heap.size), obk (aO), some (aK.heap.size), obk (aL), obk (aM), obk (aN)]) aD bH 3 ((subO g (inT g s)) : List Int) := aF.grA bE (fun _ _ h => by cases h) (fun k hk hs => ⟨(fun e => by have := aX.ge _ e; omega), hs.1, hs.2.1, hs.2.2.1, hs.2.2.2.1, hs.2.2.2.2.1, hs.2.2.2.2.2.1, hs.2.2.2.2.2.2.1, hs.2.2.2.2.2.2.2⟩)
 replace aE := aE.gn bE
 replace aJ : OwnR eD (Sx (cQ.heap.size) [obk (bD), some (bI.heap.size), some (aQ.heap.size), obk (aL), obk (aM), obk (aN), obk (aD)]) aO bP 3 ((subO g (inT g s)) : List Int) := aJ.grA bE (fun _ _ h => by cases h) (fun k hk hs => ⟨(fun e => by have := aX.ge _ e; omega), hs.1, hs.2.1, hs.2.2.1, hs.2.2.2.1, hs.2.2.2.2.1, hs.2.2.2.2.2.1, hs.2.2.2.2.2.2⟩)
 replace aP := aP.gn bE; replace aR := aR.gn bE; replace fD := fD.gn bE
 replace aX : OwnR eD (Sx (eZ.heap.size) [obk (aL), obk (aM), obk (aN), obk (aD), obk (aO)]) bD dA 3 ((subO g (inT g s)) : List Int) := aX.imp (fun g _ hs => ⟨(fun e => by have := jB _ e; have := Sx_base hs; omega), (fun e => by have := jC _ e; have := Sx_base hs; omega), (fun e => by have := jD _ e; have := Sx_base hs; omega), (fun e => by have := jE _ e; have := Sx_base hs; omega), (fun e => by have := jF _ e; have := Sx_base hs; omega), hs⟩)
 clear jB jC jD jE jF; clear bE he
 refine ⟨fA, ?_⟩
 refine AtH.rk fA jA [3] 6 [(40, .tuple #[.agg #[.slice dM ((subG g (inT g s)).ow.length) dN, .slice dO ((subG g (inT g s)).pr.length) dP, .slice dQ ((subG g (inT g s)).mv.length) dR], .slice bD ((subO g (inT g s)).length) dA, .bool (subB g (inT g s))])] .n (fun nX jG => ?_)
 clear jA
 refine AtH.rk fA jG [4] 5 [(44, .agg #[.slice dM ((subG g (inT g s)).ow.length) dN, .slice dO ((subG g (inT g s)).pr.length) dP, .slice dQ ((subG g (inT g s)).mv.length) dR])] .n (fun nY jH => ?_)
 clear jG
 refine AtH.rk fA jH [5] 4 [(45, .slice bD ((subO g (inT g s)).length) dA)] .n (fun nZ jI => ?_)
 clear jH
 refine AtH.rk fA jI [6] 3 [(46, .bool (subB g (inT g s)))] .n (fun oA jJ => ?_)
 clear jI
 refine AtH.all [8] 2 κ (by simp) ⟨?_, trivial⟩
 refine OneH.store jJ (t := 25) (b := bI.heap.size) (off := 0) (v := .agg #[.slice dM ((subG g (inT g s)).ow.length) dN, .slice dO ((subG g (inT g s)).pr.length) dP, .slice dQ ((subG g (inT g s)).mv.length) dR]) _ rfl κ fD κ (fun oB kU aY cP jK => ?_)
 clear jJ
 replace cP : Bx kU (bI.heap.size) [.slice dM ((subG g (inT g s)).ow.length) dN, .slice dO ((subG g (inT g s)).pr.length) dP, .slice dQ ((subG g (inT g s)).mv.length) dR] 25 := cP
 have fI := fA.gr' aY (by rw [eW]; exact ⟨(by simp only [add_block]; omega), (by simp only [add_block]; omega), (by simp only [add_block]; omega), trivial⟩); have := aY.size; replace e0 := e0.gr aY (fun k h => by injection h; omega); replace r9 := r9.gb aY ω; replace aA := aA.gb aY ω; replace bx6 := bx6.gb aY ω; replace aB := aB.gb aY ω; replace aC := aC.gb aY ω; replace aT := aT.gb aY ω
 replace aG := aG.gr aY (fun k hk => hk.2.1); replace aH := aH.gr aY (fun k hk => hk.2.1); replace aI := aI.gr aY (fun k hk => hk.2.1); replace aF := aF.gr aY (fun k hk => hk.2.1); replace aE := aE.gb aY ω; replace aJ := aJ.gr aY (fun k hk => hk.2.1); replace aP := aP.gb aY ω; replace aR := aR.gb aY ω; replace aX := aX.gr aY (fun k hk e => by have := Sx_base hk; injection e; omega)
 replace dS := dS.gb aY ω; clear fD aY
 refine ⟨fI, ?_⟩
 refine AtH.rk fI jK [9] 1 [(15, .slice bD ((subO g (inT g s)).length) dA)] .n (fun oC jL => ?_)
 clear jK
 refine AtH.rk fI jL [10] 0 [(16, .bool (subB g (inT g s)))] .n (fun oD jM => ?_)
 clear jL
 refine AtH.done κ ?_
 clear fI
 refine t_n ?_
 clear aT
 have jN := jM.sb (r := [(16, .bool (subB g (inT g s))), (15, .slice bD ((subO g (inT g s)).length) dA), (14, pt bI.heap.size 0), (13, .bool (subB g (inT g s))), (12, .slice aO ((subO g (inT g s)).length) bP), (11, pt aQ.heap.size 0), (10, .bool (subB g (inT g s))), (9, .slice aD ((subO g (inT g s)).length) bH), (8, pt aK.heap.size 0), (6, pt bQ.heap.size 0), (5, .bool true), (4, .bool false), (2, pt w.heap.size 0)])
 clear jM
 refine sqs ?_
 refine At.rk jN 2 [(48, .agg #[.slice dM ((subG g (inT g s)).ow.length) dN, .slice dO ((subG g (inT g s)).pr.length) dP, .slice dQ ((subG g (inT g s)).mv.length) dR]), (47, .agg #[.slice aL ((subG g (inT g s)).ow.length) bX, .slice aM ((subG g (inT g s)).pr.length) bY, .slice aN ((subG g (inT g s)).mv.length) bZ])] (.l (aE.cell (i := 0) rfl) <| .l (aE.cell (i := 1) rfl) <| .l (aE.cell (i := 2) rfl) <| .l (cP.cell (i := 0) rfl) <| .l (cP.cell (i := 1) rfl) <| .l (cP.cell (i := 2) rfl) <| .n) (fun oE jO => ?_)
 clear jN
 refine At.cl jO (some 49) (args := #[.agg #[.slice aL ((subG g (inT g s)).ow.length) bX, .slice aM ((subG g (inT g s)).pr.length) bY, .slice aN ((subG g (inT g s)).mv.length) bZ], .agg #[.slice dM ((subG g (inT g s)).ow.length) dN, .slice dO ((subG g (inT g s)).pr.length) dP, .slice dQ ((subG g (inT g s)).mv.length) dR]]) ((same_any (a := (subG g (inT g s))) (b := (subG g (inT g s))) (RdG.mk (G := (subG g (inT g s))) (aG.rdIA (by first | omega | (simp only [List.length_cons, List.length_nil]; omega) | (simp; done) | (simp; omega))) (aH.rdIA (by first | omega | (simp only [List.length_cons, List.length_nil]; omega) | (simp; done) | (simp; omega))) (aI.rdIIA (by first | omega | (simp only [List.length_cons, List.length_nil]; omega) | (simp; done) | (simp; omega)) hip142) aG.cap aH.cap aI.cap) (dS.wide (Nat.zero_le _) ω)).mono (R' := fun e w' => e = .returned (.bool true) ∧ Ext _ w') (fun e_ w_ h_ => by rw [show (decide ((subG g (inT g s)) = (subG g (inT g s))) : Bool) = true from decide_eq_true rfl] at h_; exact h_)) ?_
 rintro e_ oF ⟨rfl, he⟩
 refine ⟨_, rfl, _, rfl, fun oG jP => ?_⟩
 clear jO; have bF := gr_ext he; have := bF.size; replace e0 := e0.gn bF; replace r9 := r9.gn bF; replace aA := aA.gn bF; replace bx6 := bx6.gn bF; replace aB := aB.gn bF; replace aC := aC.gn bF; replace aG := aG.gn bF; replace aH := aH.gn bF; replace aI := aI.gn bF; replace aF := aF.gn bF; replace aE := aE.gn bF; replace aJ := aJ.gn bF; replace aP := aP.gn bF; replace aR := aR.gn bF
 replace cP := cP.gn bF; replace aX := aX.gn bF; replace dS := dS.gn bF; clear bF he
 refine At.rk jP 3 [(52, .slice bD ((subO g (inT g s)).length) dA), (51, .slice aD ((subO g (inT g s)).length) bH), (50, .bool true)] .n (fun oH jQ => ?_)
 clear jP
 refine At.cl jQ (some 53) (args := #[.slice aD ((subO g (inT g s)).length) bH, .slice bD ((subO g (inT g s)).length) dA]) ((sameInts_any (la := (subO g (inT g s))) (lb := (subO g (inT g s))) (aF.rdIA (by first | omega | (simp only [List.length_cons, List.length_nil]; omega) | (simp; done) | (simp; omega))) (aX.rdI0 (by first | omega | (simp only [List.length_cons, List.length_nil]; omega) | (simp; done) | (simp; omega)))).mono (R' := fun e w' => e = .returned (.bool true) ∧ Ext _ w') (fun e_ w_ h_ => by rw [show (decide ((subO g (inT g s)) = (subO g (inT g s))) : Bool) = true from decide_eq_true rfl] at h_; exact h_)) ?_
 rintro e_ gE ⟨rfl, he⟩
 refine ⟨_, rfl, _, rfl, fun oI jR => ?_⟩
 clear jQ; have bG := gr_ext he; have := bG.size; replace e0 := e0.gn bG; replace r9 := r9.gn bG; replace aA := aA.gn bG; replace bx6 := bx6.gn bG; replace aB := aB.gn bG; replace aC := aC.gn bG; replace aG := aG.gn bG; replace aH := aH.gn bG; replace aI := aI.gn bG; replace aF := aF.gn bG; replace aE := aE.gn bG; replace aJ := aJ.gn bG; replace aP := aP.gn bG; replace aR := aR.gn bG
 replace cP := cP.gn bG; replace aX := aX.gn bG; replace dS := dS.gn bG; clear bG he
 refine At.rk jR 7 [(17, .bool true)] (.v 58 (show (.bool ((subB g (inT g s)) == (subB g (inT g s))) : Value) = .bool true from (congrArg Value.bool (beq_self_eq_true _))) <| .n) (fun oJ jS => ?_)
 clear jR
 refine At.dn ?_
 refine sqs ?_
 refine At.rk jS 1 [(60, .agg #[.slice aL ((subG g (inT g s)).ow.length) bX, .slice aM ((subG g (inT g s)).pr.length) bY, .slice aN ((subG g (inT g s)).mv.length) bZ])] (.l (aE.cell (i := 0) rfl) <| .l (aE.cell (i := 1) rfl) <| .l (aE.cell (i := 2) rfl) <| .n) (fun oK jT => ?_)
 clear jS
 refine At.cl jT (some 61) (args := #[.agg #[.slice aL ((subG g (inT g s)).ow.length) bX, .slice aM ((subG g (inT g s)).pr.length) bY, .slice aN ((subG g (inT g s)).mv.length) bZ]]) (full09_any (T := fun k_ => (aU.heap.size ≤ k_ ∧ k_ < aK.heap.size) ∧ obk (aD) ≠ some k_) (aG.toP (n := gE.heap.size) (os := [obk (aM), obk (aN)]) (fun g hg hs => ⟨hs.2.2.2.2.2.1, hs.2.2.2.2.2.2.1, hs.2.2.2.2.2.2.2.2⟩)) (aH.toP (n := gE.heap.size) (os := [obk (aL), obk (aN)]) (fun g hg hs => ⟨hs.2.2.2.2.2.1, hs.2.2.2.2.2.2.1, hs.2.2.2.2.2.2.2.2⟩)) (aI.toP (n := gE.heap.size) (os := [obk (aL), obk (aM)]) (fun g hg hs => ⟨hs.2.2.2.2.2.1, hs.2.2.2.2.2.2.1, hs.2.2.2.2.2.2.2.2⟩)) ω ω ω hip142) ?_
 rintro e_ kV ⟨rfl, het762⟩
 refine ⟨_, rfl, _, rfl, fun oL jU => ?_⟩
 clear jT; have := het762.size; replace e0 := e0.tch het762 (fun k hk => by have := hk.1.1; omega); replace r9 := r9.tch het762 (fun k hk => by have := hk.1; omega); replace aA := aA.tch het762 (fun k hk => by have := hk.1; omega); replace bx6 := bx6.tch het762 (fun h_ => by have := h_.1; omega); replace aB := aB.tch het762 (fun k hk => by have := hk.1; omega)
 replace aC := aC.tch het762 (fun h_ => by have := h_.1; omega); clear aG; clear aH; clear aI; replace aF := aF.tch het762 (fun k hk e_ h_ => h_.2 e_); replace aE := aE.tch het762 (fun h_ => by have := h_.1; omega); replace aJ := aJ.tch het762 (fun k hk e_ h_ => by have h1_ := Sx_base hk; have h2_ := h_.1; omega); replace aP := aP.tch het762 (fun k hk => by have := hk.1; omega)
 replace aR := aR.tch het762 (fun h_ => by have := h_.1; omega); replace cP := cP.tch het762 (fun h_ => by have := h_.1; omega); replace aX := aX.tch het762 (fun k hk e_ h_ => by have h1_ := Sx_base hk; have h2_ := h_.1; omega); replace dS := dS.tch het762 (fun k hk => by have := hk.1; omega); clear het762
 refine At.dn ?_
 clear aE
 refine wp_seq ?_
 refine sqs ?_
 refine At.rk jU 1 [(18, .int .i64 (0))] .n (fun oM jV => ?_)
 clear jU
 refine At.dn ?_
 refine wp_block ?_
 have jW := jV.as 9 (.slice aD ((subO g (inT g s)).length) bH) (.slice aD (((subO g (inT g s)) : List Int).length) bH) rfl (slice_len (by first | rfl | omega | (simp; done) | (simp; omega)))
 clear jV
 refine loop_g (fun (m_ : Nat) a_ w_ => ∃ (k : Int) (xs : List Int) (eS : Option Addr) (fB : Nat), m_ = ((xs.length : Int) - k).toNat ∧ (Frm 97 a_ [(18, .int .i64 (k)), (17, .bool true), (16, .bool (subB g (inT g s))), (15, .slice bD ((subO g (inT g s)).length) dA), (14, pt bI.heap.size 0), (13, .bool (subB g (inT g s))), (12, .slice aO ((subO g (inT g s)).length) bP), (11, pt aQ.heap.size 0), (9, .slice eS xs.length fB), (6, pt bQ.heap.size 0), (5, .bool true), (4, .bool false), (2, pt w.heap.size 0)]) ∧ (Ext w w_) ∧ (RdG w_ 0 w.heap.size Ag0 Ag1 Ag2 cg0 cg1 cg2 g) ∧ (RdT w_ 0 w.heap.size) ∧ (Bx w_ (w.heap.size) [.slice Ag0 g.ow.length cg0, .slice Ag1 g.pr.length cg1, .slice Ag2 g.mv.length cg2] 25) ∧ (RdG w_ (fJ.heap.size) bQ.heap.size bR bT bV bS bU bW g) ∧ (Bx w_ (bQ.heap.size) [.slice bR g.ow.length bS, .slice bT g.pr.length bU, .slice bV g.mv.length bW] 25) ∧ (OwnR w_ (SxP (fun k_ => aU.heap.size ≤ k_ ∧ k_ < aK.heap.size) [obk (bD), some (bI.heap.size), some (aQ.heap.size), obk (aO)]) eS fB 3 (xs : List Int)) ∧ (OwnR w_ (Sx (cQ.heap.size) [obk (bD), some (bI.heap.size), some (aQ.heap.size), obk (eS)]) aO bP 3 ((subO g (inT g s)) : List Int)) ∧ (RdG w_ (cQ.heap.size) aQ.heap.size cR cT cV cS cU cW (subG g (inT g s))) ∧ (Bx w_ (aQ.heap.size) [.slice cR ((subG g (inT g s)).ow.length) cS, .slice cT ((subG g (inT g s)).pr.length) cU, .slice cV ((subG g (inT g s)).mv.length) cW] 25) ∧ (Bx w_ (bI.heap.size) [.slice dM ((subG g (inT g s)).ow.length) dN, .slice dO ((subG g (inT g s)).pr.length) dP, .slice dQ ((subG g (inT g s)).mv.length) dR] 25) ∧ (OwnR w_ (Sx (eZ.heap.size) [obk (eS), obk (aO)]) bD dA 3 ((subO g (inT g s)) : List Int)) ∧ (RdG w_ (eZ.heap.size) eD.heap.size dM dO dQ dN dP dR (subG g (inT g s))) ∧ (0 ≤ k) ∧ (k ≤ (xs.length : Int)) ∧ (xs.length ≤ 256) ∧ (aU.heap.size ≤ w_.heap.size) ∧ (cQ.heap.size ≤ w_.heap.size) ∧ (eZ.heap.size ≤ w_.heap.size) ∧ (kV.heap.size ≤ w_.heap.size)) _ ⟨0, ((subO g (inT g s)) : List Int), aD, bH, rfl, jW.sb, e0, r9, aA, bx6, aB, aC, (aF.imp (fun g _ hs => ⟨hs.1, hs.2.1, hs.2.2.1, hs.2.2.2.1, hs.2.2.2.2.2.2.2.2⟩)), (aJ.imp (fun g _ hs => ⟨hs.1, hs.2.1, hs.2.2.1, hs.2.2.2.2.2.2.1, hs.2.2.2.2.2.2.2⟩)), aP, aR, cP, (aX.imp (fun g _ hs => ⟨hs.2.2.2.1, hs.2.2.2.2.1, hs.2.2.2.2.2⟩)), dS, ω, (Int.natCast_nonneg _), ω, ω, ω, ω, ω⟩ ?_
 clear jW; clear r9; clear aA; clear bx6; clear aB; clear aC; clear aF; clear aJ; clear aP; clear aR; clear cP; clear aX; clear dS; clear e0
 intro m_ oN oO ⟨k, xs, eS, fB, hm790, jX, dT, eE, eO, eF, eG, eH, cI, dU, eI, cJ, cK, dV, eJ, i804, i805, i806, i807, i808, i809, i810⟩
 have := dT.size; have := eF.lt; have := eH.lt; have := cJ.lt; have := cK.lt
 refine wp_seq ?_
 refine sqs ?_
 refine At.rk jX 4 [(65, .bool (decide ((k : Int) < ((xs.length : Nat) : Int))))] .n (fun oP fE => ?_)
 clear jX
 refine At.dn ?_
 refine cond_S fE (t := decide ((k : Int) < ((xs.length : Nat) : Int))) rfl (fun gF => ?_) (fun gF => ?_)
 ·have oQ := of_decide_eq_true gF
  refine wp_skip ?_
  refine t_n ?_
  refine wp_seq ?_
  refine wp_block ?_
  refine At.start ?_
  obtain ⟨jY, jZ, oR, oS, oT⟩ := cI.get (k) ω ω (sz := 1) rfl
  refine At.rk fE 3 [(70, .pointer (some (jY.add ((k : Int).toNat * 1))))] (.a k xs.length jZ <| .n) (fun oU kA => ?_)
  clear fE
  refine At.act kA (storeR (α := Int) (t := 3) (i := k) (ad := jY) (v := .int .i64 (9)) (9) κ rfl rfl κ jZ cI ω ω) ?_
  rintro d_ v_ oV ⟨rfl, cL, kW⟩
  refine ⟨_, rfl, fun oW kB => ?_⟩
  clear kA; have oX : ((xs).set (k : Int).toNat 9).length = (xs).length := List.length_set; have := cL.size; replace dT := dT.gr cL (fun k hk => by have h_ := (cI.inS k hk).2.2.2.2; have := h_.1; have := h_.2; omega); replace eE := eE.gr cL (fun k hk => by have h_ := (cI.inS k hk).2.2.2.2; have := h_.1; have := h_.2; omega)
  replace eO := eO.gr cL (fun k hk => by have h_ := (cI.inS k hk).2.2.2.2; have := h_.1; have := h_.2; omega); replace eF := eF.gr cL (fun e => by have h_ := (cI.inS _ e).2.2.2.2; have := h_.1; have := h_.2; omega); replace eG := eG.gr cL (fun k hk => by have h_ := (cI.inS k hk).2.2.2.2; have := h_.1; have := h_.2; omega)
  replace eH := eH.gr cL (fun e => by have h_ := (cI.inS _ e).2.2.2.2; have := h_.1; have := h_.2; omega); replace dU := dU.gr cL (fun k hk => hk.2.2.2.1); replace eI := eI.gr cL (fun k hk => by have h_ := (cI.inS k hk).2.2.2.2; have := h_.1; have := h_.2; omega); replace cJ := cJ.gr cL (cI.neb (fun g hs => hs.2.2.1)); replace cK := cK.gr cL (cI.neb (fun g hs => hs.2.1))
  replace dV := dV.gr cL (fun k hk => hk.1); replace eJ := eJ.gr cL (fun k hk => by have h_ := (cI.inS k hk).2.2.2.2; have := h_.1; have := h_.2; omega); clear cI cL
  have kC := kB.as 9 (.slice eS xs.length fB) (.slice eS (((xs).set (k : Int).toNat 9 : List Int).length) fB) rfl (slice_len (by first | (simp only [List.length_set]; done) | rfl | omega | (simp; done) | (simp; omega)))
  clear kB
  refine At.done rfl ?_
  refine b_n ?_
  refine t_n ?_
  refine At.start ?_
  refine At.rk kC 3 [(18, .int .i64 (k + 1))] (.w 67 (k + 1) <| .n) (fun oY kX => ?_)
  clear kC
  refine At.dn ?_
  exact ⟨_, ω, (k + 1), ((xs).set (k : Int).toNat 9 : List Int), eS, fB, rfl, kX.sb, dT, eE, eO, eF, eG, eH, kW, dU, eI, cJ, cK, dV, eJ, ω, ω, (by rw [List.length_set]; assumption), ω, ω, ω, ω⟩
 have oZ := of_decide_eq_false gF
 refine wp_exit ?_
 refine t_e ?_
 clear hm790
 refine t_e ?_
 refine b_e ?_
 refine t_n ?_
 clear cI
 refine sqs ?_
 refine At.rk fE 2 [(72, .agg #[.slice bR g.ow.length bS, .slice bT g.pr.length bU, .slice bV g.mv.length bW]), (71, .agg #[.slice Ag0 g.ow.length cg0, .slice Ag1 g.pr.length cg1, .slice Ag2 g.mv.length cg2])] (.l (eF.cell (i := 0) rfl) <| .l (eF.cell (i := 1) rfl) <| .l (eF.cell (i := 2) rfl) <| .l (eH.cell (i := 0) rfl) <| .l (eH.cell (i := 1) rfl) <| .l (eH.cell (i := 2) rfl) <| .n) (fun pA kD => ?_)
 clear fE
 refine At.cl kD (some 73) (args := #[.agg #[.slice Ag0 g.ow.length cg0, .slice Ag1 g.pr.length cg1, .slice Ag2 g.mv.length cg2], .agg #[.slice bR g.ow.length bS, .slice bT g.pr.length bU, .slice bV g.mv.length bW]]) ((same_any (a := g) (b := g) (eE.wide (Nat.zero_le _) ω) (eG.wide (Nat.zero_le _) ω)).mono (R' := fun e w' => e = .returned (.bool true) ∧ Ext _ w') (fun e_ w_ h_ => by rw [show (decide (g = g) : Bool) = true from decide_eq_true rfl] at h_; exact h_)) ?_
 rintro e_ pB ⟨rfl, he⟩
 refine ⟨_, rfl, _, rfl, fun pC kE => ?_⟩
 clear kD; have cM := gr_ext he; have := cM.size; replace dT := dT.gn cM; replace eE := eE.gn cM; replace eO := eO.gn cM; replace eF := eF.gn cM; replace eG := eG.gn cM; replace eH := eH.gn cM; replace dU := dU.gn cM; replace eI := eI.gn cM; replace cJ := cJ.gn cM; replace cK := cK.gn cM; replace dV := dV.gn cM; replace eJ := eJ.gn cM; clear cM he
 refine At.rk kE 1 [(19, .bool true)] .n (fun pD kF => ?_)
 clear kE
 refine At.dn ?_
 clear eF; clear eH
 refine sqs ?_
 refine At.rk kF 2 [(75, .agg #[.slice dM ((subG g (inT g s)).ow.length) dN, .slice dO ((subG g (inT g s)).pr.length) dP, .slice dQ ((subG g (inT g s)).mv.length) dR]), (74, .agg #[.slice cR ((subG g (inT g s)).ow.length) cS, .slice cT ((subG g (inT g s)).pr.length) cU, .slice cV ((subG g (inT g s)).mv.length) cW])] (.l (cJ.cell (i := 0) rfl) <| .l (cJ.cell (i := 1) rfl) <| .l (cJ.cell (i := 2) rfl) <| .l (cK.cell (i := 0) rfl) <| .l (cK.cell (i := 1) rfl) <| .l (cK.cell (i := 2) rfl) <| .n) (fun pE kG => ?_)
 clear kF
 refine At.cl kG (some 76) (args := #[.agg #[.slice cR ((subG g (inT g s)).ow.length) cS, .slice cT ((subG g (inT g s)).pr.length) cU, .slice cV ((subG g (inT g s)).mv.length) cW], .agg #[.slice dM ((subG g (inT g s)).ow.length) dN, .slice dO ((subG g (inT g s)).pr.length) dP, .slice dQ ((subG g (inT g s)).mv.length) dR]]) ((same_any (a := (subG g (inT g s))) (b := (subG g (inT g s))) (eI.wide (Nat.zero_le _) ω) (eJ.wide (Nat.zero_le _) ω)).mono (R' := fun e w' => e = .returned (.bool true) ∧ Ext _ w') (fun e_ w_ h_ => by rw [show (decide ((subG g (inT g s)) = (subG g (inT g s))) : Bool) = true from decide_eq_true rfl] at h_; exact h_)) ?_
 rintro e_ pF ⟨rfl, he⟩
 refine ⟨_, rfl, _, rfl, fun pG kH => ?_⟩
 clear kG; have dB := gr_ext he; have := dB.size; replace dT := dT.gn dB; replace eE := eE.gn dB; replace eO := eO.gn dB; replace eG := eG.gn dB; replace dU := dU.gn dB; replace eI := eI.gn dB; replace cJ := cJ.gn dB; replace cK := cK.gn dB; replace dV := dV.gn dB; replace eJ := eJ.gn dB; clear dB he
 refine At.rk kH 3 [(79, .slice bD ((subO g (inT g s)).length) dA), (78, .slice aO ((subO g (inT g s)).length) bP), (77, .bool true)] .n (fun pH kI => ?_)
 clear kH
 refine At.cl kI (some 80) (args := #[.slice aO ((subO g (inT g s)).length) bP, .slice bD ((subO g (inT g s)).length) dA]) ((sameInts_any (la := (subO g (inT g s))) (lb := (subO g (inT g s))) (dU.rdI0 (by first | omega | (simp only [List.length_cons, List.length_nil]; omega) | (simp; done) | (simp; omega))) (dV.rdI0 (by first | omega | (simp only [List.length_cons, List.length_nil]; omega) | (simp; done) | (simp; omega)))).mono (R' := fun e w' => e = .returned (.bool true) ∧ Ext _ w') (fun e_ w_ h_ => by rw [show (decide ((subO g (inT g s)) = (subO g (inT g s))) : Bool) = true from decide_eq_true rfl] at h_; exact h_)) ?_
 rintro e_ pI ⟨rfl, he⟩
 refine ⟨_, rfl, _, rfl, fun pJ kJ => ?_⟩
 clear kI; have dC := gr_ext he; have := dC.size; replace dT := dT.gn dC; replace eE := eE.gn dC; replace eO := eO.gn dC; replace eG := eG.gn dC; replace dU := dU.gn dC; replace eI := eI.gn dC; replace cJ := cJ.gn dC; replace cK := cK.gn dC; replace dV := dV.gn dC; replace eJ := eJ.gn dC; clear dC he
 refine At.rk kJ 7 [(20, .bool true)] (.v 85 (show (.bool ((subB g (inT g s)) == (subB g (inT g s))) : Value) = .bool true from (congrArg Value.bool (beq_self_eq_true _))) <| .n) (fun pK kK => ?_)
 clear kJ
 refine At.dn ?_
 clear dU; clear cJ; clear cK; clear dV
 refine sqs ?_
 refine At.rk kK 11 [(4, .bool true)] .n (fun pL kL => ?_)
 clear kK
 refine At.dn ?_
 have kY := kL.sb (r := [(4, .bool true)]); clear kL
 refine wp_ret ?_
 refine ret_ kY [] [.bool true] [] κ trivial ?_
 exact ⟨rfl, dT⟩
end Go.Proofs.YtkkophhnliplhaaDoor
namespace Go.Proofs.YtkkophhnliplhaaDoor
open Go Go.RowKit Go.ChangeShapes Go.WideShapes Go.ChangeAt
section
variable {H : Type} {enc : TypeId × Value → H} {P : Program} {W W' : World}
theorem trodAll_stays (hl : laidOutB P = true) {sp : Nat → Bool} (hb : Below W.heap.size W W') : ∀ {ts : List TypeId} {vs : List Value} {ds : List (DataW H)} {ps : List MemPlace}, (∀ t ∈ ts, P.readableRec t = true ∧ t < P.types.size) →
    DataW.TrodAll enc P W 0 (fun _ => true) true ts vs ds ps → (∀ p ∈ ps, p.block < W.heap.size) → (∀ p ∈ ps, sp p.block = true) → DataW.TrodAll enc P W' 0 sp true ts vs ds ps
  | [], [], [], _, _, h, _, _ => h
  | _ :: _, _ :: _, _ :: _, _, hT, ⟨p, q, h1, h2, e⟩, hlt, hs => ⟨p, q, WideElems.Trod_stays hl (hT _ List.mem_cons_self).1 (hT _ List.mem_cons_self).2 h1 (fun x hx => hb.same (hlt x (by rw [e]; exact List.mem_append_left _ hx))) (fun x hx => hs x (by rw [e]; exact List.mem_append_left _ hx)),
      trodAll_stays hl hb (fun t ht => hT t (List.mem_cons_of_mem _ ht)) h2 (fun x hx => hlt x (by rw [e]; exact List.mem_append_right _ hx)) (fun x hx => hs x (by rw [e]; exact List.mem_append_right _ hx)), e⟩
theorem trodAll_len {w : World} {b : Nat} {sp : Nat → Bool} {hd : Bool} : ∀ {ts : List TypeId} {vs : List Value} {ds : List (DataW H)} {ps : List MemPlace}, DataW.TrodAll enc P w b sp hd ts vs ds ps → ds.length = ts.length
  | [], [], [], _, _ => rfl
  | _ :: _, _ :: _, _ :: _, _, ⟨_, _, _, h2, _⟩ => by simp [trodAll_len h2]
theorem law_post {f : Func} {s : ChangeSpec} {args : Array Value} {ds gs : List (DataW H)} {before : List MemPlace} (hl : laidOutB P = true) (hT : ∀ t ∈ f.params.toList, P.readableRec t = true ∧ t < P.types.size)
    (hv : s.vars = []) (hs : ∀ l : List (DataW H), l.length = f.params.size → s.fn H l = { results := [.lit (.bool true)], args := l }) {tb : TypeId} (hr : f.resultTypes = #[tb]) (htb : P.underlying tb = some .bool)
    (hW : DataW.Whole enc P f.params.toList s.vars false W args.toList ds gs before) (hE : Ext W W') :
    s.post enc P f false true false false W args (.bool true) W' := by
  have hW' := hW
  obtain ⟨p, q, hA, hV, rfl, hfz, hnd⟩ := hW
  rw [hv] at hV
  obtain ⟨rfl, rfl⟩ := trodVars_none hV
  have hlen : ds.length = f.params.size := by have := trodAll_len hA; simpa using this
  have hlt : ∀ x ∈ p, x.block < W.heap.size := fun x hx => by
    have := DataW.TrodAll.lt hA x hx
    exact this
  have e := hs (ds ++ []) (by simpa using hlen)
  refine ⟨ds, [], p ++ [], [], p, [], hW', ?_, ?_, ?_, Below.frame hE _, fun h => by cases h⟩
  · rw [e, hr]
    exact trodAll_cons_mk (shut_bool htb true) trodAll_mk0
  · rw [e]
    simp only [List.append_nil]
    exact trodAll_stays hl hE hT hA hlt (fun x hx => by simpa using hlt x hx)
  · rw [e, hv]
    rfl
def Fits (P : Program) (t : TypeId) (d : DataW H) : Prop := ∀ x ∈ d.weights P t, x ≤ reachBytes
theorem fits_each {t : TypeId} {ts : List TypeId} {d : DataW H} {ds : List (DataW H)} (h : ∀ x ∈ DataW.weightsEach P (t :: ts) (d :: ds), x ≤ reachBytes) : Fits P t d ∧ ∀ x ∈ DataW.weightsEach P ts ds, x ≤ reachBytes := by
  simp only [DataW.weightsEach, List.mem_append] at h
  exact ⟨fun x hx => h x (.inl hx), fun x hx => h x (.inr hx)⟩
theorem fits_all {e : TypeId} : ∀ {l : List (DataW H)}, (∀ x ∈ DataW.weightsAll P e l, x ≤ reachBytes) → ∀ d ∈ l, Fits P e d
  | [], _, _, hd => by cases hd
  | d :: r, h, d', hd => by
    simp only [DataW.weightsAll, List.mem_append] at h
    rcases List.mem_cons.1 hd with rfl | hd
    · exact fun x hx => h x (.inl hx)
    · exact fits_all (fun x hx => h x (.inr hx)) d' hd
theorem fits_slice {t e : TypeId} {el sp : List (DataW H)} (ht : P.underlying t = some (.slice e)) (h : Fits P t (.slice el sp)) : (el.length + sp.length) * P.bytesOf e ≤ reachBytes ∧ ∀ d ∈ el, Fits P e d := by
  simp only [Fits, DataW.weights, ht, List.mem_cons, List.mem_append] at h
  exact ⟨h _ (.inl rfl), fits_all (fun x hx => h x (.inr (.inl hx)))⟩
theorem fits_struct {t : TypeId} {fs : Array Field} {ps : List (DataW H)} (ht : P.underlying t = some (.struct fs)) (h : Fits P t (.agg ps)) : ∀ x ∈ DataW.weightsEach P (fs.toList.map (·.type)) ps, x ≤ reachBytes := by
  simp only [Fits, DataW.weights, ht] at h
  exact h
def I64 (z : Int) : Prop := -9223372036854775808 ≤ z ∧ z ≤ 9223372036854775807
theorem getD_take {l : List Int} {n i : Nat} (h : i < n) : (l.take n).getD i 0 = l.getD i 0 := by
  simp only [List.getD_eq_getElem?_getD, List.getElem?_take, if_pos h]
theorem bulk_one (d : DataW H) : 1 ≤ Rows.uptoBulk d := by
  cases d with
  | lit l => cases l <;> simp [Rows.uptoBulk]
  | _ => simp [Rows.uptoBulk]
theorem bulk_len : ∀ l : List (DataW H), l.length ≤ Rows.uptoBulkAll l
  | [] => Nat.zero_le _
  | x :: r => by
    have := bulk_one x
    have := bulk_len r
    simp only [Rows.uptoBulkAll, List.length_cons]
    omega
theorem bulk_slice (el sp : List (DataW H)) : el.length ≤ Rows.uptoBulk (.slice el sp) := by
  have := bulk_len el
  simp only [Rows.uptoBulk]
  omega
theorem openI {t e : TypeId} (ht : P.underlying t = some (.slice e)) (he : P.underlying e = some (.int .i64)) (hc : P.cellsOf e = 1) (hb : P.bytesOf e = 8) {n : Nat} {cs : List Value} {x : DataW H × List MemPlace}
    (h : DataW.trod enc P W 0 (fun _ => true) true n t cs = some x) (hf : Fits P t x.1) : ∃ A l c, cs = [.slice A l.length c] ∧ l.length ≤ c ∧ RdI W 0 W.heap.size A l ∧ (∀ z ∈ l, I64 z) ∧ l.length ≤ Rows.uptoBulk x.1 := by
  rcases open_ints ht he hc h with ⟨rfl, rfl⟩ | ⟨a, len, cap, zs, rfl, _, hle, hm, hz, rfl, hcell, hw⟩
  · exact ⟨none, [], 0, rfl, Nat.le_refl _, rdI_nil, (fun z hz => by cases hz), Nat.zero_le _⟩
  · simp only [if_true] at hz
    have h1 := (fits_slice ht hf).1
    rw [hb] at h1
    simp only [lits, List.length_map, List.length_take, List.length_drop, reachBytes] at h1
    have hlen : (zs.take len).length = len := by rw [List.length_take]; omega
    refine ⟨some a, zs.take len, cap, by rw [hlen], by omega, ⟨by omega, fun i q hi hq => ?_⟩, fun z hz' => ?_, ?_⟩
    · obtain rfl : q = 0 := by omega
      have hc' := hcell i (by omega)
      refine ⟨a, rfl, Nat.zero_le _, ?_, ?_⟩
      · have := World.block_lt_of_cell? _ _ hc'
        rwa [add_block] at this
      · rw [add_zero, Nat.mul_one, hc']
        show some _ = some (Value.int .i64 ((zs.take len).getD i 0))
        rw [getD_take (by omega)]
    · have := bounds_i64 (hw z (List.mem_of_mem_take hz'))
      exact this
    · have := bulk_slice (H := H) (lits .i64 (zs.take len)) (lits .i64 (zs.drop len))
      simpa [lits] using this
theorem openII {t e q : TypeId} (ht : P.underlying t = some (.slice e)) (he : P.underlying e = some (.slice q)) (hq : P.underlying q = some (.int .i64)) (ce : P.cellsOf e = 1) (cq : P.cellsOf q = 1) (be : P.bytesOf e = 24) (bq : P.bytesOf q = 8) {n : Nat} {cs : List Value} {x : DataW H × List MemPlace}
    (h : DataW.trod enc P W 0 (fun _ => true) true n t cs = some x) (hf : Fits P t x.1) : ∃ A l c, cs = [.slice A l.length c] ∧ l.length ≤ c ∧ RdII W 0 W.heap.size A l ∧ (∀ r ∈ l, ∀ z ∈ r, I64 z) ∧ l.length ≤ Rows.uptoBulk x.1 := by
  rcases Go.Deep.open_slice1 ht ce h with ⟨rfl, rfl⟩ | ⟨a, len, cap, m, n', V, D, Pl, rfl, _, hle, hm, hmm, rfl, hx⟩
  · exact ⟨none, [], 0, rfl, Nat.le_refl _, rdII_nil, (fun z hz => by cases hz), Nat.zero_le _⟩
  · simp only [if_true] at hmm
    subst hmm
    obtain ⟨h1, h2⟩ := fits_slice ht hf
    rw [be] at h1
    simp only [List.length_map, List.length_range, reachBytes] at h1
    have each : ∀ r, r < len → ∃ y : Option Addr × List Int × Nat, V r = .slice y.1 y.2.1.length y.2.2 ∧ y.2.1.length ≤ y.2.2 ∧ RdI W 0 W.heap.size y.1 y.2.1 ∧ ∀ z ∈ y.2.1, I64 z := fun r hr => by
      obtain ⟨A, l, c, e1, e2, e3, e4, _⟩ := openI he hq cq bq (hx r (by omega)).2 (h2 (D r) (List.mem_map.2 ⟨r, by simpa using hr, rfl⟩))
      exact ⟨(A, l, c), by simpa using e1, e2, e3, e4⟩
    obtain ⟨y, hy⟩ := Go.Deep.choose_lt each
    have hget : ∀ i, i < len → ((List.range len).map fun r => (y r).2.1).getD i [] = (y i).2.1 := fun i hi => by
      simp only [List.getD_eq_getElem?_getD, List.getElem?_map, List.getElem?_range hi, Option.map_some, Option.getD_some]
    refine ⟨some a, (List.range len).map fun r => (y r).2.1, m, by simp, by simpa using hle, ⟨by simp; omega, fun r => (y r).1, fun r => (y r).2.2, fun i q hi hq => ?_, fun i hi => ?_⟩, fun r hr => ?_, ?_⟩
    · obtain rfl : q = 0 := by omega
      simp only [List.length_map, List.length_range] at hi
      have hc' := (hx i (by omega)).1
      refine ⟨a, rfl, Nat.zero_le _, ?_, ?_⟩
      · have := World.block_lt_of_cell? _ _ hc'
        rwa [add_block] at this
      · rw [add_zero, Nat.mul_one, hc', (hy i hi).1]
        show _ = some (Value.slice _ (((List.range len).map fun r => (y r).2.1).getD i []).length _)
        rw [hget i hi]
    · simp only [List.length_map, List.length_range] at hi
      rw [hget i hi]
      exact ⟨(hy i hi).2.1, (hy i hi).2.2.1⟩
    · obtain ⟨i, hi, rfl⟩ := List.mem_map.1 hr
      exact (hy i (by simpa using hi)).2.2.2
    · have := bulk_slice ((List.range len).map D) ((List.range (m - len)).map fun j => D (len + j))
      simpa using this
end
end Go.Proofs.YtkkophhnliplhaaDoor
namespace Go.Proofs.YtkkophhnliplhaaDoor
open Go Go.RowKit Go.ChangeShapes Go.WideShapes Go.ChangeAt
section
variable {H : Type} {enc : TypeId × Value → H} {W : World}
theorem openG {n : Nat} {cs : List Value} {x : DataW H × List MemPlace} (h : DataW.trod enc Tryd.prog W 0 (fun _ => true) true n 25 cs = some x) (hf : Fits Tryd.prog 25 x.1) :
    ∃ A0 A1 A2 c0 c1 c2 g, cs = [.slice A0 (GameL.ow g).length c0, .slice A1 (GameL.pr g).length c1, .slice A2 (GameL.mv g).length c2] ∧ RdG W 0 W.heap.size A0 A1 A2 c0 c1 c2 g ∧ (∀ z ∈ g.ow, I64 z) ∧ (∀ z ∈ g.pr, I64 z) ∧ (∀ r ∈ g.mv, ∀ z ∈ r, I64 z) ∧ g.ow.length ≤ Rows.uptoBulk x.1 := by
  have hcI : Tryd.prog.cellsOf 22 = 1 := by kernel_rfl
  have hcII : Tryd.prog.cellsOf 23 = 1 := by kernel_rfl
  have hci : Tryd.prog.cellsOf 3 = 1 := by kernel_rfl
  have hbi : Tryd.prog.bytesOf 3 = 8 := by kernel_rfl
  have hbI : Tryd.prog.bytesOf 22 = 24 := by kernel_rfl
  have hcG : Tryd.prog.cellsOf 25 = 3 := by kernel_rfl
  obtain ⟨y0, y1, y2, n', rfl, hl, h0, h1, h2⟩ := Go.Deep.trod_struct3 Tryd.underlying25 h
  rw [hcG] at hl
  match cs, hl with
  | [v0, v1, v2], _ =>
    simp only [hcI, hcII] at h0 h1 h2
    obtain ⟨f0, hf⟩ := fits_each (fits_struct Tryd.underlying25 hf)
    obtain ⟨f1, hf⟩ := fits_each hf
    obtain ⟨f2, _⟩ := fits_each hf
    obtain ⟨A0, l0, c0, e0, k0, r0, b0, m0⟩ := openI Tryd.underlying22 Tryd.underlying3 hci hbi h0 f0
    obtain ⟨A1, l1, c1, e1, k1, r1, b1, m1⟩ := openI Tryd.underlying22 Tryd.underlying3 hci hbi h1 f1
    obtain ⟨A2, l2, c2, e2, k2, r2, b2, m2⟩ := openII Tryd.underlying23 Tryd.underlying22 Tryd.underlying3 hcI hci hbI hbi h2 f2
    obtain rfl : v0 = _ := by simpa using e0
    obtain rfl : v1 = _ := by simpa using e1
    obtain rfl : v2 = _ := by simpa using e2
    exact ⟨A0, A1, A2, c0, c1, c2, ⟨l0, l1, l2⟩, rfl, ⟨r0, r1, r2, k0, k1, k2⟩, b0, b1, b2, by
      simp only [Rows.uptoBulk, Rows.uptoBulkAll]
      show l0.length ≤ _
      omega⟩
end
end Go.Proofs.YtkkophhnliplhaaDoor
namespace Go.Proofs.YtkkophhnliplhaaDoor
open Go Go.RowKit Go.ChangeShapes Go.WideShapes Go.ChangeAt
section
variable {H : Type} {enc : TypeId × Value → H} {W : World}
theorem bounds_u64 {n : Int} (h : (Lit.int IntKind.u64 n).wf = true) : W64 n := by
  simp [Lit.wf, IntKind.min, IntKind.max, IntKind.signed, IntKind.bits] at h
  refine ⟨by omega, by omega⟩
theorem okWide_array {P : Program} {w : World} {r : Reach} {base : Nat} {t e : TypeId} {n : Nat} {v : Value} (ht : P.underlying t = some (.array n e)) (h : Value.okWide P w r base t v) : ∃ cs, v = .agg cs ∧ cs.size = P.cellsOf t := by
  simp only [Value.okWide, ht] at h
  obtain ⟨cs, h1, h2, _⟩ := h
  exact ⟨cs, h1, h2⟩
theorem openW4 {P : Program} {t e : TypeId} (ht : P.underlying t = some (.array 4 e)) (he : P.underlying e = some (.int .u64)) (hcu : P.cellsOf e = 1) {b : Nat} {sp : Nat → Bool} {hd : Bool} {n : Nat} {cs : List Value} {x : DataW H × List MemPlace} (hl : cs.length = 4) (h : DataW.trod enc P W b sp hd n t cs = some x) : ∃ s : List Int, cs = s.map wV ∧ OkW s := by
  match cs, hl with
  | [v0, v1, v2, v3], _ =>
    obtain ⟨xs, m, _, _, _, _, hx⟩ := DataW.trod_array ht h
    simp only [hcu] at hx
    have each : ∀ i, i < 4 → ∃ z : Int, (([v0, v1, v2, v3] : List Value).drop (i * 1)).take 1 = [.int .u64 z] ∧ W64 z := fun i hi => by
      have h2 := hx i hi
      have hn : i < xs.length := by omega
      rw [List.getElem?_eq_getElem hn] at h2
      obtain ⟨z, e1, _, e2⟩ := DataW.trod_int he h2
      exact ⟨z, e1, bounds_u64 e2⟩
    obtain ⟨z0, e1, b0⟩ := each 0 (by omega)
    obtain ⟨z1, e2, b1⟩ := each 1 (by omega)
    obtain ⟨z2, e3, b2⟩ := each 2 (by omega)
    obtain ⟨z3, e4, b3⟩ := each 3 (by omega)
    obtain rfl : v0 = _ := by simpa using e1
    obtain rfl : v1 = _ := by simpa using e2
    obtain rfl : v2 = _ := by simpa using e3
    obtain rfl : v3 = _ := by simpa using e4
    exact ⟨[z0, z1, z2, z3], rfl, okW_lit b0 b1 b2 b3⟩
theorem openWV {P : Program} {t e : TypeId} (ht : P.underlying t = some (.array 4 e)) (he : P.underlying e = some (.int .u64)) (hcu : P.cellsOf e = 1) (hc4 : P.cellsOf t = 4) {r : Reach} {b0 : Nat} {v : Value} {d : DataW H} {b : Nat} {sp : Nat → Bool} {hd : Bool} {ps : List MemPlace} (hv : Value.okWide P W r b0 t v) (h : DataW.Trod enc P W b sp hd t v d ps) : ∃ s : List Int, v = .agg (s.map wV).toArray ∧ OkW s := by
  obtain ⟨cs, rfl, hsz⟩ := okWide_array ht hv
  obtain ⟨n, hn⟩ := h
  obtain ⟨s, e, ok⟩ := openW4 ht he hcu (show cs.toList.length = 4 by simpa [hc4] using hsz) (show DataW.trod enc P W b sp hd n t cs.toList = some _ from hn)
  exact ⟨s, congrArg Value.agg (Array.ext' (by rw [e])), ok⟩
end
theorem gTab : Tryd.prog.globalNamed "math/bits.deBruijn64tab" = some 0 := by kernel_rfl
theorem gTabType : (Tryd.prog.globals[0]?).map (·.type) = some 66 := by kernel_rfl
def tabI : List Int := Lib.deBruijn64tab.map Int.ofNat
theorem tabI_get : ∀ i, i < 64 → tabI.getD i 0 = ((Lib.deBruijn64tab.getD i 0 : Nat) : Int) := by decide +kernel
theorem rdT_of {W : World} (h : laidMetH Tryd.prog [("math/bits.deBruijn64tab", Rows.laid_math_bits_deBruijn64tab)] W) : RdT W 0 W.heap.size := by
  have ht : Lib.TabIs Tryd.prog W "math/bits.deBruijn64tab" .u8 tabI := Lib.tabIs_of_head (rest := []) gTab gTabType Tryd.underlying66 Tryd.underlying5 (by kernel_rfl) (by kernel_rfl) h
  intro i q hi hq
  obtain rfl : q = 0 := by omega
  have hc := ht.cell gTab i (by show i < 64; exact hi)
  refine ⟨⟨0, 0, none⟩, rfl, Nat.zero_le _, (show (⟨0, i, none⟩ : Addr).block < W.heap.size from World.block_lt_of_cell? _ _ hc), ?_⟩
  have ea : ((⟨0, 0, none⟩ : Addr).add (i * 1)).add 0 = ⟨0, i, none⟩ := by
    rw [add_zero, Nat.mul_one]
    simp [Addr.add]
    exact fun h => h.symm
  rw [ea, hc, tabI_get i hi]
  show _ = some (Value.int .u8 (deI ((i : Nat) : Int)))
  rw [deI, Int.toNat_natCast]
noncomputable def laidWorld (os : Os) : World :=
  { World.holding Tryd.prog os ⟨#[], #[], []⟩ with heap := (World.holding Tryd.prog os ⟨#[], #[], []⟩).heap.modify 0 fun
      | .cells _ t frozen => .cells (tabI.map (Value.int .u8)).toArray t frozen
      | o => o }
end Go.Proofs.YtkkophhnliplhaaDoor
