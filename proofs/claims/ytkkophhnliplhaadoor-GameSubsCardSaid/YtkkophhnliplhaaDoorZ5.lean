/-
  Texts of this repo, laid together: the frame of the walks, plain lemmas, walks of Go functions. Conditions: what the theorems name.
-/
import Derived.Test.YtkkophhnliplhaaDoorZ4
set_option linter.unusedVariables false
set_option linter.unusedSimpArgs false
namespace Go.Proofs.YtkkophhnliplhaaDoor
open Go Go.RowKit
set_option maxHeartbeats 4000000 in
theorem copyR_any {Ag0 Ag1 Ag2 : Option Addr} {cg0 cg1 cg2 : Nat} {g : GameL} {w : World} (rg : RdG w 0 w.heap.size Ag0 Ag1 Ag2 cg0 cg1 cg2 g) :
    Calls Tryd.prog 13 #[.agg #[.slice Ag0 g.ow.length cg0, .slice Ag1 g.pr.length cg1, .slice Ag2 g.mv.length cg2]] w fun e w' => ∃ A0 c0 A1 c1 A2 c2, e = .returned (.agg #[.slice A0 g.ow.length c0, .slice A1 g.pr.length c1, .slice A2 g.mv.length c2]) ∧ Ext w w' ∧ OwnR w' (Sx w.heap.size [obk A1, obk A2]) A0 c0 3 g.ow ∧ OwnR w' (Sx w.heap.size [obk A0, obk A2]) A1 c1 3 g.pr ∧ OwnLL w' w.heap.size [obk A0, obk A1] A2 c2 22 3 g.mv := by
 have hlg0 := rg.ow.len; have hlg1 := rg.pr.len; have hlg2 := rg.mv.len; have hkg0 := rg.k0; have hkg1 := rg.k1; have hkg2 := rg.k2
 refine enter_ (args := [.agg #[.slice Ag0 g.ow.length cg0, .slice Ag1 g.pr.length cg1, .slice Ag2 g.mv.length cg2]]) Tryd.func13 rfl Tryd.ntmps13 (Nat.le_of_ble_eq_true rfl) (fun act0 f0 => ?_)
 have e0 : Ext w w := Ext.refl w
 refine sqs ?_
 refine At.bx f0 1 [.slice Ag0 g.ow.length cg0, .slice Ag1 g.pr.length cg1, .slice Ag2 g.mv.length cg2] 25 (fun w1 g5 bx6 act4 f3 => ?_)
 clear f0; have := g5.size; replace e0 := e0.gn g5; have r9 := rg.gn g5; clear rg; have := bx6.lt; clear g5
 refine At.bx f3 2 [.slice none 0 0, .slice none 0 0, .slice none 0 0] 25 (fun aF jD aA aAz mZ => ?_)
 clear f3; have := jD.size; replace e0 := e0.gn jD; replace r9 := r9.gn jD; replace bx6 := bx6.gn jD; have := aA.lt; clear jD
 refine At.dn ?_
 refine wp_seq (cut (fun a_ w_ => ∃ (aN : Nat) (aD : Option Addr) (aE : Option Addr) (aZ : Nat) (bA : Nat), (Frm 34 a_ [(3, pt aN 0), (2, pt w1.heap.size 0), (1, pt w.heap.size 0)]) ∧ (Ext w w_) ∧ (RdG w_ 0 w.heap.size Ag0 Ag1 Ag2 cg0 cg1 cg2 g) ∧ (Bx w_ (w.heap.size) [.slice Ag0 g.ow.length cg0, .slice Ag1 g.pr.length cg1, .slice Ag2 g.mv.length cg2] 25) ∧ (Bx w_ (w1.heap.size) [.slice none 0 0, .slice none 0 0, .slice none 0 0] 25) ∧ (OwnR w_ (Sx (aF.heap.size) [obk (aE), some (aN)]) (aD) (aZ) 3 (g.ow : List Int)) ∧ (OwnR w_ (Sx (aF.heap.size) [obk (aD), some (aN)]) (aE) (bA) 3 (g.pr : List Int)) ∧ (Bx w_ (aN) [.slice (aD) ((([] : List Int) ++ g.ow).length) (aZ), .slice (aE) ((([] : List Int) ++ g.pr).length) (bA), .slice none 0 0] 25) ∧ (aF.heap.size ≤ aN) ∧ (aF.heap.size ≤ w_.heap.size)) ?_ ?_)
 ·obtain ⟨rF, aK⟩ : ∃ c : List (Addr × Value), c = [(⟨w.heap.size, 0, none⟩, (.slice Ag0 g.ow.length cg0)), (⟨w.heap.size, 1, none⟩, (.slice Ag1 g.pr.length cg1))] := ⟨_, rfl⟩
  have rG : HoldsC rF aF := by rw [aK]; exact ⟨(bx6.cell (i := 0) rfl), (bx6.cell (i := 1) rfl), trivial⟩
  refine AtH.start rF 11 _ κ rfl rfl (fun aB rH => ?_)
  have hF := gr_drew rH; have lL := rG.gr hF; have := hF.size; replace e0 := e0.gn hF; replace r9 := r9.gn hF; replace bx6 := bx6.gn hF; replace aA := aA.gn hF; clear hF rH rG
  refine AtH.rk lL mZ [1, 2, 5, 6] 7 [(11, .slice Ag1 g.pr.length cg1), (7, .slice Ag0 g.ow.length cg0)] (.l (CsC_at aK 0 rfl) <| .l (CsC_at aK 1 rfl) <| .n) (fun aAA iE => ?_)
  clear mZ
  refine AtH.all [0, 4, 9] 6 κ (by simp) ⟨?_, ?_, ?_, trivial⟩
  ·refine OneH.seq iE [] [(5, .slice (some ⟨aB.heap.size, 0, none⟩) 0 0)] (aB.alloc (.cells #[] 3 (0, 0))) [] _ rfl κ κ trivial (fun aAB aQ nA iF => ?_)
   clear iE; have hG := gr_alloc nA; have lM := lL.gr hG
   refine ⟨lM, ?_⟩
   have := hG.size; replace e0 := e0.gn hG; replace r9 := r9.gn hG; replace bx6 := bx6.gn hG; replace aA := aA.gn hG; have bF : Bx aQ (aB.heap.size) [] 3 := Bx.new nA; have := bF.lt; clear hG nA
   refine AtH.all [3, 4, 9] 5 κ (by simp) ⟨?_, ?_, ?_, trivial⟩
   ·have gD : OwnR aQ (Sx (aB.heap.size) []) (some ⟨aB.heap.size, 0, none⟩) 0 3 ([] : List Int) := Bx.own0 bF (Nat.le_refl _)
    clear bF; have xM : (([] : List Int) ++ g.ow).length = (([] : List Int)).length + (g.ow : List Int).length := List.length_append
    simp only [List.length_cons, List.length_nil] at xM
    refine OneH.act iF _ rfl (appendR (α := Int) (t := 22) (d := 8) (n := 0) (m := g.ow.length) (cc := cg0) (xs := []) (ys := g.ow) (bytes := 8) (by first | rfl | omega | (simp; done) | (simp; omega)) (by first | rfl | omega | (simp; done) | (simp; omega)) κ rfl κ gD r9.ow.srcR (by simp only [List.length_cons, List.length_nil]; omega) (by simp only [List.length_cons, List.length_nil]; omega)) ?_
    rintro d_ v_ bH ⟨rfl, aW, bL, lN⟩
    obtain rfl := lN.val
    have hH := lN.gr
    have nB := lM.grO hH (by rw [aK]; exact ⟨(fun e => by have := gD.ge _ e; simp only [add_block] at this; omega), (fun e => by have := gD.ge _ e; simp only [add_block] at this; omega), trivial⟩)
    refine ⟨_, rfl, fun aAC lO => ⟨nB, ?_⟩⟩
    clear iF; have aS := lN.own (Sx (aB.heap.size) []) (fun g _ hs => hs) (show aB.heap.size ≤ aQ.heap.size by omega); have := hH.size; replace e0 := e0.gr hH (fun k hk => by have := gD.ge k hk; omega); replace r9 := r9.gr hH (fun k hk => by have := gD.ge k hk; omega); replace bx6 := bx6.gr hH (fun e => by have := gD.ge _ e; omega); replace aA := aA.gr hH (fun e => by have := gD.ge _ e; omega)
    clear gD hH lN; replace aS : OwnR bH (Sx (aB.heap.size) []) aW bL 3 (g.ow : List Int) := aS
    refine AtH.all [4, 9] 4 κ (by simp) ⟨?_, ?_, trivial⟩
    ·refine OneH.seq lO [] [(9, .slice (some ⟨bH.heap.size, 0, none⟩) 0 0)] (bH.alloc (.cells #[] 3 (0, 0))) [] _ rfl κ κ trivial (fun aAD cU nC lP => ?_)
     clear lO; have gE := gr_alloc nC; have nD := nB.gr gE
     refine ⟨nD, ?_⟩
     have := gE.size; replace e0 := e0.gn gE; replace r9 := r9.gn gE; replace bx6 := bx6.gn gE; replace aA := aA.gn gE; replace aS := aS.grN gE; have hI : Bx cU (bH.heap.size) [] 3 := Bx.new nC; have := hI.lt; clear gE nC
     refine AtH.all [7, 9] 3 κ (by simp) ⟨?_, ?_, trivial⟩
     ·have gF : OwnR cU (Sx (bH.heap.size) [obk (aW)]) (some ⟨bH.heap.size, 0, none⟩) 0 3 ([] : List Int) := Bx.own0 hI ⟨(aS.neb (fun g hs => hs.1)), (Nat.le_refl _)⟩
      clear hI; have xN : (([] : List Int) ++ g.pr).length = (([] : List Int)).length + (g.pr : List Int).length := List.length_append
      simp only [List.length_cons, List.length_nil] at xN
      refine OneH.act lP _ rfl (appendR (α := Int) (t := 22) (d := 12) (n := 0) (m := g.pr.length) (cc := cg1) (xs := []) (ys := g.pr) (bytes := 8) (by first | rfl | omega | (simp; done) | (simp; omega)) (by first | rfl | omega | (simp; done) | (simp; omega)) κ rfl κ gF r9.pr.srcR (by simp only [List.length_cons, List.length_nil]; omega) (by simp only [List.length_cons, List.length_nil]; omega)) ?_
      rintro d_ v_ jE ⟨rfl, iG, jF, jG⟩
      obtain rfl := jG.val
      have gG := jG.gr
      have nE := nD.grO gG (by rw [aK]; exact ⟨(fun e => by have := gF.ge _ e; simp only [add_block] at this; omega), (fun e => by have := gF.ge _ e; simp only [add_block] at this; omega), trivial⟩)
      refine ⟨_, rfl, fun aAE rI => ⟨nE, ?_⟩⟩
      clear lP; have hJ := jG.own (Sx (bH.heap.size) [obk (aW)]) (fun g _ hs => ⟨hs.1, hs.2⟩) ⟨aS.ne_new, (show bH.heap.size ≤ cU.heap.size by omega)⟩; have := gG.size; replace e0 := e0.gr gG (fun k hk => by have := gF.ge k hk; omega); replace r9 := r9.gr gG (fun k hk => by have := gF.ge k hk; omega); replace bx6 := bx6.gr gG (fun e => by have := gF.ge _ e; omega)
      replace aA := aA.gr gG (fun e => by have := gF.ge _ e; omega)
      replace aS : OwnR jE (Sx (aB.heap.size) [obk (iG)]) aW bL 3 (g.ow : List Int) := aS.grA gG (fun k hk => hk.1) (fun k hk hs => ⟨own_repl jG.at_ hs.1 hk, hs.2⟩)
      clear gF gG jG; replace hJ : OwnR jE (Sx (bH.heap.size) [obk (aW)]) iG jF 3 (g.pr : List Int) := hJ
      refine AtH.rk nE rI [8] 2 [(13, .agg #[.slice aW ((([] : List Int) ++ g.ow).length) bL, .slice iG ((([] : List Int) ++ g.pr).length) jF, .slice none 0 0])] .n (fun aAF rJ => ?_)
      clear rI
      refine AtH.all [9] 1 κ (by simp) ⟨?_, trivial⟩
      refine OneH.bx rJ nE 3 [.slice none 0 0, .slice none 0 0, .slice none 0 0] 25 (fun aAG gH nF xO aAH rK => ?_)
      clear rJ; have := gH.size; replace e0 := e0.gn gH; replace r9 := r9.gn gH; replace bx6 := bx6.gn gH; replace aA := aA.gn gH; replace aS := aS.grN gH; replace hJ := hJ.grN gH; have := nF.lt; clear gH
      refine AtH.all [10] 0 κ (by simp) ⟨?_, trivial⟩
      refine OneH.store rK (t := 25) (b := jE.heap.size) (off := 0) (v := .agg #[.slice aW ((([] : List Int) ++ g.ow).length) bL, .slice iG ((([] : List Int) ++ g.pr).length) jF, .slice none 0 0]) _ rfl κ nF κ (fun aAI xP dM nG xQ => ?_)
      clear rK
      replace nG : Bx xP (jE.heap.size) [.slice aW ((([] : List Int) ++ g.ow).length) bL, .slice iG ((([] : List Int) ++ g.pr).length) jF, .slice none 0 0] 25 := nG
      have rL := xO.gr' dM (by rw [aK]; exact ⟨(by simp only [add_block]; omega), (by simp only [add_block]; omega), trivial⟩); have := dM.size; replace e0 := e0.gr dM (fun k h => by injection h; omega); replace r9 := r9.gb dM ω; replace bx6 := bx6.gb dM ω; replace aA := aA.gb dM ω; replace aS := aS.gr dM (fun k hk => hk.1); replace hJ := hJ.gr dM (fun k hk => hk.1); clear nF dM
      refine ⟨rL, ?_⟩
      refine AtH.done κ ?_
      clear rL
      refine t_n ?_
      exact ⟨jE.heap.size, aW, iG, bL, jF, xQ.sb, e0, r9, bx6, aA, (aS.imp (fun g _ hs => ⟨hs.2.1, hs.1, (by have := Sx_base hs; show aF.heap.size ≤ g; omega)⟩)), (hJ.imp (fun g _ hs => ⟨hs.2.1, hs.1, (by have := Sx_base hs; show aF.heap.size ≤ g; omega)⟩)), nG, ω, ω⟩
     refine OneH.bx lP nD 3 [.slice none 0 0, .slice none 0 0, .slice none 0 0] 25 (fun rM gI jH xR aAJ rN => ?_)
     clear lP; have := gI.size; replace e0 := e0.gn gI; replace r9 := r9.gn gI; replace bx6 := bx6.gn gI; replace aA := aA.gn gI; replace aS := aS.grN gI; replace hI := hI.gn gI; have := jH.lt; clear gI
     refine AtH.all [7] 2 κ (by simp) ⟨?_, trivial⟩
     have dN : OwnR rM (Sx (bH.heap.size) [obk (aW), some (cU.heap.size)]) (some ⟨bH.heap.size, 0, none⟩) 0 3 ([] : List Int) := Bx.own0 hI ⟨(aS.neb (fun g hs => hs.2.1)), (fun e => by injection e; omega), (Nat.le_refl _)⟩
     clear hI; have xS : (([] : List Int) ++ g.pr).length = (([] : List Int)).length + (g.pr : List Int).length := List.length_append
     simp only [List.length_cons, List.length_nil] at xS
     refine OneH.act rN _ rfl (appendR (α := Int) (t := 22) (d := 12) (n := 0) (m := g.pr.length) (cc := cg1) (xs := []) (ys := g.pr) (bytes := 8) (by first | rfl | omega | (simp; done) | (simp; omega)) (by first | rfl | omega | (simp; done) | (simp; omega)) κ rfl κ dN r9.pr.srcR (by simp only [List.length_cons, List.length_nil]; omega) (by simp only [List.length_cons, List.length_nil]; omega)) ?_
     rintro d_ v_ rO ⟨rfl, iH, jI, jJ⟩
     obtain rfl := jJ.val
     have dO := jJ.gr
     have nH := xR.grO dO (by rw [aK]; exact ⟨(fun e => by have := dN.ge _ e; simp only [add_block] at this; omega), (fun e => by have := dN.ge _ e; simp only [add_block] at this; omega), trivial⟩)
     refine ⟨_, rfl, fun aAK rP => ⟨nH, ?_⟩⟩
     clear rN
     have jK := jJ.own (Sx (bH.heap.size) [obk (aW), some (cU.heap.size)]) (fun g _ hs => ⟨hs.1, hs.2.1, hs.2.2⟩) ⟨aS.ne_new, (fun e => by injection e; omega), (show bH.heap.size ≤ rM.heap.size by omega)⟩
     have := dO.size; replace e0 := e0.gr dO (fun k hk => by have := dN.ge k hk; omega); replace r9 := r9.gr dO (fun k hk => by have := dN.ge k hk; omega); replace bx6 := bx6.gr dO (fun e => by have := dN.ge _ e; omega); replace aA := aA.gr dO (fun e => by have := dN.ge _ e; omega)
     replace aS : OwnR rO (Sx (aB.heap.size) [some (cU.heap.size), obk (iH)]) aW bL 3 (g.ow : List Int) := aS.grA dO (fun k hk => hk.2.1) (fun k hk hs => ⟨hs.1, own_repl jJ.at_ hs.2.1 hk, hs.2.2⟩)
     replace jH := jH.gr dO (dN.neb (fun g hs => hs.2.1)); clear dN dO jJ; replace jK : OwnR rO (Sx (bH.heap.size) [obk (aW), some (cU.heap.size)]) iH jI 3 (g.pr : List Int) := jK
     refine AtH.rk nH rP [8] 1 [(13, .agg #[.slice aW ((([] : List Int) ++ g.ow).length) bL, .slice iH ((([] : List Int) ++ g.pr).length) jI, .slice none 0 0])] .n (fun aAL rQ => ?_)
     clear rP
     refine AtH.all [10] 0 κ (by simp) ⟨?_, trivial⟩
     refine OneH.store rQ (t := 25) (b := cU.heap.size) (off := 0) (v := .agg #[.slice aW ((([] : List Int) ++ g.ow).length) bL, .slice iH ((([] : List Int) ++ g.pr).length) jI, .slice none 0 0]) _ rfl κ jH κ (fun aAM xT dP nI xU => ?_)
     clear rQ
     replace nI : Bx xT (cU.heap.size) [.slice aW ((([] : List Int) ++ g.ow).length) bL, .slice iH ((([] : List Int) ++ g.pr).length) jI, .slice none 0 0] 25 := nI
     have rR := nH.gr' dP (by rw [aK]; exact ⟨(by simp only [add_block]; omega), (by simp only [add_block]; omega), trivial⟩); have := dP.size; replace e0 := e0.gr dP (fun k h => by injection h; omega); replace r9 := r9.gb dP ω; replace bx6 := bx6.gb dP ω; replace aA := aA.gb dP ω; replace aS := aS.gr dP (fun k hk => hk.1); replace jK := jK.gr dP (fun k hk => hk.2.1); clear jH dP
     refine ⟨rR, ?_⟩
     refine AtH.done κ ?_
     clear rR
     refine t_n ?_
     exact ⟨cU.heap.size, aW, iH, bL, jI, xU.sb, e0, r9, bx6, aA, (aS.imp (fun g _ hs => ⟨hs.2.1, hs.1, (by have := Sx_base hs; show aF.heap.size ≤ g; omega)⟩)), (jK.imp (fun g _ hs => ⟨hs.1, hs.2.1, (by have := Sx_base hs; show aF.heap.size ≤ g; omega)⟩)), nI, ω, ω⟩
    refine OneH.bx lO nB 3 [.slice none 0 0, .slice none 0 0, .slice none 0 0] 25 (fun gJ hK hL xV aAN rS => ?_)
    clear lO; have := hK.size; replace e0 := e0.gn hK; replace r9 := r9.gn hK; replace bx6 := bx6.gn hK; replace aA := aA.gn hK; replace aS := aS.grN hK; have := hL.lt; clear hK
    refine AtH.all [4] 3 κ (by simp) ⟨?_, trivial⟩
    refine OneH.seq rS [] [(9, .slice (some ⟨gJ.heap.size, 0, none⟩) 0 0)] (gJ.alloc (.cells #[] 3 (0, 0))) [] _ rfl κ κ trivial (fun aAO nJ nK rT => ?_)
    clear rS; have dQ := gr_alloc nK; have rU := xV.gr dQ
    refine ⟨rU, ?_⟩
    have := dQ.size; replace e0 := e0.gn dQ; replace r9 := r9.gn dQ; replace bx6 := bx6.gn dQ; replace aA := aA.gn dQ; replace aS := aS.grN dQ; replace hL := hL.gn dQ; have nL : Bx nJ (gJ.heap.size) [] 3 := Bx.new nK; have := nL.lt; clear dQ nK
    refine AtH.all [7] 2 κ (by simp) ⟨?_, trivial⟩
    have dR : OwnR nJ (Sx (gJ.heap.size) [obk (aW)]) (some ⟨gJ.heap.size, 0, none⟩) 0 3 ([] : List Int) := Bx.own0 nL ⟨(aS.neb (fun g hs => hs.1)), (Nat.le_refl _)⟩
    clear nL; have xW : (([] : List Int) ++ g.pr).length = (([] : List Int)).length + (g.pr : List Int).length := List.length_append
    simp only [List.length_cons, List.length_nil] at xW
    refine OneH.act rT _ rfl (appendR (α := Int) (t := 22) (d := 12) (n := 0) (m := g.pr.length) (cc := cg1) (xs := []) (ys := g.pr) (bytes := 8) (by first | rfl | omega | (simp; done) | (simp; omega)) (by first | rfl | omega | (simp; done) | (simp; omega)) κ rfl κ dR r9.pr.srcR (by simp only [List.length_cons, List.length_nil]; omega) (by simp only [List.length_cons, List.length_nil]; omega)) ?_
    rintro d_ v_ rV ⟨rfl, iI, jL, jM⟩
    obtain rfl := jM.val
    have dS := jM.gr
    have nM := rU.grO dS (by rw [aK]; exact ⟨(fun e => by have := dR.ge _ e; simp only [add_block] at this; omega), (fun e => by have := dR.ge _ e; simp only [add_block] at this; omega), trivial⟩)
    refine ⟨_, rfl, fun aAP rW => ⟨nM, ?_⟩⟩
    clear rT; have jN := jM.own (Sx (gJ.heap.size) [obk (aW)]) (fun g _ hs => ⟨hs.1, hs.2⟩) ⟨aS.ne_new, (show gJ.heap.size ≤ nJ.heap.size by omega)⟩; have := dS.size; replace e0 := e0.gr dS (fun k hk => by have := dR.ge k hk; omega); replace r9 := r9.gr dS (fun k hk => by have := dR.ge k hk; omega); replace bx6 := bx6.gr dS (fun e => by have := dR.ge _ e; omega)
    replace aA := aA.gr dS (fun e => by have := dR.ge _ e; omega)
    replace aS : OwnR rV (Sx (aB.heap.size) [obk (iI), some (bH.heap.size)]) aW bL 3 (g.ow : List Int) := aS.grA dS (fun k hk => hk.1) (fun k hk hs => ⟨own_repl jM.at_ hs.1 hk, hs.2.1, hs.2.2⟩)
    replace hL := hL.gr dS (fun e => by have := dR.ge _ e; omega); clear dR dS jM; replace jN : OwnR rV (Sx (gJ.heap.size) [obk (aW)]) iI jL 3 (g.pr : List Int) := jN
    refine AtH.rk nM rW [8] 1 [(13, .agg #[.slice aW ((([] : List Int) ++ g.ow).length) bL, .slice iI ((([] : List Int) ++ g.pr).length) jL, .slice none 0 0])] .n (fun aAQ rX => ?_)
    clear rW
    refine AtH.all [10] 0 κ (by simp) ⟨?_, trivial⟩
    refine OneH.store rX (t := 25) (b := bH.heap.size) (off := 0) (v := .agg #[.slice aW ((([] : List Int) ++ g.ow).length) bL, .slice iI ((([] : List Int) ++ g.pr).length) jL, .slice none 0 0]) _ rfl κ hL κ (fun aAR xX dT nN xY => ?_)
    clear rX
    replace nN : Bx xX (bH.heap.size) [.slice aW ((([] : List Int) ++ g.ow).length) bL, .slice iI ((([] : List Int) ++ g.pr).length) jL, .slice none 0 0] 25 := nN
    have rY := nM.gr' dT (by rw [aK]; exact ⟨(by simp only [add_block]; omega), (by simp only [add_block]; omega), trivial⟩); have := dT.size; replace e0 := e0.gr dT (fun k h => by injection h; omega); replace r9 := r9.gb dT ω; replace bx6 := bx6.gb dT ω; replace aA := aA.gb dT ω; replace aS := aS.gr dT (fun k hk => hk.2.1)
    replace jN := jN.gr dT (fun k hk e => by have := Sx_base hk; injection e; omega); clear hL dT
    refine ⟨rY, ?_⟩
    refine AtH.done κ ?_
    clear rY
    refine t_n ?_
    exact ⟨bH.heap.size, aW, iI, bL, jL, xY.sb, e0, r9, bx6, aA, (aS.imp (fun g _ hs => ⟨hs.1, hs.2.1, (by have := Sx_base hs; show aF.heap.size ≤ g; omega)⟩)), (jN.imp (fun g _ hs => ⟨hs.1, (fun e => by have := Sx_base hs; injection e; omega), (by have := Sx_base hs; show aF.heap.size ≤ g; omega)⟩)), nN, ω, ω⟩
   ·refine OneH.seq iF [] [(9, .slice (some ⟨aQ.heap.size, 0, none⟩) 0 0)] (aQ.alloc (.cells #[] 3 (0, 0))) [] _ rfl κ κ trivial (fun aAS bR nO lQ => ?_)
    clear iF; have gK := gr_alloc nO; have nP := lM.gr gK
    refine ⟨nP, ?_⟩
    have := gK.size; replace e0 := e0.gn gK; replace r9 := r9.gn gK; replace bx6 := bx6.gn gK; replace aA := aA.gn gK; replace bF := bF.gn gK; have bN : Bx bR (aQ.heap.size) [] 3 := Bx.new nO; have := bN.lt; clear gK nO
    refine AtH.all [3, 9] 4 κ (by simp) ⟨?_, ?_, trivial⟩
    ·have dU : OwnR bR (Sx (aB.heap.size) [some (aQ.heap.size)]) (some ⟨aB.heap.size, 0, none⟩) 0 3 ([] : List Int) := Bx.own0 bF ⟨(fun e => by injection e; omega), (Nat.le_refl _)⟩
     clear bF; have xZ : (([] : List Int) ++ g.ow).length = (([] : List Int)).length + (g.ow : List Int).length := List.length_append
     simp only [List.length_cons, List.length_nil] at xZ
     refine OneH.act lQ _ rfl (appendR (α := Int) (t := 22) (d := 8) (n := 0) (m := g.ow.length) (cc := cg0) (xs := []) (ys := g.ow) (bytes := 8) (by first | rfl | omega | (simp; done) | (simp; omega)) (by first | rfl | omega | (simp; done) | (simp; omega)) κ rfl κ dU r9.ow.srcR (by simp only [List.length_cons, List.length_nil]; omega) (by simp only [List.length_cons, List.length_nil]; omega)) ?_
     rintro d_ v_ cV ⟨rfl, bI, cF, lR⟩
     obtain rfl := lR.val
     have gM := lR.gr
     have nQ := nP.grO gM (by rw [aK]; exact ⟨(fun e => by have := dU.ge _ e; simp only [add_block] at this; omega), (fun e => by have := dU.ge _ e; simp only [add_block] at this; omega), trivial⟩)
     refine ⟨_, rfl, fun aAT lS => ⟨nQ, ?_⟩⟩
     clear lQ
     have bE := lR.own (Sx (aB.heap.size) [some (aQ.heap.size)]) (fun g _ hs => ⟨hs.1, hs.2⟩) ⟨(fun e => by injection e; omega), (show aB.heap.size ≤ bR.heap.size by omega)⟩
     have := gM.size; replace e0 := e0.gr gM (fun k hk => by have := dU.ge k hk; omega); replace r9 := r9.gr gM (fun k hk => by have := dU.ge k hk; omega); replace bx6 := bx6.gr gM (fun e => by have := dU.ge _ e; omega); replace aA := aA.gr gM (fun e => by have := dU.ge _ e; omega); replace bN := bN.gr gM (dU.neb (fun g hs => hs.1)); clear dU gM lR
     replace bE : OwnR cV (Sx (aB.heap.size) [some (aQ.heap.size)]) bI cF 3 (g.ow : List Int) := bE
     refine AtH.all [7, 9] 3 κ (by simp) ⟨?_, ?_, trivial⟩
     ·have gN : OwnR cV (Sx (aQ.heap.size) [obk (bI)]) (some ⟨aQ.heap.size, 0, none⟩) 0 3 ([] : List Int) := Bx.own0 bN ⟨(bE.neb (fun g hs => hs.1)), (Nat.le_refl _)⟩
      clear bN; have yA : (([] : List Int) ++ g.pr).length = (([] : List Int)).length + (g.pr : List Int).length := List.length_append
      simp only [List.length_cons, List.length_nil] at yA
      refine OneH.act lS _ rfl (appendR (α := Int) (t := 22) (d := 12) (n := 0) (m := g.pr.length) (cc := cg1) (xs := []) (ys := g.pr) (bytes := 8) (by first | rfl | omega | (simp; done) | (simp; omega)) (by first | rfl | omega | (simp; done) | (simp; omega)) κ rfl κ gN r9.pr.srcR (by simp only [List.length_cons, List.length_nil]; omega) (by simp only [List.length_cons, List.length_nil]; omega)) ?_
      rintro d_ v_ jO ⟨rfl, iJ, jP, jQ⟩
      obtain rfl := jQ.val
      have gO := jQ.gr
      have nR := nQ.grO gO (by rw [aK]; exact ⟨(fun e => by have := gN.ge _ e; simp only [add_block] at this; omega), (fun e => by have := gN.ge _ e; simp only [add_block] at this; omega), trivial⟩)
      refine ⟨_, rfl, fun aAU rZ => ⟨nR, ?_⟩⟩
      clear lS; have hM := jQ.own (Sx (aQ.heap.size) [obk (bI)]) (fun g _ hs => ⟨hs.1, hs.2⟩) ⟨bE.ne_new, (show aQ.heap.size ≤ cV.heap.size by omega)⟩; have := gO.size; replace e0 := e0.gr gO (fun k hk => by have := gN.ge k hk; omega); replace r9 := r9.gr gO (fun k hk => by have := gN.ge k hk; omega); replace bx6 := bx6.gr gO (fun e => by have := gN.ge _ e; omega)
      replace aA := aA.gr gO (fun e => by have := gN.ge _ e; omega)
      replace bE : OwnR jO (Sx (aB.heap.size) [obk (iJ)]) bI cF 3 (g.ow : List Int) := bE.grA gO (fun k hk => hk.1) (fun k hk hs => ⟨own_repl jQ.at_ hs.1 hk, hs.2⟩)
      clear gN gO jQ; replace hM : OwnR jO (Sx (aQ.heap.size) [obk (bI)]) iJ jP 3 (g.pr : List Int) := hM
      refine AtH.rk nR rZ [8] 2 [(13, .agg #[.slice bI ((([] : List Int) ++ g.ow).length) cF, .slice iJ ((([] : List Int) ++ g.pr).length) jP, .slice none 0 0])] .n (fun aAV sA => ?_)
      clear rZ
      refine AtH.all [9] 1 κ (by simp) ⟨?_, trivial⟩
      refine OneH.bx sA nR 3 [.slice none 0 0, .slice none 0 0, .slice none 0 0] 25 (fun aAW gP nS yB aAX sB => ?_)
      clear sA; have := gP.size; replace e0 := e0.gn gP; replace r9 := r9.gn gP; replace bx6 := bx6.gn gP; replace aA := aA.gn gP; replace bE := bE.grN gP; replace hM := hM.grN gP; have := nS.lt; clear gP
      refine AtH.all [10] 0 κ (by simp) ⟨?_, trivial⟩
      refine OneH.store sB (t := 25) (b := jO.heap.size) (off := 0) (v := .agg #[.slice bI ((([] : List Int) ++ g.ow).length) cF, .slice iJ ((([] : List Int) ++ g.pr).length) jP, .slice none 0 0]) _ rfl κ nS κ (fun aAY yC dV nT yD => ?_)
      clear sB
      replace nT : Bx yC (jO.heap.size) [.slice bI ((([] : List Int) ++ g.ow).length) cF, .slice iJ ((([] : List Int) ++ g.pr).length) jP, .slice none 0 0] 25 := nT
      have sC := yB.gr' dV (by rw [aK]; exact ⟨(by simp only [add_block]; omega), (by simp only [add_block]; omega), trivial⟩); have := dV.size; replace e0 := e0.gr dV (fun k h => by injection h; omega); replace r9 := r9.gb dV ω; replace bx6 := bx6.gb dV ω; replace aA := aA.gb dV ω; replace bE := bE.gr dV (fun k hk => hk.1); replace hM := hM.gr dV (fun k hk => hk.1); clear nS dV
      refine ⟨sC, ?_⟩
      refine AtH.done κ ?_
      clear sC
      refine t_n ?_
      exact ⟨jO.heap.size, bI, iJ, cF, jP, yD.sb, e0, r9, bx6, aA, (bE.imp (fun g _ hs => ⟨hs.2.1, hs.1, (by have := Sx_base hs; show aF.heap.size ≤ g; omega)⟩)), (hM.imp (fun g _ hs => ⟨hs.2.1, hs.1, (by have := Sx_base hs; show aF.heap.size ≤ g; omega)⟩)), nT, ω, ω⟩
     refine OneH.bx lS nQ 3 [.slice none 0 0, .slice none 0 0, .slice none 0 0] 25 (fun sD gQ jR yE aAZ sE => ?_)
     clear lS; have := gQ.size; replace e0 := e0.gn gQ; replace r9 := r9.gn gQ; replace bx6 := bx6.gn gQ; replace aA := aA.gn gQ; replace bE := bE.grN gQ; replace bN := bN.gn gQ; have := jR.lt; clear gQ
     refine AtH.all [7] 2 κ (by simp) ⟨?_, trivial⟩
     have dW : OwnR sD (Sx (aQ.heap.size) [obk (bI), some (cV.heap.size)]) (some ⟨aQ.heap.size, 0, none⟩) 0 3 ([] : List Int) := Bx.own0 bN ⟨(bE.neb (fun g hs => hs.2.1)), (fun e => by injection e; omega), (Nat.le_refl _)⟩
     clear bN; have yF : (([] : List Int) ++ g.pr).length = (([] : List Int)).length + (g.pr : List Int).length := List.length_append
     simp only [List.length_cons, List.length_nil] at yF
     refine OneH.act sE _ rfl (appendR (α := Int) (t := 22) (d := 12) (n := 0) (m := g.pr.length) (cc := cg1) (xs := []) (ys := g.pr) (bytes := 8) (by first | rfl | omega | (simp; done) | (simp; omega)) (by first | rfl | omega | (simp; done) | (simp; omega)) κ rfl κ dW r9.pr.srcR (by simp only [List.length_cons, List.length_nil]; omega) (by simp only [List.length_cons, List.length_nil]; omega)) ?_
     rintro d_ v_ sF ⟨rfl, iK, jS, jT⟩
     obtain rfl := jT.val
     have dX := jT.gr
     have nU := yE.grO dX (by rw [aK]; exact ⟨(fun e => by have := dW.ge _ e; simp only [add_block] at this; omega), (fun e => by have := dW.ge _ e; simp only [add_block] at this; omega), trivial⟩)
     refine ⟨_, rfl, fun aBa sG => ⟨nU, ?_⟩⟩
     clear sE
     have jU := jT.own (Sx (aQ.heap.size) [obk (bI), some (cV.heap.size)]) (fun g _ hs => ⟨hs.1, hs.2.1, hs.2.2⟩) ⟨bE.ne_new, (fun e => by injection e; omega), (show aQ.heap.size ≤ sD.heap.size by omega)⟩
     have := dX.size; replace e0 := e0.gr dX (fun k hk => by have := dW.ge k hk; omega); replace r9 := r9.gr dX (fun k hk => by have := dW.ge k hk; omega); replace bx6 := bx6.gr dX (fun e => by have := dW.ge _ e; omega); replace aA := aA.gr dX (fun e => by have := dW.ge _ e; omega)
     replace bE : OwnR sF (Sx (aB.heap.size) [some (cV.heap.size), obk (iK)]) bI cF 3 (g.ow : List Int) := bE.grA dX (fun k hk => hk.2.1) (fun k hk hs => ⟨hs.1, own_repl jT.at_ hs.2.1 hk, hs.2.2⟩)
     replace jR := jR.gr dX (dW.neb (fun g hs => hs.2.1)); clear dW dX jT; replace jU : OwnR sF (Sx (aQ.heap.size) [obk (bI), some (cV.heap.size)]) iK jS 3 (g.pr : List Int) := jU
     refine AtH.rk nU sG [8] 1 [(13, .agg #[.slice bI ((([] : List Int) ++ g.ow).length) cF, .slice iK ((([] : List Int) ++ g.pr).length) jS, .slice none 0 0])] .n (fun aBb sH => ?_)
     clear sG
     refine AtH.all [10] 0 κ (by simp) ⟨?_, trivial⟩
     refine OneH.store sH (t := 25) (b := cV.heap.size) (off := 0) (v := .agg #[.slice bI ((([] : List Int) ++ g.ow).length) cF, .slice iK ((([] : List Int) ++ g.pr).length) jS, .slice none 0 0]) _ rfl κ jR κ (fun aBc yG dY nV yH => ?_)
     clear sH
     replace nV : Bx yG (cV.heap.size) [.slice bI ((([] : List Int) ++ g.ow).length) cF, .slice iK ((([] : List Int) ++ g.pr).length) jS, .slice none 0 0] 25 := nV
     have sI := nU.gr' dY (by rw [aK]; exact ⟨(by simp only [add_block]; omega), (by simp only [add_block]; omega), trivial⟩); have := dY.size; replace e0 := e0.gr dY (fun k h => by injection h; omega); replace r9 := r9.gb dY ω; replace bx6 := bx6.gb dY ω; replace aA := aA.gb dY ω; replace bE := bE.gr dY (fun k hk => hk.1); replace jU := jU.gr dY (fun k hk => hk.2.1); clear jR dY
     refine ⟨sI, ?_⟩
     refine AtH.done κ ?_
     clear sI
     refine t_n ?_
     exact ⟨cV.heap.size, bI, iK, cF, jS, yH.sb, e0, r9, bx6, aA, (bE.imp (fun g _ hs => ⟨hs.2.1, hs.1, (by have := Sx_base hs; show aF.heap.size ≤ g; omega)⟩)), (jU.imp (fun g _ hs => ⟨hs.1, hs.2.1, (by have := Sx_base hs; show aF.heap.size ≤ g; omega)⟩)), nV, ω, ω⟩
    refine OneH.bx lQ nP 3 [.slice none 0 0, .slice none 0 0, .slice none 0 0] 25 (fun sJ gR hN yI aBd sK => ?_)
    clear lQ; have := gR.size; replace e0 := e0.gn gR; replace r9 := r9.gn gR; replace bx6 := bx6.gn gR; replace aA := aA.gn gR; replace bF := bF.gn gR; replace bN := bN.gn gR; have := hN.lt; clear gR
    refine AtH.all [3] 3 κ (by simp) ⟨?_, trivial⟩
    have cW : OwnR sJ (Sx (aB.heap.size) [some (aQ.heap.size), some (bR.heap.size)]) (some ⟨aB.heap.size, 0, none⟩) 0 3 ([] : List Int) := Bx.own0 bF ⟨(fun e => by injection e; omega), (fun e => by injection e; omega), (Nat.le_refl _)⟩
    clear bF; have yJ : (([] : List Int) ++ g.ow).length = (([] : List Int)).length + (g.ow : List Int).length := List.length_append
    simp only [List.length_cons, List.length_nil] at yJ
    refine OneH.act sK _ rfl (appendR (α := Int) (t := 22) (d := 8) (n := 0) (m := g.ow.length) (cc := cg0) (xs := []) (ys := g.ow) (bytes := 8) (by first | rfl | omega | (simp; done) | (simp; omega)) (by first | rfl | omega | (simp; done) | (simp; omega)) κ rfl κ cW r9.ow.srcR (by simp only [List.length_cons, List.length_nil]; omega) (by simp only [List.length_cons, List.length_nil]; omega)) ?_
    rintro d_ v_ nW ⟨rfl, dZ, iL, lT⟩
    obtain rfl := lT.val
    have eA := lT.gr
    have sL := yI.grO eA (by rw [aK]; exact ⟨(fun e => by have := cW.ge _ e; simp only [add_block] at this; omega), (fun e => by have := cW.ge _ e; simp only [add_block] at this; omega), trivial⟩)
    refine ⟨_, rfl, fun aBe sM => ⟨sL, ?_⟩⟩
    clear sK
    have eB := lT.own (Sx (aB.heap.size) [some (aQ.heap.size), some (bR.heap.size)]) (fun g _ hs => ⟨hs.1, hs.2.1, hs.2.2⟩) ⟨(fun e => by injection e; omega), (fun e => by injection e; omega), (show aB.heap.size ≤ sJ.heap.size by omega)⟩
    have := eA.size; replace e0 := e0.gr eA (fun k hk => by have := cW.ge k hk; omega); replace r9 := r9.gr eA (fun k hk => by have := cW.ge k hk; omega); replace bx6 := bx6.gr eA (fun e => by have := cW.ge _ e; omega); replace aA := aA.gr eA (fun e => by have := cW.ge _ e; omega); replace bN := bN.gr eA (cW.neb (fun g hs => hs.1)); replace hN := hN.gr eA (cW.neb (fun g hs => hs.2.1)); clear cW eA lT
    replace eB : OwnR nW (Sx (aB.heap.size) [some (aQ.heap.size), some (bR.heap.size)]) dZ iL 3 (g.ow : List Int) := eB
    refine AtH.all [7] 2 κ (by simp) ⟨?_, trivial⟩
    have eC : OwnR nW (Sx (aQ.heap.size) [obk (dZ), some (bR.heap.size)]) (some ⟨aQ.heap.size, 0, none⟩) 0 3 ([] : List Int) := Bx.own0 bN ⟨(eB.neb (fun g hs => hs.1)), (fun e => by injection e; omega), (Nat.le_refl _)⟩
    clear bN; have yK : (([] : List Int) ++ g.pr).length = (([] : List Int)).length + (g.pr : List Int).length := List.length_append
    simp only [List.length_cons, List.length_nil] at yK
    refine OneH.act sM _ rfl (appendR (α := Int) (t := 22) (d := 12) (n := 0) (m := g.pr.length) (cc := cg1) (xs := []) (ys := g.pr) (bytes := 8) (by first | rfl | omega | (simp; done) | (simp; omega)) (by first | rfl | omega | (simp; done) | (simp; omega)) κ rfl κ eC r9.pr.srcR (by simp only [List.length_cons, List.length_nil]; omega) (by simp only [List.length_cons, List.length_nil]; omega)) ?_
    rintro d_ v_ sN ⟨rfl, iM, jV, jW⟩
    obtain rfl := jW.val
    have eD := jW.gr
    have nX := sL.grO eD (by rw [aK]; exact ⟨(fun e => by have := eC.ge _ e; simp only [add_block] at this; omega), (fun e => by have := eC.ge _ e; simp only [add_block] at this; omega), trivial⟩)
    refine ⟨_, rfl, fun aBf sO => ⟨nX, ?_⟩⟩
    clear sM
    have jX := jW.own (Sx (aQ.heap.size) [obk (dZ), some (bR.heap.size)]) (fun g _ hs => ⟨hs.1, hs.2.1, hs.2.2⟩) ⟨eB.ne_new, (fun e => by injection e; omega), (show aQ.heap.size ≤ nW.heap.size by omega)⟩
    have := eD.size; replace e0 := e0.gr eD (fun k hk => by have := eC.ge k hk; omega); replace r9 := r9.gr eD (fun k hk => by have := eC.ge k hk; omega); replace bx6 := bx6.gr eD (fun e => by have := eC.ge _ e; omega); replace aA := aA.gr eD (fun e => by have := eC.ge _ e; omega)
    replace eB : OwnR sN (Sx (aB.heap.size) [obk (iM), some (bR.heap.size)]) dZ iL 3 (g.ow : List Int) := eB.grA eD (fun k hk => hk.1) (fun k hk hs => ⟨own_repl jW.at_ hs.1 hk, hs.2.1, hs.2.2⟩)
    replace hN := hN.gr eD (eC.neb (fun g hs => hs.2.1)); clear eC eD jW; replace jX : OwnR sN (Sx (aQ.heap.size) [obk (dZ), some (bR.heap.size)]) iM jV 3 (g.pr : List Int) := jX
    refine AtH.rk nX sO [8] 1 [(13, .agg #[.slice dZ ((([] : List Int) ++ g.ow).length) iL, .slice iM ((([] : List Int) ++ g.pr).length) jV, .slice none 0 0])] .n (fun aBg sP => ?_)
    clear sO
    refine AtH.all [10] 0 κ (by simp) ⟨?_, trivial⟩
    refine OneH.store sP (t := 25) (b := bR.heap.size) (off := 0) (v := .agg #[.slice dZ ((([] : List Int) ++ g.ow).length) iL, .slice iM ((([] : List Int) ++ g.pr).length) jV, .slice none 0 0]) _ rfl κ hN κ (fun aBh yL eE nY yM => ?_)
    clear sP
    replace nY : Bx yL (bR.heap.size) [.slice dZ ((([] : List Int) ++ g.ow).length) iL, .slice iM ((([] : List Int) ++ g.pr).length) jV, .slice none 0 0] 25 := nY
    have sQ := nX.gr' eE (by rw [aK]; exact ⟨(by simp only [add_block]; omega), (by simp only [add_block]; omega), trivial⟩); have := eE.size; replace e0 := e0.gr eE (fun k h => by injection h; omega); replace r9 := r9.gb eE ω; replace bx6 := bx6.gb eE ω; replace aA := aA.gb eE ω; replace eB := eB.gr eE (fun k hk => hk.2.1); replace jX := jX.gr eE (fun k hk => hk.2.1); clear hN eE
    refine ⟨sQ, ?_⟩
    refine AtH.done κ ?_
    clear sQ
    refine t_n ?_
    exact ⟨bR.heap.size, dZ, iM, iL, jV, yM.sb, e0, r9, bx6, aA, (eB.imp (fun g _ hs => ⟨hs.1, hs.2.1, (by have := Sx_base hs; show aF.heap.size ≤ g; omega)⟩)), (jX.imp (fun g _ hs => ⟨hs.1, hs.2.1, (by have := Sx_base hs; show aF.heap.size ≤ g; omega)⟩)), nY, ω, ω⟩
   refine OneH.bx iF lM 3 [.slice none 0 0, .slice none 0 0, .slice none 0 0] 25 (fun bS hO bJ sR aBi lU => ?_)
   clear iF; have := hO.size; replace e0 := e0.gn hO; replace r9 := r9.gn hO; replace bx6 := bx6.gn hO; replace aA := aA.gn hO; replace bF := bF.gn hO; have := bJ.lt; clear hO
   refine AtH.all [3, 4] 4 κ (by simp) ⟨?_, ?_, trivial⟩
   ·have eF : OwnR bS (Sx (aB.heap.size) [some (aQ.heap.size)]) (some ⟨aB.heap.size, 0, none⟩) 0 3 ([] : List Int) := Bx.own0 bF ⟨(fun e => by injection e; omega), (Nat.le_refl _)⟩
    clear bF; have yN : (([] : List Int) ++ g.ow).length = (([] : List Int)).length + (g.ow : List Int).length := List.length_append
    simp only [List.length_cons, List.length_nil] at yN
    refine OneH.act lU _ rfl (appendR (α := Int) (t := 22) (d := 8) (n := 0) (m := g.ow.length) (cc := cg0) (xs := []) (ys := g.ow) (bytes := 8) (by first | rfl | omega | (simp; done) | (simp; omega)) (by first | rfl | omega | (simp; done) | (simp; omega)) κ rfl κ eF r9.ow.srcR (by simp only [List.length_cons, List.length_nil]; omega) (by simp only [List.length_cons, List.length_nil]; omega)) ?_
    rintro d_ v_ eG ⟨rfl, eH, iN, lV⟩
    obtain rfl := lV.val
    have gS := lV.gr
    have sS := sR.grO gS (by rw [aK]; exact ⟨(fun e => by have := eF.ge _ e; simp only [add_block] at this; omega), (fun e => by have := eF.ge _ e; simp only [add_block] at this; omega), trivial⟩)
    refine ⟨_, rfl, fun aBj sT => ⟨sS, ?_⟩⟩
    clear lU
    have cG := lV.own (Sx (aB.heap.size) [some (aQ.heap.size)]) (fun g _ hs => ⟨hs.1, hs.2⟩) ⟨(fun e => by injection e; omega), (show aB.heap.size ≤ bS.heap.size by omega)⟩
    have := gS.size; replace e0 := e0.gr gS (fun k hk => by have := eF.ge k hk; omega); replace r9 := r9.gr gS (fun k hk => by have := eF.ge k hk; omega); replace bx6 := bx6.gr gS (fun e => by have := eF.ge _ e; omega); replace aA := aA.gr gS (fun e => by have := eF.ge _ e; omega); replace bJ := bJ.gr gS (eF.neb (fun g hs => hs.1)); clear eF gS lV
    replace cG : OwnR eG (Sx (aB.heap.size) [some (aQ.heap.size)]) eH iN 3 (g.ow : List Int) := cG
    refine AtH.all [4] 3 κ (by simp) ⟨?_, trivial⟩
    refine OneH.seq sT [] [(9, .slice (some ⟨eG.heap.size, 0, none⟩) 0 0)] (eG.alloc (.cells #[] 3 (0, 0))) [] _ rfl κ κ trivial (fun aBk nZ oA sU => ?_)
    clear sT; have eI := gr_alloc oA; have sV := sS.gr eI
    refine ⟨sV, ?_⟩
    have := eI.size; replace e0 := e0.gn eI; replace r9 := r9.gn eI; replace bx6 := bx6.gn eI; replace aA := aA.gn eI; replace cG := cG.grN eI; replace bJ := bJ.gn eI; have oB : Bx nZ (eG.heap.size) [] 3 := Bx.new oA; have := oB.lt; clear eI oA
    refine AtH.all [7] 2 κ (by simp) ⟨?_, trivial⟩
    have eJ : OwnR nZ (Sx (eG.heap.size) [obk (eH)]) (some ⟨eG.heap.size, 0, none⟩) 0 3 ([] : List Int) := Bx.own0 oB ⟨(cG.neb (fun g hs => hs.1)), (Nat.le_refl _)⟩
    clear oB; have yO : (([] : List Int) ++ g.pr).length = (([] : List Int)).length + (g.pr : List Int).length := List.length_append
    simp only [List.length_cons, List.length_nil] at yO
    refine OneH.act sU _ rfl (appendR (α := Int) (t := 22) (d := 12) (n := 0) (m := g.pr.length) (cc := cg1) (xs := []) (ys := g.pr) (bytes := 8) (by first | rfl | omega | (simp; done) | (simp; omega)) (by first | rfl | omega | (simp; done) | (simp; omega)) κ rfl κ eJ r9.pr.srcR (by simp only [List.length_cons, List.length_nil]; omega) (by simp only [List.length_cons, List.length_nil]; omega)) ?_
    rintro d_ v_ sW ⟨rfl, iO, jY, jZ⟩
    obtain rfl := jZ.val
    have eK := jZ.gr
    have oC := sV.grO eK (by rw [aK]; exact ⟨(fun e => by have := eJ.ge _ e; simp only [add_block] at this; omega), (fun e => by have := eJ.ge _ e; simp only [add_block] at this; omega), trivial⟩)
    refine ⟨_, rfl, fun aBl sX => ⟨oC, ?_⟩⟩
    clear sU; have kA := jZ.own (Sx (eG.heap.size) [obk (eH)]) (fun g _ hs => ⟨hs.1, hs.2⟩) ⟨cG.ne_new, (show eG.heap.size ≤ nZ.heap.size by omega)⟩; have := eK.size; replace e0 := e0.gr eK (fun k hk => by have := eJ.ge k hk; omega); replace r9 := r9.gr eK (fun k hk => by have := eJ.ge k hk; omega); replace bx6 := bx6.gr eK (fun e => by have := eJ.ge _ e; omega)
    replace aA := aA.gr eK (fun e => by have := eJ.ge _ e; omega)
    replace cG : OwnR sW (Sx (aB.heap.size) [obk (iO), some (aQ.heap.size)]) eH iN 3 (g.ow : List Int) := cG.grA eK (fun k hk => hk.1) (fun k hk hs => ⟨own_repl jZ.at_ hs.1 hk, hs.2.1, hs.2.2⟩)
    replace bJ := bJ.gr eK (fun e => by have := eJ.ge _ e; omega); clear eJ eK jZ; replace kA : OwnR sW (Sx (eG.heap.size) [obk (eH)]) iO jY 3 (g.pr : List Int) := kA
    refine AtH.rk oC sX [8] 1 [(13, .agg #[.slice eH ((([] : List Int) ++ g.ow).length) iN, .slice iO ((([] : List Int) ++ g.pr).length) jY, .slice none 0 0])] .n (fun aBm sY => ?_)
    clear sX
    refine AtH.all [10] 0 κ (by simp) ⟨?_, trivial⟩
    refine OneH.store sY (t := 25) (b := aQ.heap.size) (off := 0) (v := .agg #[.slice eH ((([] : List Int) ++ g.ow).length) iN, .slice iO ((([] : List Int) ++ g.pr).length) jY, .slice none 0 0]) _ rfl κ bJ κ (fun aBn yP eL oD yQ => ?_)
    clear sY
    replace oD : Bx yP (aQ.heap.size) [.slice eH ((([] : List Int) ++ g.ow).length) iN, .slice iO ((([] : List Int) ++ g.pr).length) jY, .slice none 0 0] 25 := oD
    have sZ := oC.gr' eL (by rw [aK]; exact ⟨(by simp only [add_block]; omega), (by simp only [add_block]; omega), trivial⟩); have := eL.size; replace e0 := e0.gr eL (fun k h => by injection h; omega); replace r9 := r9.gb eL ω; replace bx6 := bx6.gb eL ω; replace aA := aA.gb eL ω; replace cG := cG.gr eL (fun k hk => hk.2.1)
    replace kA := kA.gr eL (fun k hk e => by have := Sx_base hk; injection e; omega); clear bJ eL
    refine ⟨sZ, ?_⟩
    refine AtH.done κ ?_
    clear sZ
    refine t_n ?_
    exact ⟨aQ.heap.size, eH, iO, iN, jY, yQ.sb, e0, r9, bx6, aA, (cG.imp (fun g _ hs => ⟨hs.1, hs.2.1, (by have := Sx_base hs; show aF.heap.size ≤ g; omega)⟩)), (kA.imp (fun g _ hs => ⟨hs.1, (fun e => by have := Sx_base hs; injection e; omega), (by have := Sx_base hs; show aF.heap.size ≤ g; omega)⟩)), oD, ω, ω⟩
   refine OneH.seq lU [] [(9, .slice (some ⟨bS.heap.size, 0, none⟩) 0 0)] (bS.alloc (.cells #[] 3 (0, 0))) [] _ rfl κ κ trivial (fun aBo oE oF tA => ?_)
   clear lU; have eM := gr_alloc oF; have tB := sR.gr eM
   refine ⟨tB, ?_⟩
   have := eM.size; replace e0 := e0.gn eM; replace r9 := r9.gn eM; replace bx6 := bx6.gn eM; replace aA := aA.gn eM; replace bF := bF.gn eM; replace bJ := bJ.gn eM; have kB : Bx oE (bS.heap.size) [] 3 := Bx.new oF; have := kB.lt; clear eM oF
   refine AtH.all [3] 3 κ (by simp) ⟨?_, trivial⟩
   have cX : OwnR oE (Sx (aB.heap.size) [some (aQ.heap.size), some (bS.heap.size)]) (some ⟨aB.heap.size, 0, none⟩) 0 3 ([] : List Int) := Bx.own0 bF ⟨(fun e => by injection e; omega), (fun e => by injection e; omega), (Nat.le_refl _)⟩
   clear bF; have yR : (([] : List Int) ++ g.ow).length = (([] : List Int)).length + (g.ow : List Int).length := List.length_append
   simp only [List.length_cons, List.length_nil] at yR
   refine OneH.act tA _ rfl (appendR (α := Int) (t := 22) (d := 8) (n := 0) (m := g.ow.length) (cc := cg0) (xs := []) (ys := g.ow) (bytes := 8) (by first | rfl | omega | (simp; done) | (simp; omega)) (by first | rfl | omega | (simp; done) | (simp; omega)) κ rfl κ cX r9.ow.srcR (by simp only [List.length_cons, List.length_nil]; omega) (by simp only [List.length_cons, List.length_nil]; omega)) ?_
   rintro d_ v_ oG ⟨rfl, eN, iP, lW⟩
   obtain rfl := lW.val
   have eO := lW.gr
   have tC := tB.grO eO (by rw [aK]; exact ⟨(fun e => by have := cX.ge _ e; simp only [add_block] at this; omega), (fun e => by have := cX.ge _ e; simp only [add_block] at this; omega), trivial⟩)
   refine ⟨_, rfl, fun aBp tD => ⟨tC, ?_⟩⟩
   clear tA
   have eP := lW.own (Sx (aB.heap.size) [some (aQ.heap.size), some (bS.heap.size)]) (fun g _ hs => ⟨hs.1, hs.2.1, hs.2.2⟩) ⟨(fun e => by injection e; omega), (fun e => by injection e; omega), (show aB.heap.size ≤ oE.heap.size by omega)⟩
   have := eO.size; replace e0 := e0.gr eO (fun k hk => by have := cX.ge k hk; omega); replace r9 := r9.gr eO (fun k hk => by have := cX.ge k hk; omega); replace bx6 := bx6.gr eO (fun e => by have := cX.ge _ e; omega); replace aA := aA.gr eO (fun e => by have := cX.ge _ e; omega); replace bJ := bJ.gr eO (cX.neb (fun g hs => hs.1)); replace kB := kB.gr eO (cX.neb (fun g hs => hs.2.1)); clear cX eO lW
   replace eP : OwnR oG (Sx (aB.heap.size) [some (aQ.heap.size), some (bS.heap.size)]) eN iP 3 (g.ow : List Int) := eP
   refine AtH.all [7] 2 κ (by simp) ⟨?_, trivial⟩
   have eQ : OwnR oG (Sx (bS.heap.size) [obk (eN)]) (some ⟨bS.heap.size, 0, none⟩) 0 3 ([] : List Int) := Bx.own0 kB ⟨(eP.neb (fun g hs => hs.2.1)), (Nat.le_refl _)⟩
   clear kB; have yS : (([] : List Int) ++ g.pr).length = (([] : List Int)).length + (g.pr : List Int).length := List.length_append
   simp only [List.length_cons, List.length_nil] at yS
   refine OneH.act tD _ rfl (appendR (α := Int) (t := 22) (d := 12) (n := 0) (m := g.pr.length) (cc := cg1) (xs := []) (ys := g.pr) (bytes := 8) (by first | rfl | omega | (simp; done) | (simp; omega)) (by first | rfl | omega | (simp; done) | (simp; omega)) κ rfl κ eQ r9.pr.srcR (by simp only [List.length_cons, List.length_nil]; omega) (by simp only [List.length_cons, List.length_nil]; omega)) ?_
   rintro d_ v_ tE ⟨rfl, iQ, kC, kD⟩
   obtain rfl := kD.val
   have eR := kD.gr
   have oH := tC.grO eR (by rw [aK]; exact ⟨(fun e => by have := eQ.ge _ e; simp only [add_block] at this; omega), (fun e => by have := eQ.ge _ e; simp only [add_block] at this; omega), trivial⟩)
   refine ⟨_, rfl, fun aBq tF => ⟨oH, ?_⟩⟩
   clear tD; have kE := kD.own (Sx (bS.heap.size) [obk (eN)]) (fun g _ hs => ⟨hs.1, hs.2⟩) ⟨eP.ne_new, (show bS.heap.size ≤ oG.heap.size by omega)⟩; have := eR.size; replace e0 := e0.gr eR (fun k hk => by have := eQ.ge k hk; omega); replace r9 := r9.gr eR (fun k hk => by have := eQ.ge k hk; omega); replace bx6 := bx6.gr eR (fun e => by have := eQ.ge _ e; omega)
   replace aA := aA.gr eR (fun e => by have := eQ.ge _ e; omega)
   replace eP : OwnR tE (Sx (aB.heap.size) [some (aQ.heap.size), obk (iQ)]) eN iP 3 (g.ow : List Int) := eP.grA eR (fun k hk => hk.2.1) (fun k hk hs => ⟨hs.1, own_repl kD.at_ hs.2.1 hk, hs.2.2⟩)
   replace bJ := bJ.gr eR (fun e => by have := eQ.ge _ e; omega); clear eQ eR kD; replace kE : OwnR tE (Sx (bS.heap.size) [obk (eN)]) iQ kC 3 (g.pr : List Int) := kE
   refine AtH.rk oH tF [8] 1 [(13, .agg #[.slice eN ((([] : List Int) ++ g.ow).length) iP, .slice iQ ((([] : List Int) ++ g.pr).length) kC, .slice none 0 0])] .n (fun aBr tG => ?_)
   clear tF
   refine AtH.all [10] 0 κ (by simp) ⟨?_, trivial⟩
   refine OneH.store tG (t := 25) (b := aQ.heap.size) (off := 0) (v := .agg #[.slice eN ((([] : List Int) ++ g.ow).length) iP, .slice iQ ((([] : List Int) ++ g.pr).length) kC, .slice none 0 0]) _ rfl κ bJ κ (fun aBs yT eS oI yU => ?_)
   clear tG
   replace oI : Bx yT (aQ.heap.size) [.slice eN ((([] : List Int) ++ g.ow).length) iP, .slice iQ ((([] : List Int) ++ g.pr).length) kC, .slice none 0 0] 25 := oI
   have tH := oH.gr' eS (by rw [aK]; exact ⟨(by simp only [add_block]; omega), (by simp only [add_block]; omega), trivial⟩); have := eS.size; replace e0 := e0.gr eS (fun k h => by injection h; omega); replace r9 := r9.gb eS ω; replace bx6 := bx6.gb eS ω; replace aA := aA.gb eS ω; replace eP := eP.gr eS (fun k hk => hk.1); replace kE := kE.gr eS (fun k hk e => by have := Sx_base hk; injection e; omega)
   clear bJ eS
   refine ⟨tH, ?_⟩
   refine AtH.done κ ?_
   clear tH
   refine t_n ?_
   exact ⟨aQ.heap.size, eN, iQ, iP, kC, yU.sb, e0, r9, bx6, aA, (eP.imp (fun g _ hs => ⟨hs.2.1, hs.1, (by have := Sx_base hs; show aF.heap.size ≤ g; omega)⟩)), (kE.imp (fun g _ hs => ⟨hs.1, (fun e => by have := Sx_base hs; injection e; omega), (by have := Sx_base hs; show aF.heap.size ≤ g; omega)⟩)), oI, ω, ω⟩
  ·refine OneH.seq iE [] [(9, .slice (some ⟨aB.heap.size, 0, none⟩) 0 0)] (aB.alloc (.cells #[] 3 (0, 0))) [] _ rfl κ κ trivial (fun aBt aV oJ lX => ?_)
   clear iE; have hP := gr_alloc oJ; have oK := lL.gr hP
   refine ⟨oK, ?_⟩
   have := hP.size; replace e0 := e0.gn hP; replace r9 := r9.gn hP; replace bx6 := bx6.gn hP; replace aA := aA.gn hP; have aX : Bx aV (aB.heap.size) [] 3 := Bx.new oJ; have := aX.lt; clear hP oJ
   refine AtH.all [0, 9] 5 κ (by simp) ⟨?_, ?_, trivial⟩
   ·refine OneH.seq lX [] [(5, .slice (some ⟨aV.heap.size, 0, none⟩) 0 0)] (aV.alloc (.cells #[] 3 (0, 0))) [] _ rfl κ κ trivial (fun aBu bO oL lY => ?_)
    clear lX; have gT := gr_alloc oL; have oM := oK.gr gT
    refine ⟨oM, ?_⟩
    have := gT.size; replace e0 := e0.gn gT; replace r9 := r9.gn gT; replace bx6 := bx6.gn gT; replace aA := aA.gn gT; replace aX := aX.gn gT; have hQ : Bx bO (aV.heap.size) [] 3 := Bx.new oL; have := hQ.lt; clear gT oL
    refine AtH.all [3, 9] 4 κ (by simp) ⟨?_, ?_, trivial⟩
    ·have eT : OwnR bO (Sx (aV.heap.size) []) (some ⟨aV.heap.size, 0, none⟩) 0 3 ([] : List Int) := Bx.own0 hQ (Nat.le_refl _)
     clear hQ; have yV : (([] : List Int) ++ g.ow).length = (([] : List Int)).length + (g.ow : List Int).length := List.length_append
     simp only [List.length_cons, List.length_nil] at yV
     refine OneH.act lY _ rfl (appendR (α := Int) (t := 22) (d := 8) (n := 0) (m := g.ow.length) (cc := cg0) (xs := []) (ys := g.ow) (bytes := 8) (by first | rfl | omega | (simp; done) | (simp; omega)) (by first | rfl | omega | (simp; done) | (simp; omega)) κ rfl κ eT r9.ow.srcR (by simp only [List.length_cons, List.length_nil]; omega) (by simp only [List.length_cons, List.length_nil]; omega)) ?_
     rintro d_ v_ bY ⟨rfl, bG, bT, lZ⟩
     obtain rfl := lZ.val
     have gU := lZ.gr
     have oN := oM.grO gU (by rw [aK]; exact ⟨(fun e => by have := eT.ge _ e; simp only [add_block] at this; omega), (fun e => by have := eT.ge _ e; simp only [add_block] at this; omega), trivial⟩)
     refine ⟨_, rfl, fun aBv mA => ⟨oN, ?_⟩⟩
     clear lY; have bB := lZ.own (Sx (aV.heap.size) []) (fun g _ hs => hs) (show aV.heap.size ≤ bO.heap.size by omega); have := gU.size; replace e0 := e0.gr gU (fun k hk => by have := eT.ge k hk; omega); replace r9 := r9.gr gU (fun k hk => by have := eT.ge k hk; omega); replace bx6 := bx6.gr gU (fun e => by have := eT.ge _ e; omega); replace aA := aA.gr gU (fun e => by have := eT.ge _ e; omega)
     replace aX := aX.gr gU (fun e => by have := eT.ge _ e; omega); clear eT gU lZ; replace bB : OwnR bY (Sx (aV.heap.size) []) bG bT 3 (g.ow : List Int) := bB
     refine AtH.all [7, 9] 3 κ (by simp) ⟨?_, ?_, trivial⟩
     ·replace bB : OwnR bY (Sx (aV.heap.size) [some (aB.heap.size)]) bG bT 3 (g.ow : List Int) := bB.imp (fun g _ hs => ⟨(fun e => by have := Sx_base hs; injection e; omega), hs⟩)
      have gV : OwnR bY (Sx (aB.heap.size) [obk (bG)]) (some ⟨aB.heap.size, 0, none⟩) 0 3 ([] : List Int) := Bx.own0 aX ⟨(bB.neb (fun g hs => hs.1)), (Nat.le_refl _)⟩
      clear aX; have yW : (([] : List Int) ++ g.pr).length = (([] : List Int)).length + (g.pr : List Int).length := List.length_append
      simp only [List.length_cons, List.length_nil] at yW
      refine OneH.act mA _ rfl (appendR (α := Int) (t := 22) (d := 12) (n := 0) (m := g.pr.length) (cc := cg1) (xs := []) (ys := g.pr) (bytes := 8) (by first | rfl | omega | (simp; done) | (simp; omega)) (by first | rfl | omega | (simp; done) | (simp; omega)) κ rfl κ gV r9.pr.srcR (by simp only [List.length_cons, List.length_nil]; omega) (by simp only [List.length_cons, List.length_nil]; omega)) ?_
      rintro d_ v_ kF ⟨rfl, iR, kG, kH⟩
      obtain rfl := kH.val
      have gW := kH.gr
      have oO := oN.grO gW (by rw [aK]; exact ⟨(fun e => by have := gV.ge _ e; simp only [add_block] at this; omega), (fun e => by have := gV.ge _ e; simp only [add_block] at this; omega), trivial⟩)
      refine ⟨_, rfl, fun aBw tI => ⟨oO, ?_⟩⟩
      clear mA; have hR := kH.own (Sx (aB.heap.size) [obk (bG)]) (fun g _ hs => ⟨hs.1, hs.2⟩) ⟨bB.ne_new, (show aB.heap.size ≤ bY.heap.size by omega)⟩; have := gW.size; replace e0 := e0.gr gW (fun k hk => by have := gV.ge k hk; omega); replace r9 := r9.gr gW (fun k hk => by have := gV.ge k hk; omega); replace bx6 := bx6.gr gW (fun e => by have := gV.ge _ e; omega)
      replace aA := aA.gr gW (fun e => by have := gV.ge _ e; omega)
      replace bB : OwnR kF (Sx (aV.heap.size) [obk (iR)]) bG bT 3 (g.ow : List Int) := bB.grA gW (fun k hk => hk.1) (fun k hk hs => ⟨own_repl kH.at_ hs.1 hk, hs.2⟩)
      clear gV gW kH; replace hR : OwnR kF (Sx (aB.heap.size) [obk (bG)]) iR kG 3 (g.pr : List Int) := hR
      refine AtH.rk oO tI [8] 2 [(13, .agg #[.slice bG ((([] : List Int) ++ g.ow).length) bT, .slice iR ((([] : List Int) ++ g.pr).length) kG, .slice none 0 0])] .n (fun aBx tJ => ?_)
      clear tI
      refine AtH.all [9] 1 κ (by simp) ⟨?_, trivial⟩
      refine OneH.bx tJ oO 3 [.slice none 0 0, .slice none 0 0, .slice none 0 0] 25 (fun aBy gX oP yX aBz tK => ?_)
      clear tJ; have := gX.size; replace e0 := e0.gn gX; replace r9 := r9.gn gX; replace bx6 := bx6.gn gX; replace aA := aA.gn gX; replace hR := hR.grN gX; replace bB := bB.grN gX; have := oP.lt; clear gX
      refine AtH.all [10] 0 κ (by simp) ⟨?_, trivial⟩
      refine OneH.store tK (t := 25) (b := kF.heap.size) (off := 0) (v := .agg #[.slice bG ((([] : List Int) ++ g.ow).length) bT, .slice iR ((([] : List Int) ++ g.pr).length) kG, .slice none 0 0]) _ rfl κ oP κ (fun aBA yY eU oQ yZ => ?_)
      clear tK
      replace oQ : Bx yY (kF.heap.size) [.slice bG ((([] : List Int) ++ g.ow).length) bT, .slice iR ((([] : List Int) ++ g.pr).length) kG, .slice none 0 0] 25 := oQ
      have tL := yX.gr' eU (by rw [aK]; exact ⟨(by simp only [add_block]; omega), (by simp only [add_block]; omega), trivial⟩); have := eU.size; replace e0 := e0.gr eU (fun k h => by injection h; omega); replace r9 := r9.gb eU ω; replace bx6 := bx6.gb eU ω; replace aA := aA.gb eU ω; replace hR := hR.gr eU (fun k hk => hk.1); replace bB := bB.gr eU (fun k hk => hk.1); clear oP eU
      refine ⟨tL, ?_⟩
      refine AtH.done κ ?_
      clear tL
      refine t_n ?_
      exact ⟨kF.heap.size, bG, iR, bT, kG, yZ.sb, e0, r9, bx6, aA, (bB.imp (fun g _ hs => ⟨hs.2.1, hs.1, (by have := Sx_base hs; show aF.heap.size ≤ g; omega)⟩)), (hR.imp (fun g _ hs => ⟨hs.2.1, hs.1, (by have := Sx_base hs; show aF.heap.size ≤ g; omega)⟩)), oQ, ω, ω⟩
     refine OneH.bx mA oN 3 [.slice none 0 0, .slice none 0 0, .slice none 0 0] 25 (fun oR gY kI zA aBB tM => ?_)
     clear mA; have := gY.size; replace e0 := e0.gn gY; replace r9 := r9.gn gY; replace bx6 := bx6.gn gY; replace aA := aA.gn gY; replace aX := aX.gn gY; replace bB := bB.grN gY; have := kI.lt; clear gY
     refine AtH.all [7] 2 κ (by simp) ⟨?_, trivial⟩
     replace bB : OwnR oR (Sx (aV.heap.size) [some (aB.heap.size), some (bY.heap.size)]) bG bT 3 (g.ow : List Int) := bB.imp (fun g _ hs => ⟨(fun e => by have := Sx_base hs; injection e; omega), hs⟩)
     have eV : OwnR oR (Sx (aB.heap.size) [obk (bG), some (bY.heap.size)]) (some ⟨aB.heap.size, 0, none⟩) 0 3 ([] : List Int) := Bx.own0 aX ⟨(bB.neb (fun g hs => hs.1)), (fun e => by injection e; omega), (Nat.le_refl _)⟩
     clear aX; have zB : (([] : List Int) ++ g.pr).length = (([] : List Int)).length + (g.pr : List Int).length := List.length_append
     simp only [List.length_cons, List.length_nil] at zB
     refine OneH.act tM _ rfl (appendR (α := Int) (t := 22) (d := 12) (n := 0) (m := g.pr.length) (cc := cg1) (xs := []) (ys := g.pr) (bytes := 8) (by first | rfl | omega | (simp; done) | (simp; omega)) (by first | rfl | omega | (simp; done) | (simp; omega)) κ rfl κ eV r9.pr.srcR (by simp only [List.length_cons, List.length_nil]; omega) (by simp only [List.length_cons, List.length_nil]; omega)) ?_
     rintro d_ v_ tN ⟨rfl, iS, kJ, kK⟩
     obtain rfl := kK.val
     have eW := kK.gr
     have oS := zA.grO eW (by rw [aK]; exact ⟨(fun e => by have := eV.ge _ e; simp only [add_block] at this; omega), (fun e => by have := eV.ge _ e; simp only [add_block] at this; omega), trivial⟩)
     refine ⟨_, rfl, fun aBC tO => ⟨oS, ?_⟩⟩
     clear tM
     have kL := kK.own (Sx (aB.heap.size) [obk (bG), some (bY.heap.size)]) (fun g _ hs => ⟨hs.1, hs.2.1, hs.2.2⟩) ⟨bB.ne_new, (fun e => by injection e; omega), (show aB.heap.size ≤ oR.heap.size by omega)⟩
     have := eW.size; replace e0 := e0.gr eW (fun k hk => by have := eV.ge k hk; omega); replace r9 := r9.gr eW (fun k hk => by have := eV.ge k hk; omega); replace bx6 := bx6.gr eW (fun e => by have := eV.ge _ e; omega); replace aA := aA.gr eW (fun e => by have := eV.ge _ e; omega)
     replace bB : OwnR tN (Sx (aV.heap.size) [obk (iS), some (bY.heap.size)]) bG bT 3 (g.ow : List Int) := bB.grA eW (fun k hk => hk.1) (fun k hk hs => ⟨own_repl kK.at_ hs.1 hk, hs.2.1, hs.2.2⟩)
     replace kI := kI.gr eW (eV.neb (fun g hs => hs.2.1)); clear eV eW kK; replace kL : OwnR tN (Sx (aB.heap.size) [obk (bG), some (bY.heap.size)]) iS kJ 3 (g.pr : List Int) := kL
     refine AtH.rk oS tO [8] 1 [(13, .agg #[.slice bG ((([] : List Int) ++ g.ow).length) bT, .slice iS ((([] : List Int) ++ g.pr).length) kJ, .slice none 0 0])] .n (fun aBD tP => ?_)
     clear tO
     refine AtH.all [10] 0 κ (by simp) ⟨?_, trivial⟩
     refine OneH.store tP (t := 25) (b := bY.heap.size) (off := 0) (v := .agg #[.slice bG ((([] : List Int) ++ g.ow).length) bT, .slice iS ((([] : List Int) ++ g.pr).length) kJ, .slice none 0 0]) _ rfl κ kI κ (fun aBE zC eX oT zD => ?_)
     clear tP
     replace oT : Bx zC (bY.heap.size) [.slice bG ((([] : List Int) ++ g.ow).length) bT, .slice iS ((([] : List Int) ++ g.pr).length) kJ, .slice none 0 0] 25 := oT
     have tQ := oS.gr' eX (by rw [aK]; exact ⟨(by simp only [add_block]; omega), (by simp only [add_block]; omega), trivial⟩); have := eX.size; replace e0 := e0.gr eX (fun k h => by injection h; omega); replace r9 := r9.gb eX ω; replace bx6 := bx6.gb eX ω; replace aA := aA.gb eX ω; replace kL := kL.gr eX (fun k hk => hk.2.1); replace bB := bB.gr eX (fun k hk => hk.2.1); clear kI eX
     refine ⟨tQ, ?_⟩
     refine AtH.done κ ?_
     clear tQ
     refine t_n ?_
     exact ⟨bY.heap.size, bG, iS, bT, kJ, zD.sb, e0, r9, bx6, aA, (bB.imp (fun g _ hs => ⟨hs.1, hs.2.1, (by have := Sx_base hs; show aF.heap.size ≤ g; omega)⟩)), (kL.imp (fun g _ hs => ⟨hs.1, hs.2.1, (by have := Sx_base hs; show aF.heap.size ≤ g; omega)⟩)), oT, ω, ω⟩
    refine OneH.bx lY oM 3 [.slice none 0 0, .slice none 0 0, .slice none 0 0] 25 (fun tR gZ hS zE aBF tS => ?_)
    clear lY; have := gZ.size; replace e0 := e0.gn gZ; replace r9 := r9.gn gZ; replace bx6 := bx6.gn gZ; replace aA := aA.gn gZ; replace aX := aX.gn gZ; replace hQ := hQ.gn gZ; have := hS.lt; clear gZ
    refine AtH.all [3] 3 κ (by simp) ⟨?_, trivial⟩
    have cY : OwnR tR (Sx (aV.heap.size) [some (bO.heap.size)]) (some ⟨aV.heap.size, 0, none⟩) 0 3 ([] : List Int) := Bx.own0 hQ ⟨(fun e => by injection e; omega), (Nat.le_refl _)⟩
    clear hQ; have zF : (([] : List Int) ++ g.ow).length = (([] : List Int)).length + (g.ow : List Int).length := List.length_append
    simp only [List.length_cons, List.length_nil] at zF
    refine OneH.act tS _ rfl (appendR (α := Int) (t := 22) (d := 8) (n := 0) (m := g.ow.length) (cc := cg0) (xs := []) (ys := g.ow) (bytes := 8) (by first | rfl | omega | (simp; done) | (simp; omega)) (by first | rfl | omega | (simp; done) | (simp; omega)) κ rfl κ cY r9.ow.srcR (by simp only [List.length_cons, List.length_nil]; omega) (by simp only [List.length_cons, List.length_nil]; omega)) ?_
    rintro d_ v_ mB ⟨rfl, cZ, hT, mC⟩
    obtain rfl := mC.val
    have eY := mC.gr
    have tT := zE.grO eY (by rw [aK]; exact ⟨(fun e => by have := cY.ge _ e; simp only [add_block] at this; omega), (fun e => by have := cY.ge _ e; simp only [add_block] at this; omega), trivial⟩)
    refine ⟨_, rfl, fun aBG tU => ⟨tT, ?_⟩⟩
    clear tS
    have cH := mC.own (Sx (aV.heap.size) [some (bO.heap.size)]) (fun g _ hs => ⟨hs.1, hs.2⟩) ⟨(fun e => by injection e; omega), (show aV.heap.size ≤ tR.heap.size by omega)⟩
    have := eY.size; replace e0 := e0.gr eY (fun k hk => by have := cY.ge k hk; omega); replace r9 := r9.gr eY (fun k hk => by have := cY.ge k hk; omega); replace bx6 := bx6.gr eY (fun e => by have := cY.ge _ e; omega); replace aA := aA.gr eY (fun e => by have := cY.ge _ e; omega); replace aX := aX.gr eY (fun e => by have := cY.ge _ e; omega); replace hS := hS.gr eY (cY.neb (fun g hs => hs.1))
    clear cY eY mC; replace cH : OwnR mB (Sx (aV.heap.size) [some (bO.heap.size)]) cZ hT 3 (g.ow : List Int) := cH
    refine AtH.all [7] 2 κ (by simp) ⟨?_, trivial⟩
    replace cH : OwnR mB (Sx (aV.heap.size) [some (aB.heap.size), some (bO.heap.size)]) cZ hT 3 (g.ow : List Int) := cH.imp (fun g _ hs => ⟨(fun e => by have := Sx_base hs; injection e; omega), hs⟩)
    have eZ : OwnR mB (Sx (aB.heap.size) [obk (cZ), some (bO.heap.size)]) (some ⟨aB.heap.size, 0, none⟩) 0 3 ([] : List Int) := Bx.own0 aX ⟨(cH.neb (fun g hs => hs.1)), (fun e => by injection e; omega), (Nat.le_refl _)⟩
    clear aX; have zG : (([] : List Int) ++ g.pr).length = (([] : List Int)).length + (g.pr : List Int).length := List.length_append
    simp only [List.length_cons, List.length_nil] at zG
    refine OneH.act tU _ rfl (appendR (α := Int) (t := 22) (d := 12) (n := 0) (m := g.pr.length) (cc := cg1) (xs := []) (ys := g.pr) (bytes := 8) (by first | rfl | omega | (simp; done) | (simp; omega)) (by first | rfl | omega | (simp; done) | (simp; omega)) κ rfl κ eZ r9.pr.srcR (by simp only [List.length_cons, List.length_nil]; omega) (by simp only [List.length_cons, List.length_nil]; omega)) ?_
    rintro d_ v_ tV ⟨rfl, iT, kM, kN⟩
    obtain rfl := kN.val
    have fA := kN.gr
    have oU := tT.grO fA (by rw [aK]; exact ⟨(fun e => by have := eZ.ge _ e; simp only [add_block] at this; omega), (fun e => by have := eZ.ge _ e; simp only [add_block] at this; omega), trivial⟩)
    refine ⟨_, rfl, fun aBH tW => ⟨oU, ?_⟩⟩
    clear tU
    have kO := kN.own (Sx (aB.heap.size) [obk (cZ), some (bO.heap.size)]) (fun g _ hs => ⟨hs.1, hs.2.1, hs.2.2⟩) ⟨cH.ne_new, (fun e => by injection e; omega), (show aB.heap.size ≤ mB.heap.size by omega)⟩
    have := fA.size; replace e0 := e0.gr fA (fun k hk => by have := eZ.ge k hk; omega); replace r9 := r9.gr fA (fun k hk => by have := eZ.ge k hk; omega); replace bx6 := bx6.gr fA (fun e => by have := eZ.ge _ e; omega); replace aA := aA.gr fA (fun e => by have := eZ.ge _ e; omega)
    replace cH : OwnR tV (Sx (aV.heap.size) [obk (iT), some (bO.heap.size)]) cZ hT 3 (g.ow : List Int) := cH.grA fA (fun k hk => hk.1) (fun k hk hs => ⟨own_repl kN.at_ hs.1 hk, hs.2.1, hs.2.2⟩)
    replace hS := hS.gr fA (eZ.neb (fun g hs => hs.2.1)); clear eZ fA kN; replace kO : OwnR tV (Sx (aB.heap.size) [obk (cZ), some (bO.heap.size)]) iT kM 3 (g.pr : List Int) := kO
    refine AtH.rk oU tW [8] 1 [(13, .agg #[.slice cZ ((([] : List Int) ++ g.ow).length) hT, .slice iT ((([] : List Int) ++ g.pr).length) kM, .slice none 0 0])] .n (fun aBI tX => ?_)
    clear tW
    refine AtH.all [10] 0 κ (by simp) ⟨?_, trivial⟩
    refine OneH.store tX (t := 25) (b := bO.heap.size) (off := 0) (v := .agg #[.slice cZ ((([] : List Int) ++ g.ow).length) hT, .slice iT ((([] : List Int) ++ g.pr).length) kM, .slice none 0 0]) _ rfl κ hS κ (fun aBJ zH fB oV zI => ?_)
    clear tX
    replace oV : Bx zH (bO.heap.size) [.slice cZ ((([] : List Int) ++ g.ow).length) hT, .slice iT ((([] : List Int) ++ g.pr).length) kM, .slice none 0 0] 25 := oV
    have tY := oU.gr' fB (by rw [aK]; exact ⟨(by simp only [add_block]; omega), (by simp only [add_block]; omega), trivial⟩); have := fB.size; replace e0 := e0.gr fB (fun k h => by injection h; omega); replace r9 := r9.gb fB ω; replace bx6 := bx6.gb fB ω; replace aA := aA.gb fB ω; replace kO := kO.gr fB (fun k hk => hk.2.1); replace cH := cH.gr fB (fun k hk => hk.2.1); clear hS fB
    refine ⟨tY, ?_⟩
    refine AtH.done κ ?_
    clear tY
    refine t_n ?_
    exact ⟨bO.heap.size, cZ, iT, hT, kM, zI.sb, e0, r9, bx6, aA, (cH.imp (fun g _ hs => ⟨hs.1, hs.2.1, (by have := Sx_base hs; show aF.heap.size ≤ g; omega)⟩)), (kO.imp (fun g _ hs => ⟨hs.1, hs.2.1, (by have := Sx_base hs; show aF.heap.size ≤ g; omega)⟩)), oV, ω, ω⟩
   refine OneH.bx lX oK 3 [.slice none 0 0, .slice none 0 0, .slice none 0 0] 25 (fun dA hU fC zJ aBK tZ => ?_)
   clear lX; have := hU.size; replace e0 := e0.gn hU; replace r9 := r9.gn hU; replace bx6 := bx6.gn hU; replace aA := aA.gn hU; replace aX := aX.gn hU; have := fC.lt; clear hU
   refine AtH.all [0] 4 κ (by simp) ⟨?_, trivial⟩
   refine OneH.seq tZ [] [(5, .slice (some ⟨dA.heap.size, 0, none⟩) 0 0)] (dA.alloc (.cells #[] 3 (0, 0))) [] _ rfl κ κ trivial (fun aBL oW oX uA => ?_)
   clear tZ; have fD := gr_alloc oX; have uB := zJ.gr fD
   refine ⟨uB, ?_⟩
   have := fD.size; replace e0 := e0.gn fD; replace r9 := r9.gn fD; replace bx6 := bx6.gn fD; replace aA := aA.gn fD; replace aX := aX.gn fD; replace fC := fC.gn fD; have oY : Bx oW (dA.heap.size) [] 3 := Bx.new oX; have := oY.lt; clear fD oX
   refine AtH.all [3] 3 κ (by simp) ⟨?_, trivial⟩
   have dB : OwnR oW (Sx (dA.heap.size) []) (some ⟨dA.heap.size, 0, none⟩) 0 3 ([] : List Int) := Bx.own0 oY (Nat.le_refl _); clear oY; have zK : (([] : List Int) ++ g.ow).length = (([] : List Int)).length + (g.ow : List Int).length := List.length_append
   simp only [List.length_cons, List.length_nil] at zK
   refine OneH.act uA _ rfl (appendR (α := Int) (t := 22) (d := 8) (n := 0) (m := g.ow.length) (cc := cg0) (xs := []) (ys := g.ow) (bytes := 8) (by first | rfl | omega | (simp; done) | (simp; omega)) (by first | rfl | omega | (simp; done) | (simp; omega)) κ rfl κ dB r9.ow.srcR (by simp only [List.length_cons, List.length_nil]; omega) (by simp only [List.length_cons, List.length_nil]; omega)) ?_
   rintro d_ v_ mD ⟨rfl, dC, hV, mE⟩
   obtain rfl := mE.val
   have fE := mE.gr
   have uC := uB.grO fE (by rw [aK]; exact ⟨(fun e => by have := dB.ge _ e; simp only [add_block] at this; omega), (fun e => by have := dB.ge _ e; simp only [add_block] at this; omega), trivial⟩)
   refine ⟨_, rfl, fun aBM uD => ⟨uC, ?_⟩⟩
   clear uA; have cI := mE.own (Sx (dA.heap.size) []) (fun g _ hs => hs) (show dA.heap.size ≤ oW.heap.size by omega); have := fE.size; replace e0 := e0.gr fE (fun k hk => by have := dB.ge k hk; omega); replace r9 := r9.gr fE (fun k hk => by have := dB.ge k hk; omega); replace bx6 := bx6.gr fE (fun e => by have := dB.ge _ e; omega); replace aA := aA.gr fE (fun e => by have := dB.ge _ e; omega)
   replace aX := aX.gr fE (fun e => by have := dB.ge _ e; omega); replace fC := fC.gr fE (fun e => by have := dB.ge _ e; omega); clear dB fE mE; replace cI : OwnR mD (Sx (dA.heap.size) []) dC hV 3 (g.ow : List Int) := cI
   refine AtH.all [7] 2 κ (by simp) ⟨?_, trivial⟩
   replace cI : OwnR mD (Sx (dA.heap.size) [some (aB.heap.size)]) dC hV 3 (g.ow : List Int) := cI.imp (fun g _ hs => ⟨(fun e => by have := Sx_base hs; injection e; omega), hs⟩)
   have fF : OwnR mD (Sx (aB.heap.size) [some (aV.heap.size), obk (dC)]) (some ⟨aB.heap.size, 0, none⟩) 0 3 ([] : List Int) := Bx.own0 aX ⟨(fun e => by injection e; omega), (cI.neb (fun g hs => hs.1)), (Nat.le_refl _)⟩
   clear aX; have zL : (([] : List Int) ++ g.pr).length = (([] : List Int)).length + (g.pr : List Int).length := List.length_append
   simp only [List.length_cons, List.length_nil] at zL
   refine OneH.act uD _ rfl (appendR (α := Int) (t := 22) (d := 12) (n := 0) (m := g.pr.length) (cc := cg1) (xs := []) (ys := g.pr) (bytes := 8) (by first | rfl | omega | (simp; done) | (simp; omega)) (by first | rfl | omega | (simp; done) | (simp; omega)) κ rfl κ fF r9.pr.srcR (by simp only [List.length_cons, List.length_nil]; omega) (by simp only [List.length_cons, List.length_nil]; omega)) ?_
   rintro d_ v_ uE ⟨rfl, iU, kP, kQ⟩
   obtain rfl := kQ.val
   have fG := kQ.gr
   have oZ := uC.grO fG (by rw [aK]; exact ⟨(fun e => by have := fF.ge _ e; simp only [add_block] at this; omega), (fun e => by have := fF.ge _ e; simp only [add_block] at this; omega), trivial⟩)
   refine ⟨_, rfl, fun aBN uF => ⟨oZ, ?_⟩⟩
   clear uD
   have kR := kQ.own (Sx (aB.heap.size) [some (aV.heap.size), obk (dC)]) (fun g _ hs => ⟨hs.1, hs.2.1, hs.2.2⟩) ⟨(fun e => by injection e; omega), cI.ne_new, (show aB.heap.size ≤ mD.heap.size by omega)⟩
   have := fG.size; replace e0 := e0.gr fG (fun k hk => by have := fF.ge k hk; omega); replace r9 := r9.gr fG (fun k hk => by have := fF.ge k hk; omega); replace bx6 := bx6.gr fG (fun e => by have := fF.ge _ e; omega); replace aA := aA.gr fG (fun e => by have := fF.ge _ e; omega); replace fC := fC.gr fG (fF.neb (fun g hs => hs.1))
   replace cI : OwnR uE (Sx (dA.heap.size) [obk (iU)]) dC hV 3 (g.ow : List Int) := cI.grA fG (fun k hk => hk.1) (fun k hk hs => ⟨own_repl kQ.at_ hs.1 hk, hs.2⟩)
   clear fF fG kQ; replace kR : OwnR uE (Sx (aB.heap.size) [some (aV.heap.size), obk (dC)]) iU kP 3 (g.pr : List Int) := kR
   refine AtH.rk oZ uF [8] 1 [(13, .agg #[.slice dC ((([] : List Int) ++ g.ow).length) hV, .slice iU ((([] : List Int) ++ g.pr).length) kP, .slice none 0 0])] .n (fun aBO uG => ?_)
   clear uF
   refine AtH.all [10] 0 κ (by simp) ⟨?_, trivial⟩
   refine OneH.store uG (t := 25) (b := aV.heap.size) (off := 0) (v := .agg #[.slice dC ((([] : List Int) ++ g.ow).length) hV, .slice iU ((([] : List Int) ++ g.pr).length) kP, .slice none 0 0]) _ rfl κ fC κ (fun aBP zM fH pA zN => ?_)
   clear uG
   replace pA : Bx zM (aV.heap.size) [.slice dC ((([] : List Int) ++ g.ow).length) hV, .slice iU ((([] : List Int) ++ g.pr).length) kP, .slice none 0 0] 25 := pA
   have uH := oZ.gr' fH (by rw [aK]; exact ⟨(by simp only [add_block]; omega), (by simp only [add_block]; omega), trivial⟩); have := fH.size; replace e0 := e0.gr fH (fun k h => by injection h; omega); replace r9 := r9.gb fH ω; replace bx6 := bx6.gb fH ω; replace aA := aA.gb fH ω; replace kR := kR.gr fH (fun k hk => hk.1); replace cI := cI.gr fH (fun k hk e => by have := Sx_base hk; injection e; omega)
   clear fC fH
   refine ⟨uH, ?_⟩
   refine AtH.done κ ?_
   clear uH
   refine t_n ?_
   exact ⟨aV.heap.size, dC, iU, hV, kP, zN.sb, e0, r9, bx6, aA, (cI.imp (fun g _ hs => ⟨hs.1, (fun e => by have := Sx_base hs; injection e; omega), (by have := Sx_base hs; show aF.heap.size ≤ g; omega)⟩)), (kR.imp (fun g _ hs => ⟨hs.2.1, hs.1, (by have := Sx_base hs; show aF.heap.size ≤ g; omega)⟩)), pA, ω, ω⟩
  refine OneH.bx iE lL 3 [.slice none 0 0, .slice none 0 0, .slice none 0 0] 25 (fun bC iV aU uI aBQ mF => ?_)
  clear iE; have := iV.size; replace e0 := e0.gn iV; replace r9 := r9.gn iV; replace bx6 := bx6.gn iV; replace aA := aA.gn iV; have := aU.lt; clear iV
  refine AtH.all [0, 4] 5 κ (by simp) ⟨?_, ?_, trivial⟩
  ·refine OneH.seq mF [] [(5, .slice (some ⟨bC.heap.size, 0, none⟩) 0 0)] (bC.alloc (.cells #[] 3 (0, 0))) [] _ rfl κ κ trivial (fun aBR bP pB mG => ?_)
   clear mF; have hA := gr_alloc pB; have pC := uI.gr hA
   refine ⟨pC, ?_⟩
   have := hA.size; replace e0 := e0.gn hA; replace r9 := r9.gn hA; replace bx6 := bx6.gn hA; replace aA := aA.gn hA; replace aU := aU.gn hA; have hW : Bx bP (bC.heap.size) [] 3 := Bx.new pB; have := hW.lt; clear hA pB
   refine AtH.all [3, 4] 4 κ (by simp) ⟨?_, ?_, trivial⟩
   ·have fI : OwnR bP (Sx (bC.heap.size) []) (some ⟨bC.heap.size, 0, none⟩) 0 3 ([] : List Int) := Bx.own0 hW (Nat.le_refl _)
    clear hW; have zO : (([] : List Int) ++ g.ow).length = (([] : List Int)).length + (g.ow : List Int).length := List.length_append
    simp only [List.length_cons, List.length_nil] at zO
    refine OneH.act mG _ rfl (appendR (α := Int) (t := 22) (d := 8) (n := 0) (m := g.ow.length) (cc := cg0) (xs := []) (ys := g.ow) (bytes := 8) (by first | rfl | omega | (simp; done) | (simp; omega)) (by first | rfl | omega | (simp; done) | (simp; omega)) κ rfl κ fI r9.ow.srcR (by simp only [List.length_cons, List.length_nil]; omega) (by simp only [List.length_cons, List.length_nil]; omega)) ?_
    rintro d_ v_ fJ ⟨rfl, fK, iW, mH⟩
    obtain rfl := mH.val
    have hB := mH.gr
    have uJ := pC.grO hB (by rw [aK]; exact ⟨(fun e => by have := fI.ge _ e; simp only [add_block] at this; omega), (fun e => by have := fI.ge _ e; simp only [add_block] at this; omega), trivial⟩)
    refine ⟨_, rfl, fun aBS uK => ⟨uJ, ?_⟩⟩
    clear mG; have cJ := mH.own (Sx (bC.heap.size) []) (fun g _ hs => hs) (show bC.heap.size ≤ bP.heap.size by omega); have := hB.size; replace e0 := e0.gr hB (fun k hk => by have := fI.ge k hk; omega); replace r9 := r9.gr hB (fun k hk => by have := fI.ge k hk; omega); replace bx6 := bx6.gr hB (fun e => by have := fI.ge _ e; omega); replace aA := aA.gr hB (fun e => by have := fI.ge _ e; omega)
    replace aU := aU.gr hB (fun e => by have := fI.ge _ e; omega); clear fI hB mH; replace cJ : OwnR fJ (Sx (bC.heap.size) []) fK iW 3 (g.ow : List Int) := cJ
    refine AtH.all [4] 3 κ (by simp) ⟨?_, trivial⟩
    refine OneH.seq uK [] [(9, .slice (some ⟨fJ.heap.size, 0, none⟩) 0 0)] (fJ.alloc (.cells #[] 3 (0, 0))) [] _ rfl κ κ trivial (fun aBT pD pE uL => ?_)
    clear uK; have fL := gr_alloc pE; have uM := uJ.gr fL
    refine ⟨uM, ?_⟩
    have := fL.size; replace e0 := e0.gn fL; replace r9 := r9.gn fL; replace bx6 := bx6.gn fL; replace aA := aA.gn fL; replace aU := aU.gn fL; replace cJ := cJ.grN fL; have pF : Bx pD (fJ.heap.size) [] 3 := Bx.new pE; have := pF.lt; clear fL pE
    refine AtH.all [7] 2 κ (by simp) ⟨?_, trivial⟩
    have fM : OwnR pD (Sx (fJ.heap.size) [obk (fK)]) (some ⟨fJ.heap.size, 0, none⟩) 0 3 ([] : List Int) := Bx.own0 pF ⟨(cJ.neb (fun g hs => hs.1)), (Nat.le_refl _)⟩
    clear pF; have zP : (([] : List Int) ++ g.pr).length = (([] : List Int)).length + (g.pr : List Int).length := List.length_append
    simp only [List.length_cons, List.length_nil] at zP
    refine OneH.act uL _ rfl (appendR (α := Int) (t := 22) (d := 12) (n := 0) (m := g.pr.length) (cc := cg1) (xs := []) (ys := g.pr) (bytes := 8) (by first | rfl | omega | (simp; done) | (simp; omega)) (by first | rfl | omega | (simp; done) | (simp; omega)) κ rfl κ fM r9.pr.srcR (by simp only [List.length_cons, List.length_nil]; omega) (by simp only [List.length_cons, List.length_nil]; omega)) ?_
    rintro d_ v_ uN ⟨rfl, iX, kS, kT⟩
    obtain rfl := kT.val
    have fN := kT.gr
    have pG := uM.grO fN (by rw [aK]; exact ⟨(fun e => by have := fM.ge _ e; simp only [add_block] at this; omega), (fun e => by have := fM.ge _ e; simp only [add_block] at this; omega), trivial⟩)
    refine ⟨_, rfl, fun aBU uO => ⟨pG, ?_⟩⟩
    clear uL; have kU := kT.own (Sx (fJ.heap.size) [obk (fK)]) (fun g _ hs => ⟨hs.1, hs.2⟩) ⟨cJ.ne_new, (show fJ.heap.size ≤ pD.heap.size by omega)⟩; have := fN.size; replace e0 := e0.gr fN (fun k hk => by have := fM.ge k hk; omega); replace r9 := r9.gr fN (fun k hk => by have := fM.ge k hk; omega); replace bx6 := bx6.gr fN (fun e => by have := fM.ge _ e; omega)
    replace aA := aA.gr fN (fun e => by have := fM.ge _ e; omega); replace aU := aU.gr fN (fun e => by have := fM.ge _ e; omega)
    replace cJ : OwnR uN (Sx (bC.heap.size) [obk (iX)]) fK iW 3 (g.ow : List Int) := cJ.grA fN (fun k hk => hk.1) (fun k hk hs => ⟨own_repl kT.at_ hs.1 hk, hs.2⟩)
    clear fM fN kT; replace kU : OwnR uN (Sx (fJ.heap.size) [obk (fK)]) iX kS 3 (g.pr : List Int) := kU
    refine AtH.rk pG uO [8] 1 [(13, .agg #[.slice fK ((([] : List Int) ++ g.ow).length) iW, .slice iX ((([] : List Int) ++ g.pr).length) kS, .slice none 0 0])] .n (fun aBV uP => ?_)
    clear uO
    refine AtH.all [10] 0 κ (by simp) ⟨?_, trivial⟩
    refine OneH.store uP (t := 25) (b := aB.heap.size) (off := 0) (v := .agg #[.slice fK ((([] : List Int) ++ g.ow).length) iW, .slice iX ((([] : List Int) ++ g.pr).length) kS, .slice none 0 0]) _ rfl κ aU κ (fun aBW zQ fO pH zR => ?_)
    clear uP
    replace pH : Bx zQ (aB.heap.size) [.slice fK ((([] : List Int) ++ g.ow).length) iW, .slice iX ((([] : List Int) ++ g.pr).length) kS, .slice none 0 0] 25 := pH
    have uQ := pG.gr' fO (by rw [aK]; exact ⟨(by simp only [add_block]; omega), (by simp only [add_block]; omega), trivial⟩); have := fO.size; replace e0 := e0.gr fO (fun k h => by injection h; omega); replace r9 := r9.gb fO ω; replace bx6 := bx6.gb fO ω; replace aA := aA.gb fO ω; replace cJ := cJ.gr fO (fun k hk e => by have := Sx_base hk; injection e; omega)
    replace kU := kU.gr fO (fun k hk e => by have := Sx_base hk; injection e; omega); clear aU fO
    refine ⟨uQ, ?_⟩
    refine AtH.done κ ?_
    clear uQ
    refine t_n ?_
    exact ⟨aB.heap.size, fK, iX, iW, kS, zR.sb, e0, r9, bx6, aA, (cJ.imp (fun g _ hs => ⟨hs.1, (fun e => by have := Sx_base hs; injection e; omega), (by have := Sx_base hs; show aF.heap.size ≤ g; omega)⟩)), (kU.imp (fun g _ hs => ⟨hs.1, (fun e => by have := Sx_base hs; injection e; omega), (by have := Sx_base hs; show aF.heap.size ≤ g; omega)⟩)), pH, ω, ω⟩
   refine OneH.seq mG [] [(9, .slice (some ⟨bP.heap.size, 0, none⟩) 0 0)] (bP.alloc (.cells #[] 3 (0, 0))) [] _ rfl κ κ trivial (fun aBX pI pJ uR => ?_)
   clear mG; have fP := gr_alloc pJ; have uS := pC.gr fP
   refine ⟨uS, ?_⟩
   have := fP.size; replace e0 := e0.gn fP; replace r9 := r9.gn fP; replace bx6 := bx6.gn fP; replace aA := aA.gn fP; replace aU := aU.gn fP; replace hW := hW.gn fP; have kV : Bx pI (bP.heap.size) [] 3 := Bx.new pJ; have := kV.lt; clear fP pJ
   refine AtH.all [3] 3 κ (by simp) ⟨?_, trivial⟩
   have dD : OwnR pI (Sx (bC.heap.size) [some (bP.heap.size)]) (some ⟨bC.heap.size, 0, none⟩) 0 3 ([] : List Int) := Bx.own0 hW ⟨(fun e => by injection e; omega), (Nat.le_refl _)⟩
   clear hW; have zS : (([] : List Int) ++ g.ow).length = (([] : List Int)).length + (g.ow : List Int).length := List.length_append
   simp only [List.length_cons, List.length_nil] at zS
   refine OneH.act uR _ rfl (appendR (α := Int) (t := 22) (d := 8) (n := 0) (m := g.ow.length) (cc := cg0) (xs := []) (ys := g.ow) (bytes := 8) (by first | rfl | omega | (simp; done) | (simp; omega)) (by first | rfl | omega | (simp; done) | (simp; omega)) κ rfl κ dD r9.ow.srcR (by simp only [List.length_cons, List.length_nil]; omega) (by simp only [List.length_cons, List.length_nil]; omega)) ?_
   rintro d_ v_ pK ⟨rfl, fQ, iY, mI⟩
   obtain rfl := mI.val
   have fR := mI.gr
   have uT := uS.grO fR (by rw [aK]; exact ⟨(fun e => by have := dD.ge _ e; simp only [add_block] at this; omega), (fun e => by have := dD.ge _ e; simp only [add_block] at this; omega), trivial⟩)
   refine ⟨_, rfl, fun aBY uU => ⟨uT, ?_⟩⟩
   clear uR
   have fS := mI.own (Sx (bC.heap.size) [some (bP.heap.size)]) (fun g _ hs => ⟨hs.1, hs.2⟩) ⟨(fun e => by injection e; omega), (show bC.heap.size ≤ pI.heap.size by omega)⟩
   have := fR.size; replace e0 := e0.gr fR (fun k hk => by have := dD.ge k hk; omega); replace r9 := r9.gr fR (fun k hk => by have := dD.ge k hk; omega); replace bx6 := bx6.gr fR (fun e => by have := dD.ge _ e; omega); replace aA := aA.gr fR (fun e => by have := dD.ge _ e; omega); replace aU := aU.gr fR (fun e => by have := dD.ge _ e; omega); replace kV := kV.gr fR (dD.neb (fun g hs => hs.1))
   clear dD fR mI; replace fS : OwnR pK (Sx (bC.heap.size) [some (bP.heap.size)]) fQ iY 3 (g.ow : List Int) := fS
   refine AtH.all [7] 2 κ (by simp) ⟨?_, trivial⟩
   have fT : OwnR pK (Sx (bP.heap.size) [obk (fQ)]) (some ⟨bP.heap.size, 0, none⟩) 0 3 ([] : List Int) := Bx.own0 kV ⟨(fS.neb (fun g hs => hs.1)), (Nat.le_refl _)⟩
   clear kV; have zT : (([] : List Int) ++ g.pr).length = (([] : List Int)).length + (g.pr : List Int).length := List.length_append
   simp only [List.length_cons, List.length_nil] at zT
   refine OneH.act uU _ rfl (appendR (α := Int) (t := 22) (d := 12) (n := 0) (m := g.pr.length) (cc := cg1) (xs := []) (ys := g.pr) (bytes := 8) (by first | rfl | omega | (simp; done) | (simp; omega)) (by first | rfl | omega | (simp; done) | (simp; omega)) κ rfl κ fT r9.pr.srcR (by simp only [List.length_cons, List.length_nil]; omega) (by simp only [List.length_cons, List.length_nil]; omega)) ?_
   rintro d_ v_ uV ⟨rfl, iZ, kW, kX⟩
   obtain rfl := kX.val
   have fU := kX.gr
   have pL := uT.grO fU (by rw [aK]; exact ⟨(fun e => by have := fT.ge _ e; simp only [add_block] at this; omega), (fun e => by have := fT.ge _ e; simp only [add_block] at this; omega), trivial⟩)
   refine ⟨_, rfl, fun aBZ uW => ⟨pL, ?_⟩⟩
   clear uU; have kY := kX.own (Sx (bP.heap.size) [obk (fQ)]) (fun g _ hs => ⟨hs.1, hs.2⟩) ⟨fS.ne_new, (show bP.heap.size ≤ pK.heap.size by omega)⟩; have := fU.size; replace e0 := e0.gr fU (fun k hk => by have := fT.ge k hk; omega); replace r9 := r9.gr fU (fun k hk => by have := fT.ge k hk; omega); replace bx6 := bx6.gr fU (fun e => by have := fT.ge _ e; omega)
   replace aA := aA.gr fU (fun e => by have := fT.ge _ e; omega); replace aU := aU.gr fU (fun e => by have := fT.ge _ e; omega)
   replace fS : OwnR uV (Sx (bC.heap.size) [obk (iZ)]) fQ iY 3 (g.ow : List Int) := fS.grA fU (fun k hk => hk.1) (fun k hk hs => ⟨own_repl kX.at_ hs.1 hk, hs.2⟩)
   clear fT fU kX; replace kY : OwnR uV (Sx (bP.heap.size) [obk (fQ)]) iZ kW 3 (g.pr : List Int) := kY
   refine AtH.rk pL uW [8] 1 [(13, .agg #[.slice fQ ((([] : List Int) ++ g.ow).length) iY, .slice iZ ((([] : List Int) ++ g.pr).length) kW, .slice none 0 0])] .n (fun aCa uX => ?_)
   clear uW
   refine AtH.all [10] 0 κ (by simp) ⟨?_, trivial⟩
   refine OneH.store uX (t := 25) (b := aB.heap.size) (off := 0) (v := .agg #[.slice fQ ((([] : List Int) ++ g.ow).length) iY, .slice iZ ((([] : List Int) ++ g.pr).length) kW, .slice none 0 0]) _ rfl κ aU κ (fun aCb zU fV pM zV => ?_)
   clear uX
   replace pM : Bx zU (aB.heap.size) [.slice fQ ((([] : List Int) ++ g.ow).length) iY, .slice iZ ((([] : List Int) ++ g.pr).length) kW, .slice none 0 0] 25 := pM
   have uY := pL.gr' fV (by rw [aK]; exact ⟨(by simp only [add_block]; omega), (by simp only [add_block]; omega), trivial⟩); have := fV.size; replace e0 := e0.gr fV (fun k h => by injection h; omega); replace r9 := r9.gb fV ω; replace bx6 := bx6.gb fV ω; replace aA := aA.gb fV ω; replace fS := fS.gr fV (fun k hk e => by have := Sx_base hk; injection e; omega)
   replace kY := kY.gr fV (fun k hk e => by have := Sx_base hk; injection e; omega); clear aU fV
   refine ⟨uY, ?_⟩
   refine AtH.done κ ?_
   clear uY
   refine t_n ?_
   exact ⟨aB.heap.size, fQ, iZ, iY, kW, zV.sb, e0, r9, bx6, aA, (fS.imp (fun g _ hs => ⟨hs.1, (fun e => by have := Sx_base hs; injection e; omega), (by have := Sx_base hs; show aF.heap.size ≤ g; omega)⟩)), (kY.imp (fun g _ hs => ⟨hs.1, (fun e => by have := Sx_base hs; injection e; omega), (by have := Sx_base hs; show aF.heap.size ≤ g; omega)⟩)), pM, ω, ω⟩
  refine OneH.seq mF [] [(9, .slice (some ⟨bC.heap.size, 0, none⟩) 0 0)] (bC.alloc (.cells #[] 3 (0, 0))) [] _ rfl κ κ trivial (fun aCc cK pN uZ => ?_)
  clear mF; have hC := gr_alloc pN; have vA := uI.gr hC
  refine ⟨vA, ?_⟩
  have := hC.size; replace e0 := e0.gn hC; replace r9 := r9.gn hC; replace bx6 := bx6.gn hC; replace aA := aA.gn hC; replace aU := aU.gn hC; have hX : Bx cK (bC.heap.size) [] 3 := Bx.new pN; have := hX.lt; clear hC pN
  refine AtH.all [0] 4 κ (by simp) ⟨?_, trivial⟩
  refine OneH.seq uZ [] [(5, .slice (some ⟨cK.heap.size, 0, none⟩) 0 0)] (cK.alloc (.cells #[] 3 (0, 0))) [] _ rfl κ κ trivial (fun aCd pO pP vB => ?_)
  clear uZ; have fW := gr_alloc pP; have vC := vA.gr fW
  refine ⟨vC, ?_⟩
  have := fW.size; replace e0 := e0.gn fW; replace r9 := r9.gn fW; replace bx6 := bx6.gn fW; replace aA := aA.gn fW; replace aU := aU.gn fW; replace hX := hX.gn fW; have pQ : Bx pO (cK.heap.size) [] 3 := Bx.new pP; have := pQ.lt; clear fW pP
  refine AtH.all [3] 3 κ (by simp) ⟨?_, trivial⟩
  have dE : OwnR pO (Sx (cK.heap.size) []) (some ⟨cK.heap.size, 0, none⟩) 0 3 ([] : List Int) := Bx.own0 pQ (Nat.le_refl _); clear pQ; have zW : (([] : List Int) ++ g.ow).length = (([] : List Int)).length + (g.ow : List Int).length := List.length_append
  simp only [List.length_cons, List.length_nil] at zW
  refine OneH.act vB _ rfl (appendR (α := Int) (t := 22) (d := 8) (n := 0) (m := g.ow.length) (cc := cg0) (xs := []) (ys := g.ow) (bytes := 8) (by first | rfl | omega | (simp; done) | (simp; omega)) (by first | rfl | omega | (simp; done) | (simp; omega)) κ rfl κ dE r9.ow.srcR (by simp only [List.length_cons, List.length_nil]; omega) (by simp only [List.length_cons, List.length_nil]; omega)) ?_
  rintro d_ v_ mJ ⟨rfl, dF, hY, mK⟩
  obtain rfl := mK.val
  have fX := mK.gr
  have vD := vC.grO fX (by rw [aK]; exact ⟨(fun e => by have := dE.ge _ e; simp only [add_block] at this; omega), (fun e => by have := dE.ge _ e; simp only [add_block] at this; omega), trivial⟩)
  refine ⟨_, rfl, fun aCe vE => ⟨vD, ?_⟩⟩
  clear vB; have cL := mK.own (Sx (cK.heap.size) []) (fun g _ hs => hs) (show cK.heap.size ≤ pO.heap.size by omega); have := fX.size; replace e0 := e0.gr fX (fun k hk => by have := dE.ge k hk; omega); replace r9 := r9.gr fX (fun k hk => by have := dE.ge k hk; omega); replace bx6 := bx6.gr fX (fun e => by have := dE.ge _ e; omega); replace aA := aA.gr fX (fun e => by have := dE.ge _ e; omega)
  replace aU := aU.gr fX (fun e => by have := dE.ge _ e; omega); replace hX := hX.gr fX (fun e => by have := dE.ge _ e; omega); clear dE fX mK; replace cL : OwnR mJ (Sx (cK.heap.size) []) dF hY 3 (g.ow : List Int) := cL
  refine AtH.all [7] 2 κ (by simp) ⟨?_, trivial⟩
  replace cL : OwnR mJ (Sx (cK.heap.size) [some (bC.heap.size)]) dF hY 3 (g.ow : List Int) := cL.imp (fun g _ hs => ⟨(fun e => by have := Sx_base hs; injection e; omega), hs⟩)
  have fY : OwnR mJ (Sx (bC.heap.size) [obk (dF)]) (some ⟨bC.heap.size, 0, none⟩) 0 3 ([] : List Int) := Bx.own0 hX ⟨(cL.neb (fun g hs => hs.1)), (Nat.le_refl _)⟩
  clear hX; have zX : (([] : List Int) ++ g.pr).length = (([] : List Int)).length + (g.pr : List Int).length := List.length_append
  simp only [List.length_cons, List.length_nil] at zX
  refine OneH.act vE _ rfl (appendR (α := Int) (t := 22) (d := 12) (n := 0) (m := g.pr.length) (cc := cg1) (xs := []) (ys := g.pr) (bytes := 8) (by first | rfl | omega | (simp; done) | (simp; omega)) (by first | rfl | omega | (simp; done) | (simp; omega)) κ rfl κ fY r9.pr.srcR (by simp only [List.length_cons, List.length_nil]; omega) (by simp only [List.length_cons, List.length_nil]; omega)) ?_
  rintro d_ v_ vF ⟨rfl, jA, kZ, lA⟩
  obtain rfl := lA.val
  have fZ := lA.gr
  have pR := vD.grO fZ (by rw [aK]; exact ⟨(fun e => by have := fY.ge _ e; simp only [add_block] at this; omega), (fun e => by have := fY.ge _ e; simp only [add_block] at this; omega), trivial⟩)
  refine ⟨_, rfl, fun aCf vG => ⟨pR, ?_⟩⟩
  clear vE; have lB := lA.own (Sx (bC.heap.size) [obk (dF)]) (fun g _ hs => ⟨hs.1, hs.2⟩) ⟨cL.ne_new, (show bC.heap.size ≤ mJ.heap.size by omega)⟩; have := fZ.size; replace e0 := e0.gr fZ (fun k hk => by have := fY.ge k hk; omega); replace r9 := r9.gr fZ (fun k hk => by have := fY.ge k hk; omega); replace bx6 := bx6.gr fZ (fun e => by have := fY.ge _ e; omega)
  replace aA := aA.gr fZ (fun e => by have := fY.ge _ e; omega); replace aU := aU.gr fZ (fun e => by have := fY.ge _ e; omega)
  replace cL : OwnR vF (Sx (cK.heap.size) [obk (jA)]) dF hY 3 (g.ow : List Int) := cL.grA fZ (fun k hk => hk.1) (fun k hk hs => ⟨own_repl lA.at_ hs.1 hk, hs.2⟩)
  clear fY fZ lA; replace lB : OwnR vF (Sx (bC.heap.size) [obk (dF)]) jA kZ 3 (g.pr : List Int) := lB
  refine AtH.rk pR vG [8] 1 [(13, .agg #[.slice dF ((([] : List Int) ++ g.ow).length) hY, .slice jA ((([] : List Int) ++ g.pr).length) kZ, .slice none 0 0])] .n (fun aCg vH => ?_)
  clear vG
  refine AtH.all [10] 0 κ (by simp) ⟨?_, trivial⟩
  refine OneH.store vH (t := 25) (b := aB.heap.size) (off := 0) (v := .agg #[.slice dF ((([] : List Int) ++ g.ow).length) hY, .slice jA ((([] : List Int) ++ g.pr).length) kZ, .slice none 0 0]) _ rfl κ aU κ (fun aCh zY gA pS zZ => ?_)
  clear vH
  replace pS : Bx zY (aB.heap.size) [.slice dF ((([] : List Int) ++ g.ow).length) hY, .slice jA ((([] : List Int) ++ g.pr).length) kZ, .slice none 0 0] 25 := pS
  have vI := pR.gr' gA (by rw [aK]; exact ⟨(by simp only [add_block]; omega), (by simp only [add_block]; omega), trivial⟩); have := gA.size; replace e0 := e0.gr gA (fun k h => by injection h; omega); replace r9 := r9.gb gA ω; replace bx6 := bx6.gb gA ω; replace aA := aA.gb gA ω; replace lB := lB.gr gA (fun k hk e => by have := Sx_base hk; injection e; omega)
  replace cL := cL.gr gA (fun k hk e => by have := Sx_base hk; injection e; omega); clear aU gA
  refine ⟨vI, ?_⟩
  refine AtH.done κ ?_
  clear vI
  refine t_n ?_
  exact ⟨aB.heap.size, dF, jA, hY, kZ, zZ.sb, e0, r9, bx6, aA, (cL.imp (fun g _ hs => ⟨hs.1, (fun e => by have := Sx_base hs; injection e; omega), (by have := Sx_base hs; show aF.heap.size ≤ g; omega)⟩)), (lB.imp (fun g _ hs => ⟨hs.1, (fun e => by have := Sx_base hs; injection e; omega), (by have := Sx_base hs; show aF.heap.size ≤ g; omega)⟩)), pS, ω, ω⟩
 clear r9; clear bx6; clear aA; clear mZ e0
 intro aCi aY ⟨aN, aD, aE, aZ, bA, vJ, pT, vK, pU, pV, mL, mM, pW, aCj, aCk⟩
 have := pT.size; have := pU.lt; have := pV.lt; have := pW.lt
 refine wp_seq ?_
 refine sqs ?_
 refine At.rk vJ 1 [(4, .int .i64 (0))] .n (fun aCl vL => ?_)
 clear vJ
 refine At.dn ?_
 refine wp_block ?_
 have vM : OwnLL aY (aY.heap.size) [obk (aD), obk (aE)] none 0 22 3 ([] : List (List Int)) := OwnLL.nil; replace mL : OwnR aY (Sx (aF.heap.size) [obk none, obk (aE), some (aN)]) aD aZ 3 (g.ow : List Int) := mL.imp (fun g _ hs => ⟨by simp [obk], hs⟩); replace mM : OwnR aY (Sx (aF.heap.size) [obk none, obk (aD), some (aN)]) aE bA 3 (g.pr : List Int) := mM.imp (fun g _ hs => ⟨by simp [obk], hs⟩)
 refine loop_g (fun (m_ : Nat) a_ w_ => ∃ (k : Int) (xs : List (List Int)) (aI : Option Addr) (aT : Nat), m_ = ((g.mv.length : Int) - k).toNat ∧ (Frm 34 a_ [(4, .int .i64 (k)), (3, pt aN 0), (2, pt w1.heap.size 0), (1, pt w.heap.size 0)]) ∧ (Ext w w_) ∧ (RdG w_ 0 w.heap.size Ag0 Ag1 Ag2 cg0 cg1 cg2 g) ∧ (Bx w_ (w.heap.size) [.slice Ag0 g.ow.length cg0, .slice Ag1 g.pr.length cg1, .slice Ag2 g.mv.length cg2] 25) ∧ (Bx w_ (w1.heap.size) [.slice none 0 0, .slice none 0 0, .slice none 0 0] 25) ∧ (OwnR w_ (Sx (aF.heap.size) [obk (aI), obk (aE), some (aN)]) aD aZ 3 (g.ow : List Int)) ∧ (OwnR w_ (Sx (aF.heap.size) [obk (aI), obk (aD), some (aN)]) aE bA 3 (g.pr : List Int)) ∧ (Bx w_ (aN) [.slice aD ((([] : List Int) ++ g.ow).length) aZ, .slice aE ((([] : List Int) ++ g.pr).length) bA, .slice aI xs.length aT] 25) ∧ (OwnLL w_ (aY.heap.size) [obk (aD), obk (aE)] aI aT 22 3 (xs : List (List Int))) ∧ (0 ≤ k) ∧ (k ≤ (g.mv.length : Int)) ∧ (xs = g.mv.take k.toNat) ∧ (aF.heap.size ≤ w_.heap.size) ∧ (aY.heap.size ≤ w_.heap.size)) _ ⟨0, ([] : List (List Int)), none, 0, rfl, vL.sb, pT, vK, pU, pV, mL, mM, (pW.as (by first | rfl | (simp only [List.cons.injEq, Value.slice.injEq, true_and, and_true]; omega))), vM, ω, ω, rfl, ω, ω⟩ ?_
 clear vL; clear vK; clear pU; clear pV; clear mL; clear mM; clear pW; clear vM; clear pT
 intro m_ aCm aAa ⟨k, xs, aI, aT, hm1129, vN, aL, aO, aM, aP, aG, aH, aJ, mN, i1138, i1139, hxs, i1140, i1141⟩
 have := aL.size; have := aM.lt; have := aP.lt; have := aJ.lt
 have hxl : xs.length = k.toNat := by rw [hxs, List.length_take]; omega
 refine wp_seq ?_
 refine sqs ?_
 refine At.rk vN 5 [(18, .bool (decide ((k : Int) < ((g.mv.length : Nat) : Int))))] (.l (aM.cell (i := 2) rfl) <| .n) (fun aCn lC => ?_)
 clear vN
 refine At.dn ?_
 refine cond_S lC (t := decide ((k : Int) < ((g.mv.length : Nat) : Int))) rfl (fun pX => ?_) (fun pX => ?_)
 ·have aCo := of_decide_eq_true pX
  refine wp_skip ?_
  refine t_n ?_
  refine wp_seq ?_
  refine wp_block ?_
  obtain ⟨aAb, vO, lD, aAc, _, _, aAd, aCp, aR⟩ := RdII.get aO.mv (k) ω ω
  have aCq := aR.len
  obtain ⟨vP, bQ⟩ : ∃ c : List (Addr × Value), c = [(⟨w.heap.size, 2, none⟩, (.slice Ag2 g.mv.length cg2)), ((aAb.add ((k : Int).toNat * 1)), (.slice vO ((gL g.mv (k)).length) lD))] := ⟨_, rfl⟩
  have vQ : HoldsC vP aAa := by rw [bQ]; exact ⟨(aM.cell (i := 2) rfl), aAd, trivial⟩
  refine AtH.start vP 13 _ κ rfl rfl (fun bD vR => ?_)
  have bZ := gr_drew vR; have mO := vQ.gr bZ; have := bZ.size; replace aL := aL.gn bZ; replace aO := aO.gn bZ; replace aM := aM.gn bZ; replace aP := aP.gn bZ; replace aG := aG.gn bZ; replace aH := aH.gn bZ; replace aJ := aJ.gn bZ; have aC := mN.gn bZ; clear mN; replace aR := aR.gn bZ; clear bZ vR vQ
  refine AtH.rk mO lC [0, 3, 4, 5, 6, 7] 7 [(28, .slice vO ((gL g.mv (k)).length) lD), (21, pt aN 2)] (.l (CsC_at bQ 0 rfl) <| .a k g.mv.length aAc <| .l (CsC_at bQ 1 rfl) <| .n) (fun aCr mP => ?_)
  clear lC
  refine AtH.all [1, 2] 6 κ (by simp) ⟨?_, ?_, trivial⟩
  ·refine OneH.seq mP [[.ld (.slice aI xs.length aT)]] [(22, .slice aI xs.length aT)] bD [(bD.cell? ⟨aN, 2, none⟩ = some (.slice aI xs.length aT))] _ rfl κ κ ⟨(aJ.cell (i := 2) rfl), trivial⟩ (fun aCs aAe aAf vS => ?_)
   obtain rfl : bD = aAe := aAf.symm
   clear mP
   refine ⟨mO, ?_⟩
   refine AtH.all [2] 5 κ (by simp) ⟨?_, trivial⟩
   refine OneH.seq vS [] [(23, .slice (some ⟨bD.heap.size, 0, none⟩) 0 0)] (bD.alloc (.cells #[] 3 (0, 0))) [] _ rfl κ κ trivial (fun aCt pY pZ vT => ?_)
   clear vS; have cA := gr_alloc pZ; have vU := mO.gr cA
   refine ⟨vU, ?_⟩
   have := cA.size; replace aL := aL.gn cA; replace aO := aO.gn cA; replace aM := aM.gn cA; replace aP := aP.gn cA; replace aG := aG.grN cA; replace aH := aH.grN cA; replace aJ := aJ.gn cA; replace aC := aC.grN cA; replace aR := aR.gn cA; have qA : Bx pY (bD.heap.size) [] 3 := Bx.new pZ; have := qA.lt; clear cA pZ
   refine AtH.all [8] 4 κ (by simp) ⟨?_, trivial⟩
   have dG : OwnR pY (Sx (bD.heap.size) [obk (aD), obk (aE), obk (aI)]) (some ⟨bD.heap.size, 0, none⟩) 0 3 ([] : List Int) := Bx.own0 qA ⟨(aG.neb (fun g hs => hs.1)), (aH.neb (fun g hs => hs.1)), (aC.neb (fun g hs => hs.1)), (Nat.le_refl _)⟩
   clear qA; have aAg : (([] : List Int) ++ (gL g.mv (k))).length = (([] : List Int)).length + (gL g.mv (k) : List Int).length := List.length_append
   simp only [List.length_cons, List.length_nil] at aAg
   refine OneH.act vT _ rfl (appendR (α := Int) (t := 22) (d := 29) (n := 0) (m := (gL g.mv (k)).length) (cc := lD) (xs := []) (ys := gL g.mv (k)) (bytes := 8) (by first | rfl | omega | (simp; done) | (simp; omega)) (by first | rfl | omega | (simp; done) | (simp; omega)) κ rfl κ dG aR.srcR (by simp only [List.length_cons, List.length_nil]; omega) (by simp only [List.length_cons, List.length_nil]; omega)) ?_
   rintro d_ v_ gB ⟨rfl, dH, mQ, hZ⟩
   obtain rfl := hZ.val
   have cB := hZ.gr
   have vV := vU.grO cB (by rw [bQ]; exact ⟨(fun e => by have := dG.ge _ e; simp only [add_block] at this; omega), (fun e => by have := dG.ge _ e; simp only [add_block] at this; omega), trivial⟩)
   refine ⟨_, rfl, fun aCu vW => ⟨vV, ?_⟩⟩
   clear vT
   have jB := hZ.own (Sx (bD.heap.size) [obk (aD), obk (aE), obk (aI)]) (fun g _ hs => ⟨hs.1, hs.2.1, hs.2.2.1, hs.2.2.2⟩) ⟨aG.ne_new, aH.ne_new, aC.ne_new, (show bD.heap.size ≤ pY.heap.size by omega)⟩
   have := cB.size; replace aL := aL.gr cB (fun k hk => by have := dG.ge k hk; omega); replace aO := aO.gr cB (fun k hk => by have := dG.ge k hk; omega); replace aM := aM.gr cB (fun e => by have := dG.ge _ e; omega); replace aP := aP.gr cB (fun e => by have := dG.ge _ e; omega)
   replace aG : OwnR gB (Sx (aF.heap.size) [obk (dH), obk (aI), obk (aE), some (aN)]) aD aZ 3 (g.ow : List Int) := aG.grA cB (fun k hk => hk.1) (fun k hk hs => ⟨own_repl hZ.at_ hs.1 hk, hs.2.1, hs.2.2.1, hs.2.2.2.1, hs.2.2.2.2⟩)
   replace aH : OwnR gB (Sx (aF.heap.size) [obk (dH), obk (aI), obk (aD), some (aN)]) aE bA 3 (g.pr : List Int) := aH.grA cB (fun k hk => hk.1) (fun k hk hs => ⟨own_repl hZ.at_ hs.1 hk, hs.2.1, hs.2.2.1, hs.2.2.2.1, hs.2.2.2.2⟩)
   replace aJ := aJ.gr cB (fun e => by have := dG.ge _ e; omega)
   replace aC : OwnLL gB (aY.heap.size) [obk (dH), obk (aD), obk (aE)] aI aT 22 3 (xs : List (List Int)) := aC.grA cB (fun k hk => hk.1) (fun k hk hs => ⟨own_repl hZ.at_ hs.1 hk, hs.2.1, hs.2.2.1, hs.2.2.2⟩)
   replace aR := aR.gr cB (fun k hk => by have := dG.ge k hk; omega); clear dG cB hZ; replace jB : OwnR gB (Sx (bD.heap.size) [obk (aD), obk (aE), obk (aI)]) dH mQ 3 (gL g.mv (k) : List Int) := jB
   refine AtH.all [9] 3 κ (by simp) ⟨?_, trivial⟩
   refine OneH.seq vW [] [(30, .slice (some ⟨gB.heap.size, 0, none⟩) 1 1)] (gB.alloc (.cells #[.slice dH ((([] : List Int) ++ (gL g.mv (k))).length) mQ] 22 (0, 0))) [] _ rfl κ κ trivial (fun aCv mR qB vX => ?_)
   clear vW; have bU := gr_alloc qB; have vY := vV.gr bU
   refine ⟨vY, ?_⟩
   have := bU.size; replace aL := aL.gn bU; replace aO := aO.gn bU; replace aM := aM.gn bU; replace aP := aP.gn bU; replace aG := aG.grN bU; replace aH := aH.grN bU; replace aJ := aJ.gn bU; replace aC := aC.grN bU; replace aR := aR.gn bU; replace jB := jB.grN bU; have qC : Bx mR (gB.heap.size) [.slice dH ((([] : List Int) ++ (gL g.mv (k))).length) mQ] 22 := Bx.new qB; have := qC.lt; clear bU qB
   refine AtH.all [10] 2 κ (by simp) ⟨?_, trivial⟩
   have vZ : OwnR mR (Sx (aY.heap.size) [obk (aD), obk (aE)]) dH mQ 3 (gL g.mv (k) : List Int) := jB.imp (fun g _ hs => ⟨hs.2.1, hs.2.2.1, (by have := Sx_base hs; show aY.heap.size ≤ g; omega)⟩)
   have wA : OwnLL mR (aY.heap.size) [obk (dH), obk (aD), obk (aE)] aI aT 22 3 (xs : List (List Int)) := (aC.imp (fun g _ hs => ⟨hs.2.1, hs.2.2.1, hs.2.2.2.1, hs.2.2.2.2⟩))
   have aCw : (xs ++ [gL g.mv (k)]).length = (xs).length + 1 := by simp
   refine OneH.act vX _ rfl (appendLL (t := 23) (d := 31) (n := xs.length) (m := 1) (cc := 1) (ls := xs) (xs := gL g.mv (k)) (bytes := 24) (by first | rfl | omega | (simp; done) | (simp; omega)) κ κ (qC.as (by first | rfl | (simp; done))) wA vZ ⟨aG.ne_new, aH.ne_new, (show aY.heap.size ≤ mR.heap.size by omega)⟩ ω ω) ?_
   rintro d_ v_ wB ⟨rfl, lE, qD, rfl, cM, qE, qF⟩
   have qG := vY.grO cM (by rw [bQ]; exact ⟨(fun e => by have := aC.ge _ e; simp only [add_block] at this; omega), (fun e => by have := aC.ge _ e; simp only [add_block] at this; omega), trivial⟩)
   refine ⟨_, rfl, fun aCx wC => ⟨qG, ?_⟩⟩
   clear vX; clear qC jB vZ wA; have := cM.size; replace aL := aL.gr cM (fun k hk => by have := aC.ge k hk; omega); replace aO := aO.gr cM (fun k hk => by have := aC.ge k hk; omega); replace aM := aM.gr cM (fun e => by have := aC.ge _ e; omega); replace aP := aP.gr cM (fun e => by have := aC.ge _ e; omega)
   replace aG : OwnR wB (Sx (aF.heap.size) [some (gB.heap.size), obk (dH), obk (lE), obk (aE), some (aN)]) aD aZ 3 (g.ow : List Int) := aG.grA cM (fun k hk => hk.2.2.1) (fun k hk hs => ⟨hs.1, hs.2.1, own_repl qE hs.2.2.1 hk, hs.2.2.2.1, hs.2.2.2.2.1, hs.2.2.2.2.2⟩)
   replace aH : OwnR wB (Sx (aF.heap.size) [some (gB.heap.size), obk (dH), obk (lE), obk (aD), some (aN)]) aE bA 3 (g.pr : List Int) := aH.grA cM (fun k hk => hk.2.2.1) (fun k hk hs => ⟨hs.1, hs.2.1, own_repl qE hs.2.2.1 hk, hs.2.2.2.1, hs.2.2.2.2.1, hs.2.2.2.2.2⟩)
   replace aJ := aJ.gr cM (fun e => by have := aC.ge _ e; omega); replace aR := aR.gr cM (fun k hk => by have := aC.ge k hk; omega); clear aC cM qE
   refine AtH.rk qG wC [11] 1 [(32, pt aN 2)] .n (fun aCy wD => ?_)
   clear wC
   refine AtH.all [12] 0 κ (by simp) ⟨?_, trivial⟩
   refine OneH.store wD (t := 23) (b := aN) (off := 2) (v := .slice lE ((xs ++ [gL g.mv (k)]).length) qD) _ rfl κ aJ κ (fun aCz aAh cN qH wE => ?_)
   clear wD
   replace qH : Bx aAh (aN) [.slice aD ((([] : List Int) ++ g.ow).length) aZ, .slice aE ((([] : List Int) ++ g.pr).length) bA, .slice lE ((xs ++ [gL g.mv (k)]).length) qD] 25 := qH
   have wF := qG.gr' cN (by rw [bQ]; exact ⟨(by simp only [add_block]; omega), (by simp only [add_block]; omega), trivial⟩); have := cN.size; replace aL := aL.gr cN (fun k h => by injection h; omega); replace aO := aO.gb cN ω; replace aM := aM.gb cN ω; replace aP := aP.gb cN ω; replace aG := aG.gr cN (fun k hk => hk.2.2.2.2.1); replace aH := aH.gr cN (fun k hk => hk.2.2.2.2.1)
   replace aR := aR.gb cN ω; replace qF := qF.gr cN (fun k hk e => by have := Sx_base hk; injection e; omega); clear aJ cN
   refine ⟨wF, ?_⟩
   refine AtH.done κ ?_
   clear wF
   refine b_n ?_
   refine t_n ?_
   refine At.start ?_
   refine At.rk wE 3 [(4, .int .i64 (k + 1))] (.w 20 (k + 1) <| .n) (fun aCA aAi => ?_)
   clear wE
   refine At.dn ?_
   exact ⟨_, ω, (k + 1), (xs ++ [gL g.mv (k)] : List (List Int)), lE, qD, rfl, aAi.sb, aL, aO, aM, aP, (aG.imp (fun g _ hs => ⟨hs.2.2.1, hs.2.2.2.1, hs.2.2.2.2.1, hs.2.2.2.2.2⟩)), (aH.imp (fun g _ hs => ⟨hs.2.2.1, hs.2.2.2.1, hs.2.2.2.2.1, hs.2.2.2.2.2⟩)), qH, qF, ω, ω, (takeLL_push hxs ω ω), ω, ω⟩
  refine OneH.seq mP [] [(23, .slice (some ⟨bD.heap.size, 0, none⟩) 0 0)] (bD.alloc (.cells #[] 3 (0, 0))) [] _ rfl κ κ trivial (fun aCB hD qI mS => ?_)
  clear mP; have cC := gr_alloc qI; have mT := mO.gr cC
  refine ⟨mT, ?_⟩
  have := cC.size; replace aL := aL.gn cC; replace aO := aO.gn cC; replace aM := aM.gn cC; replace aP := aP.gn cC; replace aG := aG.grN cC; replace aH := aH.grN cC; replace aJ := aJ.gn cC; replace aC := aC.grN cC; replace aR := aR.gn cC; have lF : Bx hD (bD.heap.size) [] 3 := Bx.new qI; have := lF.lt; clear cC qI
  refine AtH.all [1, 8] 5 κ (by simp) ⟨?_, ?_, trivial⟩
  ·refine OneH.seq mS [[.ld (.slice aI xs.length aT)]] [(22, .slice aI xs.length aT)] hD [(hD.cell? ⟨aN, 2, none⟩ = some (.slice aI xs.length aT))] _ rfl κ κ ⟨(aJ.cell (i := 2) rfl), trivial⟩ (fun aCC aAj aAk wG => ?_)
   obtain rfl : hD = aAj := aAk.symm
   clear mS
   refine ⟨mT, ?_⟩
   refine AtH.all [8] 4 κ (by simp) ⟨?_, trivial⟩
   have dI : OwnR hD (Sx (bD.heap.size) [obk (aD), obk (aE), obk (aI)]) (some ⟨bD.heap.size, 0, none⟩) 0 3 ([] : List Int) := Bx.own0 lF ⟨(aG.neb (fun g hs => hs.1)), (aH.neb (fun g hs => hs.1)), (aC.neb (fun g hs => hs.1)), (Nat.le_refl _)⟩
   clear lF; have aAl : (([] : List Int) ++ (gL g.mv (k))).length = (([] : List Int)).length + (gL g.mv (k) : List Int).length := List.length_append
   simp only [List.length_cons, List.length_nil] at aAl
   refine OneH.act wG _ rfl (appendR (α := Int) (t := 22) (d := 29) (n := 0) (m := (gL g.mv (k)).length) (cc := lD) (xs := []) (ys := gL g.mv (k)) (bytes := 8) (by first | rfl | omega | (simp; done) | (simp; omega)) (by first | rfl | omega | (simp; done) | (simp; omega)) κ rfl κ dI aR.srcR (by simp only [List.length_cons, List.length_nil]; omega) (by simp only [List.length_cons, List.length_nil]; omega)) ?_
   rintro d_ v_ gC ⟨rfl, dJ, mU, iA⟩
   obtain rfl := iA.val
   have cD := iA.gr
   have wH := mT.grO cD (by rw [bQ]; exact ⟨(fun e => by have := dI.ge _ e; simp only [add_block] at this; omega), (fun e => by have := dI.ge _ e; simp only [add_block] at this; omega), trivial⟩)
   refine ⟨_, rfl, fun aCD wI => ⟨wH, ?_⟩⟩
   clear wG
   have jC := iA.own (Sx (bD.heap.size) [obk (aD), obk (aE), obk (aI)]) (fun g _ hs => ⟨hs.1, hs.2.1, hs.2.2.1, hs.2.2.2⟩) ⟨aG.ne_new, aH.ne_new, aC.ne_new, (show bD.heap.size ≤ hD.heap.size by omega)⟩
   have := cD.size; replace aL := aL.gr cD (fun k hk => by have := dI.ge k hk; omega); replace aO := aO.gr cD (fun k hk => by have := dI.ge k hk; omega); replace aM := aM.gr cD (fun e => by have := dI.ge _ e; omega); replace aP := aP.gr cD (fun e => by have := dI.ge _ e; omega)
   replace aG : OwnR gC (Sx (aF.heap.size) [obk (dJ), obk (aI), obk (aE), some (aN)]) aD aZ 3 (g.ow : List Int) := aG.grA cD (fun k hk => hk.1) (fun k hk hs => ⟨own_repl iA.at_ hs.1 hk, hs.2.1, hs.2.2.1, hs.2.2.2.1, hs.2.2.2.2⟩)
   replace aH : OwnR gC (Sx (aF.heap.size) [obk (dJ), obk (aI), obk (aD), some (aN)]) aE bA 3 (g.pr : List Int) := aH.grA cD (fun k hk => hk.1) (fun k hk hs => ⟨own_repl iA.at_ hs.1 hk, hs.2.1, hs.2.2.1, hs.2.2.2.1, hs.2.2.2.2⟩)
   replace aJ := aJ.gr cD (fun e => by have := dI.ge _ e; omega)
   replace aC : OwnLL gC (aY.heap.size) [obk (dJ), obk (aD), obk (aE)] aI aT 22 3 (xs : List (List Int)) := aC.grA cD (fun k hk => hk.1) (fun k hk hs => ⟨own_repl iA.at_ hs.1 hk, hs.2.1, hs.2.2.1, hs.2.2.2⟩)
   replace aR := aR.gr cD (fun k hk => by have := dI.ge k hk; omega); clear dI cD iA; replace jC : OwnR gC (Sx (bD.heap.size) [obk (aD), obk (aE), obk (aI)]) dJ mU 3 (gL g.mv (k) : List Int) := jC
   refine AtH.all [9] 3 κ (by simp) ⟨?_, trivial⟩
   refine OneH.seq wI [] [(30, .slice (some ⟨gC.heap.size, 0, none⟩) 1 1)] (gC.alloc (.cells #[.slice dJ ((([] : List Int) ++ (gL g.mv (k))).length) mU] 22 (0, 0))) [] _ rfl κ κ trivial (fun aCE mV qJ wJ => ?_)
   clear wI; have bV := gr_alloc qJ; have wK := wH.gr bV
   refine ⟨wK, ?_⟩
   have := bV.size; replace aL := aL.gn bV; replace aO := aO.gn bV; replace aM := aM.gn bV; replace aP := aP.gn bV; replace aG := aG.grN bV; replace aH := aH.grN bV; replace aJ := aJ.gn bV; replace aC := aC.grN bV; replace aR := aR.gn bV; replace jC := jC.grN bV; have qK : Bx mV (gC.heap.size) [.slice dJ ((([] : List Int) ++ (gL g.mv (k))).length) mU] 22 := Bx.new qJ; have := qK.lt; clear bV qJ
   refine AtH.all [10] 2 κ (by simp) ⟨?_, trivial⟩
   have wL : OwnR mV (Sx (aY.heap.size) [obk (aD), obk (aE)]) dJ mU 3 (gL g.mv (k) : List Int) := jC.imp (fun g _ hs => ⟨hs.2.1, hs.2.2.1, (by have := Sx_base hs; show aY.heap.size ≤ g; omega)⟩)
   have wM : OwnLL mV (aY.heap.size) [obk (dJ), obk (aD), obk (aE)] aI aT 22 3 (xs : List (List Int)) := (aC.imp (fun g _ hs => ⟨hs.2.1, hs.2.2.1, hs.2.2.2.1, hs.2.2.2.2⟩))
   have aCF : (xs ++ [gL g.mv (k)]).length = (xs).length + 1 := by simp
   refine OneH.act wJ _ rfl (appendLL (t := 23) (d := 31) (n := xs.length) (m := 1) (cc := 1) (ls := xs) (xs := gL g.mv (k)) (bytes := 24) (by first | rfl | omega | (simp; done) | (simp; omega)) κ κ (qK.as (by first | rfl | (simp; done))) wM wL ⟨aG.ne_new, aH.ne_new, (show aY.heap.size ≤ mV.heap.size by omega)⟩ ω ω) ?_
   rintro d_ v_ wN ⟨rfl, lG, qL, rfl, cO, qM, qN⟩
   have qO := wK.grO cO (by rw [bQ]; exact ⟨(fun e => by have := aC.ge _ e; simp only [add_block] at this; omega), (fun e => by have := aC.ge _ e; simp only [add_block] at this; omega), trivial⟩)
   refine ⟨_, rfl, fun aCG wO => ⟨qO, ?_⟩⟩
   clear wJ; clear qK jC wL wM; have := cO.size; replace aL := aL.gr cO (fun k hk => by have := aC.ge k hk; omega); replace aO := aO.gr cO (fun k hk => by have := aC.ge k hk; omega); replace aM := aM.gr cO (fun e => by have := aC.ge _ e; omega); replace aP := aP.gr cO (fun e => by have := aC.ge _ e; omega)
   replace aG : OwnR wN (Sx (aF.heap.size) [some (gC.heap.size), obk (dJ), obk (lG), obk (aE), some (aN)]) aD aZ 3 (g.ow : List Int) := aG.grA cO (fun k hk => hk.2.2.1) (fun k hk hs => ⟨hs.1, hs.2.1, own_repl qM hs.2.2.1 hk, hs.2.2.2.1, hs.2.2.2.2.1, hs.2.2.2.2.2⟩)
   replace aH : OwnR wN (Sx (aF.heap.size) [some (gC.heap.size), obk (dJ), obk (lG), obk (aD), some (aN)]) aE bA 3 (g.pr : List Int) := aH.grA cO (fun k hk => hk.2.2.1) (fun k hk hs => ⟨hs.1, hs.2.1, own_repl qM hs.2.2.1 hk, hs.2.2.2.1, hs.2.2.2.2.1, hs.2.2.2.2.2⟩)
   replace aJ := aJ.gr cO (fun e => by have := aC.ge _ e; omega); replace aR := aR.gr cO (fun k hk => by have := aC.ge k hk; omega); clear aC cO qM
   refine AtH.rk qO wO [11] 1 [(32, pt aN 2)] .n (fun aCH wP => ?_)
   clear wO
   refine AtH.all [12] 0 κ (by simp) ⟨?_, trivial⟩
   refine OneH.store wP (t := 23) (b := aN) (off := 2) (v := .slice lG ((xs ++ [gL g.mv (k)]).length) qL) _ rfl κ aJ κ (fun aCI aAm cP qP wQ => ?_)
   clear wP
   replace qP : Bx aAm (aN) [.slice aD ((([] : List Int) ++ g.ow).length) aZ, .slice aE ((([] : List Int) ++ g.pr).length) bA, .slice lG ((xs ++ [gL g.mv (k)]).length) qL] 25 := qP
   have wR := qO.gr' cP (by rw [bQ]; exact ⟨(by simp only [add_block]; omega), (by simp only [add_block]; omega), trivial⟩); have := cP.size; replace aL := aL.gr cP (fun k h => by injection h; omega); replace aO := aO.gb cP ω; replace aM := aM.gb cP ω; replace aP := aP.gb cP ω; replace aG := aG.gr cP (fun k hk => hk.2.2.2.2.1); replace aH := aH.gr cP (fun k hk => hk.2.2.2.2.1)
   replace aR := aR.gb cP ω; replace qN := qN.gr cP (fun k hk e => by have := Sx_base hk; injection e; omega); clear aJ cP
   refine ⟨wR, ?_⟩
   refine AtH.done κ ?_
   clear wR
   refine b_n ?_
   refine t_n ?_
   refine At.start ?_
   refine At.rk wQ 3 [(4, .int .i64 (k + 1))] (.w 20 (k + 1) <| .n) (fun aCJ aAn => ?_)
   clear wQ
   refine At.dn ?_
   exact ⟨_, ω, (k + 1), (xs ++ [gL g.mv (k)] : List (List Int)), lG, qL, rfl, aAn.sb, aL, aO, aM, aP, (aG.imp (fun g _ hs => ⟨hs.2.2.1, hs.2.2.2.1, hs.2.2.2.2.1, hs.2.2.2.2.2⟩)), (aH.imp (fun g _ hs => ⟨hs.2.2.1, hs.2.2.2.1, hs.2.2.2.2.1, hs.2.2.2.2.2⟩)), qP, qN, ω, ω, (takeLL_push hxs ω ω), ω, ω⟩
  have dK : OwnR hD (Sx (bD.heap.size) [obk (aD), obk (aE), obk (aI)]) (some ⟨bD.heap.size, 0, none⟩) 0 3 ([] : List Int) := Bx.own0 lF ⟨(aG.neb (fun g hs => hs.1)), (aH.neb (fun g hs => hs.1)), (aC.neb (fun g hs => hs.1)), (Nat.le_refl _)⟩
  clear lF; have aAo : (([] : List Int) ++ (gL g.mv (k))).length = (([] : List Int)).length + (gL g.mv (k) : List Int).length := List.length_append
  simp only [List.length_cons, List.length_nil] at aAo
  refine OneH.act mS _ rfl (appendR (α := Int) (t := 22) (d := 29) (n := 0) (m := (gL g.mv (k)).length) (cc := lD) (xs := []) (ys := gL g.mv (k)) (bytes := 8) (by first | rfl | omega | (simp; done) | (simp; omega)) (by first | rfl | omega | (simp; done) | (simp; omega)) κ rfl κ dK aR.srcR (by simp only [List.length_cons, List.length_nil]; omega) (by simp only [List.length_cons, List.length_nil]; omega)) ?_
  rintro d_ v_ bK ⟨rfl, bM, iB, iC⟩
  obtain rfl := iC.val
  have cE := iC.gr
  have mW := mT.grO cE (by rw [bQ]; exact ⟨(fun e => by have := dK.ge _ e; simp only [add_block] at this; omega), (fun e => by have := dK.ge _ e; simp only [add_block] at this; omega), trivial⟩)
  refine ⟨_, rfl, fun aCK mX => ⟨mW, ?_⟩⟩
  clear mS
  have dL := iC.own (Sx (bD.heap.size) [obk (aD), obk (aE), obk (aI)]) (fun g _ hs => ⟨hs.1, hs.2.1, hs.2.2.1, hs.2.2.2⟩) ⟨aG.ne_new, aH.ne_new, aC.ne_new, (show bD.heap.size ≤ hD.heap.size by omega)⟩
  have := cE.size; replace aL := aL.gr cE (fun k hk => by have := dK.ge k hk; omega); replace aO := aO.gr cE (fun k hk => by have := dK.ge k hk; omega); replace aM := aM.gr cE (fun e => by have := dK.ge _ e; omega); replace aP := aP.gr cE (fun e => by have := dK.ge _ e; omega)
  replace aG : OwnR bK (Sx (aF.heap.size) [obk (bM), obk (aI), obk (aE), some (aN)]) aD aZ 3 (g.ow : List Int) := aG.grA cE (fun k hk => hk.1) (fun k hk hs => ⟨own_repl iC.at_ hs.1 hk, hs.2.1, hs.2.2.1, hs.2.2.2.1, hs.2.2.2.2⟩)
  replace aH : OwnR bK (Sx (aF.heap.size) [obk (bM), obk (aI), obk (aD), some (aN)]) aE bA 3 (g.pr : List Int) := aH.grA cE (fun k hk => hk.1) (fun k hk hs => ⟨own_repl iC.at_ hs.1 hk, hs.2.1, hs.2.2.1, hs.2.2.2.1, hs.2.2.2.2⟩)
  replace aJ := aJ.gr cE (fun e => by have := dK.ge _ e; omega)
  replace aC : OwnLL bK (aY.heap.size) [obk (bM), obk (aD), obk (aE)] aI aT 22 3 (xs : List (List Int)) := aC.grA cE (fun k hk => hk.1) (fun k hk hs => ⟨own_repl iC.at_ hs.1 hk, hs.2.1, hs.2.2.1, hs.2.2.2⟩)
  replace aR := aR.gr cE (fun k hk => by have := dK.ge k hk; omega); clear dK cE iC; replace dL : OwnR bK (Sx (bD.heap.size) [obk (aD), obk (aE), obk (aI)]) bM iB 3 (gL g.mv (k) : List Int) := dL
  refine AtH.all [1, 9] 4 κ (by simp) ⟨?_, ?_, trivial⟩
  ·refine OneH.seq mX [[.ld (.slice aI xs.length aT)]] [(22, .slice aI xs.length aT)] bK [(bK.cell? ⟨aN, 2, none⟩ = some (.slice aI xs.length aT))] _ rfl κ κ ⟨(aJ.cell (i := 2) rfl), trivial⟩ (fun aCL aAp aAq wS => ?_)
   obtain rfl : bK = aAp := aAq.symm
   clear mX
   refine ⟨mW, ?_⟩
   refine AtH.all [9] 3 κ (by simp) ⟨?_, trivial⟩
   refine OneH.seq wS [] [(30, .slice (some ⟨bK.heap.size, 0, none⟩) 1 1)] (bK.alloc (.cells #[.slice bM ((([] : List Int) ++ (gL g.mv (k))).length) iB] 22 (0, 0))) [] _ rfl κ κ trivial (fun aCM mY qQ wT => ?_)
   clear wS; have bW := gr_alloc qQ; have wU := mW.gr bW
   refine ⟨wU, ?_⟩
   have := bW.size; replace aL := aL.gn bW; replace aO := aO.gn bW; replace aM := aM.gn bW; replace aP := aP.gn bW; replace aG := aG.grN bW; replace aH := aH.grN bW; replace aJ := aJ.gn bW; replace aC := aC.grN bW; replace aR := aR.gn bW; replace dL := dL.grN bW; have qR : Bx mY (bK.heap.size) [.slice bM ((([] : List Int) ++ (gL g.mv (k))).length) iB] 22 := Bx.new qQ; have := qR.lt; clear bW qQ
   refine AtH.all [10] 2 κ (by simp) ⟨?_, trivial⟩
   have wV : OwnR mY (Sx (aY.heap.size) [obk (aD), obk (aE)]) bM iB 3 (gL g.mv (k) : List Int) := dL.imp (fun g _ hs => ⟨hs.2.1, hs.2.2.1, (by have := Sx_base hs; show aY.heap.size ≤ g; omega)⟩)
   have wW : OwnLL mY (aY.heap.size) [obk (bM), obk (aD), obk (aE)] aI aT 22 3 (xs : List (List Int)) := (aC.imp (fun g _ hs => ⟨hs.2.1, hs.2.2.1, hs.2.2.2.1, hs.2.2.2.2⟩))
   have aCN : (xs ++ [gL g.mv (k)]).length = (xs).length + 1 := by simp
   refine OneH.act wT _ rfl (appendLL (t := 23) (d := 31) (n := xs.length) (m := 1) (cc := 1) (ls := xs) (xs := gL g.mv (k)) (bytes := 24) (by first | rfl | omega | (simp; done) | (simp; omega)) κ κ (qR.as (by first | rfl | (simp; done))) wW wV ⟨aG.ne_new, aH.ne_new, (show aY.heap.size ≤ mY.heap.size by omega)⟩ ω ω) ?_
   rintro d_ v_ wX ⟨rfl, lH, qS, rfl, cQ, qT, qU⟩
   have qV := wU.grO cQ (by rw [bQ]; exact ⟨(fun e => by have := aC.ge _ e; simp only [add_block] at this; omega), (fun e => by have := aC.ge _ e; simp only [add_block] at this; omega), trivial⟩)
   refine ⟨_, rfl, fun aCO wY => ⟨qV, ?_⟩⟩
   clear wT; clear qR dL wV wW; have := cQ.size; replace aL := aL.gr cQ (fun k hk => by have := aC.ge k hk; omega); replace aO := aO.gr cQ (fun k hk => by have := aC.ge k hk; omega); replace aM := aM.gr cQ (fun e => by have := aC.ge _ e; omega); replace aP := aP.gr cQ (fun e => by have := aC.ge _ e; omega)
   replace aG : OwnR wX (Sx (aF.heap.size) [some (bK.heap.size), obk (bM), obk (lH), obk (aE), some (aN)]) aD aZ 3 (g.ow : List Int) := aG.grA cQ (fun k hk => hk.2.2.1) (fun k hk hs => ⟨hs.1, hs.2.1, own_repl qT hs.2.2.1 hk, hs.2.2.2.1, hs.2.2.2.2.1, hs.2.2.2.2.2⟩)
   replace aH : OwnR wX (Sx (aF.heap.size) [some (bK.heap.size), obk (bM), obk (lH), obk (aD), some (aN)]) aE bA 3 (g.pr : List Int) := aH.grA cQ (fun k hk => hk.2.2.1) (fun k hk hs => ⟨hs.1, hs.2.1, own_repl qT hs.2.2.1 hk, hs.2.2.2.1, hs.2.2.2.2.1, hs.2.2.2.2.2⟩)
   replace aJ := aJ.gr cQ (fun e => by have := aC.ge _ e; omega); replace aR := aR.gr cQ (fun k hk => by have := aC.ge k hk; omega); clear aC cQ qT
   refine AtH.rk qV wY [11] 1 [(32, pt aN 2)] .n (fun aCP wZ => ?_)
   clear wY
   refine AtH.all [12] 0 κ (by simp) ⟨?_, trivial⟩
   refine OneH.store wZ (t := 23) (b := aN) (off := 2) (v := .slice lH ((xs ++ [gL g.mv (k)]).length) qS) _ rfl κ aJ κ (fun aCQ aAr cR qW xA => ?_)
   clear wZ
   replace qW : Bx aAr (aN) [.slice aD ((([] : List Int) ++ g.ow).length) aZ, .slice aE ((([] : List Int) ++ g.pr).length) bA, .slice lH ((xs ++ [gL g.mv (k)]).length) qS] 25 := qW
   have xB := qV.gr' cR (by rw [bQ]; exact ⟨(by simp only [add_block]; omega), (by simp only [add_block]; omega), trivial⟩); have := cR.size; replace aL := aL.gr cR (fun k h => by injection h; omega); replace aO := aO.gb cR ω; replace aM := aM.gb cR ω; replace aP := aP.gb cR ω; replace aG := aG.gr cR (fun k hk => hk.2.2.2.2.1); replace aH := aH.gr cR (fun k hk => hk.2.2.2.2.1)
   replace aR := aR.gb cR ω; replace qU := qU.gr cR (fun k hk e => by have := Sx_base hk; injection e; omega); clear aJ cR
   refine ⟨xB, ?_⟩
   refine AtH.done κ ?_
   clear xB
   refine b_n ?_
   refine t_n ?_
   refine At.start ?_
   refine At.rk xA 3 [(4, .int .i64 (k + 1))] (.w 20 (k + 1) <| .n) (fun aCR aAs => ?_)
   clear xA
   refine At.dn ?_
   exact ⟨_, ω, (k + 1), (xs ++ [gL g.mv (k)] : List (List Int)), lH, qS, rfl, aAs.sb, aL, aO, aM, aP, (aG.imp (fun g _ hs => ⟨hs.2.2.1, hs.2.2.2.1, hs.2.2.2.2.1, hs.2.2.2.2.2⟩)), (aH.imp (fun g _ hs => ⟨hs.2.2.1, hs.2.2.2.1, hs.2.2.2.2.1, hs.2.2.2.2.2⟩)), qW, qU, ω, ω, (takeLL_push hxs ω ω), ω, ω⟩
  refine OneH.seq mX [] [(30, .slice (some ⟨bK.heap.size, 0, none⟩) 1 1)] (bK.alloc (.cells #[.slice bM ((([] : List Int) ++ (gL g.mv (k))).length) iB] 22 (0, 0))) [] _ rfl κ κ trivial (fun aCS iD qX xC => ?_)
  clear mX; have bX := gr_alloc qX; have qY := mW.gr bX
  refine ⟨qY, ?_⟩
  have := bX.size; replace aL := aL.gn bX; replace aO := aO.gn bX; replace aM := aM.gn bX; replace aP := aP.gn bX; replace aG := aG.grN bX; replace aH := aH.grN bX; replace aJ := aJ.gn bX; replace aC := aC.grN bX; replace aR := aR.gn bX; replace dL := dL.grN bX; have qZ : Bx iD (bK.heap.size) [.slice bM ((([] : List Int) ++ (gL g.mv (k))).length) iB] 22 := Bx.new qX; have := qZ.lt; clear bX qX
  refine AtH.all [1] 3 κ (by simp) ⟨?_, trivial⟩
  refine OneH.seq xC [[.ld (.slice aI xs.length aT)]] [(22, .slice aI xs.length aT)] iD [(iD.cell? ⟨aN, 2, none⟩ = some (.slice aI xs.length aT))] _ rfl κ κ ⟨(aJ.cell (i := 2) rfl), trivial⟩ (fun aCT aAt aAu xD => ?_)
  obtain rfl : iD = aAt := aAu.symm
  clear xC
  refine ⟨qY, ?_⟩
  refine AtH.all [10] 2 κ (by simp) ⟨?_, trivial⟩
  have xE : OwnR iD (Sx (aY.heap.size) [obk (aD), obk (aE)]) bM iB 3 (gL g.mv (k) : List Int) := dL.imp (fun g _ hs => ⟨hs.2.1, hs.2.2.1, (by have := Sx_base hs; show aY.heap.size ≤ g; omega)⟩)
  have xF : OwnLL iD (aY.heap.size) [obk (bM), obk (aD), obk (aE)] aI aT 22 3 (xs : List (List Int)) := (aC.imp (fun g _ hs => ⟨hs.2.1, hs.2.2.1, hs.2.2.2.1, hs.2.2.2.2⟩))
  have aCU : (xs ++ [gL g.mv (k)]).length = (xs).length + 1 := by simp
  refine OneH.act xD _ rfl (appendLL (t := 23) (d := 31) (n := xs.length) (m := 1) (cc := 1) (ls := xs) (xs := gL g.mv (k)) (bytes := 24) (by first | rfl | omega | (simp; done) | (simp; omega)) κ κ (qZ.as (by first | rfl | (simp; done))) xF xE ⟨aG.ne_new, aH.ne_new, (show aY.heap.size ≤ iD.heap.size by omega)⟩ ω ω) ?_
  rintro d_ v_ xG ⟨rfl, lI, rA, rfl, cS, rB, rC⟩
  have rD := qY.grO cS (by rw [bQ]; exact ⟨(fun e => by have := aC.ge _ e; simp only [add_block] at this; omega), (fun e => by have := aC.ge _ e; simp only [add_block] at this; omega), trivial⟩)
  refine ⟨_, rfl, fun aCV xH => ⟨rD, ?_⟩⟩
  clear xD; clear qZ dL xE xF; have := cS.size; replace aL := aL.gr cS (fun k hk => by have := aC.ge k hk; omega); replace aO := aO.gr cS (fun k hk => by have := aC.ge k hk; omega); replace aM := aM.gr cS (fun e => by have := aC.ge _ e; omega); replace aP := aP.gr cS (fun e => by have := aC.ge _ e; omega)
  replace aG : OwnR xG (Sx (aF.heap.size) [some (bK.heap.size), obk (bM), obk (lI), obk (aE), some (aN)]) aD aZ 3 (g.ow : List Int) := aG.grA cS (fun k hk => hk.2.2.1) (fun k hk hs => ⟨hs.1, hs.2.1, own_repl rB hs.2.2.1 hk, hs.2.2.2.1, hs.2.2.2.2.1, hs.2.2.2.2.2⟩)
  replace aH : OwnR xG (Sx (aF.heap.size) [some (bK.heap.size), obk (bM), obk (lI), obk (aD), some (aN)]) aE bA 3 (g.pr : List Int) := aH.grA cS (fun k hk => hk.2.2.1) (fun k hk hs => ⟨hs.1, hs.2.1, own_repl rB hs.2.2.1 hk, hs.2.2.2.1, hs.2.2.2.2.1, hs.2.2.2.2.2⟩)
  replace aJ := aJ.gr cS (fun e => by have := aC.ge _ e; omega); replace aR := aR.gr cS (fun k hk => by have := aC.ge k hk; omega); clear aC cS rB
  refine AtH.rk rD xH [11] 1 [(32, pt aN 2)] .n (fun aCW xI => ?_)
  clear xH
  refine AtH.all [12] 0 κ (by simp) ⟨?_, trivial⟩
  refine OneH.store xI (t := 23) (b := aN) (off := 2) (v := .slice lI ((xs ++ [gL g.mv (k)]).length) rA) _ rfl κ aJ κ (fun aCX aAv cT rE xJ => ?_)
  clear xI
  replace rE : Bx aAv (aN) [.slice aD ((([] : List Int) ++ g.ow).length) aZ, .slice aE ((([] : List Int) ++ g.pr).length) bA, .slice lI ((xs ++ [gL g.mv (k)]).length) rA] 25 := rE
  have xK := rD.gr' cT (by rw [bQ]; exact ⟨(by simp only [add_block]; omega), (by simp only [add_block]; omega), trivial⟩); have := cT.size; replace aL := aL.gr cT (fun k h => by injection h; omega); replace aO := aO.gb cT ω; replace aM := aM.gb cT ω; replace aP := aP.gb cT ω; replace aG := aG.gr cT (fun k hk => hk.2.2.2.2.1); replace aH := aH.gr cT (fun k hk => hk.2.2.2.2.1)
  replace aR := aR.gb cT ω; replace rC := rC.gr cT (fun k hk e => by have := Sx_base hk; injection e; omega); clear aJ cT
  refine ⟨xK, ?_⟩
  refine AtH.done κ ?_
  clear xK
  refine b_n ?_
  refine t_n ?_
  refine At.start ?_
  refine At.rk xJ 3 [(4, .int .i64 (k + 1))] (.w 20 (k + 1) <| .n) (fun aCY aAw => ?_)
  clear xJ
  refine At.dn ?_
  exact ⟨_, ω, (k + 1), (xs ++ [gL g.mv (k)] : List (List Int)), lI, rA, rfl, aAw.sb, aL, aO, aM, aP, (aG.imp (fun g _ hs => ⟨hs.2.2.1, hs.2.2.2.1, hs.2.2.2.2.1, hs.2.2.2.2.2⟩)), (aH.imp (fun g _ hs => ⟨hs.2.2.1, hs.2.2.2.1, hs.2.2.2.2.1, hs.2.2.2.2.2⟩)), rE, rC, ω, ω, (takeLL_push hxs ω ω), ω, ω⟩
 have aCZ := of_decide_eq_false pX
 refine wp_exit ?_
 refine t_e ?_
 clear hm1129
 refine t_e ?_
 refine b_e ?_
 refine t_n ?_
 clear aM
 refine sqs ?_
 refine At.rk lC 1 [(33, .agg #[.slice aD ((([] : List Int) ++ g.ow).length) aZ, .slice aE ((([] : List Int) ++ g.pr).length) bA, .slice aI xs.length aT])] (.l (aJ.cell (i := 0) rfl) <| .l (aJ.cell (i := 1) rfl) <| .l (aJ.cell (i := 2) rfl) <| .n) (fun aDa xL => ?_)
 clear lC
 refine At.store xL (t := 25) (b := w1.heap.size) (off := 0) (v := .agg #[.slice aD ((([] : List Int) ++ g.ow).length) aZ, .slice aE ((([] : List Int) ++ g.pr).length) bA, .slice aI xs.length aT]) κ aP κ (fun aDb lJ hE lK aAx => ?_)
 clear xL
 replace lK : Bx lJ (w1.heap.size) [.slice aD ((([] : List Int) ++ g.ow).length) aZ, .slice aE ((([] : List Int) ++ g.pr).length) bA, .slice aI xs.length aT] 25 := lK
 have := hE.size; replace aL := aL.gr hE (fun k h => by injection h; omega); replace aO := aO.gb hE ω; replace aG := aG.gr hE (fun k hk e => by have := Sx_base hk; injection e; omega); replace aH := aH.gr hE (fun k hk e => by have := Sx_base hk; injection e; omega); replace aJ := aJ.gb hE ω; have aAy := mN.gr hE (fun k hk e => by have := Sx_base hk; injection e; omega); clear mN; clear aP hE
 refine At.dn ?_
 clear aJ
 refine wp_ret ?_
 refine ret_ aAx [[.slice aD ((([] : List Int) ++ g.ow).length) aZ, .slice aE ((([] : List Int) ++ g.pr).length) bA, .slice aI xs.length aT]] [.agg #[.slice aD ((([] : List Int) ++ g.ow).length) aZ, .slice aE ((([] : List Int) ++ g.pr).length) bA, .slice aI xs.length aT]] [(lJ.cell? ⟨w1.heap.size, 0, none⟩ = some (.slice aD ((([] : List Int) ++ g.ow).length) aZ)), (lJ.cell? ⟨w1.heap.size, 1, none⟩ = some (.slice aE ((([] : List Int) ++ g.pr).length) bA)), (lJ.cell? ⟨w1.heap.size, 2, none⟩ = some (.slice aI xs.length aT))] κ ⟨(lK.cell (i := 0) rfl), (lK.cell (i := 1) rfl), (lK.cell (i := 2) rfl), trivial⟩ ?_
 have hL_ : OwnLL lJ w.heap.size [obk aD, obk aE] aI aT 22 3 xs := (aAy.imp (fun g _ hs => ⟨hs.1, hs.2.1, (by have := Sx_base hs; show w.heap.size ≤ g; omega)⟩))
 have hq_ : xs = g.mv := takeLL_end hxs ω
 rw [hq_] at hL_
 exact ⟨aD, aZ, aE, bA, aI, aT, ret_eq (by rw [← hq_]; rfl), aL, (aG.imp (fun g _ hs => ⟨hs.2.1, hs.1, (by have := Sx_base hs; show w.heap.size ≤ g; omega)⟩)), (aH.imp (fun g _ hs => ⟨hs.2.1, hs.1, (by have := Sx_base hs; show w.heap.size ≤ g; omega)⟩)), hL_⟩
end Go.Proofs.YtkkophhnliplhaaDoor
namespace Go.Proofs.YtkkophhnliplhaaDoor
open Go Go.RowKit
set_option maxHeartbeats 4000000 in
theorem from_any {s : List Int} {w : World} (hs : OkW s) :
    Calls Tryd.prog 21 #[.agg ((s : List Int).map wV).toArray] w fun e w' => e = .returned (.agg (((fromW s : List Bool)).map Value.bool).toArray) ∧ Ext w w' := by
 have hls := hs.1
 refine enter_ (args := [.agg ((s : List Int).map wV).toArray]) Tryd.func21 rfl Tryd.ntmps21 (Nat.le_of_ble_eq_true rfl) (fun act0 f0 => ?_)
 have e0 : Ext w w := Ext.refl w
 refine sqs ?_
 refine At.bx f0 1 ((s : List Int).map wV) 35 (fun w1 g5 bx6 act4 f3 => ?_)
 clear f0; have := g5.size; replace e0 := e0.gn g5; have := bx6.lt; clear g5
 refine At.bx f3 2 ((List.replicate 256 false : List Bool).map Value.bool) 37 (fun w9 aJ aE aX aM => ?_)
 clear f3; have := aJ.size; replace e0 := e0.gn aJ; replace bx6 := bx6.gn aJ; have := aE.lt; clear aJ
 refine At.dn ?_
 refine sqs ?_
 refine At.bx aM 3 ((List.replicate 256 false : List Bool).map Value.bool) 37 (fun aY aF aK aZ aN => ?_)
 clear aM; have := aF.size; replace e0 := e0.gn aF; replace bx6 := bx6.gn aF; replace aE := aE.gn aF; have := aK.lt; clear aF
 refine At.dn ?_
 refine wp_seq ?_
 refine sqs ?_
 refine At.rk aN 1 [(4, .int .i64 (0))] .n (fun bA aO => ?_)
 clear aN
 refine At.dn ?_
 refine wp_block ?_
 refine loop_g (fun (m_ : Nat) a_ w_ => ∃ (k : Int) (xs : List Bool), m_ = (256 - k).toNat ∧ (Frm 22 a_ [(4, .int .i64 (k)), (3, pt w9.heap.size 0), (2, pt w1.heap.size 0), (1, pt w.heap.size 0)]) ∧ (Ext w w_) ∧ (Bx w_ (w.heap.size) ((s : List Int).map wV) 35) ∧ (Bx w_ (w1.heap.size) ((List.replicate 256 false : List Bool).map Value.bool) 37) ∧ (Bx w_ (w9.heap.size) ((xs : List Bool).map Value.bool) 37) ∧ (0 ≤ k) ∧ (k ≤ 256) ∧ (xs.length = 256) ∧ (MixL (List.replicate 256 false) xs (fun j => bitI (gI s (j / 64)) (j % 64)) k)) _ ⟨0, List.replicate 256 false, rfl, aO.sb, e0, bx6, aE, aK, ω, ω, List.length_replicate, (mix_0 List.length_replicate)⟩ ?_
 clear aO; clear bx6; clear aE; clear aK; clear e0
 intro m_ bB bC ⟨k, xs, hm34, aP, aA, aB, aC, aD, i39, i40, i41, hmx⟩
 have := aA.size; have := aB.lt; have := aC.lt; have := aD.lt
 refine wp_seq ?_
 refine sqs ?_
 refine At.rk aP 2 [(6, .bool (decide ((k : Int) < 256)))] .n (fun bD aG => ?_)
 clear aP
 refine At.dn ?_
 refine cond_S aG (t := decide ((k : Int) < 256)) rfl (fun aL => ?_) (fun aL => ?_)
 ·have bE := of_decide_eq_true aL
  refine wp_skip ?_
  refine t_n ?_
  refine wp_seq ?_
  refine wp_block ?_
  refine At.start ?_
  refine At.rk aG 12 [(20, .pointer (some ((⟨w9.heap.size, 0, none⟩ : Addr).add ((k : Int).toNat * 1)))), (19, .bool ((((gI s ((k : Int) / 64) : Int).fdiv (2 ^ (min ((k : Int) % 64 : Int).toNat IntKind.u64.bits)) : Int).tmod 2 : Int) == 1))] (.p (show (64 : Int) ≠ 0 from ω) <| .v 11 (show (.int .i64 (IntKind.i64.wrap ((k : Int).tdiv 64)) : Value) = .int .i64 ((k : Int) / 64) from (congrArg (Value.int .i64) (w64q ω ω ω))) <| .b ((k : Int) / 64) 4 <| .l (Bx.arrM (f := wV) (0 : Int) aB ((k : Int) / 64) ω ω) <| .p (show (64 : Int) ≠ 0 from ω) <| .v 15 (show (.int .i64 ((k : Int).tmod 64) : Value) = .int .i64 ((k : Int) % 64) from (congrArg (Value.int .i64) (Int.tmod_eq_emod_of_nonneg ω))) <| .v 16 (show (.int .u64 (IntKind.u64.wrap ((k : Int) % 64)) : Value) = .int .u64 ((k : Int) % 64) from (wu64 ω ω)) <| .p (show 0 ≤ ((k : Int) % 64 : Int) from ω) <| .p (show (2 : Int) ≠ 0 from ω) <| .b k 256 <| .n) (fun bF aQ => ?_)
  clear aG
  refine At.act aQ (storeArrM (f := Value.bool) (t := 4) (b := w9.heap.size) (i := k) (x := (((gI s ((k : Int) / 64) : Int).fdiv (2 ^ (min ((k : Int) % 64 : Int).toNat IntKind.u64.bits)) : Int).tmod 2 : Int) == 1) (v := .bool ((((gI s ((k : Int) / 64) : Int).fdiv (2 ^ (min ((k : Int) % 64 : Int).toNat IntKind.u64.bits)) : Int).tmod 2 : Int) == 1)) κ rfl rfl κ aD ω ω) ?_
  rintro d_ v_ bG ⟨rfl, aH, aT⟩
  refine ⟨_, rfl, fun bH aR => ?_⟩
  clear aQ
  have bI : ((xs).set (k : Int).toNat ((((gI s ((k : Int) / 64) : Int).fdiv (2 ^ (min ((k : Int) % 64 : Int).toNat IntKind.u64.bits)) : Int).tmod 2 : Int) == 1)).length = (xs : List Bool).length := List.length_set
  have := aH.size; replace aA := aA.gr aH (fun k h => by injection h; omega); replace aB := aB.gb aH ω; replace aC := aC.gb aH ω; clear aD aH
  refine At.done rfl ?_
  refine b_n ?_
  refine t_n ?_
  refine At.start ?_
  refine At.rk aR 3 [(4, .int .i64 (k + 1))] (.w 8 (k + 1) <| .n) (fun bJ aU => ?_)
  clear aR
  refine At.dn ?_
  exact ⟨_, ω, (k + 1), (xs).set (k : Int).toNat ((((gI s ((k : Int) / 64) : Int).fdiv (2 ^ (min ((k : Int) % 64 : Int).toNat IntKind.u64.bits)) : Int).tmod 2 : Int) == 1), rfl, aU.sb, aA, aB, aC, aT, ω, ω, ω, (mix_next hmx ω ω (bit_mod (hs.2 _) ω ω))⟩
 have bK := of_decide_eq_false aL
 refine wp_exit ?_
 refine t_e ?_
 clear hm34
 refine t_e ?_
 refine b_e ?_
 refine t_n ?_
 refine sqs ?_
 refine At.rk aG 1 [(21, .agg ((xs : List Bool).map Value.bool).toArray)] (.p (show ((xs : List Bool).map Value.bool).length = 256 from ((List.length_map _).trans σ)) <| .p aD.whole <| .o (.cs ((xs : List Bool).map Value.bool)) <| .n) (fun bL aS => ?_)
 clear aG
 refine At.act aS (storeBlk (t := 37) (b := w1.heap.size) (n := 256) (cs' := ((xs : List Bool).map Value.bool)) κ κ ((List.length_map _).trans σ) oneB ((show ((xs : List Bool).map Value.bool).length = 256 from ((List.length_map _).trans σ)).trans (show ((List.replicate 256 false : List Bool).map Value.bool).length = 256 from len_P).symm) aC) ?_
 rintro d_ v_ bM ⟨rfl, aI, aV⟩
 refine ⟨_, rfl, fun bN aW => ?_⟩
 clear aS; have := aI.size; replace aA := aA.gr aI (fun k h => by injection h; omega); replace aB := aB.gb aI ω; replace aD := aD.gb aI ω; clear aC aI
 refine At.dn ?_
 refine wp_ret ?_
 refine retB_ aW (sl := 2) (cs := ((xs : List Bool).map Value.bool)) (m := 256) rfl κ κ ((List.length_map _).trans σ) aV ?_
 exact ⟨ret_map (mix_end hmx ω), aA⟩
end Go.Proofs.YtkkophhnliplhaaDoor
