/-
  A walk of a Go function, printed by a program of this repo. Conditions: what the theorems name.
-/
import Derived.Test.YtklbpajmoklheaaFs
import Derived.Test.YtklbpajmoklheaaPureGame
set_option linter.unusedVariables false
set_option linter.unusedSimpArgs false
namespace Go.Proofs.Ytklbpajmoklheaa
open Go Go.RowKit

set_option maxHeartbeats 4000000 in
theorem copyR_any {Ag0 Ag1 Ag2 : Option Addr} {cg0 cg1 cg2 : Nat} {g : GameL} {w : World} (rg : RdG w 0 w.heap.size Ag0 Ag1 Ag2 cg0 cg1 cg2 g) :
    Calls Try.prog 15 #[.agg #[.slice Ag0 g.ow.length cg0, .slice Ag1 g.pr.length cg1, .slice Ag2 g.mv.length cg2]] w fun e w' => ∃ A0 c0 A1 c1 A2 c2, e = .returned (.agg #[.slice A0 g.ow.length c0, .slice A1 g.pr.length c1, .slice A2 g.mv.length c2]) ∧ Ext w w' ∧ OwnR w' (Sx w.heap.size [obk A1, obk A2]) A0 c0 3 g.ow ∧ OwnR w' (Sx w.heap.size [obk A0, obk A2]) A1 c1 3 g.pr ∧ OwnLL w' w.heap.size [obk A0, obk A1] A2 c2 22 3 g.mv := by
 have hlg0 := rg.ow.len; have hlg1 := rg.pr.len; have hlg2 := rg.mv.len; have hkg0 := rg.k0; have hkg1 := rg.k1; have hkg2 := rg.k2
 refine enter_ (args := [.agg #[.slice Ag0 g.ow.length cg0, .slice Ag1 g.pr.length cg1, .slice Ag2 g.mv.length cg2]]) Try.func15 rfl Try.ntmps15 (Nat.le_of_ble_eq_true rfl) (fun act0 f0 => ?_)
 have e0 : Ext w w := Ext.refl w
 refine wp_seq ?_
 refine At.start ?_
 refine At.seq f0 1 [[]] [(1, .pointer (some ⟨w.heap.size, 0, none⟩))] (w.alloc (.cells #[.slice Ag0 g.ow.length cg0, .slice Ag1 g.pr.length cg1, .slice Ag2 g.mv.length cg2] 25 (0, 0))) [] (by kernel_rfl) trivial (fun act4 w1 hw2 f3 => ?_)
 clear f0; have g5 := gr_alloc hw2; have := g5.size; replace e0 := e0.gn g5; have r8 := rg.gn g5; clear rg; have bx9 : Bx w1 (w.heap.size) [.slice Ag0 g.ow.length cg0, .slice Ag1 g.pr.length cg1, .slice Ag2 g.mv.length cg2] 25 := Bx.new hw2; have := bx9.lt; clear g5 hw2
 refine At.seq f3 1 [[]] [(2, .pointer (some ⟨w1.heap.size, 0, none⟩))] (w1.alloc (.cells #[.slice none 0 0, .slice none 0 0, .slice none 0 0] 25 (0, 0))) [] (by kernel_rfl) trivial (fun aBj aF nF nG => ?_)
 clear f3; have jH := gr_alloc nF; have := jH.size; replace e0 := e0.gn jH; replace r8 := r8.gn jH; replace bx9 := bx9.gn jH; have aA : Bx aF (w1.heap.size) [.slice none 0 0, .slice none 0 0, .slice none 0 0] 25 := Bx.new nF; have := aA.lt; clear jH nF
 refine At.done rfl ?_
 refine t_n ?_
 refine wp_seq (cut (fun a_ w_ => ∃ (aI : Nat) (aD : Option Addr) (aE : Option Addr) (aW : Nat) (aX : Nat), (Frm 34 a_ [(3, .pointer (some ⟨aI, 0, none⟩)), (2, .pointer (some ⟨w1.heap.size, 0, none⟩)), (1, .pointer (some ⟨w.heap.size, 0, none⟩))]) ∧ (Ext w w_) ∧ (RdG w_ 0 w.heap.size Ag0 Ag1 Ag2 cg0 cg1 cg2 g) ∧ (Bx w_ (w.heap.size) [.slice Ag0 g.ow.length cg0, .slice Ag1 g.pr.length cg1, .slice Ag2 g.mv.length cg2] 25) ∧ (Bx w_ (w1.heap.size) [.slice none 0 0, .slice none 0 0, .slice none 0 0] 25) ∧ (OwnR w_ (Sx (aF.heap.size) [obk (aE), some (aI)]) (aD) (aW) 3 (g.ow : List Int)) ∧ (OwnR w_ (Sx (aF.heap.size) [obk (aD), some (aI)]) (aE) (aX) 3 (g.pr : List Int)) ∧ (Bx w_ (aI) [.slice (aD) ((([] : List Int) ++ g.ow).length) (aW), .slice (aE) ((([] : List Int) ++ g.pr).length) (aX), .slice none 0 0] 25) ∧ (aF.heap.size ≤ aI) ∧ (aF.heap.size ≤ w_.heap.size)) ?_ ?_)
 ·obtain ⟨lN, aM⟩ : ∃ c : List (Addr × Value), c = [(⟨w.heap.size, 0, none⟩, (.slice Ag0 g.ow.length cg0)), (⟨w.heap.size, 1, none⟩, (.slice Ag1 g.pr.length cg1))] := ⟨_, rfl⟩
  have sD : HoldsC lN aF := by rw [aM]; exact ⟨(bx9.cell (i := 0) rfl), (bx9.cell (i := 1) rfl), trivial⟩
  refine AtH.start lN 11 #[false, false, false, false, false, false, false, false, false, false, false] (by kernel_rfl) rfl rfl (fun aB sE => ?_)
  have hL := gr_drew sE; have lO := sD.gr hL; have := hL.size; replace e0 := e0.gn hL; replace r8 := r8.gn hL; replace bx9 := bx9.gn hL; replace aA := aA.gn hL; clear hL sE sD
  refine AtH.rd (by kernel_rfl) (fun d v c a w h => by cases d <;> exact h) lO [1, 2, 5, 6] [[], [.ld (.slice Ag0 g.ow.length cg0)], [], [.ld (.slice Ag1 g.pr.length cg1)]] [(11, .slice Ag1 g.pr.length cg1), (10, .pointer (some ⟨w.heap.size, 1, none⟩)), (7, .slice Ag0 g.ow.length cg0), (6, .pointer (some ⟨w.heap.size, 0, none⟩))] #[false, true, true, false, false, true, true, false, false, false, false] [(∃ j_ : Nat, lN[j_]? = some (⟨w.heap.size, 0, none⟩, (.slice Ag0 g.ow.length cg0))), (∃ j_ : Nat, lN[j_]? = some (⟨w.heap.size, 1, none⟩, (.slice Ag1 g.pr.length cg1)))] 7 nG (by kernel_rfl) ⟨⟨0, by rw [aM]; rfl⟩, ⟨1, by rw [aM]; rfl⟩, trivial⟩ (fun aBk iJ => ?_)
  clear nG
  refine AtH.all [0, 4, 9] 6 (by kernel_rfl) (by simp) ⟨?_, ?_, ?_, trivial⟩
  ·refine OneH.seq iJ [[]] [(5, .slice (some ⟨aB.heap.size, 0, none⟩) 0 0)] (aB.alloc (.cells #[] 3 (0, 0))) [] #[true, true, true, false, false, true, true, false, false, false, false] (by kernel_rfl) (by kernel_rfl) (by kernel_rfl) trivial (fun aBl aL nH iK => ?_)
   clear iJ; have hM := gr_alloc nH; have lP := lO.gr hM
   refine ⟨lP, ?_⟩
   have := hM.size; replace e0 := e0.gn hM; replace r8 := r8.gn hM; replace bx9 := bx9.gn hM; replace aA := aA.gn hM; have bG : Bx aL (aB.heap.size) [] 3 := Bx.new nH; have := bG.lt; clear hM nH
   refine AtH.all [3, 4, 9] 5 (by kernel_rfl) (by simp) ⟨?_, ?_, ?_, trivial⟩
   ·have gQ : OwnR aL (Sx (aB.heap.size) []) (some ⟨aB.heap.size, 0, none⟩) 0 3 ([] : List Int) := Bx.own0 bG (Nat.le_refl _)
    clear bG; have yM : (([] : List Int) ++ g.ow).length = (([] : List Int)).length + (g.ow : List Int).length := List.length_append
    simp only [List.length_cons, List.length_nil] at yM
    refine OneH.act iK #[true, true, true, true, false, true, true, false, false, false, false] (by kernel_rfl) (appendR (α := Int) (t := 22) (d := 8) (n := 0) (m := g.ow.length) (cc := cg0) (xs := []) (ys := g.ow) (bytes := 8) (by first | rfl | omega | (simp; done) | (simp; omega)) (by first | rfl | omega | (simp; done) | (simp; omega)) (by kernel_rfl) rfl (by kernel_rfl) gQ r8.ow.srcR (by simp only [List.length_cons, List.length_nil]; omega) (by simp only [List.length_cons, List.length_nil]; omega)) ?_
    rintro d_ v_ bE ⟨rfl, aY, bN, lQ⟩
    obtain rfl := lQ.val
    have hN := lQ.gr
    have nI := lP.grO hN (by rw [aM]; exact ⟨(fun e => by have := gQ.ge _ e; simp only [add_block] at this; omega), (fun e => by have := gQ.ge _ e; simp only [add_block] at this; omega), trivial⟩)
    refine ⟨_, rfl, fun aBm lR => ⟨nI, ?_⟩⟩
    clear iK; have aS := lQ.own (Sx (aB.heap.size) []) (fun g _ hs => hs) (show aB.heap.size ≤ aL.heap.size by omega); have := hN.size; replace e0 := e0.gr hN (fun k hk => by have := gQ.ge k hk; omega); replace r8 := r8.gr hN (fun k hk => by have := gQ.ge k hk; omega); replace bx9 := bx9.gr hN (fun e => by have := gQ.ge _ e; omega); replace aA := aA.gr hN (fun e => by have := gQ.ge _ e; omega)
    clear gQ hN lQ; replace aS : OwnR bE (Sx (aB.heap.size) []) aY bN 3 (g.ow : List Int) := aS
    refine AtH.all [4, 9] 4 (by kernel_rfl) (by simp) ⟨?_, ?_, trivial⟩
    ·refine OneH.seq lR [[]] [(9, .slice (some ⟨bE.heap.size, 0, none⟩) 0 0)] (bE.alloc (.cells #[] 3 (0, 0))) [] #[true, true, true, true, true, true, true, false, false, false, false] (by kernel_rfl) (by kernel_rfl) (by kernel_rfl) trivial (fun aBn bR nJ lS => ?_)
     clear lR; have gR := gr_alloc nJ; have nK := nI.gr gR
     refine ⟨nK, ?_⟩
     have := gR.size; replace e0 := e0.gn gR; replace r8 := r8.gn gR; replace bx9 := bx9.gn gR; replace aA := aA.gn gR; replace aS := aS.grN gR; have hO : Bx bR (bE.heap.size) [] 3 := Bx.new nJ; have := hO.lt; clear gR nJ
     refine AtH.all [7, 9] 3 (by kernel_rfl) (by simp) ⟨?_, ?_, trivial⟩
     ·have gS : OwnR bR (Sx (bE.heap.size) [obk (aY)]) (some ⟨bE.heap.size, 0, none⟩) 0 3 ([] : List Int) := Bx.own0 hO ⟨(aS.neb (fun g hs => hs.1)), (Nat.le_refl _)⟩
      clear hO; have yN : (([] : List Int) ++ g.pr).length = (([] : List Int)).length + (g.pr : List Int).length := List.length_append
      simp only [List.length_cons, List.length_nil] at yN
      refine OneH.act lS #[true, true, true, true, true, true, true, true, false, false, false] (by kernel_rfl) (appendR (α := Int) (t := 22) (d := 12) (n := 0) (m := g.pr.length) (cc := cg1) (xs := []) (ys := g.pr) (bytes := 8) (by first | rfl | omega | (simp; done) | (simp; omega)) (by first | rfl | omega | (simp; done) | (simp; omega)) (by kernel_rfl) rfl (by kernel_rfl) gS r8.pr.srcR (by simp only [List.length_cons, List.length_nil]; omega) (by simp only [List.length_cons, List.length_nil]; omega)) ?_
      rintro d_ v_ dM ⟨rfl, iL, jI, jJ⟩
      obtain rfl := jJ.val
      have gT := jJ.gr
      have nL := nK.grO gT (by rw [aM]; exact ⟨(fun e => by have := gS.ge _ e; simp only [add_block] at this; omega), (fun e => by have := gS.ge _ e; simp only [add_block] at this; omega), trivial⟩)
      refine ⟨_, rfl, fun aBo sF => ⟨nL, ?_⟩⟩
      clear lS; have hP := jJ.own (Sx (bE.heap.size) [obk (aY)]) (fun g _ hs => ⟨hs.1, hs.2⟩) ⟨aS.ne_new, (show bE.heap.size ≤ bR.heap.size by omega)⟩; have := gT.size; replace e0 := e0.gr gT (fun k hk => by have := gS.ge k hk; omega); replace r8 := r8.gr gT (fun k hk => by have := gS.ge k hk; omega); replace bx9 := bx9.gr gT (fun e => by have := gS.ge _ e; omega)
      replace aA := aA.gr gT (fun e => by have := gS.ge _ e; omega)
      replace aS : OwnR dM (Sx (aB.heap.size) [obk (iL)]) aY bN 3 (g.ow : List Int) := aS.grA gT (fun k hk => hk.1) (fun k hk hs => ⟨own_repl jJ.at_ hs.1 hk, hs.2⟩)
      clear gS gT jJ; replace hP : OwnR dM (Sx (bE.heap.size) [obk (aY)]) iL jI 3 (g.pr : List Int) := hP
      refine AtH.rd (by kernel_rfl) (fun d v c a w h => by cases d <;> exact h) nL [8] [[]] [(13, .agg #[.slice aY ((([] : List Int) ++ g.ow).length) bN, .slice iL ((([] : List Int) ++ g.pr).length) jI, .slice none 0 0])] #[true, true, true, true, true, true, true, true, true, false, false] [] 2 sF (by kernel_rfl) trivial (fun aBp sG => ?_)
      clear sF
      refine AtH.all [9] 1 (by kernel_rfl) (by simp) ⟨?_, trivial⟩
      refine OneH.seq sG [[]] [(3, .pointer (some ⟨dM.heap.size, 0, none⟩))] (dM.alloc (.cells #[.slice none 0 0, .slice none 0 0, .slice none 0 0] 25 (0, 0))) [] #[true, true, true, true, true, true, true, true, true, true, false] (by kernel_rfl) (by kernel_rfl) (by kernel_rfl) trivial (fun aBq yO nM sH => ?_)
      clear sG; have dN := gr_alloc nM; have sI := nL.gr dN; have := dN.size; replace e0 := e0.gn dN; replace r8 := r8.gn dN; replace bx9 := bx9.gn dN; replace aA := aA.gn dN; replace aS := aS.grN dN; replace hP := hP.grN dN; have nN : Bx yO (dM.heap.size) [.slice none 0 0, .slice none 0 0, .slice none 0 0] 25 := Bx.new nM; have := nN.lt; clear dN nM
      refine ⟨sI, ?_⟩
      refine AtH.all [10] 0 (by kernel_rfl) (by simp) ⟨?_, trivial⟩
      refine OneH.store sH (t := 25) (b := dM.heap.size) (off := 0) (v := .agg #[.slice aY ((([] : List Int) ++ g.ow).length) bN, .slice iL ((([] : List Int) ++ g.pr).length) jI, .slice none 0 0]) #[true, true, true, true, true, true, true, true, true, true, true] (by kernel_rfl) (by kernel_rfl) nN (by kernel_rfl) (fun aBr yP dO nO yQ => ?_)
      clear sH
      replace nO : Bx yP (dM.heap.size) [.slice aY ((([] : List Int) ++ g.ow).length) bN, .slice iL ((([] : List Int) ++ g.pr).length) jI, .slice none 0 0] 25 := nO
      have sJ := sI.gr' dO (by rw [aM]; exact ⟨(by simp only [add_block]; omega), (by simp only [add_block]; omega), trivial⟩); have := dO.size; replace e0 := e0.gr dO (fun k h => by injection h; omega); replace r8 := r8.gb dO (by omega); replace bx9 := bx9.gb dO (by omega); replace aA := aA.gb dO (by omega); replace aS := aS.gr dO (fun k hk => hk.1); replace hP := hP.gr dO (fun k hk => hk.1)
      clear nN dO
      refine ⟨sJ, ?_⟩
      refine AtH.done (by kernel_rfl) ?_
      clear sJ
      refine t_n ?_
      have yR := yQ.sub (r := [(3, .pointer (some ⟨dM.heap.size, 0, none⟩)), (2, .pointer (some ⟨w1.heap.size, 0, none⟩)), (1, .pointer (some ⟨w.heap.size, 0, none⟩))]) ⟨rfl, rfl, rfl, trivial⟩
      exact ⟨dM.heap.size, aY, iL, bN, jI, yR, e0, r8, bx9, aA, (aS.imp (fun g _ hs => ⟨hs.2.1, hs.1, (by have := Sx_base hs; show aF.heap.size ≤ g; omega)⟩)), (hP.imp (fun g _ hs => ⟨hs.2.1, hs.1, (by have := Sx_base hs; show aF.heap.size ≤ g; omega)⟩)), nO, (by omega), (by omega)⟩
     refine OneH.seq lS [[]] [(3, .pointer (some ⟨bR.heap.size, 0, none⟩))] (bR.alloc (.cells #[.slice none 0 0, .slice none 0 0, .slice none 0 0] 25 (0, 0))) [] #[true, true, true, true, true, true, true, false, false, true, false] (by kernel_rfl) (by kernel_rfl) (by kernel_rfl) trivial (fun aBs nP nQ sK => ?_)
     clear lS; have dP := gr_alloc nQ; have sL := nK.gr dP; have := dP.size; replace e0 := e0.gn dP; replace r8 := r8.gn dP; replace bx9 := bx9.gn dP; replace aA := aA.gn dP; replace aS := aS.grN dP; replace hO := hO.gn dP; have jK : Bx nP (bR.heap.size) [.slice none 0 0, .slice none 0 0, .slice none 0 0] 25 := Bx.new nQ; have := jK.lt; clear dP nQ
     refine ⟨sL, ?_⟩
     refine AtH.all [7] 2 (by kernel_rfl) (by simp) ⟨?_, trivial⟩
     have dQ : OwnR nP (Sx (bE.heap.size) [obk (aY), some (bR.heap.size)]) (some ⟨bE.heap.size, 0, none⟩) 0 3 ([] : List Int) := Bx.own0 hO ⟨(aS.neb (fun g hs => hs.2.1)), (fun e => by injection e; omega), (Nat.le_refl _)⟩
     clear hO; have yS : (([] : List Int) ++ g.pr).length = (([] : List Int)).length + (g.pr : List Int).length := List.length_append
     simp only [List.length_cons, List.length_nil] at yS
     refine OneH.act sK #[true, true, true, true, true, true, true, true, false, true, false] (by kernel_rfl) (appendR (α := Int) (t := 22) (d := 12) (n := 0) (m := g.pr.length) (cc := cg1) (xs := []) (ys := g.pr) (bytes := 8) (by first | rfl | omega | (simp; done) | (simp; omega)) (by first | rfl | omega | (simp; done) | (simp; omega)) (by kernel_rfl) rfl (by kernel_rfl) dQ r8.pr.srcR (by simp only [List.length_cons, List.length_nil]; omega) (by simp only [List.length_cons, List.length_nil]; omega)) ?_
     rintro d_ v_ sM ⟨rfl, iM, jL, jM⟩
     obtain rfl := jM.val
     have dR := jM.gr
     have nR := sL.grO dR (by rw [aM]; exact ⟨(fun e => by have := dQ.ge _ e; simp only [add_block] at this; omega), (fun e => by have := dQ.ge _ e; simp only [add_block] at this; omega), trivial⟩)
     refine ⟨_, rfl, fun aBt sN => ⟨nR, ?_⟩⟩
     clear sK
     have jN := jM.own (Sx (bE.heap.size) [obk (aY), some (bR.heap.size)]) (fun g _ hs => ⟨hs.1, hs.2.1, hs.2.2⟩) ⟨aS.ne_new, (fun e => by injection e; omega), (show bE.heap.size ≤ nP.heap.size by omega)⟩
     have := dR.size; replace e0 := e0.gr dR (fun k hk => by have := dQ.ge k hk; omega); replace r8 := r8.gr dR (fun k hk => by have := dQ.ge k hk; omega); replace bx9 := bx9.gr dR (fun e => by have := dQ.ge _ e; omega); replace aA := aA.gr dR (fun e => by have := dQ.ge _ e; omega)
     replace aS : OwnR sM (Sx (aB.heap.size) [some (bR.heap.size), obk (iM)]) aY bN 3 (g.ow : List Int) := aS.grA dR (fun k hk => hk.2.1) (fun k hk hs => ⟨hs.1, own_repl jM.at_ hs.2.1 hk, hs.2.2⟩)
     replace jK := jK.gr dR (dQ.neb (fun g hs => hs.2.1)); clear dQ dR jM; replace jN : OwnR sM (Sx (bE.heap.size) [obk (aY), some (bR.heap.size)]) iM jL 3 (g.pr : List Int) := jN
     refine AtH.rd (by kernel_rfl) (fun d v c a w h => by cases d <;> exact h) nR [8] [[]] [(13, .agg #[.slice aY ((([] : List Int) ++ g.ow).length) bN, .slice iM ((([] : List Int) ++ g.pr).length) jL, .slice none 0 0])] #[true, true, true, true, true, true, true, true, true, true, false] [] 1 sN (by kernel_rfl) trivial (fun aBu sO => ?_)
     clear sN
     refine AtH.all [10] 0 (by kernel_rfl) (by simp) ⟨?_, trivial⟩
     refine OneH.store sO (t := 25) (b := bR.heap.size) (off := 0) (v := .agg #[.slice aY ((([] : List Int) ++ g.ow).length) bN, .slice iM ((([] : List Int) ++ g.pr).length) jL, .slice none 0 0]) #[true, true, true, true, true, true, true, true, true, true, true] (by kernel_rfl) (by kernel_rfl) jK (by kernel_rfl) (fun aBv yT dS nS yU => ?_)
     clear sO
     replace nS : Bx yT (bR.heap.size) [.slice aY ((([] : List Int) ++ g.ow).length) bN, .slice iM ((([] : List Int) ++ g.pr).length) jL, .slice none 0 0] 25 := nS
     have sP := nR.gr' dS (by rw [aM]; exact ⟨(by simp only [add_block]; omega), (by simp only [add_block]; omega), trivial⟩); have := dS.size; replace e0 := e0.gr dS (fun k h => by injection h; omega); replace r8 := r8.gb dS (by omega); replace bx9 := bx9.gb dS (by omega); replace aA := aA.gb dS (by omega); replace aS := aS.gr dS (fun k hk => hk.1); replace jN := jN.gr dS (fun k hk => hk.2.1)
     clear jK dS
     refine ⟨sP, ?_⟩
     refine AtH.done (by kernel_rfl) ?_
     clear sP
     refine t_n ?_
     have yV := yU.sub (r := [(3, .pointer (some ⟨bR.heap.size, 0, none⟩)), (2, .pointer (some ⟨w1.heap.size, 0, none⟩)), (1, .pointer (some ⟨w.heap.size, 0, none⟩))]) ⟨rfl, rfl, rfl, trivial⟩
     exact ⟨bR.heap.size, aY, iM, bN, jL, yV, e0, r8, bx9, aA, (aS.imp (fun g _ hs => ⟨hs.2.1, hs.1, (by have := Sx_base hs; show aF.heap.size ≤ g; omega)⟩)), (jN.imp (fun g _ hs => ⟨hs.1, hs.2.1, (by have := Sx_base hs; show aF.heap.size ≤ g; omega)⟩)), nS, (by omega), (by omega)⟩
    refine OneH.seq lR [[]] [(3, .pointer (some ⟨bE.heap.size, 0, none⟩))] (bE.alloc (.cells #[.slice none 0 0, .slice none 0 0, .slice none 0 0] 25 (0, 0))) [] #[true, true, true, true, false, true, true, false, false, true, false] (by kernel_rfl) (by kernel_rfl) (by kernel_rfl) trivial (fun aBw dT nT sQ => ?_)
    clear lR; have gU := gr_alloc nT; have sR := nI.gr gU; have := gU.size; replace e0 := e0.gn gU; replace r8 := r8.gn gU; replace bx9 := bx9.gn gU; replace aA := aA.gn gU; replace aS := aS.grN gU; have hQ : Bx dT (bE.heap.size) [.slice none 0 0, .slice none 0 0, .slice none 0 0] 25 := Bx.new nT; have := hQ.lt; clear gU nT
    refine ⟨sR, ?_⟩
    refine AtH.all [4] 3 (by kernel_rfl) (by simp) ⟨?_, trivial⟩
    refine OneH.seq sQ [[]] [(9, .slice (some ⟨dT.heap.size, 0, none⟩) 0 0)] (dT.alloc (.cells #[] 3 (0, 0))) [] #[true, true, true, true, true, true, true, false, false, true, false] (by kernel_rfl) (by kernel_rfl) (by kernel_rfl) trivial (fun aBx nU nV sS => ?_)
    clear sQ; have dU := gr_alloc nV; have sT := sR.gr dU
    refine ⟨sT, ?_⟩
    have := dU.size; replace e0 := e0.gn dU; replace r8 := r8.gn dU; replace bx9 := bx9.gn dU; replace aA := aA.gn dU; replace aS := aS.grN dU; replace hQ := hQ.gn dU; have nW : Bx nU (dT.heap.size) [] 3 := Bx.new nV; have := nW.lt; clear dU nV
    refine AtH.all [7] 2 (by kernel_rfl) (by simp) ⟨?_, trivial⟩
    have dV : OwnR nU (Sx (dT.heap.size) [obk (aY)]) (some ⟨dT.heap.size, 0, none⟩) 0 3 ([] : List Int) := Bx.own0 nW ⟨(aS.neb (fun g hs => hs.1)), (Nat.le_refl _)⟩
    clear nW; have yW : (([] : List Int) ++ g.pr).length = (([] : List Int)).length + (g.pr : List Int).length := List.length_append
    simp only [List.length_cons, List.length_nil] at yW
    refine OneH.act sS #[true, true, true, true, true, true, true, true, false, true, false] (by kernel_rfl) (appendR (α := Int) (t := 22) (d := 12) (n := 0) (m := g.pr.length) (cc := cg1) (xs := []) (ys := g.pr) (bytes := 8) (by first | rfl | omega | (simp; done) | (simp; omega)) (by first | rfl | omega | (simp; done) | (simp; omega)) (by kernel_rfl) rfl (by kernel_rfl) dV r8.pr.srcR (by simp only [List.length_cons, List.length_nil]; omega) (by simp only [List.length_cons, List.length_nil]; omega)) ?_
    rintro d_ v_ sU ⟨rfl, iN, jO, jP⟩
    obtain rfl := jP.val
    have dW := jP.gr
    have nX := sT.grO dW (by rw [aM]; exact ⟨(fun e => by have := dV.ge _ e; simp only [add_block] at this; omega), (fun e => by have := dV.ge _ e; simp only [add_block] at this; omega), trivial⟩)
    refine ⟨_, rfl, fun aBy sV => ⟨nX, ?_⟩⟩
    clear sS; have jQ := jP.own (Sx (dT.heap.size) [obk (aY)]) (fun g _ hs => ⟨hs.1, hs.2⟩) ⟨aS.ne_new, (show dT.heap.size ≤ nU.heap.size by omega)⟩; have := dW.size; replace e0 := e0.gr dW (fun k hk => by have := dV.ge k hk; omega); replace r8 := r8.gr dW (fun k hk => by have := dV.ge k hk; omega); replace bx9 := bx9.gr dW (fun e => by have := dV.ge _ e; omega)
    replace aA := aA.gr dW (fun e => by have := dV.ge _ e; omega)
    replace aS : OwnR sU (Sx (aB.heap.size) [obk (iN), some (bE.heap.size)]) aY bN 3 (g.ow : List Int) := aS.grA dW (fun k hk => hk.1) (fun k hk hs => ⟨own_repl jP.at_ hs.1 hk, hs.2.1, hs.2.2⟩)
    replace hQ := hQ.gr dW (fun e => by have := dV.ge _ e; omega); clear dV dW jP; replace jQ : OwnR sU (Sx (dT.heap.size) [obk (aY)]) iN jO 3 (g.pr : List Int) := jQ
    refine AtH.rd (by kernel_rfl) (fun d v c a w h => by cases d <;> exact h) nX [8] [[]] [(13, .agg #[.slice aY ((([] : List Int) ++ g.ow).length) bN, .slice iN ((([] : List Int) ++ g.pr).length) jO, .slice none 0 0])] #[true, true, true, true, true, true, true, true, true, true, false] [] 1 sV (by kernel_rfl) trivial (fun aBz sW => ?_)
    clear sV
    refine AtH.all [10] 0 (by kernel_rfl) (by simp) ⟨?_, trivial⟩
    refine OneH.store sW (t := 25) (b := bE.heap.size) (off := 0) (v := .agg #[.slice aY ((([] : List Int) ++ g.ow).length) bN, .slice iN ((([] : List Int) ++ g.pr).length) jO, .slice none 0 0]) #[true, true, true, true, true, true, true, true, true, true, true] (by kernel_rfl) (by kernel_rfl) hQ (by kernel_rfl) (fun aBA yX dX nY yY => ?_)
    clear sW
    replace nY : Bx yX (bE.heap.size) [.slice aY ((([] : List Int) ++ g.ow).length) bN, .slice iN ((([] : List Int) ++ g.pr).length) jO, .slice none 0 0] 25 := nY
    have sX := nX.gr' dX (by rw [aM]; exact ⟨(by simp only [add_block]; omega), (by simp only [add_block]; omega), trivial⟩); have := dX.size; replace e0 := e0.gr dX (fun k h => by injection h; omega); replace r8 := r8.gb dX (by omega); replace bx9 := bx9.gb dX (by omega); replace aA := aA.gb dX (by omega); replace aS := aS.gr dX (fun k hk => hk.2.1)
    replace jQ := jQ.gr dX (fun k hk e => by have := Sx_base hk; injection e; omega); clear hQ dX
    refine ⟨sX, ?_⟩
    refine AtH.done (by kernel_rfl) ?_
    clear sX
    refine t_n ?_
    have yZ := yY.sub (r := [(3, .pointer (some ⟨bE.heap.size, 0, none⟩)), (2, .pointer (some ⟨w1.heap.size, 0, none⟩)), (1, .pointer (some ⟨w.heap.size, 0, none⟩))]) ⟨rfl, rfl, rfl, trivial⟩
    exact ⟨bE.heap.size, aY, iN, bN, jO, yZ, e0, r8, bx9, aA, (aS.imp (fun g _ hs => ⟨hs.1, hs.2.1, (by have := Sx_base hs; show aF.heap.size ≤ g; omega)⟩)), (jQ.imp (fun g _ hs => ⟨hs.1, (fun e => by have := Sx_base hs; injection e; omega), (by have := Sx_base hs; show aF.heap.size ≤ g; omega)⟩)), nY, (by omega), (by omega)⟩
   ·refine OneH.seq iK [[]] [(9, .slice (some ⟨aL.heap.size, 0, none⟩) 0 0)] (aL.alloc (.cells #[] 3 (0, 0))) [] #[true, true, true, false, true, true, true, false, false, false, false] (by kernel_rfl) (by kernel_rfl) (by kernel_rfl) trivial (fun aBB bJ nZ lT => ?_)
    clear iK; have gV := gr_alloc nZ; have oA := lP.gr gV
    refine ⟨oA, ?_⟩
    have := gV.size; replace e0 := e0.gn gV; replace r8 := r8.gn gV; replace bx9 := bx9.gn gV; replace aA := aA.gn gV; replace bG := bG.gn gV; have bQ : Bx bJ (aL.heap.size) [] 3 := Bx.new nZ; have := bQ.lt; clear gV nZ
    refine AtH.all [3, 9] 4 (by kernel_rfl) (by simp) ⟨?_, ?_, trivial⟩
    ·have dY : OwnR bJ (Sx (aB.heap.size) [some (aL.heap.size)]) (some ⟨aB.heap.size, 0, none⟩) 0 3 ([] : List Int) := Bx.own0 bG ⟨(fun e => by injection e; omega), (Nat.le_refl _)⟩
     clear bG; have zA : (([] : List Int) ++ g.ow).length = (([] : List Int)).length + (g.ow : List Int).length := List.length_append
     simp only [List.length_cons, List.length_nil] at zA
     refine OneH.act lT #[true, true, true, true, true, true, true, false, false, false, false] (by kernel_rfl) (appendR (α := Int) (t := 22) (d := 8) (n := 0) (m := g.ow.length) (cc := cg0) (xs := []) (ys := g.ow) (bytes := 8) (by first | rfl | omega | (simp; done) | (simp; omega)) (by first | rfl | omega | (simp; done) | (simp; omega)) (by kernel_rfl) rfl (by kernel_rfl) dY r8.ow.srcR (by simp only [List.length_cons, List.length_nil]; omega) (by simp only [List.length_cons, List.length_nil]; omega)) ?_
     rintro d_ v_ bS ⟨rfl, bK, cH, lU⟩
     obtain rfl := lU.val
     have gW := lU.gr
     have oB := oA.grO gW (by rw [aM]; exact ⟨(fun e => by have := dY.ge _ e; simp only [add_block] at this; omega), (fun e => by have := dY.ge _ e; simp only [add_block] at this; omega), trivial⟩)
     refine ⟨_, rfl, fun aBC lV => ⟨oB, ?_⟩⟩
     clear lT
     have bF := lU.own (Sx (aB.heap.size) [some (aL.heap.size)]) (fun g _ hs => ⟨hs.1, hs.2⟩) ⟨(fun e => by injection e; omega), (show aB.heap.size ≤ bJ.heap.size by omega)⟩
     have := gW.size; replace e0 := e0.gr gW (fun k hk => by have := dY.ge k hk; omega); replace r8 := r8.gr gW (fun k hk => by have := dY.ge k hk; omega); replace bx9 := bx9.gr gW (fun e => by have := dY.ge _ e; omega); replace aA := aA.gr gW (fun e => by have := dY.ge _ e; omega); replace bQ := bQ.gr gW (dY.neb (fun g hs => hs.1)); clear dY gW lU
     replace bF : OwnR bS (Sx (aB.heap.size) [some (aL.heap.size)]) bK cH 3 (g.ow : List Int) := bF
     refine AtH.all [7, 9] 3 (by kernel_rfl) (by simp) ⟨?_, ?_, trivial⟩
     ·have gX : OwnR bS (Sx (aL.heap.size) [obk (bK)]) (some ⟨aL.heap.size, 0, none⟩) 0 3 ([] : List Int) := Bx.own0 bQ ⟨(bF.neb (fun g hs => hs.1)), (Nat.le_refl _)⟩
      clear bQ; have zB : (([] : List Int) ++ g.pr).length = (([] : List Int)).length + (g.pr : List Int).length := List.length_append
      simp only [List.length_cons, List.length_nil] at zB
      refine OneH.act lV #[true, true, true, true, true, true, true, true, false, false, false] (by kernel_rfl) (appendR (α := Int) (t := 22) (d := 12) (n := 0) (m := g.pr.length) (cc := cg1) (xs := []) (ys := g.pr) (bytes := 8) (by first | rfl | omega | (simp; done) | (simp; omega)) (by first | rfl | omega | (simp; done) | (simp; omega)) (by kernel_rfl) rfl (by kernel_rfl) gX r8.pr.srcR (by simp only [List.length_cons, List.length_nil]; omega) (by simp only [List.length_cons, List.length_nil]; omega)) ?_
      rintro d_ v_ dZ ⟨rfl, iO, jR, jS⟩
      obtain rfl := jS.val
      have gY := jS.gr
      have oC := oB.grO gY (by rw [aM]; exact ⟨(fun e => by have := gX.ge _ e; simp only [add_block] at this; omega), (fun e => by have := gX.ge _ e; simp only [add_block] at this; omega), trivial⟩)
      refine ⟨_, rfl, fun aBD sY => ⟨oC, ?_⟩⟩
      clear lV; have hR := jS.own (Sx (aL.heap.size) [obk (bK)]) (fun g _ hs => ⟨hs.1, hs.2⟩) ⟨bF.ne_new, (show aL.heap.size ≤ bS.heap.size by omega)⟩; have := gY.size; replace e0 := e0.gr gY (fun k hk => by have := gX.ge k hk; omega); replace r8 := r8.gr gY (fun k hk => by have := gX.ge k hk; omega); replace bx9 := bx9.gr gY (fun e => by have := gX.ge _ e; omega)
      replace aA := aA.gr gY (fun e => by have := gX.ge _ e; omega)
      replace bF : OwnR dZ (Sx (aB.heap.size) [obk (iO)]) bK cH 3 (g.ow : List Int) := bF.grA gY (fun k hk => hk.1) (fun k hk hs => ⟨own_repl jS.at_ hs.1 hk, hs.2⟩)
      clear gX gY jS; replace hR : OwnR dZ (Sx (aL.heap.size) [obk (bK)]) iO jR 3 (g.pr : List Int) := hR
      refine AtH.rd (by kernel_rfl) (fun d v c a w h => by cases d <;> exact h) oC [8] [[]] [(13, .agg #[.slice bK ((([] : List Int) ++ g.ow).length) cH, .slice iO ((([] : List Int) ++ g.pr).length) jR, .slice none 0 0])] #[true, true, true, true, true, true, true, true, true, false, false] [] 2 sY (by kernel_rfl) trivial (fun aBE sZ => ?_)
      clear sY
      refine AtH.all [9] 1 (by kernel_rfl) (by simp) ⟨?_, trivial⟩
      refine OneH.seq sZ [[]] [(3, .pointer (some ⟨dZ.heap.size, 0, none⟩))] (dZ.alloc (.cells #[.slice none 0 0, .slice none 0 0, .slice none 0 0] 25 (0, 0))) [] #[true, true, true, true, true, true, true, true, true, true, false] (by kernel_rfl) (by kernel_rfl) (by kernel_rfl) trivial (fun aBF zC oD tA => ?_)
      clear sZ; have eA := gr_alloc oD; have tB := oC.gr eA; have := eA.size; replace e0 := e0.gn eA; replace r8 := r8.gn eA; replace bx9 := bx9.gn eA; replace aA := aA.gn eA; replace bF := bF.grN eA; replace hR := hR.grN eA; have oE : Bx zC (dZ.heap.size) [.slice none 0 0, .slice none 0 0, .slice none 0 0] 25 := Bx.new oD; have := oE.lt; clear eA oD
      refine ⟨tB, ?_⟩
      refine AtH.all [10] 0 (by kernel_rfl) (by simp) ⟨?_, trivial⟩
      refine OneH.store tA (t := 25) (b := dZ.heap.size) (off := 0) (v := .agg #[.slice bK ((([] : List Int) ++ g.ow).length) cH, .slice iO ((([] : List Int) ++ g.pr).length) jR, .slice none 0 0]) #[true, true, true, true, true, true, true, true, true, true, true] (by kernel_rfl) (by kernel_rfl) oE (by kernel_rfl) (fun aBG zD eB oF zE => ?_)
      clear tA
      replace oF : Bx zD (dZ.heap.size) [.slice bK ((([] : List Int) ++ g.ow).length) cH, .slice iO ((([] : List Int) ++ g.pr).length) jR, .slice none 0 0] 25 := oF
      have tC := tB.gr' eB (by rw [aM]; exact ⟨(by simp only [add_block]; omega), (by simp only [add_block]; omega), trivial⟩); have := eB.size; replace e0 := e0.gr eB (fun k h => by injection h; omega); replace r8 := r8.gb eB (by omega); replace bx9 := bx9.gb eB (by omega); replace aA := aA.gb eB (by omega); replace bF := bF.gr eB (fun k hk => hk.1); replace hR := hR.gr eB (fun k hk => hk.1)
      clear oE eB
      refine ⟨tC, ?_⟩
      refine AtH.done (by kernel_rfl) ?_
      clear tC
      refine t_n ?_
      have zF := zE.sub (r := [(3, .pointer (some ⟨dZ.heap.size, 0, none⟩)), (2, .pointer (some ⟨w1.heap.size, 0, none⟩)), (1, .pointer (some ⟨w.heap.size, 0, none⟩))]) ⟨rfl, rfl, rfl, trivial⟩
      exact ⟨dZ.heap.size, bK, iO, cH, jR, zF, e0, r8, bx9, aA, (bF.imp (fun g _ hs => ⟨hs.2.1, hs.1, (by have := Sx_base hs; show aF.heap.size ≤ g; omega)⟩)), (hR.imp (fun g _ hs => ⟨hs.2.1, hs.1, (by have := Sx_base hs; show aF.heap.size ≤ g; omega)⟩)), oF, (by omega), (by omega)⟩
     refine OneH.seq lV [[]] [(3, .pointer (some ⟨bS.heap.size, 0, none⟩))] (bS.alloc (.cells #[.slice none 0 0, .slice none 0 0, .slice none 0 0] 25 (0, 0))) [] #[true, true, true, true, true, true, true, false, false, true, false] (by kernel_rfl) (by kernel_rfl) (by kernel_rfl) trivial (fun aBH oG oH tD => ?_)
     clear lV; have eC := gr_alloc oH; have tE := oB.gr eC; have := eC.size; replace e0 := e0.gn eC; replace r8 := r8.gn eC; replace bx9 := bx9.gn eC; replace aA := aA.gn eC; replace bF := bF.grN eC; replace bQ := bQ.gn eC; have jT : Bx oG (bS.heap.size) [.slice none 0 0, .slice none 0 0, .slice none 0 0] 25 := Bx.new oH; have := jT.lt; clear eC oH
     refine ⟨tE, ?_⟩
     refine AtH.all [7] 2 (by kernel_rfl) (by simp) ⟨?_, trivial⟩
     have eD : OwnR oG (Sx (aL.heap.size) [obk (bK), some (bS.heap.size)]) (some ⟨aL.heap.size, 0, none⟩) 0 3 ([] : List Int) := Bx.own0 bQ ⟨(bF.neb (fun g hs => hs.2.1)), (fun e => by injection e; omega), (Nat.le_refl _)⟩
     clear bQ; have zG : (([] : List Int) ++ g.pr).length = (([] : List Int)).length + (g.pr : List Int).length := List.length_append
     simp only [List.length_cons, List.length_nil] at zG
     refine OneH.act tD #[true, true, true, true, true, true, true, true, false, true, false] (by kernel_rfl) (appendR (α := Int) (t := 22) (d := 12) (n := 0) (m := g.pr.length) (cc := cg1) (xs := []) (ys := g.pr) (bytes := 8) (by first | rfl | omega | (simp; done) | (simp; omega)) (by first | rfl | omega | (simp; done) | (simp; omega)) (by kernel_rfl) rfl (by kernel_rfl) eD r8.pr.srcR (by simp only [List.length_cons, List.length_nil]; omega) (by simp only [List.length_cons, List.length_nil]; omega)) ?_
     rintro d_ v_ tF ⟨rfl, iP, jU, jV⟩
     obtain rfl := jV.val
     have eE := jV.gr
     have oI := tE.grO eE (by rw [aM]; exact ⟨(fun e => by have := eD.ge _ e; simp only [add_block] at this; omega), (fun e => by have := eD.ge _ e; simp only [add_block] at this; omega), trivial⟩)
     refine ⟨_, rfl, fun aBI tG => ⟨oI, ?_⟩⟩
     clear tD
     have jW := jV.own (Sx (aL.heap.size) [obk (bK), some (bS.heap.size)]) (fun g _ hs => ⟨hs.1, hs.2.1, hs.2.2⟩) ⟨bF.ne_new, (fun e => by injection e; omega), (show aL.heap.size ≤ oG.heap.size by omega)⟩
     have := eE.size; replace e0 := e0.gr eE (fun k hk => by have := eD.ge k hk; omega); replace r8 := r8.gr eE (fun k hk => by have := eD.ge k hk; omega); replace bx9 := bx9.gr eE (fun e => by have := eD.ge _ e; omega); replace aA := aA.gr eE (fun e => by have := eD.ge _ e; omega)
     replace bF : OwnR tF (Sx (aB.heap.size) [some (bS.heap.size), obk (iP)]) bK cH 3 (g.ow : List Int) := bF.grA eE (fun k hk => hk.2.1) (fun k hk hs => ⟨hs.1, own_repl jV.at_ hs.2.1 hk, hs.2.2⟩)
     replace jT := jT.gr eE (eD.neb (fun g hs => hs.2.1)); clear eD eE jV; replace jW : OwnR tF (Sx (aL.heap.size) [obk (bK), some (bS.heap.size)]) iP jU 3 (g.pr : List Int) := jW
     refine AtH.rd (by kernel_rfl) (fun d v c a w h => by cases d <;> exact h) oI [8] [[]] [(13, .agg #[.slice bK ((([] : List Int) ++ g.ow).length) cH, .slice iP ((([] : List Int) ++ g.pr).length) jU, .slice none 0 0])] #[true, true, true, true, true, true, true, true, true, true, false] [] 1 tG (by kernel_rfl) trivial (fun aBJ tH => ?_)
     clear tG
     refine AtH.all [10] 0 (by kernel_rfl) (by simp) ⟨?_, trivial⟩
     refine OneH.store tH (t := 25) (b := bS.heap.size) (off := 0) (v := .agg #[.slice bK ((([] : List Int) ++ g.ow).length) cH, .slice iP ((([] : List Int) ++ g.pr).length) jU, .slice none 0 0]) #[true, true, true, true, true, true, true, true, true, true, true] (by kernel_rfl) (by kernel_rfl) jT (by kernel_rfl) (fun aBK zH eF oJ zI => ?_)
     clear tH
     replace oJ : Bx zH (bS.heap.size) [.slice bK ((([] : List Int) ++ g.ow).length) cH, .slice iP ((([] : List Int) ++ g.pr).length) jU, .slice none 0 0] 25 := oJ
     have tI := oI.gr' eF (by rw [aM]; exact ⟨(by simp only [add_block]; omega), (by simp only [add_block]; omega), trivial⟩); have := eF.size; replace e0 := e0.gr eF (fun k h => by injection h; omega); replace r8 := r8.gb eF (by omega); replace bx9 := bx9.gb eF (by omega); replace aA := aA.gb eF (by omega); replace bF := bF.gr eF (fun k hk => hk.1); replace jW := jW.gr eF (fun k hk => hk.2.1)
     clear jT eF
     refine ⟨tI, ?_⟩
     refine AtH.done (by kernel_rfl) ?_
     clear tI
     refine t_n ?_
     have zJ := zI.sub (r := [(3, .pointer (some ⟨bS.heap.size, 0, none⟩)), (2, .pointer (some ⟨w1.heap.size, 0, none⟩)), (1, .pointer (some ⟨w.heap.size, 0, none⟩))]) ⟨rfl, rfl, rfl, trivial⟩
     exact ⟨bS.heap.size, bK, iP, cH, jU, zJ, e0, r8, bx9, aA, (bF.imp (fun g _ hs => ⟨hs.2.1, hs.1, (by have := Sx_base hs; show aF.heap.size ≤ g; omega)⟩)), (jW.imp (fun g _ hs => ⟨hs.1, hs.2.1, (by have := Sx_base hs; show aF.heap.size ≤ g; omega)⟩)), oJ, (by omega), (by omega)⟩
    refine OneH.seq lT [[]] [(3, .pointer (some ⟨bJ.heap.size, 0, none⟩))] (bJ.alloc (.cells #[.slice none 0 0, .slice none 0 0, .slice none 0 0] 25 (0, 0))) [] #[true, true, true, false, true, true, true, false, false, true, false] (by kernel_rfl) (by kernel_rfl) (by kernel_rfl) trivial (fun aBL oK oL tJ => ?_)
    clear lT; have eG := gr_alloc oL; have tK := oA.gr eG; have := eG.size; replace e0 := e0.gn eG; replace r8 := r8.gn eG; replace bx9 := bx9.gn eG; replace aA := aA.gn eG; replace bG := bG.gn eG; replace bQ := bQ.gn eG; have hS : Bx oK (bJ.heap.size) [.slice none 0 0, .slice none 0 0, .slice none 0 0] 25 := Bx.new oL; have := hS.lt; clear eG oL
    refine ⟨tK, ?_⟩
    refine AtH.all [3] 3 (by kernel_rfl) (by simp) ⟨?_, trivial⟩
    have cX : OwnR oK (Sx (aB.heap.size) [some (aL.heap.size), some (bJ.heap.size)]) (some ⟨aB.heap.size, 0, none⟩) 0 3 ([] : List Int) := Bx.own0 bG ⟨(fun e => by injection e; omega), (fun e => by injection e; omega), (Nat.le_refl _)⟩
    clear bG; have zK : (([] : List Int) ++ g.ow).length = (([] : List Int)).length + (g.ow : List Int).length := List.length_append
    simp only [List.length_cons, List.length_nil] at zK
    refine OneH.act tJ #[true, true, true, true, true, true, true, false, false, true, false] (by kernel_rfl) (appendR (α := Int) (t := 22) (d := 8) (n := 0) (m := g.ow.length) (cc := cg0) (xs := []) (ys := g.ow) (bytes := 8) (by first | rfl | omega | (simp; done) | (simp; omega)) (by first | rfl | omega | (simp; done) | (simp; omega)) (by kernel_rfl) rfl (by kernel_rfl) cX r8.ow.srcR (by simp only [List.length_cons, List.length_nil]; omega) (by simp only [List.length_cons, List.length_nil]; omega)) ?_
    rintro d_ v_ oM ⟨rfl, eH, iQ, lW⟩
    obtain rfl := lW.val
    have eI := lW.gr
    have tL := tK.grO eI (by rw [aM]; exact ⟨(fun e => by have := cX.ge _ e; simp only [add_block] at this; omega), (fun e => by have := cX.ge _ e; simp only [add_block] at this; omega), trivial⟩)
    refine ⟨_, rfl, fun aBM tM => ⟨tL, ?_⟩⟩
    clear tJ
    have eJ := lW.own (Sx (aB.heap.size) [some (aL.heap.size), some (bJ.heap.size)]) (fun g _ hs => ⟨hs.1, hs.2.1, hs.2.2⟩) ⟨(fun e => by injection e; omega), (fun e => by injection e; omega), (show aB.heap.size ≤ oK.heap.size by omega)⟩
    have := eI.size; replace e0 := e0.gr eI (fun k hk => by have := cX.ge k hk; omega); replace r8 := r8.gr eI (fun k hk => by have := cX.ge k hk; omega); replace bx9 := bx9.gr eI (fun e => by have := cX.ge _ e; omega); replace aA := aA.gr eI (fun e => by have := cX.ge _ e; omega); replace bQ := bQ.gr eI (cX.neb (fun g hs => hs.1)); replace hS := hS.gr eI (cX.neb (fun g hs => hs.2.1)); clear cX eI lW
    replace eJ : OwnR oM (Sx (aB.heap.size) [some (aL.heap.size), some (bJ.heap.size)]) eH iQ 3 (g.ow : List Int) := eJ
    refine AtH.all [7] 2 (by kernel_rfl) (by simp) ⟨?_, trivial⟩
    have eK : OwnR oM (Sx (aL.heap.size) [obk (eH), some (bJ.heap.size)]) (some ⟨aL.heap.size, 0, none⟩) 0 3 ([] : List Int) := Bx.own0 bQ ⟨(eJ.neb (fun g hs => hs.1)), (fun e => by injection e; omega), (Nat.le_refl _)⟩
    clear bQ; have zL : (([] : List Int) ++ g.pr).length = (([] : List Int)).length + (g.pr : List Int).length := List.length_append
    simp only [List.length_cons, List.length_nil] at zL
    refine OneH.act tM #[true, true, true, true, true, true, true, true, false, true, false] (by kernel_rfl) (appendR (α := Int) (t := 22) (d := 12) (n := 0) (m := g.pr.length) (cc := cg1) (xs := []) (ys := g.pr) (bytes := 8) (by first | rfl | omega | (simp; done) | (simp; omega)) (by first | rfl | omega | (simp; done) | (simp; omega)) (by kernel_rfl) rfl (by kernel_rfl) eK r8.pr.srcR (by simp only [List.length_cons, List.length_nil]; omega) (by simp only [List.length_cons, List.length_nil]; omega)) ?_
    rintro d_ v_ tN ⟨rfl, iR, jX, jY⟩
    obtain rfl := jY.val
    have eL := jY.gr
    have oN := tL.grO eL (by rw [aM]; exact ⟨(fun e => by have := eK.ge _ e; simp only [add_block] at this; omega), (fun e => by have := eK.ge _ e; simp only [add_block] at this; omega), trivial⟩)
    refine ⟨_, rfl, fun aBN tO => ⟨oN, ?_⟩⟩
    clear tM
    have jZ := jY.own (Sx (aL.heap.size) [obk (eH), some (bJ.heap.size)]) (fun g _ hs => ⟨hs.1, hs.2.1, hs.2.2⟩) ⟨eJ.ne_new, (fun e => by injection e; omega), (show aL.heap.size ≤ oM.heap.size by omega)⟩
    have := eL.size; replace e0 := e0.gr eL (fun k hk => by have := eK.ge k hk; omega); replace r8 := r8.gr eL (fun k hk => by have := eK.ge k hk; omega); replace bx9 := bx9.gr eL (fun e => by have := eK.ge _ e; omega); replace aA := aA.gr eL (fun e => by have := eK.ge _ e; omega)
    replace eJ : OwnR tN (Sx (aB.heap.size) [obk (iR), some (bJ.heap.size)]) eH iQ 3 (g.ow : List Int) := eJ.grA eL (fun k hk => hk.1) (fun k hk hs => ⟨own_repl jY.at_ hs.1 hk, hs.2.1, hs.2.2⟩)
    replace hS := hS.gr eL (eK.neb (fun g hs => hs.2.1)); clear eK eL jY; replace jZ : OwnR tN (Sx (aL.heap.size) [obk (eH), some (bJ.heap.size)]) iR jX 3 (g.pr : List Int) := jZ
    refine AtH.rd (by kernel_rfl) (fun d v c a w h => by cases d <;> exact h) oN [8] [[]] [(13, .agg #[.slice eH ((([] : List Int) ++ g.ow).length) iQ, .slice iR ((([] : List Int) ++ g.pr).length) jX, .slice none 0 0])] #[true, true, true, true, true, true, true, true, true, true, false] [] 1 tO (by kernel_rfl) trivial (fun aBO tP => ?_)
    clear tO
    refine AtH.all [10] 0 (by kernel_rfl) (by simp) ⟨?_, trivial⟩
    refine OneH.store tP (t := 25) (b := bJ.heap.size) (off := 0) (v := .agg #[.slice eH ((([] : List Int) ++ g.ow).length) iQ, .slice iR ((([] : List Int) ++ g.pr).length) jX, .slice none 0 0]) #[true, true, true, true, true, true, true, true, true, true, true] (by kernel_rfl) (by kernel_rfl) hS (by kernel_rfl) (fun aBP zM eM oO zN => ?_)
    clear tP
    replace oO : Bx zM (bJ.heap.size) [.slice eH ((([] : List Int) ++ g.ow).length) iQ, .slice iR ((([] : List Int) ++ g.pr).length) jX, .slice none 0 0] 25 := oO
    have tQ := oN.gr' eM (by rw [aM]; exact ⟨(by simp only [add_block]; omega), (by simp only [add_block]; omega), trivial⟩); have := eM.size; replace e0 := e0.gr eM (fun k h => by injection h; omega); replace r8 := r8.gb eM (by omega); replace bx9 := bx9.gb eM (by omega); replace aA := aA.gb eM (by omega); replace eJ := eJ.gr eM (fun k hk => hk.2.1); replace jZ := jZ.gr eM (fun k hk => hk.2.1)
    clear hS eM
    refine ⟨tQ, ?_⟩
    refine AtH.done (by kernel_rfl) ?_
    clear tQ
    refine t_n ?_
    have zO := zN.sub (r := [(3, .pointer (some ⟨bJ.heap.size, 0, none⟩)), (2, .pointer (some ⟨w1.heap.size, 0, none⟩)), (1, .pointer (some ⟨w.heap.size, 0, none⟩))]) ⟨rfl, rfl, rfl, trivial⟩
    exact ⟨bJ.heap.size, eH, iR, iQ, jX, zO, e0, r8, bx9, aA, (eJ.imp (fun g _ hs => ⟨hs.1, hs.2.1, (by have := Sx_base hs; show aF.heap.size ≤ g; omega)⟩)), (jZ.imp (fun g _ hs => ⟨hs.1, hs.2.1, (by have := Sx_base hs; show aF.heap.size ≤ g; omega)⟩)), oO, (by omega), (by omega)⟩
   refine OneH.seq iK [[]] [(3, .pointer (some ⟨aL.heap.size, 0, none⟩))] (aL.alloc (.cells #[.slice none 0 0, .slice none 0 0, .slice none 0 0] 25 (0, 0))) [] #[true, true, true, false, false, true, true, false, false, true, false] (by kernel_rfl) (by kernel_rfl) (by kernel_rfl) trivial (fun aBQ bT oP lX => ?_)
   clear iK; have gZ := gr_alloc oP; have oQ := lP.gr gZ; have := gZ.size; replace e0 := e0.gn gZ; replace r8 := r8.gn gZ; replace bx9 := bx9.gn gZ; replace aA := aA.gn gZ; replace bG := bG.gn gZ; have bL : Bx bT (aL.heap.size) [.slice none 0 0, .slice none 0 0, .slice none 0 0] 25 := Bx.new oP; have := bL.lt; clear gZ oP
   refine ⟨oQ, ?_⟩
   refine AtH.all [3, 4] 4 (by kernel_rfl) (by simp) ⟨?_, ?_, trivial⟩
   ·have eN : OwnR bT (Sx (aB.heap.size) [some (aL.heap.size)]) (some ⟨aB.heap.size, 0, none⟩) 0 3 ([] : List Int) := Bx.own0 bG ⟨(fun e => by injection e; omega), (Nat.le_refl _)⟩
    clear bG; have zP : (([] : List Int) ++ g.ow).length = (([] : List Int)).length + (g.ow : List Int).length := List.length_append
    simp only [List.length_cons, List.length_nil] at zP
    refine OneH.act lX #[true, true, true, true, false, true, true, false, false, true, false] (by kernel_rfl) (appendR (α := Int) (t := 22) (d := 8) (n := 0) (m := g.ow.length) (cc := cg0) (xs := []) (ys := g.ow) (bytes := 8) (by first | rfl | omega | (simp; done) | (simp; omega)) (by first | rfl | omega | (simp; done) | (simp; omega)) (by kernel_rfl) rfl (by kernel_rfl) eN r8.ow.srcR (by simp only [List.length_cons, List.length_nil]; omega) (by simp only [List.length_cons, List.length_nil]; omega)) ?_
    rintro d_ v_ eO ⟨rfl, eP, iS, lY⟩
    obtain rfl := lY.val
    have hA := lY.gr
    have tR := oQ.grO hA (by rw [aM]; exact ⟨(fun e => by have := eN.ge _ e; simp only [add_block] at this; omega), (fun e => by have := eN.ge _ e; simp only [add_block] at this; omega), trivial⟩)
    refine ⟨_, rfl, fun aBR tS => ⟨tR, ?_⟩⟩
    clear lX
    have cI := lY.own (Sx (aB.heap.size) [some (aL.heap.size)]) (fun g _ hs => ⟨hs.1, hs.2⟩) ⟨(fun e => by injection e; omega), (show aB.heap.size ≤ bT.heap.size by omega)⟩
    have := hA.size; replace e0 := e0.gr hA (fun k hk => by have := eN.ge k hk; omega); replace r8 := r8.gr hA (fun k hk => by have := eN.ge k hk; omega); replace bx9 := bx9.gr hA (fun e => by have := eN.ge _ e; omega); replace aA := aA.gr hA (fun e => by have := eN.ge _ e; omega); replace bL := bL.gr hA (eN.neb (fun g hs => hs.1)); clear eN hA lY
    replace cI : OwnR eO (Sx (aB.heap.size) [some (aL.heap.size)]) eP iS 3 (g.ow : List Int) := cI
    refine AtH.all [4] 3 (by kernel_rfl) (by simp) ⟨?_, trivial⟩
    refine OneH.seq tS [[]] [(9, .slice (some ⟨eO.heap.size, 0, none⟩) 0 0)] (eO.alloc (.cells #[] 3 (0, 0))) [] #[true, true, true, true, true, true, true, false, false, true, false] (by kernel_rfl) (by kernel_rfl) (by kernel_rfl) trivial (fun aBS oR oS tT => ?_)
    clear tS; have eQ := gr_alloc oS; have tU := tR.gr eQ
    refine ⟨tU, ?_⟩
    have := eQ.size; replace e0 := e0.gn eQ; replace r8 := r8.gn eQ; replace bx9 := bx9.gn eQ; replace aA := aA.gn eQ; replace cI := cI.grN eQ; replace bL := bL.gn eQ; have oT : Bx oR (eO.heap.size) [] 3 := Bx.new oS; have := oT.lt; clear eQ oS
    refine AtH.all [7] 2 (by kernel_rfl) (by simp) ⟨?_, trivial⟩
    have eR : OwnR oR (Sx (eO.heap.size) [obk (eP)]) (some ⟨eO.heap.size, 0, none⟩) 0 3 ([] : List Int) := Bx.own0 oT ⟨(cI.neb (fun g hs => hs.1)), (Nat.le_refl _)⟩
    clear oT; have zQ : (([] : List Int) ++ g.pr).length = (([] : List Int)).length + (g.pr : List Int).length := List.length_append
    simp only [List.length_cons, List.length_nil] at zQ
    refine OneH.act tT #[true, true, true, true, true, true, true, true, false, true, false] (by kernel_rfl) (appendR (α := Int) (t := 22) (d := 12) (n := 0) (m := g.pr.length) (cc := cg1) (xs := []) (ys := g.pr) (bytes := 8) (by first | rfl | omega | (simp; done) | (simp; omega)) (by first | rfl | omega | (simp; done) | (simp; omega)) (by kernel_rfl) rfl (by kernel_rfl) eR r8.pr.srcR (by simp only [List.length_cons, List.length_nil]; omega) (by simp only [List.length_cons, List.length_nil]; omega)) ?_
    rintro d_ v_ tV ⟨rfl, iT, kA, kB⟩
    obtain rfl := kB.val
    have eS := kB.gr
    have oU := tU.grO eS (by rw [aM]; exact ⟨(fun e => by have := eR.ge _ e; simp only [add_block] at this; omega), (fun e => by have := eR.ge _ e; simp only [add_block] at this; omega), trivial⟩)
    refine ⟨_, rfl, fun aBT tW => ⟨oU, ?_⟩⟩
    clear tT; have kC := kB.own (Sx (eO.heap.size) [obk (eP)]) (fun g _ hs => ⟨hs.1, hs.2⟩) ⟨cI.ne_new, (show eO.heap.size ≤ oR.heap.size by omega)⟩; have := eS.size; replace e0 := e0.gr eS (fun k hk => by have := eR.ge k hk; omega); replace r8 := r8.gr eS (fun k hk => by have := eR.ge k hk; omega); replace bx9 := bx9.gr eS (fun e => by have := eR.ge _ e; omega)
    replace aA := aA.gr eS (fun e => by have := eR.ge _ e; omega)
    replace cI : OwnR tV (Sx (aB.heap.size) [obk (iT), some (aL.heap.size)]) eP iS 3 (g.ow : List Int) := cI.grA eS (fun k hk => hk.1) (fun k hk hs => ⟨own_repl kB.at_ hs.1 hk, hs.2.1, hs.2.2⟩)
    replace bL := bL.gr eS (fun e => by have := eR.ge _ e; omega); clear eR eS kB; replace kC : OwnR tV (Sx (eO.heap.size) [obk (eP)]) iT kA 3 (g.pr : List Int) := kC
    refine AtH.rd (by kernel_rfl) (fun d v c a w h => by cases d <;> exact h) oU [8] [[]] [(13, .agg #[.slice eP ((([] : List Int) ++ g.ow).length) iS, .slice iT ((([] : List Int) ++ g.pr).length) kA, .slice none 0 0])] #[true, true, true, true, true, true, true, true, true, true, false] [] 1 tW (by kernel_rfl) trivial (fun aBU tX => ?_)
    clear tW
    refine AtH.all [10] 0 (by kernel_rfl) (by simp) ⟨?_, trivial⟩
    refine OneH.store tX (t := 25) (b := aL.heap.size) (off := 0) (v := .agg #[.slice eP ((([] : List Int) ++ g.ow).length) iS, .slice iT ((([] : List Int) ++ g.pr).length) kA, .slice none 0 0]) #[true, true, true, true, true, true, true, true, true, true, true] (by kernel_rfl) (by kernel_rfl) bL (by kernel_rfl) (fun aBV zR eT oV zS => ?_)
    clear tX
    replace oV : Bx zR (aL.heap.size) [.slice eP ((([] : List Int) ++ g.ow).length) iS, .slice iT ((([] : List Int) ++ g.pr).length) kA, .slice none 0 0] 25 := oV
    have tY := oU.gr' eT (by rw [aM]; exact ⟨(by simp only [add_block]; omega), (by simp only [add_block]; omega), trivial⟩); have := eT.size; replace e0 := e0.gr eT (fun k h => by injection h; omega); replace r8 := r8.gb eT (by omega); replace bx9 := bx9.gb eT (by omega); replace aA := aA.gb eT (by omega); replace cI := cI.gr eT (fun k hk => hk.2.1)
    replace kC := kC.gr eT (fun k hk e => by have := Sx_base hk; injection e; omega); clear bL eT
    refine ⟨tY, ?_⟩
    refine AtH.done (by kernel_rfl) ?_
    clear tY
    refine t_n ?_
    have zT := zS.sub (r := [(3, .pointer (some ⟨aL.heap.size, 0, none⟩)), (2, .pointer (some ⟨w1.heap.size, 0, none⟩)), (1, .pointer (some ⟨w.heap.size, 0, none⟩))]) ⟨rfl, rfl, rfl, trivial⟩
    exact ⟨aL.heap.size, eP, iT, iS, kA, zT, e0, r8, bx9, aA, (cI.imp (fun g _ hs => ⟨hs.1, hs.2.1, (by have := Sx_base hs; show aF.heap.size ≤ g; omega)⟩)), (kC.imp (fun g _ hs => ⟨hs.1, (fun e => by have := Sx_base hs; injection e; omega), (by have := Sx_base hs; show aF.heap.size ≤ g; omega)⟩)), oV, (by omega), (by omega)⟩
   refine OneH.seq lX [[]] [(9, .slice (some ⟨bT.heap.size, 0, none⟩) 0 0)] (bT.alloc (.cells #[] 3 (0, 0))) [] #[true, true, true, false, true, true, true, false, false, true, false] (by kernel_rfl) (by kernel_rfl) (by kernel_rfl) trivial (fun aBW oW oX tZ => ?_)
   clear lX; have eU := gr_alloc oX; have uA := oQ.gr eU
   refine ⟨uA, ?_⟩
   have := eU.size; replace e0 := e0.gn eU; replace r8 := r8.gn eU; replace bx9 := bx9.gn eU; replace aA := aA.gn eU; replace bG := bG.gn eU; replace bL := bL.gn eU; have kD : Bx oW (bT.heap.size) [] 3 := Bx.new oX; have := kD.lt; clear eU oX
   refine AtH.all [3] 3 (by kernel_rfl) (by simp) ⟨?_, trivial⟩
   have cY : OwnR oW (Sx (aB.heap.size) [some (aL.heap.size), some (bT.heap.size)]) (some ⟨aB.heap.size, 0, none⟩) 0 3 ([] : List Int) := Bx.own0 bG ⟨(fun e => by injection e; omega), (fun e => by injection e; omega), (Nat.le_refl _)⟩
   clear bG; have zU : (([] : List Int) ++ g.ow).length = (([] : List Int)).length + (g.ow : List Int).length := List.length_append
   simp only [List.length_cons, List.length_nil] at zU
   refine OneH.act tZ #[true, true, true, true, true, true, true, false, false, true, false] (by kernel_rfl) (appendR (α := Int) (t := 22) (d := 8) (n := 0) (m := g.ow.length) (cc := cg0) (xs := []) (ys := g.ow) (bytes := 8) (by first | rfl | omega | (simp; done) | (simp; omega)) (by first | rfl | omega | (simp; done) | (simp; omega)) (by kernel_rfl) rfl (by kernel_rfl) cY r8.ow.srcR (by simp only [List.length_cons, List.length_nil]; omega) (by simp only [List.length_cons, List.length_nil]; omega)) ?_
   rintro d_ v_ oY ⟨rfl, eV, iU, lZ⟩
   obtain rfl := lZ.val
   have eW := lZ.gr
   have uB := uA.grO eW (by rw [aM]; exact ⟨(fun e => by have := cY.ge _ e; simp only [add_block] at this; omega), (fun e => by have := cY.ge _ e; simp only [add_block] at this; omega), trivial⟩)
   refine ⟨_, rfl, fun aBX uC => ⟨uB, ?_⟩⟩
   clear tZ
   have eX := lZ.own (Sx (aB.heap.size) [some (aL.heap.size), some (bT.heap.size)]) (fun g _ hs => ⟨hs.1, hs.2.1, hs.2.2⟩) ⟨(fun e => by injection e; omega), (fun e => by injection e; omega), (show aB.heap.size ≤ oW.heap.size by omega)⟩
   have := eW.size; replace e0 := e0.gr eW (fun k hk => by have := cY.ge k hk; omega); replace r8 := r8.gr eW (fun k hk => by have := cY.ge k hk; omega); replace bx9 := bx9.gr eW (fun e => by have := cY.ge _ e; omega); replace aA := aA.gr eW (fun e => by have := cY.ge _ e; omega); replace bL := bL.gr eW (cY.neb (fun g hs => hs.1)); replace kD := kD.gr eW (cY.neb (fun g hs => hs.2.1)); clear cY eW lZ
   replace eX : OwnR oY (Sx (aB.heap.size) [some (aL.heap.size), some (bT.heap.size)]) eV iU 3 (g.ow : List Int) := eX
   refine AtH.all [7] 2 (by kernel_rfl) (by simp) ⟨?_, trivial⟩
   have eY : OwnR oY (Sx (bT.heap.size) [obk (eV)]) (some ⟨bT.heap.size, 0, none⟩) 0 3 ([] : List Int) := Bx.own0 kD ⟨(eX.neb (fun g hs => hs.2.1)), (Nat.le_refl _)⟩
   clear kD; have zV : (([] : List Int) ++ g.pr).length = (([] : List Int)).length + (g.pr : List Int).length := List.length_append
   simp only [List.length_cons, List.length_nil] at zV
   refine OneH.act uC #[true, true, true, true, true, true, true, true, false, true, false] (by kernel_rfl) (appendR (α := Int) (t := 22) (d := 12) (n := 0) (m := g.pr.length) (cc := cg1) (xs := []) (ys := g.pr) (bytes := 8) (by first | rfl | omega | (simp; done) | (simp; omega)) (by first | rfl | omega | (simp; done) | (simp; omega)) (by kernel_rfl) rfl (by kernel_rfl) eY r8.pr.srcR (by simp only [List.length_cons, List.length_nil]; omega) (by simp only [List.length_cons, List.length_nil]; omega)) ?_
   rintro d_ v_ uD ⟨rfl, iV, kE, kF⟩
   obtain rfl := kF.val
   have eZ := kF.gr
   have oZ := uB.grO eZ (by rw [aM]; exact ⟨(fun e => by have := eY.ge _ e; simp only [add_block] at this; omega), (fun e => by have := eY.ge _ e; simp only [add_block] at this; omega), trivial⟩)
   refine ⟨_, rfl, fun aBY uE => ⟨oZ, ?_⟩⟩
   clear uC; have kG := kF.own (Sx (bT.heap.size) [obk (eV)]) (fun g _ hs => ⟨hs.1, hs.2⟩) ⟨eX.ne_new, (show bT.heap.size ≤ oY.heap.size by omega)⟩; have := eZ.size; replace e0 := e0.gr eZ (fun k hk => by have := eY.ge k hk; omega); replace r8 := r8.gr eZ (fun k hk => by have := eY.ge k hk; omega); replace bx9 := bx9.gr eZ (fun e => by have := eY.ge _ e; omega)
   replace aA := aA.gr eZ (fun e => by have := eY.ge _ e; omega)
   replace eX : OwnR uD (Sx (aB.heap.size) [some (aL.heap.size), obk (iV)]) eV iU 3 (g.ow : List Int) := eX.grA eZ (fun k hk => hk.2.1) (fun k hk hs => ⟨hs.1, own_repl kF.at_ hs.2.1 hk, hs.2.2⟩)
   replace bL := bL.gr eZ (fun e => by have := eY.ge _ e; omega); clear eY eZ kF; replace kG : OwnR uD (Sx (bT.heap.size) [obk (eV)]) iV kE 3 (g.pr : List Int) := kG
   refine AtH.rd (by kernel_rfl) (fun d v c a w h => by cases d <;> exact h) oZ [8] [[]] [(13, .agg #[.slice eV ((([] : List Int) ++ g.ow).length) iU, .slice iV ((([] : List Int) ++ g.pr).length) kE, .slice none 0 0])] #[true, true, true, true, true, true, true, true, true, true, false] [] 1 uE (by kernel_rfl) trivial (fun aBZ uF => ?_)
   clear uE
   refine AtH.all [10] 0 (by kernel_rfl) (by simp) ⟨?_, trivial⟩
   refine OneH.store uF (t := 25) (b := aL.heap.size) (off := 0) (v := .agg #[.slice eV ((([] : List Int) ++ g.ow).length) iU, .slice iV ((([] : List Int) ++ g.pr).length) kE, .slice none 0 0]) #[true, true, true, true, true, true, true, true, true, true, true] (by kernel_rfl) (by kernel_rfl) bL (by kernel_rfl) (fun aCa zW fA pA zX => ?_)
   clear uF
   replace pA : Bx zW (aL.heap.size) [.slice eV ((([] : List Int) ++ g.ow).length) iU, .slice iV ((([] : List Int) ++ g.pr).length) kE, .slice none 0 0] 25 := pA
   have uG := oZ.gr' fA (by rw [aM]; exact ⟨(by simp only [add_block]; omega), (by simp only [add_block]; omega), trivial⟩); have := fA.size; replace e0 := e0.gr fA (fun k h => by injection h; omega); replace r8 := r8.gb fA (by omega); replace bx9 := bx9.gb fA (by omega); replace aA := aA.gb fA (by omega); replace eX := eX.gr fA (fun k hk => hk.1)
   replace kG := kG.gr fA (fun k hk e => by have := Sx_base hk; injection e; omega); clear bL fA
   refine ⟨uG, ?_⟩
   refine AtH.done (by kernel_rfl) ?_
   clear uG
   refine t_n ?_
   have zY := zX.sub (r := [(3, .pointer (some ⟨aL.heap.size, 0, none⟩)), (2, .pointer (some ⟨w1.heap.size, 0, none⟩)), (1, .pointer (some ⟨w.heap.size, 0, none⟩))]) ⟨rfl, rfl, rfl, trivial⟩
   exact ⟨aL.heap.size, eV, iV, iU, kE, zY, e0, r8, bx9, aA, (eX.imp (fun g _ hs => ⟨hs.2.1, hs.1, (by have := Sx_base hs; show aF.heap.size ≤ g; omega)⟩)), (kG.imp (fun g _ hs => ⟨hs.1, (fun e => by have := Sx_base hs; injection e; omega), (by have := Sx_base hs; show aF.heap.size ≤ g; omega)⟩)), pA, (by omega), (by omega)⟩
  ·refine OneH.seq iJ [[]] [(9, .slice (some ⟨aB.heap.size, 0, none⟩) 0 0)] (aB.alloc (.cells #[] 3 (0, 0))) [] #[false, true, true, false, true, true, true, false, false, false, false] (by kernel_rfl) (by kernel_rfl) (by kernel_rfl) trivial (fun aCb aU pB mA => ?_)
   clear iJ; have hT := gr_alloc pB; have pC := lO.gr hT
   refine ⟨pC, ?_⟩
   have := hT.size; replace e0 := e0.gn hT; replace r8 := r8.gn hT; replace bx9 := bx9.gn hT; replace aA := aA.gn hT; have aZ : Bx aU (aB.heap.size) [] 3 := Bx.new pB; have := aZ.lt; clear hT pB
   refine AtH.all [0, 9] 5 (by kernel_rfl) (by simp) ⟨?_, ?_, trivial⟩
   ·refine OneH.seq mA [[]] [(5, .slice (some ⟨aU.heap.size, 0, none⟩) 0 0)] (aU.alloc (.cells #[] 3 (0, 0))) [] #[true, true, true, false, true, true, true, false, false, false, false] (by kernel_rfl) (by kernel_rfl) (by kernel_rfl) trivial (fun aCc bI pD mB => ?_)
    clear mA; have hB := gr_alloc pD; have pE := pC.gr hB
    refine ⟨pE, ?_⟩
    have := hB.size; replace e0 := e0.gn hB; replace r8 := r8.gn hB; replace bx9 := bx9.gn hB; replace aA := aA.gn hB; replace aZ := aZ.gn hB; have hU : Bx bI (aU.heap.size) [] 3 := Bx.new pD; have := hU.lt; clear hB pD
    refine AtH.all [3, 9] 4 (by kernel_rfl) (by simp) ⟨?_, ?_, trivial⟩
    ·have fB : OwnR bI (Sx (aU.heap.size) []) (some ⟨aU.heap.size, 0, none⟩) 0 3 ([] : List Int) := Bx.own0 hU (Nat.le_refl _)
     clear hU; have zZ : (([] : List Int) ++ g.ow).length = (([] : List Int)).length + (g.ow : List Int).length := List.length_append
     simp only [List.length_cons, List.length_nil] at zZ
     refine OneH.act mB #[true, true, true, true, true, true, true, false, false, false, false] (by kernel_rfl) (appendR (α := Int) (t := 22) (d := 8) (n := 0) (m := g.ow.length) (cc := cg0) (xs := []) (ys := g.ow) (bytes := 8) (by first | rfl | omega | (simp; done) | (simp; omega)) (by first | rfl | omega | (simp; done) | (simp; omega)) (by kernel_rfl) rfl (by kernel_rfl) fB r8.ow.srcR (by simp only [List.length_cons, List.length_nil]; omega) (by simp only [List.length_cons, List.length_nil]; omega)) ?_
     rintro d_ v_ bO ⟨rfl, bH, bW, mC⟩
     obtain rfl := mC.val
     have hC := mC.gr
     have pF := pE.grO hC (by rw [aM]; exact ⟨(fun e => by have := fB.ge _ e; simp only [add_block] at this; omega), (fun e => by have := fB.ge _ e; simp only [add_block] at this; omega), trivial⟩)
     refine ⟨_, rfl, fun aCd mD => ⟨pF, ?_⟩⟩
     clear mB; have bC := mC.own (Sx (aU.heap.size) []) (fun g _ hs => hs) (show aU.heap.size ≤ bI.heap.size by omega); have := hC.size; replace e0 := e0.gr hC (fun k hk => by have := fB.ge k hk; omega); replace r8 := r8.gr hC (fun k hk => by have := fB.ge k hk; omega); replace bx9 := bx9.gr hC (fun e => by have := fB.ge _ e; omega); replace aA := aA.gr hC (fun e => by have := fB.ge _ e; omega)
     replace aZ := aZ.gr hC (fun e => by have := fB.ge _ e; omega); clear fB hC mC; replace bC : OwnR bO (Sx (aU.heap.size) []) bH bW 3 (g.ow : List Int) := bC
     refine AtH.all [7, 9] 3 (by kernel_rfl) (by simp) ⟨?_, ?_, trivial⟩
     ·replace bC : OwnR bO (Sx (aU.heap.size) [some (aB.heap.size)]) bH bW 3 (g.ow : List Int) := bC.imp (fun g _ hs => ⟨(fun e => by have := Sx_base hs; injection e; omega), hs⟩)
      have hD : OwnR bO (Sx (aB.heap.size) [obk (bH)]) (some ⟨aB.heap.size, 0, none⟩) 0 3 ([] : List Int) := Bx.own0 aZ ⟨(bC.neb (fun g hs => hs.1)), (Nat.le_refl _)⟩
      clear aZ; have aAa : (([] : List Int) ++ g.pr).length = (([] : List Int)).length + (g.pr : List Int).length := List.length_append
      simp only [List.length_cons, List.length_nil] at aAa
      refine OneH.act mD #[true, true, true, true, true, true, true, true, false, false, false] (by kernel_rfl) (appendR (α := Int) (t := 22) (d := 12) (n := 0) (m := g.pr.length) (cc := cg1) (xs := []) (ys := g.pr) (bytes := 8) (by first | rfl | omega | (simp; done) | (simp; omega)) (by first | rfl | omega | (simp; done) | (simp; omega)) (by kernel_rfl) rfl (by kernel_rfl) hD r8.pr.srcR (by simp only [List.length_cons, List.length_nil]; omega) (by simp only [List.length_cons, List.length_nil]; omega)) ?_
      rintro d_ v_ fC ⟨rfl, iW, kH, kI⟩
      obtain rfl := kI.val
      have hE := kI.gr
      have pG := pF.grO hE (by rw [aM]; exact ⟨(fun e => by have := hD.ge _ e; simp only [add_block] at this; omega), (fun e => by have := hD.ge _ e; simp only [add_block] at this; omega), trivial⟩)
      refine ⟨_, rfl, fun aCe uH => ⟨pG, ?_⟩⟩
      clear mD; have hV := kI.own (Sx (aB.heap.size) [obk (bH)]) (fun g _ hs => ⟨hs.1, hs.2⟩) ⟨bC.ne_new, (show aB.heap.size ≤ bO.heap.size by omega)⟩; have := hE.size; replace e0 := e0.gr hE (fun k hk => by have := hD.ge k hk; omega); replace r8 := r8.gr hE (fun k hk => by have := hD.ge k hk; omega); replace bx9 := bx9.gr hE (fun e => by have := hD.ge _ e; omega)
      replace aA := aA.gr hE (fun e => by have := hD.ge _ e; omega)
      replace bC : OwnR fC (Sx (aU.heap.size) [obk (iW)]) bH bW 3 (g.ow : List Int) := bC.grA hE (fun k hk => hk.1) (fun k hk hs => ⟨own_repl kI.at_ hs.1 hk, hs.2⟩)
      clear hD hE kI; replace hV : OwnR fC (Sx (aB.heap.size) [obk (bH)]) iW kH 3 (g.pr : List Int) := hV
      refine AtH.rd (by kernel_rfl) (fun d v c a w h => by cases d <;> exact h) pG [8] [[]] [(13, .agg #[.slice bH ((([] : List Int) ++ g.ow).length) bW, .slice iW ((([] : List Int) ++ g.pr).length) kH, .slice none 0 0])] #[true, true, true, true, true, true, true, true, true, false, false] [] 2 uH (by kernel_rfl) trivial (fun aCf uI => ?_)
      clear uH
      refine AtH.all [9] 1 (by kernel_rfl) (by simp) ⟨?_, trivial⟩
      refine OneH.seq uI [[]] [(3, .pointer (some ⟨fC.heap.size, 0, none⟩))] (fC.alloc (.cells #[.slice none 0 0, .slice none 0 0, .slice none 0 0] 25 (0, 0))) [] #[true, true, true, true, true, true, true, true, true, true, false] (by kernel_rfl) (by kernel_rfl) (by kernel_rfl) trivial (fun aCg aAb pH uJ => ?_)
      clear uI; have fD := gr_alloc pH; have uK := pG.gr fD; have := fD.size; replace e0 := e0.gn fD; replace r8 := r8.gn fD; replace bx9 := bx9.gn fD; replace aA := aA.gn fD; replace hV := hV.grN fD; replace bC := bC.grN fD; have pI : Bx aAb (fC.heap.size) [.slice none 0 0, .slice none 0 0, .slice none 0 0] 25 := Bx.new pH; have := pI.lt; clear fD pH
      refine ⟨uK, ?_⟩
      refine AtH.all [10] 0 (by kernel_rfl) (by simp) ⟨?_, trivial⟩
      refine OneH.store uJ (t := 25) (b := fC.heap.size) (off := 0) (v := .agg #[.slice bH ((([] : List Int) ++ g.ow).length) bW, .slice iW ((([] : List Int) ++ g.pr).length) kH, .slice none 0 0]) #[true, true, true, true, true, true, true, true, true, true, true] (by kernel_rfl) (by kernel_rfl) pI (by kernel_rfl) (fun aCh aAc fE pJ aAd => ?_)
      clear uJ
      replace pJ : Bx aAc (fC.heap.size) [.slice bH ((([] : List Int) ++ g.ow).length) bW, .slice iW ((([] : List Int) ++ g.pr).length) kH, .slice none 0 0] 25 := pJ
      have uL := uK.gr' fE (by rw [aM]; exact ⟨(by simp only [add_block]; omega), (by simp only [add_block]; omega), trivial⟩); have := fE.size; replace e0 := e0.gr fE (fun k h => by injection h; omega); replace r8 := r8.gb fE (by omega); replace bx9 := bx9.gb fE (by omega); replace aA := aA.gb fE (by omega); replace hV := hV.gr fE (fun k hk => hk.1); replace bC := bC.gr fE (fun k hk => hk.1)
      clear pI fE
      refine ⟨uL, ?_⟩
      refine AtH.done (by kernel_rfl) ?_
      clear uL
      refine t_n ?_
      have aAe := aAd.sub (r := [(3, .pointer (some ⟨fC.heap.size, 0, none⟩)), (2, .pointer (some ⟨w1.heap.size, 0, none⟩)), (1, .pointer (some ⟨w.heap.size, 0, none⟩))]) ⟨rfl, rfl, rfl, trivial⟩
      exact ⟨fC.heap.size, bH, iW, bW, kH, aAe, e0, r8, bx9, aA, (bC.imp (fun g _ hs => ⟨hs.2.1, hs.1, (by have := Sx_base hs; show aF.heap.size ≤ g; omega)⟩)), (hV.imp (fun g _ hs => ⟨hs.2.1, hs.1, (by have := Sx_base hs; show aF.heap.size ≤ g; omega)⟩)), pJ, (by omega), (by omega)⟩
     refine OneH.seq mD [[]] [(3, .pointer (some ⟨bO.heap.size, 0, none⟩))] (bO.alloc (.cells #[.slice none 0 0, .slice none 0 0, .slice none 0 0] 25 (0, 0))) [] #[true, true, true, true, true, true, true, false, false, true, false] (by kernel_rfl) (by kernel_rfl) (by kernel_rfl) trivial (fun aCi mE pK uM => ?_)
     clear mD; have fF := gr_alloc pK; have uN := pF.gr fF; have := fF.size; replace e0 := e0.gn fF; replace r8 := r8.gn fF; replace bx9 := bx9.gn fF; replace aA := aA.gn fF; replace aZ := aZ.gn fF; replace bC := bC.grN fF; have kJ : Bx mE (bO.heap.size) [.slice none 0 0, .slice none 0 0, .slice none 0 0] 25 := Bx.new pK; have := kJ.lt; clear fF pK
     refine ⟨uN, ?_⟩
     refine AtH.all [7] 2 (by kernel_rfl) (by simp) ⟨?_, trivial⟩
     replace bC : OwnR mE (Sx (aU.heap.size) [some (aB.heap.size), some (bO.heap.size)]) bH bW 3 (g.ow : List Int) := bC.imp (fun g _ hs => ⟨(fun e => by have := Sx_base hs; injection e; omega), hs⟩)
     have fG : OwnR mE (Sx (aB.heap.size) [obk (bH), some (bO.heap.size)]) (some ⟨aB.heap.size, 0, none⟩) 0 3 ([] : List Int) := Bx.own0 aZ ⟨(bC.neb (fun g hs => hs.1)), (fun e => by injection e; omega), (Nat.le_refl _)⟩
     clear aZ; have aAf : (([] : List Int) ++ g.pr).length = (([] : List Int)).length + (g.pr : List Int).length := List.length_append
     simp only [List.length_cons, List.length_nil] at aAf
     refine OneH.act uM #[true, true, true, true, true, true, true, true, false, true, false] (by kernel_rfl) (appendR (α := Int) (t := 22) (d := 12) (n := 0) (m := g.pr.length) (cc := cg1) (xs := []) (ys := g.pr) (bytes := 8) (by first | rfl | omega | (simp; done) | (simp; omega)) (by first | rfl | omega | (simp; done) | (simp; omega)) (by kernel_rfl) rfl (by kernel_rfl) fG r8.pr.srcR (by simp only [List.length_cons, List.length_nil]; omega) (by simp only [List.length_cons, List.length_nil]; omega)) ?_
     rintro d_ v_ uO ⟨rfl, iX, kK, kL⟩
     obtain rfl := kL.val
     have fH := kL.gr
     have pL := uN.grO fH (by rw [aM]; exact ⟨(fun e => by have := fG.ge _ e; simp only [add_block] at this; omega), (fun e => by have := fG.ge _ e; simp only [add_block] at this; omega), trivial⟩)
     refine ⟨_, rfl, fun aCj uP => ⟨pL, ?_⟩⟩
     clear uM
     have kM := kL.own (Sx (aB.heap.size) [obk (bH), some (bO.heap.size)]) (fun g _ hs => ⟨hs.1, hs.2.1, hs.2.2⟩) ⟨bC.ne_new, (fun e => by injection e; omega), (show aB.heap.size ≤ mE.heap.size by omega)⟩
     have := fH.size; replace e0 := e0.gr fH (fun k hk => by have := fG.ge k hk; omega); replace r8 := r8.gr fH (fun k hk => by have := fG.ge k hk; omega); replace bx9 := bx9.gr fH (fun e => by have := fG.ge _ e; omega); replace aA := aA.gr fH (fun e => by have := fG.ge _ e; omega)
     replace bC : OwnR uO (Sx (aU.heap.size) [obk (iX), some (bO.heap.size)]) bH bW 3 (g.ow : List Int) := bC.grA fH (fun k hk => hk.1) (fun k hk hs => ⟨own_repl kL.at_ hs.1 hk, hs.2.1, hs.2.2⟩)
     replace kJ := kJ.gr fH (fG.neb (fun g hs => hs.2.1)); clear fG fH kL; replace kM : OwnR uO (Sx (aB.heap.size) [obk (bH), some (bO.heap.size)]) iX kK 3 (g.pr : List Int) := kM
     refine AtH.rd (by kernel_rfl) (fun d v c a w h => by cases d <;> exact h) pL [8] [[]] [(13, .agg #[.slice bH ((([] : List Int) ++ g.ow).length) bW, .slice iX ((([] : List Int) ++ g.pr).length) kK, .slice none 0 0])] #[true, true, true, true, true, true, true, true, true, true, false] [] 1 uP (by kernel_rfl) trivial (fun aCk uQ => ?_)
     clear uP
     refine AtH.all [10] 0 (by kernel_rfl) (by simp) ⟨?_, trivial⟩
     refine OneH.store uQ (t := 25) (b := bO.heap.size) (off := 0) (v := .agg #[.slice bH ((([] : List Int) ++ g.ow).length) bW, .slice iX ((([] : List Int) ++ g.pr).length) kK, .slice none 0 0]) #[true, true, true, true, true, true, true, true, true, true, true] (by kernel_rfl) (by kernel_rfl) kJ (by kernel_rfl) (fun aCl aAg fI pM aAh => ?_)
     clear uQ
     replace pM : Bx aAg (bO.heap.size) [.slice bH ((([] : List Int) ++ g.ow).length) bW, .slice iX ((([] : List Int) ++ g.pr).length) kK, .slice none 0 0] 25 := pM
     have uR := pL.gr' fI (by rw [aM]; exact ⟨(by simp only [add_block]; omega), (by simp only [add_block]; omega), trivial⟩); have := fI.size; replace e0 := e0.gr fI (fun k h => by injection h; omega); replace r8 := r8.gb fI (by omega); replace bx9 := bx9.gb fI (by omega); replace aA := aA.gb fI (by omega); replace kM := kM.gr fI (fun k hk => hk.2.1); replace bC := bC.gr fI (fun k hk => hk.2.1)
     clear kJ fI
     refine ⟨uR, ?_⟩
     refine AtH.done (by kernel_rfl) ?_
     clear uR
     refine t_n ?_
     have aAi := aAh.sub (r := [(3, .pointer (some ⟨bO.heap.size, 0, none⟩)), (2, .pointer (some ⟨w1.heap.size, 0, none⟩)), (1, .pointer (some ⟨w.heap.size, 0, none⟩))]) ⟨rfl, rfl, rfl, trivial⟩
     exact ⟨bO.heap.size, bH, iX, bW, kK, aAi, e0, r8, bx9, aA, (bC.imp (fun g _ hs => ⟨hs.1, hs.2.1, (by have := Sx_base hs; show aF.heap.size ≤ g; omega)⟩)), (kM.imp (fun g _ hs => ⟨hs.1, hs.2.1, (by have := Sx_base hs; show aF.heap.size ≤ g; omega)⟩)), pM, (by omega), (by omega)⟩
    refine OneH.seq mB [[]] [(3, .pointer (some ⟨bI.heap.size, 0, none⟩))] (bI.alloc (.cells #[.slice none 0 0, .slice none 0 0, .slice none 0 0] 25 (0, 0))) [] #[true, true, true, false, true, true, true, false, false, true, false] (by kernel_rfl) (by kernel_rfl) (by kernel_rfl) trivial (fun aCm pN pO uS => ?_)
    clear mB; have fJ := gr_alloc pO; have uT := pE.gr fJ; have := fJ.size; replace e0 := e0.gn fJ; replace r8 := r8.gn fJ; replace bx9 := bx9.gn fJ; replace aA := aA.gn fJ; replace aZ := aZ.gn fJ; replace hU := hU.gn fJ; have hW : Bx pN (bI.heap.size) [.slice none 0 0, .slice none 0 0, .slice none 0 0] 25 := Bx.new pO; have := hW.lt; clear fJ pO
    refine ⟨uT, ?_⟩
    refine AtH.all [3] 3 (by kernel_rfl) (by simp) ⟨?_, trivial⟩
    have cZ : OwnR pN (Sx (aU.heap.size) [some (bI.heap.size)]) (some ⟨aU.heap.size, 0, none⟩) 0 3 ([] : List Int) := Bx.own0 hU ⟨(fun e => by injection e; omega), (Nat.le_refl _)⟩
    clear hU; have aAj : (([] : List Int) ++ g.ow).length = (([] : List Int)).length + (g.ow : List Int).length := List.length_append
    simp only [List.length_cons, List.length_nil] at aAj
    refine OneH.act uS #[true, true, true, true, true, true, true, false, false, true, false] (by kernel_rfl) (appendR (α := Int) (t := 22) (d := 8) (n := 0) (m := g.ow.length) (cc := cg0) (xs := []) (ys := g.ow) (bytes := 8) (by first | rfl | omega | (simp; done) | (simp; omega)) (by first | rfl | omega | (simp; done) | (simp; omega)) (by kernel_rfl) rfl (by kernel_rfl) cZ r8.ow.srcR (by simp only [List.length_cons, List.length_nil]; omega) (by simp only [List.length_cons, List.length_nil]; omega)) ?_
    rintro d_ v_ mF ⟨rfl, dA, hX, mG⟩
    obtain rfl := mG.val
    have fK := mG.gr
    have uU := uT.grO fK (by rw [aM]; exact ⟨(fun e => by have := cZ.ge _ e; simp only [add_block] at this; omega), (fun e => by have := cZ.ge _ e; simp only [add_block] at this; omega), trivial⟩)
    refine ⟨_, rfl, fun aCn uV => ⟨uU, ?_⟩⟩
    clear uS
    have cJ := mG.own (Sx (aU.heap.size) [some (bI.heap.size)]) (fun g _ hs => ⟨hs.1, hs.2⟩) ⟨(fun e => by injection e; omega), (show aU.heap.size ≤ pN.heap.size by omega)⟩
    have := fK.size; replace e0 := e0.gr fK (fun k hk => by have := cZ.ge k hk; omega); replace r8 := r8.gr fK (fun k hk => by have := cZ.ge k hk; omega); replace bx9 := bx9.gr fK (fun e => by have := cZ.ge _ e; omega); replace aA := aA.gr fK (fun e => by have := cZ.ge _ e; omega); replace aZ := aZ.gr fK (fun e => by have := cZ.ge _ e; omega); replace hW := hW.gr fK (cZ.neb (fun g hs => hs.1))
    clear cZ fK mG; replace cJ : OwnR mF (Sx (aU.heap.size) [some (bI.heap.size)]) dA hX 3 (g.ow : List Int) := cJ
    refine AtH.all [7] 2 (by kernel_rfl) (by simp) ⟨?_, trivial⟩
    replace cJ : OwnR mF (Sx (aU.heap.size) [some (aB.heap.size), some (bI.heap.size)]) dA hX 3 (g.ow : List Int) := cJ.imp (fun g _ hs => ⟨(fun e => by have := Sx_base hs; injection e; omega), hs⟩)
    have fL : OwnR mF (Sx (aB.heap.size) [obk (dA), some (bI.heap.size)]) (some ⟨aB.heap.size, 0, none⟩) 0 3 ([] : List Int) := Bx.own0 aZ ⟨(cJ.neb (fun g hs => hs.1)), (fun e => by injection e; omega), (Nat.le_refl _)⟩
    clear aZ; have aAk : (([] : List Int) ++ g.pr).length = (([] : List Int)).length + (g.pr : List Int).length := List.length_append
    simp only [List.length_cons, List.length_nil] at aAk
    refine OneH.act uV #[true, true, true, true, true, true, true, true, false, true, false] (by kernel_rfl) (appendR (α := Int) (t := 22) (d := 12) (n := 0) (m := g.pr.length) (cc := cg1) (xs := []) (ys := g.pr) (bytes := 8) (by first | rfl | omega | (simp; done) | (simp; omega)) (by first | rfl | omega | (simp; done) | (simp; omega)) (by kernel_rfl) rfl (by kernel_rfl) fL r8.pr.srcR (by simp only [List.length_cons, List.length_nil]; omega) (by simp only [List.length_cons, List.length_nil]; omega)) ?_
    rintro d_ v_ uW ⟨rfl, iY, kN, kO⟩
    obtain rfl := kO.val
    have fM := kO.gr
    have pP := uU.grO fM (by rw [aM]; exact ⟨(fun e => by have := fL.ge _ e; simp only [add_block] at this; omega), (fun e => by have := fL.ge _ e; simp only [add_block] at this; omega), trivial⟩)
    refine ⟨_, rfl, fun aCo uX => ⟨pP, ?_⟩⟩
    clear uV
    have kP := kO.own (Sx (aB.heap.size) [obk (dA), some (bI.heap.size)]) (fun g _ hs => ⟨hs.1, hs.2.1, hs.2.2⟩) ⟨cJ.ne_new, (fun e => by injection e; omega), (show aB.heap.size ≤ mF.heap.size by omega)⟩
    have := fM.size; replace e0 := e0.gr fM (fun k hk => by have := fL.ge k hk; omega); replace r8 := r8.gr fM (fun k hk => by have := fL.ge k hk; omega); replace bx9 := bx9.gr fM (fun e => by have := fL.ge _ e; omega); replace aA := aA.gr fM (fun e => by have := fL.ge _ e; omega)
    replace cJ : OwnR uW (Sx (aU.heap.size) [obk (iY), some (bI.heap.size)]) dA hX 3 (g.ow : List Int) := cJ.grA fM (fun k hk => hk.1) (fun k hk hs => ⟨own_repl kO.at_ hs.1 hk, hs.2.1, hs.2.2⟩)
    replace hW := hW.gr fM (fL.neb (fun g hs => hs.2.1)); clear fL fM kO; replace kP : OwnR uW (Sx (aB.heap.size) [obk (dA), some (bI.heap.size)]) iY kN 3 (g.pr : List Int) := kP
    refine AtH.rd (by kernel_rfl) (fun d v c a w h => by cases d <;> exact h) pP [8] [[]] [(13, .agg #[.slice dA ((([] : List Int) ++ g.ow).length) hX, .slice iY ((([] : List Int) ++ g.pr).length) kN, .slice none 0 0])] #[true, true, true, true, true, true, true, true, true, true, false] [] 1 uX (by kernel_rfl) trivial (fun aCp uY => ?_)
    clear uX
    refine AtH.all [10] 0 (by kernel_rfl) (by simp) ⟨?_, trivial⟩
    refine OneH.store uY (t := 25) (b := bI.heap.size) (off := 0) (v := .agg #[.slice dA ((([] : List Int) ++ g.ow).length) hX, .slice iY ((([] : List Int) ++ g.pr).length) kN, .slice none 0 0]) #[true, true, true, true, true, true, true, true, true, true, true] (by kernel_rfl) (by kernel_rfl) hW (by kernel_rfl) (fun aCq aAl fN pQ aAm => ?_)
    clear uY
    replace pQ : Bx aAl (bI.heap.size) [.slice dA ((([] : List Int) ++ g.ow).length) hX, .slice iY ((([] : List Int) ++ g.pr).length) kN, .slice none 0 0] 25 := pQ
    have uZ := pP.gr' fN (by rw [aM]; exact ⟨(by simp only [add_block]; omega), (by simp only [add_block]; omega), trivial⟩); have := fN.size; replace e0 := e0.gr fN (fun k h => by injection h; omega); replace r8 := r8.gb fN (by omega); replace bx9 := bx9.gb fN (by omega); replace aA := aA.gb fN (by omega); replace kP := kP.gr fN (fun k hk => hk.2.1); replace cJ := cJ.gr fN (fun k hk => hk.2.1)
    clear hW fN
    refine ⟨uZ, ?_⟩
    refine AtH.done (by kernel_rfl) ?_
    clear uZ
    refine t_n ?_
    have aAn := aAm.sub (r := [(3, .pointer (some ⟨bI.heap.size, 0, none⟩)), (2, .pointer (some ⟨w1.heap.size, 0, none⟩)), (1, .pointer (some ⟨w.heap.size, 0, none⟩))]) ⟨rfl, rfl, rfl, trivial⟩
    exact ⟨bI.heap.size, dA, iY, hX, kN, aAn, e0, r8, bx9, aA, (cJ.imp (fun g _ hs => ⟨hs.1, hs.2.1, (by have := Sx_base hs; show aF.heap.size ≤ g; omega)⟩)), (kP.imp (fun g _ hs => ⟨hs.1, hs.2.1, (by have := Sx_base hs; show aF.heap.size ≤ g; omega)⟩)), pQ, (by omega), (by omega)⟩
   refine OneH.seq mA [[]] [(3, .pointer (some ⟨aU.heap.size, 0, none⟩))] (aU.alloc (.cells #[.slice none 0 0, .slice none 0 0, .slice none 0 0] 25 (0, 0))) [] #[false, true, true, false, true, true, true, false, false, true, false] (by kernel_rfl) (by kernel_rfl) (by kernel_rfl) trivial (fun aCr cK pR vA => ?_)
   clear mA; have hF := gr_alloc pR; have vB := pC.gr hF; have := hF.size; replace e0 := e0.gn hF; replace r8 := r8.gn hF; replace bx9 := bx9.gn hF; replace aA := aA.gn hF; replace aZ := aZ.gn hF; have fO : Bx cK (aU.heap.size) [.slice none 0 0, .slice none 0 0, .slice none 0 0] 25 := Bx.new pR; have := fO.lt; clear hF pR
   refine ⟨vB, ?_⟩
   refine AtH.all [0] 4 (by kernel_rfl) (by simp) ⟨?_, trivial⟩
   refine OneH.seq vA [[]] [(5, .slice (some ⟨cK.heap.size, 0, none⟩) 0 0)] (cK.alloc (.cells #[] 3 (0, 0))) [] #[true, true, true, false, true, true, true, false, false, true, false] (by kernel_rfl) (by kernel_rfl) (by kernel_rfl) trivial (fun aCs pS pT vC => ?_)
   clear vA; have fP := gr_alloc pT; have vD := vB.gr fP
   refine ⟨vD, ?_⟩
   have := fP.size; replace e0 := e0.gn fP; replace r8 := r8.gn fP; replace bx9 := bx9.gn fP; replace aA := aA.gn fP; replace aZ := aZ.gn fP; replace fO := fO.gn fP; have pU : Bx pS (cK.heap.size) [] 3 := Bx.new pT; have := pU.lt; clear fP pT
   refine AtH.all [3] 3 (by kernel_rfl) (by simp) ⟨?_, trivial⟩
   have dB : OwnR pS (Sx (cK.heap.size) []) (some ⟨cK.heap.size, 0, none⟩) 0 3 ([] : List Int) := Bx.own0 pU (Nat.le_refl _); clear pU; have aAo : (([] : List Int) ++ g.ow).length = (([] : List Int)).length + (g.ow : List Int).length := List.length_append
   simp only [List.length_cons, List.length_nil] at aAo
   refine OneH.act vC #[true, true, true, true, true, true, true, false, false, true, false] (by kernel_rfl) (appendR (α := Int) (t := 22) (d := 8) (n := 0) (m := g.ow.length) (cc := cg0) (xs := []) (ys := g.ow) (bytes := 8) (by first | rfl | omega | (simp; done) | (simp; omega)) (by first | rfl | omega | (simp; done) | (simp; omega)) (by kernel_rfl) rfl (by kernel_rfl) dB r8.ow.srcR (by simp only [List.length_cons, List.length_nil]; omega) (by simp only [List.length_cons, List.length_nil]; omega)) ?_
   rintro d_ v_ mH ⟨rfl, dC, hY, mI⟩
   obtain rfl := mI.val
   have fQ := mI.gr
   have vE := vD.grO fQ (by rw [aM]; exact ⟨(fun e => by have := dB.ge _ e; simp only [add_block] at this; omega), (fun e => by have := dB.ge _ e; simp only [add_block] at this; omega), trivial⟩)
   refine ⟨_, rfl, fun aCt vF => ⟨vE, ?_⟩⟩
   clear vC; have cL := mI.own (Sx (cK.heap.size) []) (fun g _ hs => hs) (show cK.heap.size ≤ pS.heap.size by omega); have := fQ.size; replace e0 := e0.gr fQ (fun k hk => by have := dB.ge k hk; omega); replace r8 := r8.gr fQ (fun k hk => by have := dB.ge k hk; omega); replace bx9 := bx9.gr fQ (fun e => by have := dB.ge _ e; omega); replace aA := aA.gr fQ (fun e => by have := dB.ge _ e; omega)
   replace aZ := aZ.gr fQ (fun e => by have := dB.ge _ e; omega); replace fO := fO.gr fQ (fun e => by have := dB.ge _ e; omega); clear dB fQ mI; replace cL : OwnR mH (Sx (cK.heap.size) []) dC hY 3 (g.ow : List Int) := cL
   refine AtH.all [7] 2 (by kernel_rfl) (by simp) ⟨?_, trivial⟩
   replace cL : OwnR mH (Sx (cK.heap.size) [some (aB.heap.size)]) dC hY 3 (g.ow : List Int) := cL.imp (fun g _ hs => ⟨(fun e => by have := Sx_base hs; injection e; omega), hs⟩)
   have fR : OwnR mH (Sx (aB.heap.size) [some (aU.heap.size), obk (dC)]) (some ⟨aB.heap.size, 0, none⟩) 0 3 ([] : List Int) := Bx.own0 aZ ⟨(fun e => by injection e; omega), (cL.neb (fun g hs => hs.1)), (Nat.le_refl _)⟩
   clear aZ; have aAp : (([] : List Int) ++ g.pr).length = (([] : List Int)).length + (g.pr : List Int).length := List.length_append
   simp only [List.length_cons, List.length_nil] at aAp
   refine OneH.act vF #[true, true, true, true, true, true, true, true, false, true, false] (by kernel_rfl) (appendR (α := Int) (t := 22) (d := 12) (n := 0) (m := g.pr.length) (cc := cg1) (xs := []) (ys := g.pr) (bytes := 8) (by first | rfl | omega | (simp; done) | (simp; omega)) (by first | rfl | omega | (simp; done) | (simp; omega)) (by kernel_rfl) rfl (by kernel_rfl) fR r8.pr.srcR (by simp only [List.length_cons, List.length_nil]; omega) (by simp only [List.length_cons, List.length_nil]; omega)) ?_
   rintro d_ v_ vG ⟨rfl, iZ, kQ, kR⟩
   obtain rfl := kR.val
   have fS := kR.gr
   have pV := vE.grO fS (by rw [aM]; exact ⟨(fun e => by have := fR.ge _ e; simp only [add_block] at this; omega), (fun e => by have := fR.ge _ e; simp only [add_block] at this; omega), trivial⟩)
   refine ⟨_, rfl, fun aCu vH => ⟨pV, ?_⟩⟩
   clear vF
   have kS := kR.own (Sx (aB.heap.size) [some (aU.heap.size), obk (dC)]) (fun g _ hs => ⟨hs.1, hs.2.1, hs.2.2⟩) ⟨(fun e => by injection e; omega), cL.ne_new, (show aB.heap.size ≤ mH.heap.size by omega)⟩
   have := fS.size; replace e0 := e0.gr fS (fun k hk => by have := fR.ge k hk; omega); replace r8 := r8.gr fS (fun k hk => by have := fR.ge k hk; omega); replace bx9 := bx9.gr fS (fun e => by have := fR.ge _ e; omega); replace aA := aA.gr fS (fun e => by have := fR.ge _ e; omega); replace fO := fO.gr fS (fR.neb (fun g hs => hs.1))
   replace cL : OwnR vG (Sx (cK.heap.size) [obk (iZ)]) dC hY 3 (g.ow : List Int) := cL.grA fS (fun k hk => hk.1) (fun k hk hs => ⟨own_repl kR.at_ hs.1 hk, hs.2⟩)
   clear fR fS kR; replace kS : OwnR vG (Sx (aB.heap.size) [some (aU.heap.size), obk (dC)]) iZ kQ 3 (g.pr : List Int) := kS
   refine AtH.rd (by kernel_rfl) (fun d v c a w h => by cases d <;> exact h) pV [8] [[]] [(13, .agg #[.slice dC ((([] : List Int) ++ g.ow).length) hY, .slice iZ ((([] : List Int) ++ g.pr).length) kQ, .slice none 0 0])] #[true, true, true, true, true, true, true, true, true, true, false] [] 1 vH (by kernel_rfl) trivial (fun aCv vI => ?_)
   clear vH
   refine AtH.all [10] 0 (by kernel_rfl) (by simp) ⟨?_, trivial⟩
   refine OneH.store vI (t := 25) (b := aU.heap.size) (off := 0) (v := .agg #[.slice dC ((([] : List Int) ++ g.ow).length) hY, .slice iZ ((([] : List Int) ++ g.pr).length) kQ, .slice none 0 0]) #[true, true, true, true, true, true, true, true, true, true, true] (by kernel_rfl) (by kernel_rfl) fO (by kernel_rfl) (fun aCw aAq fT pW aAr => ?_)
   clear vI
   replace pW : Bx aAq (aU.heap.size) [.slice dC ((([] : List Int) ++ g.ow).length) hY, .slice iZ ((([] : List Int) ++ g.pr).length) kQ, .slice none 0 0] 25 := pW
   have vJ := pV.gr' fT (by rw [aM]; exact ⟨(by simp only [add_block]; omega), (by simp only [add_block]; omega), trivial⟩); have := fT.size; replace e0 := e0.gr fT (fun k h => by injection h; omega); replace r8 := r8.gb fT (by omega); replace bx9 := bx9.gb fT (by omega); replace aA := aA.gb fT (by omega); replace kS := kS.gr fT (fun k hk => hk.1)
   replace cL := cL.gr fT (fun k hk e => by have := Sx_base hk; injection e; omega); clear fO fT
   refine ⟨vJ, ?_⟩
   refine AtH.done (by kernel_rfl) ?_
   clear vJ
   refine t_n ?_
   have aAs := aAr.sub (r := [(3, .pointer (some ⟨aU.heap.size, 0, none⟩)), (2, .pointer (some ⟨w1.heap.size, 0, none⟩)), (1, .pointer (some ⟨w.heap.size, 0, none⟩))]) ⟨rfl, rfl, rfl, trivial⟩
   exact ⟨aU.heap.size, dC, iZ, hY, kQ, aAs, e0, r8, bx9, aA, (cL.imp (fun g _ hs => ⟨hs.1, (fun e => by have := Sx_base hs; injection e; omega), (by have := Sx_base hs; show aF.heap.size ≤ g; omega)⟩)), (kS.imp (fun g _ hs => ⟨hs.2.1, hs.1, (by have := Sx_base hs; show aF.heap.size ≤ g; omega)⟩)), pW, (by omega), (by omega)⟩
  refine OneH.seq iJ [[]] [(3, .pointer (some ⟨aB.heap.size, 0, none⟩))] (aB.alloc (.cells #[.slice none 0 0, .slice none 0 0, .slice none 0 0] 25 (0, 0))) [] #[false, true, true, false, false, true, true, false, false, true, false] (by kernel_rfl) (by kernel_rfl) (by kernel_rfl) trivial (fun aCx bA pX mJ => ?_)
  clear iJ; have hZ := gr_alloc pX; have pY := lO.gr hZ; have := hZ.size; replace e0 := e0.gn hZ; replace r8 := r8.gn hZ; replace bx9 := bx9.gn hZ; replace aA := aA.gn hZ; have aV : Bx bA (aB.heap.size) [.slice none 0 0, .slice none 0 0, .slice none 0 0] 25 := Bx.new pX; have := aV.lt; clear hZ pX
  refine ⟨pY, ?_⟩
  refine AtH.all [0, 4] 5 (by kernel_rfl) (by simp) ⟨?_, ?_, trivial⟩
  ·refine OneH.seq mJ [[]] [(5, .slice (some ⟨bA.heap.size, 0, none⟩) 0 0)] (bA.alloc (.cells #[] 3 (0, 0))) [] #[true, true, true, false, false, true, true, false, false, true, false] (by kernel_rfl) (by kernel_rfl) (by kernel_rfl) trivial (fun aCy bU pZ mK => ?_)
   clear mJ; have hG := gr_alloc pZ; have qA := pY.gr hG
   refine ⟨qA, ?_⟩
   have := hG.size; replace e0 := e0.gn hG; replace r8 := r8.gn hG; replace bx9 := bx9.gn hG; replace aA := aA.gn hG; replace aV := aV.gn hG; have iA : Bx bU (bA.heap.size) [] 3 := Bx.new pZ; have := iA.lt; clear hG pZ
   refine AtH.all [3, 4] 4 (by kernel_rfl) (by simp) ⟨?_, ?_, trivial⟩
   ·have fU : OwnR bU (Sx (bA.heap.size) []) (some ⟨bA.heap.size, 0, none⟩) 0 3 ([] : List Int) := Bx.own0 iA (Nat.le_refl _)
    clear iA; have aAt : (([] : List Int) ++ g.ow).length = (([] : List Int)).length + (g.ow : List Int).length := List.length_append
    simp only [List.length_cons, List.length_nil] at aAt
    refine OneH.act mK #[true, true, true, true, false, true, true, false, false, true, false] (by kernel_rfl) (appendR (α := Int) (t := 22) (d := 8) (n := 0) (m := g.ow.length) (cc := cg0) (xs := []) (ys := g.ow) (bytes := 8) (by first | rfl | omega | (simp; done) | (simp; omega)) (by first | rfl | omega | (simp; done) | (simp; omega)) (by kernel_rfl) rfl (by kernel_rfl) fU r8.ow.srcR (by simp only [List.length_cons, List.length_nil]; omega) (by simp only [List.length_cons, List.length_nil]; omega)) ?_
    rintro d_ v_ fV ⟨rfl, fW, jA, mL⟩
    obtain rfl := mL.val
    have hH := mL.gr
    have vK := qA.grO hH (by rw [aM]; exact ⟨(fun e => by have := fU.ge _ e; simp only [add_block] at this; omega), (fun e => by have := fU.ge _ e; simp only [add_block] at this; omega), trivial⟩)
    refine ⟨_, rfl, fun aCz vL => ⟨vK, ?_⟩⟩
    clear mK; have cM := mL.own (Sx (bA.heap.size) []) (fun g _ hs => hs) (show bA.heap.size ≤ bU.heap.size by omega); have := hH.size; replace e0 := e0.gr hH (fun k hk => by have := fU.ge k hk; omega); replace r8 := r8.gr hH (fun k hk => by have := fU.ge k hk; omega); replace bx9 := bx9.gr hH (fun e => by have := fU.ge _ e; omega); replace aA := aA.gr hH (fun e => by have := fU.ge _ e; omega)
    replace aV := aV.gr hH (fun e => by have := fU.ge _ e; omega); clear fU hH mL; replace cM : OwnR fV (Sx (bA.heap.size) []) fW jA 3 (g.ow : List Int) := cM
    refine AtH.all [4] 3 (by kernel_rfl) (by simp) ⟨?_, trivial⟩
    refine OneH.seq vL [[]] [(9, .slice (some ⟨fV.heap.size, 0, none⟩) 0 0)] (fV.alloc (.cells #[] 3 (0, 0))) [] #[true, true, true, true, true, true, true, false, false, true, false] (by kernel_rfl) (by kernel_rfl) (by kernel_rfl) trivial (fun aCA qB qC vM => ?_)
    clear vL; have fX := gr_alloc qC; have vN := vK.gr fX
    refine ⟨vN, ?_⟩
    have := fX.size; replace e0 := e0.gn fX; replace r8 := r8.gn fX; replace bx9 := bx9.gn fX; replace aA := aA.gn fX; replace aV := aV.gn fX; replace cM := cM.grN fX; have qD : Bx qB (fV.heap.size) [] 3 := Bx.new qC; have := qD.lt; clear fX qC
    refine AtH.all [7] 2 (by kernel_rfl) (by simp) ⟨?_, trivial⟩
    have fY : OwnR qB (Sx (fV.heap.size) [obk (fW)]) (some ⟨fV.heap.size, 0, none⟩) 0 3 ([] : List Int) := Bx.own0 qD ⟨(cM.neb (fun g hs => hs.1)), (Nat.le_refl _)⟩
    clear qD; have aAu : (([] : List Int) ++ g.pr).length = (([] : List Int)).length + (g.pr : List Int).length := List.length_append
    simp only [List.length_cons, List.length_nil] at aAu
    refine OneH.act vM #[true, true, true, true, true, true, true, true, false, true, false] (by kernel_rfl) (appendR (α := Int) (t := 22) (d := 12) (n := 0) (m := g.pr.length) (cc := cg1) (xs := []) (ys := g.pr) (bytes := 8) (by first | rfl | omega | (simp; done) | (simp; omega)) (by first | rfl | omega | (simp; done) | (simp; omega)) (by kernel_rfl) rfl (by kernel_rfl) fY r8.pr.srcR (by simp only [List.length_cons, List.length_nil]; omega) (by simp only [List.length_cons, List.length_nil]; omega)) ?_
    rintro d_ v_ vO ⟨rfl, jB, kT, kU⟩
    obtain rfl := kU.val
    have fZ := kU.gr
    have qE := vN.grO fZ (by rw [aM]; exact ⟨(fun e => by have := fY.ge _ e; simp only [add_block] at this; omega), (fun e => by have := fY.ge _ e; simp only [add_block] at this; omega), trivial⟩)
    refine ⟨_, rfl, fun aCB vP => ⟨qE, ?_⟩⟩
    clear vM; have kV := kU.own (Sx (fV.heap.size) [obk (fW)]) (fun g _ hs => ⟨hs.1, hs.2⟩) ⟨cM.ne_new, (show fV.heap.size ≤ qB.heap.size by omega)⟩; have := fZ.size; replace e0 := e0.gr fZ (fun k hk => by have := fY.ge k hk; omega); replace r8 := r8.gr fZ (fun k hk => by have := fY.ge k hk; omega); replace bx9 := bx9.gr fZ (fun e => by have := fY.ge _ e; omega)
    replace aA := aA.gr fZ (fun e => by have := fY.ge _ e; omega); replace aV := aV.gr fZ (fun e => by have := fY.ge _ e; omega)
    replace cM : OwnR vO (Sx (bA.heap.size) [obk (jB)]) fW jA 3 (g.ow : List Int) := cM.grA fZ (fun k hk => hk.1) (fun k hk hs => ⟨own_repl kU.at_ hs.1 hk, hs.2⟩)
    clear fY fZ kU; replace kV : OwnR vO (Sx (fV.heap.size) [obk (fW)]) jB kT 3 (g.pr : List Int) := kV
    refine AtH.rd (by kernel_rfl) (fun d v c a w h => by cases d <;> exact h) qE [8] [[]] [(13, .agg #[.slice fW ((([] : List Int) ++ g.ow).length) jA, .slice jB ((([] : List Int) ++ g.pr).length) kT, .slice none 0 0])] #[true, true, true, true, true, true, true, true, true, true, false] [] 1 vP (by kernel_rfl) trivial (fun aCC vQ => ?_)
    clear vP
    refine AtH.all [10] 0 (by kernel_rfl) (by simp) ⟨?_, trivial⟩
    refine OneH.store vQ (t := 25) (b := aB.heap.size) (off := 0) (v := .agg #[.slice fW ((([] : List Int) ++ g.ow).length) jA, .slice jB ((([] : List Int) ++ g.pr).length) kT, .slice none 0 0]) #[true, true, true, true, true, true, true, true, true, true, true] (by kernel_rfl) (by kernel_rfl) aV (by kernel_rfl) (fun aCD aAv gA qF aAw => ?_)
    clear vQ
    replace qF : Bx aAv (aB.heap.size) [.slice fW ((([] : List Int) ++ g.ow).length) jA, .slice jB ((([] : List Int) ++ g.pr).length) kT, .slice none 0 0] 25 := qF
    have vR := qE.gr' gA (by rw [aM]; exact ⟨(by simp only [add_block]; omega), (by simp only [add_block]; omega), trivial⟩); have := gA.size; replace e0 := e0.gr gA (fun k h => by injection h; omega); replace r8 := r8.gb gA (by omega); replace bx9 := bx9.gb gA (by omega); replace aA := aA.gb gA (by omega); replace cM := cM.gr gA (fun k hk e => by have := Sx_base hk; injection e; omega)
    replace kV := kV.gr gA (fun k hk e => by have := Sx_base hk; injection e; omega); clear aV gA
    refine ⟨vR, ?_⟩
    refine AtH.done (by kernel_rfl) ?_
    clear vR
    refine t_n ?_
    have aAx := aAw.sub (r := [(3, .pointer (some ⟨aB.heap.size, 0, none⟩)), (2, .pointer (some ⟨w1.heap.size, 0, none⟩)), (1, .pointer (some ⟨w.heap.size, 0, none⟩))]) ⟨rfl, rfl, rfl, trivial⟩
    exact ⟨aB.heap.size, fW, jB, jA, kT, aAx, e0, r8, bx9, aA, (cM.imp (fun g _ hs => ⟨hs.1, (fun e => by have := Sx_base hs; injection e; omega), (by have := Sx_base hs; show aF.heap.size ≤ g; omega)⟩)), (kV.imp (fun g _ hs => ⟨hs.1, (fun e => by have := Sx_base hs; injection e; omega), (by have := Sx_base hs; show aF.heap.size ≤ g; omega)⟩)), qF, (by omega), (by omega)⟩
   refine OneH.seq mK [[]] [(9, .slice (some ⟨bU.heap.size, 0, none⟩) 0 0)] (bU.alloc (.cells #[] 3 (0, 0))) [] #[true, true, true, false, true, true, true, false, false, true, false] (by kernel_rfl) (by kernel_rfl) (by kernel_rfl) trivial (fun aCE qG qH vS => ?_)
   clear mK; have gB := gr_alloc qH; have vT := qA.gr gB
   refine ⟨vT, ?_⟩
   have := gB.size; replace e0 := e0.gn gB; replace r8 := r8.gn gB; replace bx9 := bx9.gn gB; replace aA := aA.gn gB; replace aV := aV.gn gB; replace iA := iA.gn gB; have kW : Bx qG (bU.heap.size) [] 3 := Bx.new qH; have := kW.lt; clear gB qH
   refine AtH.all [3] 3 (by kernel_rfl) (by simp) ⟨?_, trivial⟩
   have dD : OwnR qG (Sx (bA.heap.size) [some (bU.heap.size)]) (some ⟨bA.heap.size, 0, none⟩) 0 3 ([] : List Int) := Bx.own0 iA ⟨(fun e => by injection e; omega), (Nat.le_refl _)⟩
   clear iA; have aAy : (([] : List Int) ++ g.ow).length = (([] : List Int)).length + (g.ow : List Int).length := List.length_append
   simp only [List.length_cons, List.length_nil] at aAy
   refine OneH.act vS #[true, true, true, true, true, true, true, false, false, true, false] (by kernel_rfl) (appendR (α := Int) (t := 22) (d := 8) (n := 0) (m := g.ow.length) (cc := cg0) (xs := []) (ys := g.ow) (bytes := 8) (by first | rfl | omega | (simp; done) | (simp; omega)) (by first | rfl | omega | (simp; done) | (simp; omega)) (by kernel_rfl) rfl (by kernel_rfl) dD r8.ow.srcR (by simp only [List.length_cons, List.length_nil]; omega) (by simp only [List.length_cons, List.length_nil]; omega)) ?_
   rintro d_ v_ qI ⟨rfl, gC, jC, mM⟩
   obtain rfl := mM.val
   have gD := mM.gr
   have vU := vT.grO gD (by rw [aM]; exact ⟨(fun e => by have := dD.ge _ e; simp only [add_block] at this; omega), (fun e => by have := dD.ge _ e; simp only [add_block] at this; omega), trivial⟩)
   refine ⟨_, rfl, fun aCF vV => ⟨vU, ?_⟩⟩
   clear vS
   have gE := mM.own (Sx (bA.heap.size) [some (bU.heap.size)]) (fun g _ hs => ⟨hs.1, hs.2⟩) ⟨(fun e => by injection e; omega), (show bA.heap.size ≤ qG.heap.size by omega)⟩
   have := gD.size; replace e0 := e0.gr gD (fun k hk => by have := dD.ge k hk; omega); replace r8 := r8.gr gD (fun k hk => by have := dD.ge k hk; omega); replace bx9 := bx9.gr gD (fun e => by have := dD.ge _ e; omega); replace aA := aA.gr gD (fun e => by have := dD.ge _ e; omega); replace aV := aV.gr gD (fun e => by have := dD.ge _ e; omega); replace kW := kW.gr gD (dD.neb (fun g hs => hs.1))
   clear dD gD mM; replace gE : OwnR qI (Sx (bA.heap.size) [some (bU.heap.size)]) gC jC 3 (g.ow : List Int) := gE
   refine AtH.all [7] 2 (by kernel_rfl) (by simp) ⟨?_, trivial⟩
   have gF : OwnR qI (Sx (bU.heap.size) [obk (gC)]) (some ⟨bU.heap.size, 0, none⟩) 0 3 ([] : List Int) := Bx.own0 kW ⟨(gE.neb (fun g hs => hs.1)), (Nat.le_refl _)⟩
   clear kW; have aAz : (([] : List Int) ++ g.pr).length = (([] : List Int)).length + (g.pr : List Int).length := List.length_append
   simp only [List.length_cons, List.length_nil] at aAz
   refine OneH.act vV #[true, true, true, true, true, true, true, true, false, true, false] (by kernel_rfl) (appendR (α := Int) (t := 22) (d := 12) (n := 0) (m := g.pr.length) (cc := cg1) (xs := []) (ys := g.pr) (bytes := 8) (by first | rfl | omega | (simp; done) | (simp; omega)) (by first | rfl | omega | (simp; done) | (simp; omega)) (by kernel_rfl) rfl (by kernel_rfl) gF r8.pr.srcR (by simp only [List.length_cons, List.length_nil]; omega) (by simp only [List.length_cons, List.length_nil]; omega)) ?_
   rintro d_ v_ vW ⟨rfl, jD, kX, kY⟩
   obtain rfl := kY.val
   have gG := kY.gr
   have qJ := vU.grO gG (by rw [aM]; exact ⟨(fun e => by have := gF.ge _ e; simp only [add_block] at this; omega), (fun e => by have := gF.ge _ e; simp only [add_block] at this; omega), trivial⟩)
   refine ⟨_, rfl, fun aCG vX => ⟨qJ, ?_⟩⟩
   clear vV; have kZ := kY.own (Sx (bU.heap.size) [obk (gC)]) (fun g _ hs => ⟨hs.1, hs.2⟩) ⟨gE.ne_new, (show bU.heap.size ≤ qI.heap.size by omega)⟩; have := gG.size; replace e0 := e0.gr gG (fun k hk => by have := gF.ge k hk; omega); replace r8 := r8.gr gG (fun k hk => by have := gF.ge k hk; omega); replace bx9 := bx9.gr gG (fun e => by have := gF.ge _ e; omega)
   replace aA := aA.gr gG (fun e => by have := gF.ge _ e; omega); replace aV := aV.gr gG (fun e => by have := gF.ge _ e; omega)
   replace gE : OwnR vW (Sx (bA.heap.size) [obk (jD)]) gC jC 3 (g.ow : List Int) := gE.grA gG (fun k hk => hk.1) (fun k hk hs => ⟨own_repl kY.at_ hs.1 hk, hs.2⟩)
   clear gF gG kY; replace kZ : OwnR vW (Sx (bU.heap.size) [obk (gC)]) jD kX 3 (g.pr : List Int) := kZ
   refine AtH.rd (by kernel_rfl) (fun d v c a w h => by cases d <;> exact h) qJ [8] [[]] [(13, .agg #[.slice gC ((([] : List Int) ++ g.ow).length) jC, .slice jD ((([] : List Int) ++ g.pr).length) kX, .slice none 0 0])] #[true, true, true, true, true, true, true, true, true, true, false] [] 1 vX (by kernel_rfl) trivial (fun aCH vY => ?_)
   clear vX
   refine AtH.all [10] 0 (by kernel_rfl) (by simp) ⟨?_, trivial⟩
   refine OneH.store vY (t := 25) (b := aB.heap.size) (off := 0) (v := .agg #[.slice gC ((([] : List Int) ++ g.ow).length) jC, .slice jD ((([] : List Int) ++ g.pr).length) kX, .slice none 0 0]) #[true, true, true, true, true, true, true, true, true, true, true] (by kernel_rfl) (by kernel_rfl) aV (by kernel_rfl) (fun aCI aAA gH qK aAB => ?_)
   clear vY
   replace qK : Bx aAA (aB.heap.size) [.slice gC ((([] : List Int) ++ g.ow).length) jC, .slice jD ((([] : List Int) ++ g.pr).length) kX, .slice none 0 0] 25 := qK
   have vZ := qJ.gr' gH (by rw [aM]; exact ⟨(by simp only [add_block]; omega), (by simp only [add_block]; omega), trivial⟩); have := gH.size; replace e0 := e0.gr gH (fun k h => by injection h; omega); replace r8 := r8.gb gH (by omega); replace bx9 := bx9.gb gH (by omega); replace aA := aA.gb gH (by omega); replace gE := gE.gr gH (fun k hk e => by have := Sx_base hk; injection e; omega)
   replace kZ := kZ.gr gH (fun k hk e => by have := Sx_base hk; injection e; omega); clear aV gH
   refine ⟨vZ, ?_⟩
   refine AtH.done (by kernel_rfl) ?_
   clear vZ
   refine t_n ?_
   have aAC := aAB.sub (r := [(3, .pointer (some ⟨aB.heap.size, 0, none⟩)), (2, .pointer (some ⟨w1.heap.size, 0, none⟩)), (1, .pointer (some ⟨w.heap.size, 0, none⟩))]) ⟨rfl, rfl, rfl, trivial⟩
   exact ⟨aB.heap.size, gC, jD, jC, kX, aAC, e0, r8, bx9, aA, (gE.imp (fun g _ hs => ⟨hs.1, (fun e => by have := Sx_base hs; injection e; omega), (by have := Sx_base hs; show aF.heap.size ≤ g; omega)⟩)), (kZ.imp (fun g _ hs => ⟨hs.1, (fun e => by have := Sx_base hs; injection e; omega), (by have := Sx_base hs; show aF.heap.size ≤ g; omega)⟩)), qK, (by omega), (by omega)⟩
  refine OneH.seq mJ [[]] [(9, .slice (some ⟨bA.heap.size, 0, none⟩) 0 0)] (bA.alloc (.cells #[] 3 (0, 0))) [] #[false, true, true, false, true, true, true, false, false, true, false] (by kernel_rfl) (by kernel_rfl) (by kernel_rfl) trivial (fun aCJ cN qL wA => ?_)
  clear mJ; have hI := gr_alloc qL; have wB := pY.gr hI
  refine ⟨wB, ?_⟩
  have := hI.size; replace e0 := e0.gn hI; replace r8 := r8.gn hI; replace bx9 := bx9.gn hI; replace aA := aA.gn hI; replace aV := aV.gn hI; have iB : Bx cN (bA.heap.size) [] 3 := Bx.new qL; have := iB.lt; clear hI qL
  refine AtH.all [0] 4 (by kernel_rfl) (by simp) ⟨?_, trivial⟩
  refine OneH.seq wA [[]] [(5, .slice (some ⟨cN.heap.size, 0, none⟩) 0 0)] (cN.alloc (.cells #[] 3 (0, 0))) [] #[true, true, true, false, true, true, true, false, false, true, false] (by kernel_rfl) (by kernel_rfl) (by kernel_rfl) trivial (fun aCK qM qN wC => ?_)
  clear wA; have gI := gr_alloc qN; have wD := wB.gr gI
  refine ⟨wD, ?_⟩
  have := gI.size; replace e0 := e0.gn gI; replace r8 := r8.gn gI; replace bx9 := bx9.gn gI; replace aA := aA.gn gI; replace aV := aV.gn gI; replace iB := iB.gn gI; have qO : Bx qM (cN.heap.size) [] 3 := Bx.new qN; have := qO.lt; clear gI qN
  refine AtH.all [3] 3 (by kernel_rfl) (by simp) ⟨?_, trivial⟩
  have dE : OwnR qM (Sx (cN.heap.size) []) (some ⟨cN.heap.size, 0, none⟩) 0 3 ([] : List Int) := Bx.own0 qO (Nat.le_refl _); clear qO; have aAD : (([] : List Int) ++ g.ow).length = (([] : List Int)).length + (g.ow : List Int).length := List.length_append
  simp only [List.length_cons, List.length_nil] at aAD
  refine OneH.act wC #[true, true, true, true, true, true, true, false, false, true, false] (by kernel_rfl) (appendR (α := Int) (t := 22) (d := 8) (n := 0) (m := g.ow.length) (cc := cg0) (xs := []) (ys := g.ow) (bytes := 8) (by first | rfl | omega | (simp; done) | (simp; omega)) (by first | rfl | omega | (simp; done) | (simp; omega)) (by kernel_rfl) rfl (by kernel_rfl) dE r8.ow.srcR (by simp only [List.length_cons, List.length_nil]; omega) (by simp only [List.length_cons, List.length_nil]; omega)) ?_
  rintro d_ v_ mN ⟨rfl, dF, iC, mO⟩
  obtain rfl := mO.val
  have gJ := mO.gr
  have wE := wD.grO gJ (by rw [aM]; exact ⟨(fun e => by have := dE.ge _ e; simp only [add_block] at this; omega), (fun e => by have := dE.ge _ e; simp only [add_block] at this; omega), trivial⟩)
  refine ⟨_, rfl, fun aCL wF => ⟨wE, ?_⟩⟩
  clear wC; have cO := mO.own (Sx (cN.heap.size) []) (fun g _ hs => hs) (show cN.heap.size ≤ qM.heap.size by omega); have := gJ.size; replace e0 := e0.gr gJ (fun k hk => by have := dE.ge k hk; omega); replace r8 := r8.gr gJ (fun k hk => by have := dE.ge k hk; omega); replace bx9 := bx9.gr gJ (fun e => by have := dE.ge _ e; omega); replace aA := aA.gr gJ (fun e => by have := dE.ge _ e; omega)
  replace aV := aV.gr gJ (fun e => by have := dE.ge _ e; omega); replace iB := iB.gr gJ (fun e => by have := dE.ge _ e; omega); clear dE gJ mO; replace cO : OwnR mN (Sx (cN.heap.size) []) dF iC 3 (g.ow : List Int) := cO
  refine AtH.all [7] 2 (by kernel_rfl) (by simp) ⟨?_, trivial⟩
  replace cO : OwnR mN (Sx (cN.heap.size) [some (bA.heap.size)]) dF iC 3 (g.ow : List Int) := cO.imp (fun g _ hs => ⟨(fun e => by have := Sx_base hs; injection e; omega), hs⟩)
  have gK : OwnR mN (Sx (bA.heap.size) [obk (dF)]) (some ⟨bA.heap.size, 0, none⟩) 0 3 ([] : List Int) := Bx.own0 iB ⟨(cO.neb (fun g hs => hs.1)), (Nat.le_refl _)⟩
  clear iB; have aAE : (([] : List Int) ++ g.pr).length = (([] : List Int)).length + (g.pr : List Int).length := List.length_append
  simp only [List.length_cons, List.length_nil] at aAE
  refine OneH.act wF #[true, true, true, true, true, true, true, true, false, true, false] (by kernel_rfl) (appendR (α := Int) (t := 22) (d := 12) (n := 0) (m := g.pr.length) (cc := cg1) (xs := []) (ys := g.pr) (bytes := 8) (by first | rfl | omega | (simp; done) | (simp; omega)) (by first | rfl | omega | (simp; done) | (simp; omega)) (by kernel_rfl) rfl (by kernel_rfl) gK r8.pr.srcR (by simp only [List.length_cons, List.length_nil]; omega) (by simp only [List.length_cons, List.length_nil]; omega)) ?_
  rintro d_ v_ wG ⟨rfl, jE, lA, lB⟩
  obtain rfl := lB.val
  have gM := lB.gr
  have qP := wE.grO gM (by rw [aM]; exact ⟨(fun e => by have := gK.ge _ e; simp only [add_block] at this; omega), (fun e => by have := gK.ge _ e; simp only [add_block] at this; omega), trivial⟩)
  refine ⟨_, rfl, fun aCM wH => ⟨qP, ?_⟩⟩
  clear wF; have lC := lB.own (Sx (bA.heap.size) [obk (dF)]) (fun g _ hs => ⟨hs.1, hs.2⟩) ⟨cO.ne_new, (show bA.heap.size ≤ mN.heap.size by omega)⟩; have := gM.size; replace e0 := e0.gr gM (fun k hk => by have := gK.ge k hk; omega); replace r8 := r8.gr gM (fun k hk => by have := gK.ge k hk; omega); replace bx9 := bx9.gr gM (fun e => by have := gK.ge _ e; omega)
  replace aA := aA.gr gM (fun e => by have := gK.ge _ e; omega); replace aV := aV.gr gM (fun e => by have := gK.ge _ e; omega)
  replace cO : OwnR wG (Sx (cN.heap.size) [obk (jE)]) dF iC 3 (g.ow : List Int) := cO.grA gM (fun k hk => hk.1) (fun k hk hs => ⟨own_repl lB.at_ hs.1 hk, hs.2⟩)
  clear gK gM lB; replace lC : OwnR wG (Sx (bA.heap.size) [obk (dF)]) jE lA 3 (g.pr : List Int) := lC
  refine AtH.rd (by kernel_rfl) (fun d v c a w h => by cases d <;> exact h) qP [8] [[]] [(13, .agg #[.slice dF ((([] : List Int) ++ g.ow).length) iC, .slice jE ((([] : List Int) ++ g.pr).length) lA, .slice none 0 0])] #[true, true, true, true, true, true, true, true, true, true, false] [] 1 wH (by kernel_rfl) trivial (fun aCN wI => ?_)
  clear wH
  refine AtH.all [10] 0 (by kernel_rfl) (by simp) ⟨?_, trivial⟩
  refine OneH.store wI (t := 25) (b := aB.heap.size) (off := 0) (v := .agg #[.slice dF ((([] : List Int) ++ g.ow).length) iC, .slice jE ((([] : List Int) ++ g.pr).length) lA, .slice none 0 0]) #[true, true, true, true, true, true, true, true, true, true, true] (by kernel_rfl) (by kernel_rfl) aV (by kernel_rfl) (fun aCO aAF gN qQ aAG => ?_)
  clear wI
  replace qQ : Bx aAF (aB.heap.size) [.slice dF ((([] : List Int) ++ g.ow).length) iC, .slice jE ((([] : List Int) ++ g.pr).length) lA, .slice none 0 0] 25 := qQ
  have wJ := qP.gr' gN (by rw [aM]; exact ⟨(by simp only [add_block]; omega), (by simp only [add_block]; omega), trivial⟩); have := gN.size; replace e0 := e0.gr gN (fun k h => by injection h; omega); replace r8 := r8.gb gN (by omega); replace bx9 := bx9.gb gN (by omega); replace aA := aA.gb gN (by omega); replace lC := lC.gr gN (fun k hk e => by have := Sx_base hk; injection e; omega)
  replace cO := cO.gr gN (fun k hk e => by have := Sx_base hk; injection e; omega); clear aV gN
  refine ⟨wJ, ?_⟩
  refine AtH.done (by kernel_rfl) ?_
  clear wJ
  refine t_n ?_
  have aAH := aAG.sub (r := [(3, .pointer (some ⟨aB.heap.size, 0, none⟩)), (2, .pointer (some ⟨w1.heap.size, 0, none⟩)), (1, .pointer (some ⟨w.heap.size, 0, none⟩))]) ⟨rfl, rfl, rfl, trivial⟩
  exact ⟨aB.heap.size, dF, jE, iC, lA, aAH, e0, r8, bx9, aA, (cO.imp (fun g _ hs => ⟨hs.1, (fun e => by have := Sx_base hs; injection e; omega), (by have := Sx_base hs; show aF.heap.size ≤ g; omega)⟩)), (lC.imp (fun g _ hs => ⟨hs.1, (fun e => by have := Sx_base hs; injection e; omega), (by have := Sx_base hs; show aF.heap.size ≤ g; omega)⟩)), qQ, (by omega), (by omega)⟩
 clear r8; clear bx9; clear aA; clear nG e0
 intro aCP bB ⟨aI, aD, aE, aW, aX, wK, qR, wL, qS, qT, mP, mQ, qU, aCQ, aCR⟩
 have := qR.size; have := qS.lt; have := qT.lt; have := qU.lt
 refine wp_seq ?_
 refine wp_seq ?_
 refine At.start ?_
 refine At.rd wK 1 [[]] [(4, .int .i64 (0))] [] (by kernel_rfl) trivial (fun aCS wM => ?_)
 clear wK
 refine At.done rfl ?_
 refine t_n ?_
 refine wp_block ?_
 have wN : OwnLL bB (bB.heap.size) [obk (aD), obk (aE)] none 0 22 3 ([] : List (List Int)) := OwnLL.nil; replace mP : OwnR bB (Sx (aF.heap.size) [obk none, obk (aE), some (aI)]) aD aW 3 (g.ow : List Int) := mP.imp (fun g _ hs => ⟨by simp [obk], hs⟩); replace mQ : OwnR bB (Sx (aF.heap.size) [obk none, obk (aD), some (aI)]) aE aX 3 (g.pr : List Int) := mQ.imp (fun g _ hs => ⟨by simp [obk], hs⟩)
 have wO := wM.sub (r := [(4, .int .i64 (0)), (3, .pointer (some ⟨aI, 0, none⟩)), (2, .pointer (some ⟨w1.heap.size, 0, none⟩)), (1, .pointer (some ⟨w.heap.size, 0, none⟩))]) ⟨rfl, rfl, rfl, rfl, trivial⟩
 refine loop_g (fun (m_ : Nat) a_ w_ => ∃ (k : Int) (xs : List (List Int)) (aJ : Option Addr) (aT : Nat), m_ = ((g.mv.length : Int) - k).toNat ∧ (Frm 34 a_ [(4, .int .i64 (k)), (3, .pointer (some ⟨aI, 0, none⟩)), (2, .pointer (some ⟨w1.heap.size, 0, none⟩)), (1, .pointer (some ⟨w.heap.size, 0, none⟩))]) ∧ (Ext w w_) ∧ (RdG w_ 0 w.heap.size Ag0 Ag1 Ag2 cg0 cg1 cg2 g) ∧ (Bx w_ (w.heap.size) [.slice Ag0 g.ow.length cg0, .slice Ag1 g.pr.length cg1, .slice Ag2 g.mv.length cg2] 25) ∧ (Bx w_ (w1.heap.size) [.slice none 0 0, .slice none 0 0, .slice none 0 0] 25) ∧ (OwnR w_ (Sx (aF.heap.size) [obk (aJ), obk (aE), some (aI)]) aD aW 3 (g.ow : List Int)) ∧ (OwnR w_ (Sx (aF.heap.size) [obk (aJ), obk (aD), some (aI)]) aE aX 3 (g.pr : List Int)) ∧ (Bx w_ (aI) [.slice aD ((([] : List Int) ++ g.ow).length) aW, .slice aE ((([] : List Int) ++ g.pr).length) aX, .slice aJ xs.length aT] 25) ∧ (OwnLL w_ (bB.heap.size) [obk (aD), obk (aE)] aJ aT 22 3 (xs : List (List Int))) ∧ (0 ≤ k) ∧ (k ≤ (g.mv.length : Int)) ∧ (xs = g.mv.take k.toNat) ∧ (aF.heap.size ≤ w_.heap.size) ∧ (bB.heap.size ≤ w_.heap.size)) _ ⟨0, ([] : List (List Int)), none, 0, rfl, wO, qR, wL, qS, qT, mP, mQ, (qU.as (by first | rfl | (simp only [List.cons.injEq, Value.slice.injEq, true_and, and_true]; omega))), wN, (by omega), (by omega), rfl, (by omega), (by omega)⟩ ?_
 clear wO wM; clear wL; clear qS; clear qT; clear mP; clear mQ; clear qU; clear wN; clear qR
 intro m_ aCT lD ⟨k, xs, aJ, aT, hm1144, wP, aN, aP, aO, aQ, aG, aH, aK, mR, i1153, i1154, hxs, i1155, i1156⟩
 have := aN.size; have := aO.lt; have := aQ.lt; have := aK.lt
 have hxl : xs.length = k.toNat := by rw [hxs, List.length_take]; omega
 refine wp_seq ?_
 refine wp_seq ?_
 refine At.start ?_
 refine At.rd wP 5 [[], [], [.ld (.slice Ag2 g.mv.length cg2)], [], []] [(18, .bool (decide ((k : Int) < ((g.mv.length : Nat) : Int)))), (17, .int .i64 (((g.mv.length : Nat) : Int))), (16, .slice Ag2 g.mv.length cg2), (15, .pointer (some ⟨w.heap.size, 2, none⟩)), (14, .int .i64 (k))] [(lD.cell? ⟨w.heap.size, 2, none⟩ = some (.slice Ag2 g.mv.length cg2))] (by kernel_rfl) ⟨(aO.cell (i := 2) rfl), trivial⟩ (fun aCU lE => ?_)
 clear wP
 refine At.done rfl ?_
 refine t_n ?_
 refine cond_S lE (t := decide ((k : Int) < ((g.mv.length : Nat) : Int))) rfl (fun qV => ?_) (fun qV => ?_)
 ·have aCV := of_decide_eq_true qV
  refine wp_skip ?_
  refine t_n ?_
  refine wp_seq ?_
  refine wp_block ?_
  obtain ⟨lF, mS, iD, aAI, _, _, aAJ, aCW, aR⟩ := RdII.get aP.mv (k) (by omega) (by omega)
  have aCX := aR.len
  obtain ⟨mT, bV⟩ : ∃ c : List (Addr × Value), c = [(⟨w.heap.size, 2, none⟩, (.slice Ag2 g.mv.length cg2)), ((lF.add ((k : Int).toNat * 1)), (.slice mS ((gL g.mv (k)).length) iD))] := ⟨_, rfl⟩
  have wQ : HoldsC mT lD := by rw [bV]; exact ⟨(aO.cell (i := 2) rfl), aAJ, trivial⟩
  refine AtH.start mT 13 #[false, false, false, false, false, false, false, false, false, false, false, false, false] (by kernel_rfl) rfl rfl (fun bD wR => ?_)
  have cB := gr_drew wR; have mU := wQ.gr cB; have := cB.size; replace aN := aN.gn cB; replace aP := aP.gn cB; replace aO := aO.gn cB; replace aQ := aQ.gn cB; replace aG := aG.gn cB; replace aH := aH.gn cB; replace aK := aK.gn cB; have aC := mR.gn cB; clear mR; replace aR := aR.gn cB; clear cB wR wQ
  refine AtH.rd (by kernel_rfl) (fun d v c a w h => by cases d <;> exact h) mU [0, 3, 4, 5, 6, 7] [[], [], [.ld (.slice Ag2 g.mv.length cg2)], [], [.ad lF], [.ld (.slice mS ((gL g.mv (k)).length) iD)]] [(28, .slice mS ((gL g.mv (k)).length) iD), (27, .pointer (some (lF.add ((k : Int).toNat * 1)))), (26, .int .i64 (k)), (25, .slice Ag2 g.mv.length cg2), (24, .pointer (some ⟨w.heap.size, 2, none⟩)), (21, .pointer (some ⟨aI, 2, none⟩))] #[true, false, false, true, true, true, true, true, false, false, false, false, false] [(∃ j_ : Nat, mT[j_]? = some (⟨w.heap.size, 2, none⟩, (.slice Ag2 g.mv.length cg2))), (Ag2 = some lF), (0 ≤ (k : Int)), ((k : Int) < (g.mv.length : Nat)), (∃ j_ : Nat, mT[j_]? = some ((lF.add ((k : Int).toNat * 1)), (.slice mS ((gL g.mv (k)).length) iD)))] 7 lE (by kernel_rfl) ⟨⟨0, by rw [bV]; rfl⟩, aAI, (by omega), (by omega), ⟨1, by rw [bV]; rfl⟩, trivial⟩ (fun aCY mV => ?_)
  clear lE
  refine AtH.all [1, 2] 6 (by kernel_rfl) (by simp) ⟨?_, ?_, trivial⟩
  ·refine OneH.seq mV [[.ld (.slice aJ xs.length aT)]] [(22, .slice aJ xs.length aT)] bD [(bD.cell? ⟨aI, 2, none⟩ = some (.slice aJ xs.length aT))] #[true, true, false, true, true, true, true, true, false, false, false, false, false] (by kernel_rfl) (by kernel_rfl) (by kernel_rfl) ⟨(aK.cell (i := 2) rfl), trivial⟩ (fun aCZ aAK aAL wS => ?_)
   obtain rfl : bD = aAK := aAL.symm
   clear mV
   refine ⟨mU, ?_⟩
   refine AtH.all [2] 5 (by kernel_rfl) (by simp) ⟨?_, trivial⟩
   refine OneH.seq wS [[]] [(23, .slice (some ⟨bD.heap.size, 0, none⟩) 0 0)] (bD.alloc (.cells #[] 3 (0, 0))) [] #[true, true, true, true, true, true, true, true, false, false, false, false, false] (by kernel_rfl) (by kernel_rfl) (by kernel_rfl) trivial (fun aDa qW qX wT => ?_)
   clear wS; have cC := gr_alloc qX; have wU := mU.gr cC
   refine ⟨wU, ?_⟩
   have := cC.size; replace aN := aN.gn cC; replace aP := aP.gn cC; replace aO := aO.gn cC; replace aQ := aQ.gn cC; replace aG := aG.grN cC; replace aH := aH.grN cC; replace aK := aK.gn cC; replace aC := aC.grN cC; replace aR := aR.gn cC; have qY : Bx qW (bD.heap.size) [] 3 := Bx.new qX; have := qY.lt; clear cC qX
   refine AtH.all [8] 4 (by kernel_rfl) (by simp) ⟨?_, trivial⟩
   have dG : OwnR qW (Sx (bD.heap.size) [obk (aD), obk (aE), obk (aJ)]) (some ⟨bD.heap.size, 0, none⟩) 0 3 ([] : List Int) := Bx.own0 qY ⟨(aG.neb (fun g hs => hs.1)), (aH.neb (fun g hs => hs.1)), (aC.neb (fun g hs => hs.1)), (Nat.le_refl _)⟩
   clear qY; have aAM : (([] : List Int) ++ (gL g.mv (k))).length = (([] : List Int)).length + (gL g.mv (k) : List Int).length := List.length_append
   simp only [List.length_cons, List.length_nil] at aAM
   refine OneH.act wT #[true, true, true, true, true, true, true, true, true, false, false, false, false] (by kernel_rfl) (appendR (α := Int) (t := 22) (d := 29) (n := 0) (m := (gL g.mv (k)).length) (cc := iD) (xs := []) (ys := gL g.mv (k)) (bytes := 8) (by first | rfl | omega | (simp; done) | (simp; omega)) (by first | rfl | omega | (simp; done) | (simp; omega)) (by kernel_rfl) rfl (by kernel_rfl) dG aR.srcR (by simp only [List.length_cons, List.length_nil]; omega) (by simp only [List.length_cons, List.length_nil]; omega)) ?_
   rintro d_ v_ gO ⟨rfl, dH, mW, iE⟩
   obtain rfl := iE.val
   have cD := iE.gr
   have wV := wU.grO cD (by rw [bV]; exact ⟨(fun e => by have := dG.ge _ e; simp only [add_block] at this; omega), (fun e => by have := dG.ge _ e; simp only [add_block] at this; omega), trivial⟩)
   refine ⟨_, rfl, fun aDb wW => ⟨wV, ?_⟩⟩
   clear wT
   have jF := iE.own (Sx (bD.heap.size) [obk (aD), obk (aE), obk (aJ)]) (fun g _ hs => ⟨hs.1, hs.2.1, hs.2.2.1, hs.2.2.2⟩) ⟨aG.ne_new, aH.ne_new, aC.ne_new, (show bD.heap.size ≤ qW.heap.size by omega)⟩
   have := cD.size; replace aN := aN.gr cD (fun k hk => by have := dG.ge k hk; omega); replace aP := aP.gr cD (fun k hk => by have := dG.ge k hk; omega); replace aO := aO.gr cD (fun e => by have := dG.ge _ e; omega); replace aQ := aQ.gr cD (fun e => by have := dG.ge _ e; omega)
   replace aG : OwnR gO (Sx (aF.heap.size) [obk (dH), obk (aJ), obk (aE), some (aI)]) aD aW 3 (g.ow : List Int) := aG.grA cD (fun k hk => hk.1) (fun k hk hs => ⟨own_repl iE.at_ hs.1 hk, hs.2.1, hs.2.2.1, hs.2.2.2.1, hs.2.2.2.2⟩)
   replace aH : OwnR gO (Sx (aF.heap.size) [obk (dH), obk (aJ), obk (aD), some (aI)]) aE aX 3 (g.pr : List Int) := aH.grA cD (fun k hk => hk.1) (fun k hk hs => ⟨own_repl iE.at_ hs.1 hk, hs.2.1, hs.2.2.1, hs.2.2.2.1, hs.2.2.2.2⟩)
   replace aK := aK.gr cD (fun e => by have := dG.ge _ e; omega)
   replace aC : OwnLL gO (bB.heap.size) [obk (dH), obk (aD), obk (aE)] aJ aT 22 3 (xs : List (List Int)) := aC.grA cD (fun k hk => hk.1) (fun k hk hs => ⟨own_repl iE.at_ hs.1 hk, hs.2.1, hs.2.2.1, hs.2.2.2⟩)
   replace aR := aR.gr cD (fun k hk => by have := dG.ge k hk; omega); clear dG cD iE; replace jF : OwnR gO (Sx (bD.heap.size) [obk (aD), obk (aE), obk (aJ)]) dH mW 3 (gL g.mv (k) : List Int) := jF
   refine AtH.all [9] 3 (by kernel_rfl) (by simp) ⟨?_, trivial⟩
   refine OneH.seq wW [[]] [(30, .slice (some ⟨gO.heap.size, 0, none⟩) 1 1)] (gO.alloc (.cells #[.slice dH ((([] : List Int) ++ (gL g.mv (k))).length) mW] 22 (0, 0))) [] #[true, true, true, true, true, true, true, true, true, true, false, false, false] (by kernel_rfl) (by kernel_rfl) (by kernel_rfl) trivial (fun aDc mX qZ wX => ?_)
   clear wW; have bX := gr_alloc qZ; have wY := wV.gr bX
   refine ⟨wY, ?_⟩
   have := bX.size; replace aN := aN.gn bX; replace aP := aP.gn bX; replace aO := aO.gn bX; replace aQ := aQ.gn bX; replace aG := aG.grN bX; replace aH := aH.grN bX; replace aK := aK.gn bX; replace aC := aC.grN bX; replace aR := aR.gn bX; replace jF := jF.grN bX; have rA : Bx mX (gO.heap.size) [.slice dH ((([] : List Int) ++ (gL g.mv (k))).length) mW] 22 := Bx.new qZ; have := rA.lt; clear bX qZ
   refine AtH.all [10] 2 (by kernel_rfl) (by simp) ⟨?_, trivial⟩
   have wZ : OwnR mX (Sx (bB.heap.size) [obk (aD), obk (aE)]) dH mW 3 (gL g.mv (k) : List Int) := jF.imp (fun g _ hs => ⟨hs.2.1, hs.2.2.1, (by have := Sx_base hs; show bB.heap.size ≤ g; omega)⟩)
   have xA : OwnLL mX (bB.heap.size) [obk (dH), obk (aD), obk (aE)] aJ aT 22 3 (xs : List (List Int)) := (aC.imp (fun g _ hs => ⟨hs.2.1, hs.2.2.1, hs.2.2.2.1, hs.2.2.2.2⟩))
   have aDd : (xs ++ [gL g.mv (k)]).length = (xs).length + 1 := by simp
   refine OneH.act wX #[true, true, true, true, true, true, true, true, true, true, true, false, false] (by kernel_rfl) (appendLL (t := 23) (d := 31) (n := xs.length) (m := 1) (cc := 1) (ls := xs) (xs := gL g.mv (k)) (bytes := 24) (by first | rfl | omega | (simp; done) | (simp; omega)) (by kernel_rfl) (by kernel_rfl) (rA.as (by first | rfl | (simp; done))) xA wZ ⟨aG.ne_new, aH.ne_new, (show bB.heap.size ≤ mX.heap.size by omega)⟩ (by omega) (by omega)) ?_
   rintro d_ v_ xB ⟨rfl, lG, rB, rfl, cP, rC, rD⟩
   have rE := wY.grO cP (by rw [bV]; exact ⟨(fun e => by have := aC.ge _ e; simp only [add_block] at this; omega), (fun e => by have := aC.ge _ e; simp only [add_block] at this; omega), trivial⟩)
   refine ⟨_, rfl, fun aDe xC => ⟨rE, ?_⟩⟩
   clear wX; clear rA jF wZ xA; have := cP.size; replace aN := aN.gr cP (fun k hk => by have := aC.ge k hk; omega); replace aP := aP.gr cP (fun k hk => by have := aC.ge k hk; omega); replace aO := aO.gr cP (fun e => by have := aC.ge _ e; omega); replace aQ := aQ.gr cP (fun e => by have := aC.ge _ e; omega)
   replace aG : OwnR xB (Sx (aF.heap.size) [some (gO.heap.size), obk (dH), obk (lG), obk (aE), some (aI)]) aD aW 3 (g.ow : List Int) := aG.grA cP (fun k hk => hk.2.2.1) (fun k hk hs => ⟨hs.1, hs.2.1, own_repl rC hs.2.2.1 hk, hs.2.2.2.1, hs.2.2.2.2.1, hs.2.2.2.2.2⟩)
   replace aH : OwnR xB (Sx (aF.heap.size) [some (gO.heap.size), obk (dH), obk (lG), obk (aD), some (aI)]) aE aX 3 (g.pr : List Int) := aH.grA cP (fun k hk => hk.2.2.1) (fun k hk hs => ⟨hs.1, hs.2.1, own_repl rC hs.2.2.1 hk, hs.2.2.2.1, hs.2.2.2.2.1, hs.2.2.2.2.2⟩)
   replace aK := aK.gr cP (fun e => by have := aC.ge _ e; omega); replace aR := aR.gr cP (fun k hk => by have := aC.ge k hk; omega); clear aC cP rC
   refine AtH.rd (by kernel_rfl) (fun d v c a w h => by cases d <;> exact h) rE [11] [[]] [(32, .pointer (some ⟨aI, 2, none⟩))] #[true, true, true, true, true, true, true, true, true, true, true, true, false] [] 1 xC (by kernel_rfl) trivial (fun aDf xD => ?_)
   clear xC
   refine AtH.all [12] 0 (by kernel_rfl) (by simp) ⟨?_, trivial⟩
   refine OneH.store xD (t := 23) (b := aI) (off := 2) (v := .slice lG ((xs ++ [gL g.mv (k)]).length) rB) #[true, true, true, true, true, true, true, true, true, true, true, true, true] (by kernel_rfl) (by kernel_rfl) aK (by kernel_rfl) (fun aDg aAN cQ rF xE => ?_)
   clear xD
   replace rF : Bx aAN (aI) [.slice aD ((([] : List Int) ++ g.ow).length) aW, .slice aE ((([] : List Int) ++ g.pr).length) aX, .slice lG ((xs ++ [gL g.mv (k)]).length) rB] 25 := rF
   have xF := rE.gr' cQ (by rw [bV]; exact ⟨(by simp only [add_block]; omega), (by simp only [add_block]; omega), trivial⟩); have := cQ.size; replace aN := aN.gr cQ (fun k h => by injection h; omega); replace aP := aP.gb cQ (by omega); replace aO := aO.gb cQ (by omega); replace aQ := aQ.gb cQ (by omega); replace aG := aG.gr cQ (fun k hk => hk.2.2.2.2.1)
   replace aH := aH.gr cQ (fun k hk => hk.2.2.2.2.1); replace aR := aR.gb cQ (by omega); replace rD := rD.gr cQ (fun k hk e => by have := Sx_base hk; injection e; omega); clear aK cQ
   refine ⟨xF, ?_⟩
   refine AtH.done (by kernel_rfl) ?_
   clear xF
   refine b_n ?_
   refine t_n ?_
   refine At.start ?_
   refine At.rd xE 3 [[], [.as_ (.int .i64 (k + 1))], []] [(4, .int .i64 (k + 1)), (20, .int .i64 (k + 1)), (19, .int .i64 (k))] [((.int .i64 (IntKind.i64.wrap (k + 1)) : Value) = .int .i64 (k + 1))] (by kernel_rfl) ⟨(w64 (by omega) (by omega)), trivial⟩ (fun aDh aAO => ?_)
   clear xE
   refine At.done rfl ?_
   refine t_n ?_
   have aAP := aAO.sub (r := [(4, .int .i64 (k + 1)), (3, .pointer (some ⟨aI, 0, none⟩)), (2, .pointer (some ⟨w1.heap.size, 0, none⟩)), (1, .pointer (some ⟨w.heap.size, 0, none⟩))]) ⟨rfl, rfl, rfl, rfl, trivial⟩
   exact ⟨_, (by omega), (k + 1), (xs ++ [gL g.mv (k)] : List (List Int)), lG, rB, rfl, aAP, aN, aP, aO, aQ, (aG.imp (fun g _ hs => ⟨hs.2.2.1, hs.2.2.2.1, hs.2.2.2.2.1, hs.2.2.2.2.2⟩)), (aH.imp (fun g _ hs => ⟨hs.2.2.1, hs.2.2.2.1, hs.2.2.2.2.1, hs.2.2.2.2.2⟩)), rF, rD, (by omega), (by omega), (takeLL_push hxs (by omega) (by omega)), (by omega), (by omega)⟩
  refine OneH.seq mV [[]] [(23, .slice (some ⟨bD.heap.size, 0, none⟩) 0 0)] (bD.alloc (.cells #[] 3 (0, 0))) [] #[true, false, true, true, true, true, true, true, false, false, false, false, false] (by kernel_rfl) (by kernel_rfl) (by kernel_rfl) trivial (fun aDi hJ rG mY => ?_)
  clear mV; have cE := gr_alloc rG; have mZ := mU.gr cE
  refine ⟨mZ, ?_⟩
  have := cE.size; replace aN := aN.gn cE; replace aP := aP.gn cE; replace aO := aO.gn cE; replace aQ := aQ.gn cE; replace aG := aG.grN cE; replace aH := aH.grN cE; replace aK := aK.gn cE; replace aC := aC.grN cE; replace aR := aR.gn cE; have lH : Bx hJ (bD.heap.size) [] 3 := Bx.new rG; have := lH.lt; clear cE rG
  refine AtH.all [1, 8] 5 (by kernel_rfl) (by simp) ⟨?_, ?_, trivial⟩
  ·refine OneH.seq mY [[.ld (.slice aJ xs.length aT)]] [(22, .slice aJ xs.length aT)] hJ [(hJ.cell? ⟨aI, 2, none⟩ = some (.slice aJ xs.length aT))] #[true, true, true, true, true, true, true, true, false, false, false, false, false] (by kernel_rfl) (by kernel_rfl) (by kernel_rfl) ⟨(aK.cell (i := 2) rfl), trivial⟩ (fun aDj aAQ aAR xG => ?_)
   obtain rfl : hJ = aAQ := aAR.symm
   clear mY
   refine ⟨mZ, ?_⟩
   refine AtH.all [8] 4 (by kernel_rfl) (by simp) ⟨?_, trivial⟩
   have dI : OwnR hJ (Sx (bD.heap.size) [obk (aD), obk (aE), obk (aJ)]) (some ⟨bD.heap.size, 0, none⟩) 0 3 ([] : List Int) := Bx.own0 lH ⟨(aG.neb (fun g hs => hs.1)), (aH.neb (fun g hs => hs.1)), (aC.neb (fun g hs => hs.1)), (Nat.le_refl _)⟩
   clear lH; have aAS : (([] : List Int) ++ (gL g.mv (k))).length = (([] : List Int)).length + (gL g.mv (k) : List Int).length := List.length_append
   simp only [List.length_cons, List.length_nil] at aAS
   refine OneH.act xG #[true, true, true, true, true, true, true, true, true, false, false, false, false] (by kernel_rfl) (appendR (α := Int) (t := 22) (d := 29) (n := 0) (m := (gL g.mv (k)).length) (cc := iD) (xs := []) (ys := gL g.mv (k)) (bytes := 8) (by first | rfl | omega | (simp; done) | (simp; omega)) (by first | rfl | omega | (simp; done) | (simp; omega)) (by kernel_rfl) rfl (by kernel_rfl) dI aR.srcR (by simp only [List.length_cons, List.length_nil]; omega) (by simp only [List.length_cons, List.length_nil]; omega)) ?_
   rintro d_ v_ gP ⟨rfl, dJ, nA, iF⟩
   obtain rfl := iF.val
   have cF := iF.gr
   have xH := mZ.grO cF (by rw [bV]; exact ⟨(fun e => by have := dI.ge _ e; simp only [add_block] at this; omega), (fun e => by have := dI.ge _ e; simp only [add_block] at this; omega), trivial⟩)
   refine ⟨_, rfl, fun aDk xI => ⟨xH, ?_⟩⟩
   clear xG
   have jG := iF.own (Sx (bD.heap.size) [obk (aD), obk (aE), obk (aJ)]) (fun g _ hs => ⟨hs.1, hs.2.1, hs.2.2.1, hs.2.2.2⟩) ⟨aG.ne_new, aH.ne_new, aC.ne_new, (show bD.heap.size ≤ hJ.heap.size by omega)⟩
   have := cF.size; replace aN := aN.gr cF (fun k hk => by have := dI.ge k hk; omega); replace aP := aP.gr cF (fun k hk => by have := dI.ge k hk; omega); replace aO := aO.gr cF (fun e => by have := dI.ge _ e; omega); replace aQ := aQ.gr cF (fun e => by have := dI.ge _ e; omega)
   replace aG : OwnR gP (Sx (aF.heap.size) [obk (dJ), obk (aJ), obk (aE), some (aI)]) aD aW 3 (g.ow : List Int) := aG.grA cF (fun k hk => hk.1) (fun k hk hs => ⟨own_repl iF.at_ hs.1 hk, hs.2.1, hs.2.2.1, hs.2.2.2.1, hs.2.2.2.2⟩)
   replace aH : OwnR gP (Sx (aF.heap.size) [obk (dJ), obk (aJ), obk (aD), some (aI)]) aE aX 3 (g.pr : List Int) := aH.grA cF (fun k hk => hk.1) (fun k hk hs => ⟨own_repl iF.at_ hs.1 hk, hs.2.1, hs.2.2.1, hs.2.2.2.1, hs.2.2.2.2⟩)
   replace aK := aK.gr cF (fun e => by have := dI.ge _ e; omega)
   replace aC : OwnLL gP (bB.heap.size) [obk (dJ), obk (aD), obk (aE)] aJ aT 22 3 (xs : List (List Int)) := aC.grA cF (fun k hk => hk.1) (fun k hk hs => ⟨own_repl iF.at_ hs.1 hk, hs.2.1, hs.2.2.1, hs.2.2.2⟩)
   replace aR := aR.gr cF (fun k hk => by have := dI.ge k hk; omega); clear dI cF iF; replace jG : OwnR gP (Sx (bD.heap.size) [obk (aD), obk (aE), obk (aJ)]) dJ nA 3 (gL g.mv (k) : List Int) := jG
   refine AtH.all [9] 3 (by kernel_rfl) (by simp) ⟨?_, trivial⟩
   refine OneH.seq xI [[]] [(30, .slice (some ⟨gP.heap.size, 0, none⟩) 1 1)] (gP.alloc (.cells #[.slice dJ ((([] : List Int) ++ (gL g.mv (k))).length) nA] 22 (0, 0))) [] #[true, true, true, true, true, true, true, true, true, true, false, false, false] (by kernel_rfl) (by kernel_rfl) (by kernel_rfl) trivial (fun aDl nB rH xJ => ?_)
   clear xI; have bY := gr_alloc rH; have xK := xH.gr bY
   refine ⟨xK, ?_⟩
   have := bY.size; replace aN := aN.gn bY; replace aP := aP.gn bY; replace aO := aO.gn bY; replace aQ := aQ.gn bY; replace aG := aG.grN bY; replace aH := aH.grN bY; replace aK := aK.gn bY; replace aC := aC.grN bY; replace aR := aR.gn bY; replace jG := jG.grN bY; have rI : Bx nB (gP.heap.size) [.slice dJ ((([] : List Int) ++ (gL g.mv (k))).length) nA] 22 := Bx.new rH; have := rI.lt; clear bY rH
   refine AtH.all [10] 2 (by kernel_rfl) (by simp) ⟨?_, trivial⟩
   have xL : OwnR nB (Sx (bB.heap.size) [obk (aD), obk (aE)]) dJ nA 3 (gL g.mv (k) : List Int) := jG.imp (fun g _ hs => ⟨hs.2.1, hs.2.2.1, (by have := Sx_base hs; show bB.heap.size ≤ g; omega)⟩)
   have xM : OwnLL nB (bB.heap.size) [obk (dJ), obk (aD), obk (aE)] aJ aT 22 3 (xs : List (List Int)) := (aC.imp (fun g _ hs => ⟨hs.2.1, hs.2.2.1, hs.2.2.2.1, hs.2.2.2.2⟩))
   have aDm : (xs ++ [gL g.mv (k)]).length = (xs).length + 1 := by simp
   refine OneH.act xJ #[true, true, true, true, true, true, true, true, true, true, true, false, false] (by kernel_rfl) (appendLL (t := 23) (d := 31) (n := xs.length) (m := 1) (cc := 1) (ls := xs) (xs := gL g.mv (k)) (bytes := 24) (by first | rfl | omega | (simp; done) | (simp; omega)) (by kernel_rfl) (by kernel_rfl) (rI.as (by first | rfl | (simp; done))) xM xL ⟨aG.ne_new, aH.ne_new, (show bB.heap.size ≤ nB.heap.size by omega)⟩ (by omega) (by omega)) ?_
   rintro d_ v_ xN ⟨rfl, lI, rJ, rfl, cR, rK, rL⟩
   have rM := xK.grO cR (by rw [bV]; exact ⟨(fun e => by have := aC.ge _ e; simp only [add_block] at this; omega), (fun e => by have := aC.ge _ e; simp only [add_block] at this; omega), trivial⟩)
   refine ⟨_, rfl, fun aDn xO => ⟨rM, ?_⟩⟩
   clear xJ; clear rI jG xL xM; have := cR.size; replace aN := aN.gr cR (fun k hk => by have := aC.ge k hk; omega); replace aP := aP.gr cR (fun k hk => by have := aC.ge k hk; omega); replace aO := aO.gr cR (fun e => by have := aC.ge _ e; omega); replace aQ := aQ.gr cR (fun e => by have := aC.ge _ e; omega)
   replace aG : OwnR xN (Sx (aF.heap.size) [some (gP.heap.size), obk (dJ), obk (lI), obk (aE), some (aI)]) aD aW 3 (g.ow : List Int) := aG.grA cR (fun k hk => hk.2.2.1) (fun k hk hs => ⟨hs.1, hs.2.1, own_repl rK hs.2.2.1 hk, hs.2.2.2.1, hs.2.2.2.2.1, hs.2.2.2.2.2⟩)
   replace aH : OwnR xN (Sx (aF.heap.size) [some (gP.heap.size), obk (dJ), obk (lI), obk (aD), some (aI)]) aE aX 3 (g.pr : List Int) := aH.grA cR (fun k hk => hk.2.2.1) (fun k hk hs => ⟨hs.1, hs.2.1, own_repl rK hs.2.2.1 hk, hs.2.2.2.1, hs.2.2.2.2.1, hs.2.2.2.2.2⟩)
   replace aK := aK.gr cR (fun e => by have := aC.ge _ e; omega); replace aR := aR.gr cR (fun k hk => by have := aC.ge k hk; omega); clear aC cR rK
   refine AtH.rd (by kernel_rfl) (fun d v c a w h => by cases d <;> exact h) rM [11] [[]] [(32, .pointer (some ⟨aI, 2, none⟩))] #[true, true, true, true, true, true, true, true, true, true, true, true, false] [] 1 xO (by kernel_rfl) trivial (fun aDo xP => ?_)
   clear xO
   refine AtH.all [12] 0 (by kernel_rfl) (by simp) ⟨?_, trivial⟩
   refine OneH.store xP (t := 23) (b := aI) (off := 2) (v := .slice lI ((xs ++ [gL g.mv (k)]).length) rJ) #[true, true, true, true, true, true, true, true, true, true, true, true, true] (by kernel_rfl) (by kernel_rfl) aK (by kernel_rfl) (fun aDp aAT cS rN xQ => ?_)
   clear xP
   replace rN : Bx aAT (aI) [.slice aD ((([] : List Int) ++ g.ow).length) aW, .slice aE ((([] : List Int) ++ g.pr).length) aX, .slice lI ((xs ++ [gL g.mv (k)]).length) rJ] 25 := rN
   have xR := rM.gr' cS (by rw [bV]; exact ⟨(by simp only [add_block]; omega), (by simp only [add_block]; omega), trivial⟩); have := cS.size; replace aN := aN.gr cS (fun k h => by injection h; omega); replace aP := aP.gb cS (by omega); replace aO := aO.gb cS (by omega); replace aQ := aQ.gb cS (by omega); replace aG := aG.gr cS (fun k hk => hk.2.2.2.2.1)
   replace aH := aH.gr cS (fun k hk => hk.2.2.2.2.1); replace aR := aR.gb cS (by omega); replace rL := rL.gr cS (fun k hk e => by have := Sx_base hk; injection e; omega); clear aK cS
   refine ⟨xR, ?_⟩
   refine AtH.done (by kernel_rfl) ?_
   clear xR
   refine b_n ?_
   refine t_n ?_
   refine At.start ?_
   refine At.rd xQ 3 [[], [.as_ (.int .i64 (k + 1))], []] [(4, .int .i64 (k + 1)), (20, .int .i64 (k + 1)), (19, .int .i64 (k))] [((.int .i64 (IntKind.i64.wrap (k + 1)) : Value) = .int .i64 (k + 1))] (by kernel_rfl) ⟨(w64 (by omega) (by omega)), trivial⟩ (fun aDq aAU => ?_)
   clear xQ
   refine At.done rfl ?_
   refine t_n ?_
   have aAV := aAU.sub (r := [(4, .int .i64 (k + 1)), (3, .pointer (some ⟨aI, 0, none⟩)), (2, .pointer (some ⟨w1.heap.size, 0, none⟩)), (1, .pointer (some ⟨w.heap.size, 0, none⟩))]) ⟨rfl, rfl, rfl, rfl, trivial⟩
   exact ⟨_, (by omega), (k + 1), (xs ++ [gL g.mv (k)] : List (List Int)), lI, rJ, rfl, aAV, aN, aP, aO, aQ, (aG.imp (fun g _ hs => ⟨hs.2.2.1, hs.2.2.2.1, hs.2.2.2.2.1, hs.2.2.2.2.2⟩)), (aH.imp (fun g _ hs => ⟨hs.2.2.1, hs.2.2.2.1, hs.2.2.2.2.1, hs.2.2.2.2.2⟩)), rN, rL, (by omega), (by omega), (takeLL_push hxs (by omega) (by omega)), (by omega), (by omega)⟩
  have dK : OwnR hJ (Sx (bD.heap.size) [obk (aD), obk (aE), obk (aJ)]) (some ⟨bD.heap.size, 0, none⟩) 0 3 ([] : List Int) := Bx.own0 lH ⟨(aG.neb (fun g hs => hs.1)), (aH.neb (fun g hs => hs.1)), (aC.neb (fun g hs => hs.1)), (Nat.le_refl _)⟩
  clear lH; have aAW : (([] : List Int) ++ (gL g.mv (k))).length = (([] : List Int)).length + (gL g.mv (k) : List Int).length := List.length_append
  simp only [List.length_cons, List.length_nil] at aAW
  refine OneH.act mY #[true, false, true, true, true, true, true, true, true, false, false, false, false] (by kernel_rfl) (appendR (α := Int) (t := 22) (d := 29) (n := 0) (m := (gL g.mv (k)).length) (cc := iD) (xs := []) (ys := gL g.mv (k)) (bytes := 8) (by first | rfl | omega | (simp; done) | (simp; omega)) (by first | rfl | omega | (simp; done) | (simp; omega)) (by kernel_rfl) rfl (by kernel_rfl) dK aR.srcR (by simp only [List.length_cons, List.length_nil]; omega) (by simp only [List.length_cons, List.length_nil]; omega)) ?_
  rintro d_ v_ bM ⟨rfl, bP, iG, iH⟩
  obtain rfl := iH.val
  have cG := iH.gr
  have nC := mZ.grO cG (by rw [bV]; exact ⟨(fun e => by have := dK.ge _ e; simp only [add_block] at this; omega), (fun e => by have := dK.ge _ e; simp only [add_block] at this; omega), trivial⟩)
  refine ⟨_, rfl, fun aDr nD => ⟨nC, ?_⟩⟩
  clear mY
  have dL := iH.own (Sx (bD.heap.size) [obk (aD), obk (aE), obk (aJ)]) (fun g _ hs => ⟨hs.1, hs.2.1, hs.2.2.1, hs.2.2.2⟩) ⟨aG.ne_new, aH.ne_new, aC.ne_new, (show bD.heap.size ≤ hJ.heap.size by omega)⟩
  have := cG.size; replace aN := aN.gr cG (fun k hk => by have := dK.ge k hk; omega); replace aP := aP.gr cG (fun k hk => by have := dK.ge k hk; omega); replace aO := aO.gr cG (fun e => by have := dK.ge _ e; omega); replace aQ := aQ.gr cG (fun e => by have := dK.ge _ e; omega)
  replace aG : OwnR bM (Sx (aF.heap.size) [obk (bP), obk (aJ), obk (aE), some (aI)]) aD aW 3 (g.ow : List Int) := aG.grA cG (fun k hk => hk.1) (fun k hk hs => ⟨own_repl iH.at_ hs.1 hk, hs.2.1, hs.2.2.1, hs.2.2.2.1, hs.2.2.2.2⟩)
  replace aH : OwnR bM (Sx (aF.heap.size) [obk (bP), obk (aJ), obk (aD), some (aI)]) aE aX 3 (g.pr : List Int) := aH.grA cG (fun k hk => hk.1) (fun k hk hs => ⟨own_repl iH.at_ hs.1 hk, hs.2.1, hs.2.2.1, hs.2.2.2.1, hs.2.2.2.2⟩)
  replace aK := aK.gr cG (fun e => by have := dK.ge _ e; omega)
  replace aC : OwnLL bM (bB.heap.size) [obk (bP), obk (aD), obk (aE)] aJ aT 22 3 (xs : List (List Int)) := aC.grA cG (fun k hk => hk.1) (fun k hk hs => ⟨own_repl iH.at_ hs.1 hk, hs.2.1, hs.2.2.1, hs.2.2.2⟩)
  replace aR := aR.gr cG (fun k hk => by have := dK.ge k hk; omega); clear dK cG iH; replace dL : OwnR bM (Sx (bD.heap.size) [obk (aD), obk (aE), obk (aJ)]) bP iG 3 (gL g.mv (k) : List Int) := dL
  refine AtH.all [1, 9] 4 (by kernel_rfl) (by simp) ⟨?_, ?_, trivial⟩
  ·refine OneH.seq nD [[.ld (.slice aJ xs.length aT)]] [(22, .slice aJ xs.length aT)] bM [(bM.cell? ⟨aI, 2, none⟩ = some (.slice aJ xs.length aT))] #[true, true, true, true, true, true, true, true, true, false, false, false, false] (by kernel_rfl) (by kernel_rfl) (by kernel_rfl) ⟨(aK.cell (i := 2) rfl), trivial⟩ (fun aDs aAX aAY xS => ?_)
   obtain rfl : bM = aAX := aAY.symm
   clear nD
   refine ⟨nC, ?_⟩
   refine AtH.all [9] 3 (by kernel_rfl) (by simp) ⟨?_, trivial⟩
   refine OneH.seq xS [[]] [(30, .slice (some ⟨bM.heap.size, 0, none⟩) 1 1)] (bM.alloc (.cells #[.slice bP ((([] : List Int) ++ (gL g.mv (k))).length) iG] 22 (0, 0))) [] #[true, true, true, true, true, true, true, true, true, true, false, false, false] (by kernel_rfl) (by kernel_rfl) (by kernel_rfl) trivial (fun aDt nE rO xT => ?_)
   clear xS; have bZ := gr_alloc rO; have xU := nC.gr bZ
   refine ⟨xU, ?_⟩
   have := bZ.size; replace aN := aN.gn bZ; replace aP := aP.gn bZ; replace aO := aO.gn bZ; replace aQ := aQ.gn bZ; replace aG := aG.grN bZ; replace aH := aH.grN bZ; replace aK := aK.gn bZ; replace aC := aC.grN bZ; replace aR := aR.gn bZ; replace dL := dL.grN bZ; have rP : Bx nE (bM.heap.size) [.slice bP ((([] : List Int) ++ (gL g.mv (k))).length) iG] 22 := Bx.new rO; have := rP.lt; clear bZ rO
   refine AtH.all [10] 2 (by kernel_rfl) (by simp) ⟨?_, trivial⟩
   have xV : OwnR nE (Sx (bB.heap.size) [obk (aD), obk (aE)]) bP iG 3 (gL g.mv (k) : List Int) := dL.imp (fun g _ hs => ⟨hs.2.1, hs.2.2.1, (by have := Sx_base hs; show bB.heap.size ≤ g; omega)⟩)
   have xW : OwnLL nE (bB.heap.size) [obk (bP), obk (aD), obk (aE)] aJ aT 22 3 (xs : List (List Int)) := (aC.imp (fun g _ hs => ⟨hs.2.1, hs.2.2.1, hs.2.2.2.1, hs.2.2.2.2⟩))
   have aDu : (xs ++ [gL g.mv (k)]).length = (xs).length + 1 := by simp
   refine OneH.act xT #[true, true, true, true, true, true, true, true, true, true, true, false, false] (by kernel_rfl) (appendLL (t := 23) (d := 31) (n := xs.length) (m := 1) (cc := 1) (ls := xs) (xs := gL g.mv (k)) (bytes := 24) (by first | rfl | omega | (simp; done) | (simp; omega)) (by kernel_rfl) (by kernel_rfl) (rP.as (by first | rfl | (simp; done))) xW xV ⟨aG.ne_new, aH.ne_new, (show bB.heap.size ≤ nE.heap.size by omega)⟩ (by omega) (by omega)) ?_
   rintro d_ v_ xX ⟨rfl, lJ, rQ, rfl, cT, rR, rS⟩
   have rT := xU.grO cT (by rw [bV]; exact ⟨(fun e => by have := aC.ge _ e; simp only [add_block] at this; omega), (fun e => by have := aC.ge _ e; simp only [add_block] at this; omega), trivial⟩)
   refine ⟨_, rfl, fun aDv xY => ⟨rT, ?_⟩⟩
   clear xT; clear rP dL xV xW; have := cT.size; replace aN := aN.gr cT (fun k hk => by have := aC.ge k hk; omega); replace aP := aP.gr cT (fun k hk => by have := aC.ge k hk; omega); replace aO := aO.gr cT (fun e => by have := aC.ge _ e; omega); replace aQ := aQ.gr cT (fun e => by have := aC.ge _ e; omega)
   replace aG : OwnR xX (Sx (aF.heap.size) [some (bM.heap.size), obk (bP), obk (lJ), obk (aE), some (aI)]) aD aW 3 (g.ow : List Int) := aG.grA cT (fun k hk => hk.2.2.1) (fun k hk hs => ⟨hs.1, hs.2.1, own_repl rR hs.2.2.1 hk, hs.2.2.2.1, hs.2.2.2.2.1, hs.2.2.2.2.2⟩)
   replace aH : OwnR xX (Sx (aF.heap.size) [some (bM.heap.size), obk (bP), obk (lJ), obk (aD), some (aI)]) aE aX 3 (g.pr : List Int) := aH.grA cT (fun k hk => hk.2.2.1) (fun k hk hs => ⟨hs.1, hs.2.1, own_repl rR hs.2.2.1 hk, hs.2.2.2.1, hs.2.2.2.2.1, hs.2.2.2.2.2⟩)
   replace aK := aK.gr cT (fun e => by have := aC.ge _ e; omega); replace aR := aR.gr cT (fun k hk => by have := aC.ge k hk; omega); clear aC cT rR
   refine AtH.rd (by kernel_rfl) (fun d v c a w h => by cases d <;> exact h) rT [11] [[]] [(32, .pointer (some ⟨aI, 2, none⟩))] #[true, true, true, true, true, true, true, true, true, true, true, true, false] [] 1 xY (by kernel_rfl) trivial (fun aDw xZ => ?_)
   clear xY
   refine AtH.all [12] 0 (by kernel_rfl) (by simp) ⟨?_, trivial⟩
   refine OneH.store xZ (t := 23) (b := aI) (off := 2) (v := .slice lJ ((xs ++ [gL g.mv (k)]).length) rQ) #[true, true, true, true, true, true, true, true, true, true, true, true, true] (by kernel_rfl) (by kernel_rfl) aK (by kernel_rfl) (fun aDx aAZ cU rU yA => ?_)
   clear xZ
   replace rU : Bx aAZ (aI) [.slice aD ((([] : List Int) ++ g.ow).length) aW, .slice aE ((([] : List Int) ++ g.pr).length) aX, .slice lJ ((xs ++ [gL g.mv (k)]).length) rQ] 25 := rU
   have yB := rT.gr' cU (by rw [bV]; exact ⟨(by simp only [add_block]; omega), (by simp only [add_block]; omega), trivial⟩); have := cU.size; replace aN := aN.gr cU (fun k h => by injection h; omega); replace aP := aP.gb cU (by omega); replace aO := aO.gb cU (by omega); replace aQ := aQ.gb cU (by omega); replace aG := aG.gr cU (fun k hk => hk.2.2.2.2.1)
   replace aH := aH.gr cU (fun k hk => hk.2.2.2.2.1); replace aR := aR.gb cU (by omega); replace rS := rS.gr cU (fun k hk e => by have := Sx_base hk; injection e; omega); clear aK cU
   refine ⟨yB, ?_⟩
   refine AtH.done (by kernel_rfl) ?_
   clear yB
   refine b_n ?_
   refine t_n ?_
   refine At.start ?_
   refine At.rd yA 3 [[], [.as_ (.int .i64 (k + 1))], []] [(4, .int .i64 (k + 1)), (20, .int .i64 (k + 1)), (19, .int .i64 (k))] [((.int .i64 (IntKind.i64.wrap (k + 1)) : Value) = .int .i64 (k + 1))] (by kernel_rfl) ⟨(w64 (by omega) (by omega)), trivial⟩ (fun aDy aBa => ?_)
   clear yA
   refine At.done rfl ?_
   refine t_n ?_
   have aBb := aBa.sub (r := [(4, .int .i64 (k + 1)), (3, .pointer (some ⟨aI, 0, none⟩)), (2, .pointer (some ⟨w1.heap.size, 0, none⟩)), (1, .pointer (some ⟨w.heap.size, 0, none⟩))]) ⟨rfl, rfl, rfl, rfl, trivial⟩
   exact ⟨_, (by omega), (k + 1), (xs ++ [gL g.mv (k)] : List (List Int)), lJ, rQ, rfl, aBb, aN, aP, aO, aQ, (aG.imp (fun g _ hs => ⟨hs.2.2.1, hs.2.2.2.1, hs.2.2.2.2.1, hs.2.2.2.2.2⟩)), (aH.imp (fun g _ hs => ⟨hs.2.2.1, hs.2.2.2.1, hs.2.2.2.2.1, hs.2.2.2.2.2⟩)), rU, rS, (by omega), (by omega), (takeLL_push hxs (by omega) (by omega)), (by omega), (by omega)⟩
  refine OneH.seq nD [[]] [(30, .slice (some ⟨bM.heap.size, 0, none⟩) 1 1)] (bM.alloc (.cells #[.slice bP ((([] : List Int) ++ (gL g.mv (k))).length) iG] 22 (0, 0))) [] #[true, false, true, true, true, true, true, true, true, true, false, false, false] (by kernel_rfl) (by kernel_rfl) (by kernel_rfl) trivial (fun aDz iI rV yC => ?_)
  clear nD; have cA := gr_alloc rV; have rW := nC.gr cA
  refine ⟨rW, ?_⟩
  have := cA.size; replace aN := aN.gn cA; replace aP := aP.gn cA; replace aO := aO.gn cA; replace aQ := aQ.gn cA; replace aG := aG.grN cA; replace aH := aH.grN cA; replace aK := aK.gn cA; replace aC := aC.grN cA; replace aR := aR.gn cA; replace dL := dL.grN cA; have rX : Bx iI (bM.heap.size) [.slice bP ((([] : List Int) ++ (gL g.mv (k))).length) iG] 22 := Bx.new rV; have := rX.lt; clear cA rV
  refine AtH.all [1] 3 (by kernel_rfl) (by simp) ⟨?_, trivial⟩
  refine OneH.seq yC [[.ld (.slice aJ xs.length aT)]] [(22, .slice aJ xs.length aT)] iI [(iI.cell? ⟨aI, 2, none⟩ = some (.slice aJ xs.length aT))] #[true, true, true, true, true, true, true, true, true, true, false, false, false] (by kernel_rfl) (by kernel_rfl) (by kernel_rfl) ⟨(aK.cell (i := 2) rfl), trivial⟩ (fun aDA aBc aBd yD => ?_)
  obtain rfl : iI = aBc := aBd.symm
  clear yC
  refine ⟨rW, ?_⟩
  refine AtH.all [10] 2 (by kernel_rfl) (by simp) ⟨?_, trivial⟩
  have yE : OwnR iI (Sx (bB.heap.size) [obk (aD), obk (aE)]) bP iG 3 (gL g.mv (k) : List Int) := dL.imp (fun g _ hs => ⟨hs.2.1, hs.2.2.1, (by have := Sx_base hs; show bB.heap.size ≤ g; omega)⟩)
  have yF : OwnLL iI (bB.heap.size) [obk (bP), obk (aD), obk (aE)] aJ aT 22 3 (xs : List (List Int)) := (aC.imp (fun g _ hs => ⟨hs.2.1, hs.2.2.1, hs.2.2.2.1, hs.2.2.2.2⟩))
  have aDB : (xs ++ [gL g.mv (k)]).length = (xs).length + 1 := by simp
  refine OneH.act yD #[true, true, true, true, true, true, true, true, true, true, true, false, false] (by kernel_rfl) (appendLL (t := 23) (d := 31) (n := xs.length) (m := 1) (cc := 1) (ls := xs) (xs := gL g.mv (k)) (bytes := 24) (by first | rfl | omega | (simp; done) | (simp; omega)) (by kernel_rfl) (by kernel_rfl) (rX.as (by first | rfl | (simp; done))) yF yE ⟨aG.ne_new, aH.ne_new, (show bB.heap.size ≤ iI.heap.size by omega)⟩ (by omega) (by omega)) ?_
  rintro d_ v_ yG ⟨rfl, lK, rY, rfl, cV, rZ, sA⟩
  have sB := rW.grO cV (by rw [bV]; exact ⟨(fun e => by have := aC.ge _ e; simp only [add_block] at this; omega), (fun e => by have := aC.ge _ e; simp only [add_block] at this; omega), trivial⟩)
  refine ⟨_, rfl, fun aDC yH => ⟨sB, ?_⟩⟩
  clear yD; clear rX dL yE yF; have := cV.size; replace aN := aN.gr cV (fun k hk => by have := aC.ge k hk; omega); replace aP := aP.gr cV (fun k hk => by have := aC.ge k hk; omega); replace aO := aO.gr cV (fun e => by have := aC.ge _ e; omega); replace aQ := aQ.gr cV (fun e => by have := aC.ge _ e; omega)
  replace aG : OwnR yG (Sx (aF.heap.size) [some (bM.heap.size), obk (bP), obk (lK), obk (aE), some (aI)]) aD aW 3 (g.ow : List Int) := aG.grA cV (fun k hk => hk.2.2.1) (fun k hk hs => ⟨hs.1, hs.2.1, own_repl rZ hs.2.2.1 hk, hs.2.2.2.1, hs.2.2.2.2.1, hs.2.2.2.2.2⟩)
  replace aH : OwnR yG (Sx (aF.heap.size) [some (bM.heap.size), obk (bP), obk (lK), obk (aD), some (aI)]) aE aX 3 (g.pr : List Int) := aH.grA cV (fun k hk => hk.2.2.1) (fun k hk hs => ⟨hs.1, hs.2.1, own_repl rZ hs.2.2.1 hk, hs.2.2.2.1, hs.2.2.2.2.1, hs.2.2.2.2.2⟩)
  replace aK := aK.gr cV (fun e => by have := aC.ge _ e; omega); replace aR := aR.gr cV (fun k hk => by have := aC.ge k hk; omega); clear aC cV rZ
  refine AtH.rd (by kernel_rfl) (fun d v c a w h => by cases d <;> exact h) sB [11] [[]] [(32, .pointer (some ⟨aI, 2, none⟩))] #[true, true, true, true, true, true, true, true, true, true, true, true, false] [] 1 yH (by kernel_rfl) trivial (fun aDD yI => ?_)
  clear yH
  refine AtH.all [12] 0 (by kernel_rfl) (by simp) ⟨?_, trivial⟩
  refine OneH.store yI (t := 23) (b := aI) (off := 2) (v := .slice lK ((xs ++ [gL g.mv (k)]).length) rY) #[true, true, true, true, true, true, true, true, true, true, true, true, true] (by kernel_rfl) (by kernel_rfl) aK (by kernel_rfl) (fun aDE aBe cW sC yJ => ?_)
  clear yI
  replace sC : Bx aBe (aI) [.slice aD ((([] : List Int) ++ g.ow).length) aW, .slice aE ((([] : List Int) ++ g.pr).length) aX, .slice lK ((xs ++ [gL g.mv (k)]).length) rY] 25 := sC
  have yK := sB.gr' cW (by rw [bV]; exact ⟨(by simp only [add_block]; omega), (by simp only [add_block]; omega), trivial⟩); have := cW.size; replace aN := aN.gr cW (fun k h => by injection h; omega); replace aP := aP.gb cW (by omega); replace aO := aO.gb cW (by omega); replace aQ := aQ.gb cW (by omega); replace aG := aG.gr cW (fun k hk => hk.2.2.2.2.1)
  replace aH := aH.gr cW (fun k hk => hk.2.2.2.2.1); replace aR := aR.gb cW (by omega); replace sA := sA.gr cW (fun k hk e => by have := Sx_base hk; injection e; omega); clear aK cW
  refine ⟨yK, ?_⟩
  refine AtH.done (by kernel_rfl) ?_
  clear yK
  refine b_n ?_
  refine t_n ?_
  refine At.start ?_
  refine At.rd yJ 3 [[], [.as_ (.int .i64 (k + 1))], []] [(4, .int .i64 (k + 1)), (20, .int .i64 (k + 1)), (19, .int .i64 (k))] [((.int .i64 (IntKind.i64.wrap (k + 1)) : Value) = .int .i64 (k + 1))] (by kernel_rfl) ⟨(w64 (by omega) (by omega)), trivial⟩ (fun aDF aBf => ?_)
  clear yJ
  refine At.done rfl ?_
  refine t_n ?_
  have aBg := aBf.sub (r := [(4, .int .i64 (k + 1)), (3, .pointer (some ⟨aI, 0, none⟩)), (2, .pointer (some ⟨w1.heap.size, 0, none⟩)), (1, .pointer (some ⟨w.heap.size, 0, none⟩))]) ⟨rfl, rfl, rfl, rfl, trivial⟩
  exact ⟨_, (by omega), (k + 1), (xs ++ [gL g.mv (k)] : List (List Int)), lK, rY, rfl, aBg, aN, aP, aO, aQ, (aG.imp (fun g _ hs => ⟨hs.2.2.1, hs.2.2.2.1, hs.2.2.2.2.1, hs.2.2.2.2.2⟩)), (aH.imp (fun g _ hs => ⟨hs.2.2.1, hs.2.2.2.1, hs.2.2.2.2.1, hs.2.2.2.2.2⟩)), sC, sA, (by omega), (by omega), (takeLL_push hxs (by omega) (by omega)), (by omega), (by omega)⟩
 have aDG := of_decide_eq_false qV
 refine wp_exit ?_
 refine t_e ?_
 refine t_e ?_
 refine b_e ?_
 refine t_n ?_
 clear aO
 refine wp_seq ?_
 refine At.start ?_
 refine At.rd lE 1 [[.ld (.slice aD ((([] : List Int) ++ g.ow).length) aW), .ld (.slice aE ((([] : List Int) ++ g.pr).length) aX), .ld (.slice aJ xs.length aT)]] [(33, .agg #[.slice aD ((([] : List Int) ++ g.ow).length) aW, .slice aE ((([] : List Int) ++ g.pr).length) aX, .slice aJ xs.length aT])] [(lD.cell? ⟨aI, 0, none⟩ = some (.slice aD ((([] : List Int) ++ g.ow).length) aW)), (lD.cell? ⟨aI, 1, none⟩ = some (.slice aE ((([] : List Int) ++ g.pr).length) aX)), (lD.cell? ⟨aI, 2, none⟩ = some (.slice aJ xs.length aT))] (by kernel_rfl) ⟨(aK.cell (i := 0) rfl), (aK.cell (i := 1) rfl), (aK.cell (i := 2) rfl), trivial⟩ (fun aDH yL => ?_)
 clear lE
 refine At.store yL (t := 25) (b := w1.heap.size) (off := 0) (v := .agg #[.slice aD ((([] : List Int) ++ g.ow).length) aW, .slice aE ((([] : List Int) ++ g.pr).length) aX, .slice aJ xs.length aT]) (by kernel_rfl) aQ (by kernel_rfl) (fun aDI lL hK lM aBh => ?_)
 clear yL
 replace lM : Bx lL (w1.heap.size) [.slice aD ((([] : List Int) ++ g.ow).length) aW, .slice aE ((([] : List Int) ++ g.pr).length) aX, .slice aJ xs.length aT] 25 := lM
 have := hK.size; replace aN := aN.gr hK (fun k h => by injection h; omega); replace aP := aP.gb hK (by omega); replace aG := aG.gr hK (fun k hk e => by have := Sx_base hk; injection e; omega); replace aH := aH.gr hK (fun k hk e => by have := Sx_base hk; injection e; omega); replace aK := aK.gb hK (by omega); have aBi := mR.gr hK (fun k hk e => by have := Sx_base hk; injection e; omega); clear mR
 clear aQ hK
 refine At.done rfl ?_
 refine t_n ?_
 clear aK
 refine wp_ret ?_
 refine ret_ aBh [[.slice aD ((([] : List Int) ++ g.ow).length) aW, .slice aE ((([] : List Int) ++ g.pr).length) aX, .slice aJ xs.length aT]] [.agg #[.slice aD ((([] : List Int) ++ g.ow).length) aW, .slice aE ((([] : List Int) ++ g.pr).length) aX, .slice aJ xs.length aT]] [(lL.cell? ⟨w1.heap.size, 0, none⟩ = some (.slice aD ((([] : List Int) ++ g.ow).length) aW)), (lL.cell? ⟨w1.heap.size, 1, none⟩ = some (.slice aE ((([] : List Int) ++ g.pr).length) aX)), (lL.cell? ⟨w1.heap.size, 2, none⟩ = some (.slice aJ xs.length aT))] (by kernel_rfl) ⟨(lM.cell (i := 0) rfl), (lM.cell (i := 1) rfl), (lM.cell (i := 2) rfl), trivial⟩ ?_
 have hL_ : OwnLL lL w.heap.size [obk aD, obk aE] aJ aT 22 3 xs := (aBi.imp (fun g _ hs => ⟨hs.1, hs.2.1, (by have := Sx_base hs; show w.heap.size ≤ g; omega)⟩))
 have hq_ : xs = g.mv := takeLL_end hxs (by omega)
 rw [hq_] at hL_
 exact ⟨aD, aW, aE, aX, aJ, aT, ret_eq (by rw [← hq_]; rfl), aN, (aG.imp (fun g _ hs => ⟨hs.2.1, hs.1, (by have := Sx_base hs; show w.heap.size ≤ g; omega)⟩)), (aH.imp (fun g _ hs => ⟨hs.2.1, hs.1, (by have := Sx_base hs; show w.heap.size ≤ g; omega)⟩)), hL_⟩

end Go.Proofs.Ytklbpajmoklheaa
