/-
  A walk of a Go function, printed by a program of this repo. Conditions: what the theorems name.
-/
import Derived.Test.YtklbpajmoklheaaWShown17
import Derived.Test.YtklbpajmoklheaaWRunR
import Derived.Test.YtklbpajmoklheaaWCopy
import Derived.Test.YtklbpajmoklheaaWSame2
set_option linter.unusedVariables false
set_option linter.unusedSimpArgs false
namespace Go.Proofs.Ytklbpajmoklheaa
open Go Go.RowKit

set_option maxHeartbeats 4000000 in
theorem runs17_any {Ag0 Ag1 Ag2 : Option Addr} {cg0 cg1 cg2 : Nat} {g : GameL} {Am : Option Addr} {cm : Nat} {lm : List Int} {As : Option Addr} {cs : Nat} {ls : List Int} {i p : Int} {w : World} (rg : RdG w 0 w.heap.size Ag0 Ag1 Ag2 cg0 cg1 cg2 g) (rm : RdI w 0 w.heap.size Am lm) (rs : RdI w 0 w.heap.size As ls) :
    Calls Try.prog 3 #[.agg #[.slice Ag0 g.ow.length cg0, .slice Ag1 g.pr.length cg1, .slice Ag2 g.mv.length cg2], .int .i64 (i), .int .i64 (p), .slice Am lm.length cm, .slice As ls.length cs] w fun e w' => e = .returned (.bool true) ∧ Ext w w' := by
 have hlg0 := rg.ow.len; have hlg1 := rg.pr.len; have hlg2 := rg.mv.len; have hkg0 := rg.k0; have hkg1 := rg.k1; have hkg2 := rg.k2; have hlm := rm.len; have hls := rs.len
 refine enter_ (args := [.agg #[.slice Ag0 g.ow.length cg0, .slice Ag1 g.pr.length cg1, .slice Ag2 g.mv.length cg2], .int .i64 (i), .int .i64 (p), .slice Am lm.length cm, .slice As ls.length cs]) Try.func3 rfl Try.ntmps3 (Nat.le_of_ble_eq_true rfl) (fun act0 f0 => ?_)
 have e0 : Ext w w := Ext.refl w
 refine wp_seq ?_
 refine At.start ?_
 refine At.seq f0 1 [[]] [(5, .pointer (some ⟨w.heap.size, 0, none⟩))] (w.alloc (.cells #[.slice Ag0 g.ow.length cg0, .slice Ag1 g.pr.length cg1, .slice Ag2 g.mv.length cg2] 25 (0, 0))) [] (by kernel_rfl) trivial (fun act4 w1 hw2 f3 => ?_)
 clear f0; have g5 := gr_alloc hw2; have := g5.size; replace e0 := e0.gn g5; have r8 := rg.gn g5; clear rg; have r9 := rm.gn g5; clear rm; have aS := rs.gn g5; clear rs; have aM : Bx w1 (w.heap.size) [.slice Ag0 g.ow.length cg0, .slice Ag1 g.pr.length cg1, .slice Ag2 g.mv.length cg2] 25 := Bx.new hw2; have := aM.lt; clear g5 hw2
 refine At.rd f3 1 [[]] [(10, .bool false)] [] (by kernel_rfl) trivial (fun nT jD => ?_)
 clear f3
 refine At.done rfl ?_
 refine t_n ?_
 refine wp_seq ?_
 refine At.start ?_
 refine At.call jD 14 #[] (some 27) (by kernel_rfl) (shown17_any) ?_
 rintro e_ aJ ⟨rfl, he⟩
 refine ⟨_, rfl, _, rfl, fun nU jE => ?_⟩
 clear jD; have fN := gr_ext he; have := fN.size; replace e0 := e0.gn fN; replace r8 := r8.gn fN; replace r9 := r9.gn fN; replace aS := aS.gn fN; replace aM := aM.gn fN; clear fN he
 refine At.rd jE 1 [[]] [(11, .bool true)] [] (by kernel_rfl) trivial (fun nV jF => ?_)
 clear jE
 refine At.done rfl ?_
 refine t_n ?_
 refine wp_seq ?_
 refine At.start ?_
 refine At.rd jF 1 [[.ld (.slice Ag0 g.ow.length cg0), .ld (.slice Ag1 g.pr.length cg1), .ld (.slice Ag2 g.mv.length cg2)]] [(28, .agg #[.slice Ag0 g.ow.length cg0, .slice Ag1 g.pr.length cg1, .slice Ag2 g.mv.length cg2])] [(aJ.cell? ⟨w.heap.size, 0, none⟩ = some (.slice Ag0 g.ow.length cg0)), (aJ.cell? ⟨w.heap.size, 1, none⟩ = some (.slice Ag1 g.pr.length cg1)), (aJ.cell? ⟨w.heap.size, 2, none⟩ = some (.slice Ag2 g.mv.length cg2))] (by kernel_rfl) ⟨(aM.cell (i := 0) rfl), (aM.cell (i := 1) rfl), (aM.cell (i := 2) rfl), trivial⟩ (fun nW jG => ?_)
 clear jF
 refine At.call jG 15 #[.agg #[.slice Ag0 g.ow.length cg0, .slice Ag1 g.pr.length cg1, .slice Ag2 g.mv.length cg2]] (some 29) (by kernel_rfl) (copyR_any (g := g) (r8.wide (Nat.zero_le _) (by omega))) ?_
 rintro e_ aI ⟨aB, aV, aC, aW, aD, aX, rfl, he, aP, aQ, aR⟩
 have hip39 := inner_len (RdG.mv (r8.wide (Nat.zero_le _) (by omega)))
 refine ⟨_, rfl, _, rfl, fun nX jH => ?_⟩
 clear jG; have fO := gr_ext he; have := fO.size; replace e0 := e0.gn fO; replace r8 := r8.gn fO; replace r9 := r9.gn fO; replace aS := aS.gn fO; replace aM := aM.gn fO; clear fO he
 refine At.seq jH 1 [[]] [(12, .pointer (some ⟨aI.heap.size, 0, none⟩))] (aI.alloc (.cells #[.slice none 0 0, .slice none 0 0, .slice none 0 0] 25 (0, 0))) [] (by kernel_rfl) trivial (fun nY mP hE jI => ?_)
 clear jH; have dZ := gr_alloc hE; have := dZ.size; replace e0 := e0.gn dZ; replace r8 := r8.gn dZ; replace r9 := r9.gn dZ; replace aS := aS.gn dZ; replace aM := aM.gn dZ; replace aP := aP.grN dZ; replace aQ := aQ.grN dZ; replace aR := aR.grN dZ; have hF : Bx mP (aI.heap.size) [.slice none 0 0, .slice none 0 0, .slice none 0 0] 25 := Bx.new hE; have := hF.lt; clear dZ hE
 refine At.store jI (t := 25) (b := aI.heap.size) (off := 0) (v := .agg #[.slice aB g.ow.length aV, .slice aC g.pr.length aW, .slice aD g.mv.length aX]) (by kernel_rfl) hF (by kernel_rfl) (fun nZ bB eA bE jJ => ?_)
 clear jI; replace bE : Bx bB (aI.heap.size) [.slice aB g.ow.length aV, .slice aC g.pr.length aW, .slice aD g.mv.length aX] 25 := bE; have := eA.size; replace e0 := e0.gr eA (fun k h => by injection h; omega); replace r8 := r8.gb eA (by omega); replace r9 := r9.gb eA (by omega); replace aS := aS.gb eA (by omega); replace aM := aM.gb eA (by omega); replace aP := aP.gr eA (fun k hk => hk.1)
 replace aQ := aQ.gr eA (fun k hk => hk.1); replace aR := aR.gr eA (fun k hk => hk.1); clear hF eA
 refine At.done rfl ?_
 refine t_n ?_
 refine wp_seq ?_
 refine At.start ?_
 refine At.seq jJ 1 [[]] [(30, .slice (some ⟨bB.heap.size, 0, none⟩) 0 0)] (bB.alloc (.cells #[] 3 (0, 0))) [] (by kernel_rfl) trivial (fun oA hG hH jK => ?_)
 clear jJ; have dS := gr_alloc hH; have := dS.size; replace e0 := e0.gn dS; replace r8 := r8.gn dS; replace r9 := r9.gn dS; replace aS := aS.gn dS; replace aM := aM.gn dS; replace aP := aP.grN dS; replace aQ := aQ.grN dS; replace aR := aR.grN dS; replace bE := bE.gn dS; have hI : Bx hG (bB.heap.size) [] 3 := Bx.new hH; have := hI.lt; clear dS hH
 refine At.rd jK 1 [[]] [(31, .slice Am lm.length cm)] [] (by kernel_rfl) trivial (fun oB jL => ?_)
 clear jK
 have fE : OwnR hG (Sx (bB.heap.size) [obk (aB), obk (aC), obk (aD)]) (some ⟨bB.heap.size, 0, none⟩) 0 3 ([] : List Int) := Bx.own0 hI ⟨(aP.neb (fun g hs => hs.1)), (aQ.neb (fun g hs => hs.1)), (aR.neb (fun g hs => hs.1)), (Nat.le_refl _)⟩
 clear hI; have mQ : (([] : List Int) ++ lm).length = (([] : List Int)).length + (lm : List Int).length := List.length_append
 simp only [List.length_cons, List.length_nil] at mQ
 refine At.act jL (appendR (α := Int) (t := 22) (d := 32) (n := 0) (m := lm.length) (cc := cm) (xs := []) (ys := lm) (bytes := 8) (by first | rfl | omega | (simp; done) | (simp; omega)) (by first | rfl | omega | (simp; done) | (simp; omega)) (by kernel_rfl) rfl (by kernel_rfl) fE r9.srcR (by simp only [List.length_cons, List.length_nil]; omega) (by simp only [List.length_cons, List.length_nil]; omega)) ?_
 rintro d_ v_ bS ⟨rfl, gP, mR, fP⟩
 obtain rfl := fP.val
 have dT := fP.gr
 refine ⟨_, rfl, fun oC jM => ?_⟩
 clear jL
 have dF := fP.own (Sx (bB.heap.size) [obk (aB), obk (aC), obk (aD)]) (fun g _ hs => ⟨hs.1, hs.2.1, hs.2.2.1, hs.2.2.2⟩) ⟨aP.ne_new, aQ.ne_new, aR.ne_new, (show bB.heap.size ≤ hG.heap.size by omega)⟩
 have := dT.size; replace e0 := e0.gr dT (fun k hk => by have := fE.ge k hk; omega); replace r8 := r8.gr dT (fun k hk => by have := fE.ge k hk; omega); replace r9 := r9.gr dT (fun k hk => by have := fE.ge k hk; omega); replace aS := aS.gr dT (fun k hk => by have := fE.ge k hk; omega); replace aM := aM.gr dT (fun e => by have := fE.ge _ e; omega)
 replace aP : OwnR bS (Sx (aJ.heap.size) [obk (gP), some (aI.heap.size), obk (aC), obk (aD)]) aB aV 3 (g.ow : List Int) := aP.grA dT (fun k hk => hk.1) (fun k hk hs => ⟨own_repl fP.at_ hs.1 hk, hs.2.1, hs.2.2.1, hs.2.2.2.1, hs.2.2.2.2⟩)
 replace aQ : OwnR bS (Sx (aJ.heap.size) [obk (gP), some (aI.heap.size), obk (aB), obk (aD)]) aC aW 3 (g.pr : List Int) := aQ.grA dT (fun k hk => hk.1) (fun k hk hs => ⟨own_repl fP.at_ hs.1 hk, hs.2.1, hs.2.2.1, hs.2.2.2.1, hs.2.2.2.2⟩)
 replace aR : OwnLL bS (aJ.heap.size) [obk (gP), some (aI.heap.size), obk (aB), obk (aC)] aD aX 22 3 (g.mv : List (List Int)) := aR.grA dT (fun k hk => hk.1) (fun k hk hs => ⟨own_repl fP.at_ hs.1 hk, hs.2.1, hs.2.2.1, hs.2.2.2.1, hs.2.2.2.2⟩)
 replace bE := bE.gr dT (fun e => by have := fE.ge _ e; omega); clear fE dT fP; replace dF : OwnR bS (Sx (bB.heap.size) [obk (aB), obk (aC), obk (aD)]) gP mR 3 (lm : List Int) := dF
 refine At.seq jM 1 [[]] [(33, .slice (some ⟨bS.heap.size, 0, none⟩) 1 1)] (bS.alloc (.cells #[.int .i64 (0)] 3 (0, 0))) [] (by kernel_rfl) trivial (fun oD jN hJ jO => ?_)
 clear jM; have dG := gr_alloc hJ; have := dG.size; replace e0 := e0.gn dG; replace r8 := r8.gn dG; replace r9 := r9.gn dG; replace aS := aS.gn dG; replace aM := aM.gn dG; replace aP := aP.grN dG; replace aQ := aQ.grN dG; replace aR := aR.grN dG; replace bE := bE.gn dG; replace dF := dF.grN dG; have hK : Bx jN (bS.heap.size) [.int .i64 (0)] 3 := Bx.new hJ; have := hK.lt; clear dG hJ
 have mS : (lm ++ ([0])).length = (lm).length + ([0] : List Int).length := List.length_append
 simp only [List.length_cons, List.length_nil] at mS
 refine At.act jO (appendR (α := Int) (t := 22) (d := 34) (n := (([] : List Int) ++ lm).length) (m := 1) (cc := 1) (xs := lm) (ys := [0]) (bytes := 8) (by first | rfl | omega | (simp; done) | (simp; omega)) (by first | rfl | omega | (simp; done) | (simp; omega)) (by kernel_rfl) rfl (by kernel_rfl) dF (Bx.srcR (l := ([0] : List Int)) hK rfl) (by simp only [List.length_cons, List.length_nil]; omega) (by simp only [List.length_cons, List.length_nil]; omega)) ?_
 rintro d_ v_ bC ⟨rfl, aA, aL, fQ⟩
 obtain rfl := fQ.val
 have dU := fQ.gr
 refine ⟨_, rfl, fun oE jP => ?_⟩
 clear jO; clear hK
 have bO := fQ.own (Sx (bB.heap.size) [obk (aB), obk (aC), obk (aD)]) (fun g _ hs => ⟨hs.2.1, hs.2.2.1, hs.2.2.2.1, hs.2.2.2.2⟩) ⟨aP.ne_new, aQ.ne_new, aR.ne_new, (show bB.heap.size ≤ jN.heap.size by omega)⟩
 have := dU.size; replace e0 := e0.gr dU (fun k hk => by have := dF.ge k hk; omega); replace r8 := r8.gr dU (fun k hk => by have := dF.ge k hk; omega); replace r9 := r9.gr dU (fun k hk => by have := dF.ge k hk; omega); replace aS := aS.gr dU (fun k hk => by have := dF.ge k hk; omega); replace aM := aM.gr dU (fun e => by have := dF.ge _ e; omega)
 replace aP : OwnR bC (Sx (aJ.heap.size) [some (bS.heap.size), obk (aA), some (aI.heap.size), obk (aC), obk (aD)]) aB aV 3 (g.ow : List Int) := aP.grA dU (fun k hk => hk.2.1) (fun k hk hs => ⟨hs.1, own_repl fQ.at_ hs.2.1 hk, hs.2.2.1, hs.2.2.2.1, hs.2.2.2.2.1, hs.2.2.2.2.2⟩)
 replace aQ : OwnR bC (Sx (aJ.heap.size) [some (bS.heap.size), obk (aA), some (aI.heap.size), obk (aB), obk (aD)]) aC aW 3 (g.pr : List Int) := aQ.grA dU (fun k hk => hk.2.1) (fun k hk hs => ⟨hs.1, own_repl fQ.at_ hs.2.1 hk, hs.2.2.1, hs.2.2.2.1, hs.2.2.2.2.1, hs.2.2.2.2.2⟩)
 replace aR : OwnLL bC (aJ.heap.size) [some (bS.heap.size), obk (aA), some (aI.heap.size), obk (aB), obk (aC)] aD aX 22 3 (g.mv : List (List Int)) := aR.grA dU (fun k hk => hk.2.1) (fun k hk hs => ⟨hs.1, own_repl fQ.at_ hs.2.1 hk, hs.2.2.1, hs.2.2.2.1, hs.2.2.2.2.1, hs.2.2.2.2.2⟩)
 replace bE := bE.gr dU (fun e => by have := dF.ge _ e; omega); clear dF dU fQ
 refine At.rd jP 1 [[]] [(13, .slice aA ((lm ++ ([0])).length) aL)] [] (by kernel_rfl) trivial (fun oF jQ => ?_)
 clear jP
 refine At.done rfl ?_
 refine t_n ?_
 refine wp_seq ?_
 refine At.start ?_
 refine At.seq jQ 1 [[]] [(35, .slice (some ⟨bC.heap.size, 0, none⟩) 0 0)] (bC.alloc (.cells #[] 3 (0, 0))) [] (by kernel_rfl) trivial (fun oG hL hM jR => ?_)
 clear jQ; have dH := gr_alloc hM; have := dH.size; replace e0 := e0.gn dH; replace r8 := r8.gn dH; replace r9 := r9.gn dH; replace aS := aS.gn dH; replace aM := aM.gn dH; replace aP := aP.grN dH; replace aQ := aQ.grN dH; replace aR := aR.grN dH; replace bE := bE.gn dH; replace bO := bO.grN dH; have hN : Bx hL (bC.heap.size) [] 3 := Bx.new hM; have := hN.lt; clear dH hM
 refine At.rd jR 1 [[]] [(36, .slice As ls.length cs)] [] (by kernel_rfl) trivial (fun oH jS => ?_)
 clear jR
 have fF : OwnR hL (Sx (bC.heap.size) [obk (aB), obk (aC), obk (aD), obk (aA)]) (some ⟨bC.heap.size, 0, none⟩) 0 3 ([] : List Int) := Bx.own0 hN ⟨(aP.neb (fun g hs => hs.1)), (aQ.neb (fun g hs => hs.1)), (aR.neb (fun g hs => hs.1)), (bO.neb (fun g hs => hs.1)), (Nat.le_refl _)⟩
 clear hN; have mT : (([] : List Int) ++ ls).length = (([] : List Int)).length + (ls : List Int).length := List.length_append
 simp only [List.length_cons, List.length_nil] at mT
 refine At.act jS (appendR (α := Int) (t := 22) (d := 37) (n := 0) (m := ls.length) (cc := cs) (xs := []) (ys := ls) (bytes := 8) (by first | rfl | omega | (simp; done) | (simp; omega)) (by first | rfl | omega | (simp; done) | (simp; omega)) (by kernel_rfl) rfl (by kernel_rfl) fF aS.srcR (by simp only [List.length_cons, List.length_nil]; omega) (by simp only [List.length_cons, List.length_nil]; omega)) ?_
 rintro d_ v_ cJ ⟨rfl, gB, mU, fG⟩
 obtain rfl := fG.val
 have dI := fG.gr
 refine ⟨_, rfl, fun oI jT => ?_⟩
 clear jS
 have dJ := fG.own (Sx (bC.heap.size) [obk (aB), obk (aC), obk (aD), obk (aA)]) (fun g _ hs => ⟨hs.1, hs.2.1, hs.2.2.1, hs.2.2.2.1, hs.2.2.2.2⟩) ⟨aP.ne_new, aQ.ne_new, aR.ne_new, bO.ne_new, (show bC.heap.size ≤ hL.heap.size by omega)⟩
 have := dI.size; replace e0 := e0.gr dI (fun k hk => by have := fF.ge k hk; omega); replace r8 := r8.gr dI (fun k hk => by have := fF.ge k hk; omega); replace r9 := r9.gr dI (fun k hk => by have := fF.ge k hk; omega); replace aS := aS.gr dI (fun k hk => by have := fF.ge k hk; omega); replace aM := aM.gr dI (fun e => by have := fF.ge _ e; omega)
 replace aP : OwnR cJ (Sx (aJ.heap.size) [obk (gB), some (bS.heap.size), obk (aA), some (aI.heap.size), obk (aC), obk (aD)]) aB aV 3 (g.ow : List Int) := aP.grA dI (fun k hk => hk.1) (fun k hk hs => ⟨own_repl fG.at_ hs.1 hk, hs.2.1, hs.2.2.1, hs.2.2.2.1, hs.2.2.2.2.1, hs.2.2.2.2.2.1, hs.2.2.2.2.2.2⟩)
 replace aQ : OwnR cJ (Sx (aJ.heap.size) [obk (gB), some (bS.heap.size), obk (aA), some (aI.heap.size), obk (aB), obk (aD)]) aC aW 3 (g.pr : List Int) := aQ.grA dI (fun k hk => hk.1) (fun k hk hs => ⟨own_repl fG.at_ hs.1 hk, hs.2.1, hs.2.2.1, hs.2.2.2.1, hs.2.2.2.2.1, hs.2.2.2.2.2.1, hs.2.2.2.2.2.2⟩)
 replace aR : OwnLL cJ (aJ.heap.size) [obk (gB), some (bS.heap.size), obk (aA), some (aI.heap.size), obk (aB), obk (aC)] aD aX 22 3 (g.mv : List (List Int)) := aR.grA dI (fun k hk => hk.1) (fun k hk hs => ⟨own_repl fG.at_ hs.1 hk, hs.2.1, hs.2.2.1, hs.2.2.2.1, hs.2.2.2.2.1, hs.2.2.2.2.2.1, hs.2.2.2.2.2.2⟩)
 replace bE := bE.gr dI (fun e => by have := fF.ge _ e; omega)
 replace bO : OwnR cJ (Sx (bB.heap.size) [obk (gB), obk (aB), obk (aC), obk (aD)]) aA aL 3 (lm ++ ([0]) : List Int) := bO.grA dI (fun k hk => hk.1) (fun k hk hs => ⟨own_repl fG.at_ hs.1 hk, hs.2.1, hs.2.2.1, hs.2.2.2.1, hs.2.2.2.2⟩)
 clear fF dI fG; replace dJ : OwnR cJ (Sx (bC.heap.size) [obk (aB), obk (aC), obk (aD), obk (aA)]) gB mU 3 (ls : List Int) := dJ
 refine At.seq jT 1 [[]] [(38, .slice (some ⟨cJ.heap.size, 0, none⟩) 1 1)] (cJ.alloc (.cells #[.int .i64 (0)] 3 (0, 0))) [] (by kernel_rfl) trivial (fun oJ jU hO jV => ?_)
 clear jT; have cX := gr_alloc hO; have := cX.size; replace e0 := e0.gn cX; replace r8 := r8.gn cX; replace r9 := r9.gn cX; replace aS := aS.gn cX; replace aM := aM.gn cX; replace aP := aP.grN cX; replace aQ := aQ.grN cX; replace aR := aR.grN cX; replace bE := bE.gn cX; replace bO := bO.grN cX; replace dJ := dJ.grN cX; have hP : Bx jU (cJ.heap.size) [.int .i64 (0)] 3 := Bx.new hO; have := hP.lt
 clear cX hO; have mV : (ls ++ ([0])).length = (ls).length + ([0] : List Int).length := List.length_append
 simp only [List.length_cons, List.length_nil] at mV
 refine At.act jV (appendR (α := Int) (t := 22) (d := 39) (n := (([] : List Int) ++ ls).length) (m := 1) (cc := 1) (xs := ls) (ys := [0]) (bytes := 8) (by first | rfl | omega | (simp; done) | (simp; omega)) (by first | rfl | omega | (simp; done) | (simp; omega)) (by kernel_rfl) rfl (by kernel_rfl) dJ (Bx.srcR (l := ([0] : List Int)) hP rfl) (by simp only [List.length_cons, List.length_nil]; omega) (by simp only [List.length_cons, List.length_nil]; omega)) ?_
 rintro d_ v_ aT ⟨rfl, aE, aN, fH⟩
 obtain rfl := fH.val
 have dK := fH.gr
 refine ⟨_, rfl, fun oK jW => ?_⟩
 clear jV; clear hP
 have eP := fH.own (Sx (bC.heap.size) [obk (aB), obk (aC), obk (aD), obk (aA)]) (fun g _ hs => ⟨hs.2.1, hs.2.2.1, hs.2.2.2.1, hs.2.2.2.2.1, hs.2.2.2.2.2⟩) ⟨aP.ne_new, aQ.ne_new, aR.ne_new, bO.ne_new, (show bC.heap.size ≤ jU.heap.size by omega)⟩
 have := dK.size; replace e0 := e0.gr dK (fun k hk => by have := dJ.ge k hk; omega); replace r8 := r8.gr dK (fun k hk => by have := dJ.ge k hk; omega); replace r9 := r9.gr dK (fun k hk => by have := dJ.ge k hk; omega); replace aS := aS.gr dK (fun k hk => by have := dJ.ge k hk; omega); replace aM := aM.gr dK (fun e => by have := dJ.ge _ e; omega)
 replace aP : OwnR aT (Sx (aJ.heap.size) [some (cJ.heap.size), obk (aE), some (bS.heap.size), obk (aA), some (aI.heap.size), obk (aC), obk (aD)]) aB aV 3 (g.ow : List Int) := aP.grA dK (fun k hk => hk.2.1) (fun k hk hs => ⟨hs.1, own_repl fH.at_ hs.2.1 hk, hs.2.2.1, hs.2.2.2.1, hs.2.2.2.2.1, hs.2.2.2.2.2.1, hs.2.2.2.2.2.2.1, hs.2.2.2.2.2.2.2⟩)
 replace aQ : OwnR aT (Sx (aJ.heap.size) [some (cJ.heap.size), obk (aE), some (bS.heap.size), obk (aA), some (aI.heap.size), obk (aB), obk (aD)]) aC aW 3 (g.pr : List Int) := aQ.grA dK (fun k hk => hk.2.1) (fun k hk hs => ⟨hs.1, own_repl fH.at_ hs.2.1 hk, hs.2.2.1, hs.2.2.2.1, hs.2.2.2.2.1, hs.2.2.2.2.2.1, hs.2.2.2.2.2.2.1, hs.2.2.2.2.2.2.2⟩)
 replace aR : OwnLL aT (aJ.heap.size) [some (cJ.heap.size), obk (aE), some (bS.heap.size), obk (aA), some (aI.heap.size), obk (aB), obk (aC)] aD aX 22 3 (g.mv : List (List Int)) := aR.grA dK (fun k hk => hk.2.1) (fun k hk hs => ⟨hs.1, own_repl fH.at_ hs.2.1 hk, hs.2.2.1, hs.2.2.2.1, hs.2.2.2.2.1, hs.2.2.2.2.2.1, hs.2.2.2.2.2.2.1, hs.2.2.2.2.2.2.2⟩)
 replace bE := bE.gr dK (fun e => by have := dJ.ge _ e; omega)
 replace bO : OwnR aT (Sx (bB.heap.size) [some (cJ.heap.size), obk (aE), obk (aB), obk (aC), obk (aD)]) aA aL 3 (lm ++ ([0]) : List Int) := bO.grA dK (fun k hk => hk.2.1) (fun k hk hs => ⟨hs.1, own_repl fH.at_ hs.2.1 hk, hs.2.2.1, hs.2.2.2.1, hs.2.2.2.2.1, hs.2.2.2.2.2⟩)
 clear dJ dK fH
 refine At.rd jW 1 [[]] [(14, .slice aE ((ls ++ ([0])).length) aN)] [] (by kernel_rfl) trivial (fun oL jX => ?_)
 clear jW
 refine At.done rfl ?_
 refine t_n ?_
 refine wp_seq ?_
 refine At.start ?_
 refine At.rd jX 5 [[.ld (.slice Ag0 g.ow.length cg0), .ld (.slice Ag1 g.pr.length cg1), .ld (.slice Ag2 g.mv.length cg2)], [], [], [], []] [(45, .slice As ls.length cs), (44, .slice Am lm.length cm), (43, .int .i64 (p)), (42, .int .i64 (i)), (41, .agg #[.slice Ag0 g.ow.length cg0, .slice Ag1 g.pr.length cg1, .slice Ag2 g.mv.length cg2])] [(aT.cell? ⟨w.heap.size, 0, none⟩ = some (.slice Ag0 g.ow.length cg0)), (aT.cell? ⟨w.heap.size, 1, none⟩ = some (.slice Ag1 g.pr.length cg1)), (aT.cell? ⟨w.heap.size, 2, none⟩ = some (.slice Ag2 g.mv.length cg2))] (by kernel_rfl) ⟨(aM.cell (i := 0) rfl), (aM.cell (i := 1) rfl), (aM.cell (i := 2) rfl), trivial⟩ (fun oM jY => ?_)
 clear jX
 refine At.call jY 16 #[.agg #[.slice Ag0 g.ow.length cg0, .slice Ag1 g.pr.length cg1, .slice Ag2 g.mv.length cg2], .int .i64 (i), .int .i64 (p), .slice Am lm.length cm, .slice As ls.length cs] (some 46) (by kernel_rfl) (runR_any (g := g) (i := i) (p := p) (lm := lm) (ls := ls) (r8.wide (Nat.zero_le _) (by omega)) (r9.wide (Nat.zero_le _) (by omega)) (aS.wide (Nat.zero_le _) (by omega))) ?_
 rintro e_ aF ⟨q, hq, aG, bM, aH, bN, rfl, he, cY, cZ⟩
 have hlq := run_len hq
 refine ⟨_, rfl, _, rfl, fun oN jZ => ?_⟩
 clear jY; have dA := gr_ext he; have hQ := aP.lt; have hR := aQ.lt; have hS := aR.lt; have hT := bO.lt; have hU := eP.lt; have := dA.size; replace e0 := e0.gn dA; replace r8 := r8.gn dA; replace r9 := r9.gn dA; replace aS := aS.gn dA; replace aM := aM.gn dA
 replace aP : OwnR aF (Sx (aJ.heap.size) [obk (aG), obk (aH), some (cJ.heap.size), obk (aE), some (bS.heap.size), obk (aA), some (aI.heap.size), obk (aC), obk (aD)]) aB aV 3 (g.ow : List Int) := aP.grA dA (fun _ _ h => by cases h) (fun k hk hs => ⟨(fun e => by have := cY.ge _ e; omega), (fun e => by have := cZ.ge _ e; omega), hs.1, hs.2.1, hs.2.2.1, hs.2.2.2.1, hs.2.2.2.2.1, hs.2.2.2.2.2.1, hs.2.2.2.2.2.2.1, hs.2.2.2.2.2.2.2⟩)
 replace aQ : OwnR aF (Sx (aJ.heap.size) [obk (aG), obk (aH), some (cJ.heap.size), obk (aE), some (bS.heap.size), obk (aA), some (aI.heap.size), obk (aB), obk (aD)]) aC aW 3 (g.pr : List Int) := aQ.grA dA (fun _ _ h => by cases h) (fun k hk hs => ⟨(fun e => by have := cY.ge _ e; omega), (fun e => by have := cZ.ge _ e; omega), hs.1, hs.2.1, hs.2.2.1, hs.2.2.2.1, hs.2.2.2.2.1, hs.2.2.2.2.2.1, hs.2.2.2.2.2.2.1, hs.2.2.2.2.2.2.2⟩)
 replace aR : OwnLL aF (aJ.heap.size) [obk (aG), obk (aH), some (cJ.heap.size), obk (aE), some (bS.heap.size), obk (aA), some (aI.heap.size), obk (aB), obk (aC)] aD aX 22 3 (g.mv : List (List Int)) := aR.grA dA (fun _ _ h => by cases h) (fun k hk hs => ⟨(fun e => by have := cY.ge _ e; omega), (fun e => by have := cZ.ge _ e; omega), hs.1, hs.2.1, hs.2.2.1, hs.2.2.2.1, hs.2.2.2.2.1, hs.2.2.2.2.2.1, hs.2.2.2.2.2.2.1, hs.2.2.2.2.2.2.2⟩)
 replace bE := bE.gn dA
 replace bO : OwnR aF (Sx (bB.heap.size) [obk (aG), obk (aH), some (cJ.heap.size), obk (aE), obk (aB), obk (aC), obk (aD)]) aA aL 3 (lm ++ ([0]) : List Int) := bO.grA dA (fun _ _ h => by cases h) (fun k hk hs => ⟨(fun e => by have := cY.ge _ e; omega), (fun e => by have := cZ.ge _ e; omega), hs.1, hs.2.1, hs.2.2.1, hs.2.2.2.1, hs.2.2.2.2.1, hs.2.2.2.2.2⟩)
 replace eP : OwnR aF (Sx (bC.heap.size) [obk (aG), obk (aH), obk (aB), obk (aC), obk (aD), obk (aA)]) aE aN 3 (ls ++ ([0]) : List Int) := eP.grA dA (fun _ _ h => by cases h) (fun k hk hs => ⟨(fun e => by have := cY.ge _ e; omega), (fun e => by have := cZ.ge _ e; omega), hs.1, hs.2.1, hs.2.2.1, hs.2.2.2.1, hs.2.2.2.2⟩)
 replace cY : OwnR aF (Sx (aT.heap.size) [obk (aB), obk (aC), obk (aD), obk (aA), obk (aE), obk (aH)]) aG bM 3 (q.ah : List Int) := cY.imp (fun g _ hs => ⟨(fun e => by have := hQ _ e; have := Sx_base hs; omega), (fun e => by have := hR _ e; have := Sx_base hs; omega), (fun e => by have := hS _ e; have := Sx_base hs; omega), (fun e => by have := hT _ e; have := Sx_base hs; omega), (fun e => by have := hU _ e; have := Sx_base hs; omega), hs⟩)
 replace cZ : OwnR aF (Sx (aT.heap.size) [obk (aB), obk (aC), obk (aD), obk (aA), obk (aE), obk (aG)]) aH bN 3 (q.ro : List Int) := cZ.imp (fun g _ hs => ⟨(fun e => by have := hQ _ e; have := Sx_base hs; omega), (fun e => by have := hR _ e; have := Sx_base hs; omega), (fun e => by have := hS _ e; have := Sx_base hs; omega), (fun e => by have := hT _ e; have := Sx_base hs; omega), (fun e => by have := hU _ e; have := Sx_base hs; omega), hs⟩)
 clear hQ hR hS hT hU; clear dA he
 refine At.rd jZ 3 [[], [], []] [(48, .int .i64 (q.err)), (47, .agg #[.slice aG q.ah.length bM, .slice aH q.ro.length bN, .int .i64 (q.win)]), (40, .tuple #[.agg #[.slice aG q.ah.length bM, .slice aH q.ro.length bN, .int .i64 (q.win)], .int .i64 (q.err)])] [] (by kernel_rfl) trivial (fun oO kA => ?_)
 clear jZ
 refine At.seq kA 1 [[]] [(15, .pointer (some ⟨aF.heap.size, 0, none⟩))] (aF.alloc (.cells #[.slice none 0 0, .slice none 0 0, .int .i64 (0)] 29 (0, 0))) [] (by kernel_rfl) trivial (fun oP mW hV kB => ?_)
 clear kA; have cN := gr_alloc hV; have := cN.size; replace e0 := e0.gn cN; replace r8 := r8.gn cN; replace r9 := r9.gn cN; replace aS := aS.gn cN; replace aM := aM.gn cN; replace aP := aP.grN cN; replace aQ := aQ.grN cN; replace aR := aR.grN cN; replace bE := bE.gn cN; replace bO := bO.grN cN; replace eP := eP.grN cN; replace cY := cY.grN cN; replace cZ := cZ.grN cN
 have hW : Bx mW (aF.heap.size) [.slice none 0 0, .slice none 0 0, .int .i64 (0)] 29 := Bx.new hV; have := hW.lt; clear cN hV
 refine At.store kB (t := 29) (b := aF.heap.size) (off := 0) (v := .agg #[.slice aG q.ah.length bM, .slice aH q.ro.length bN, .int .i64 (q.win)]) (by kernel_rfl) hW (by kernel_rfl) (fun oQ mX cO gQ kC => ?_)
 clear kB; replace gQ : Bx mX (aF.heap.size) [.slice aG q.ah.length bM, .slice aH q.ro.length bN, .int .i64 (q.win)] 29 := gQ; have := cO.size; replace e0 := e0.gr cO (fun k h => by injection h; omega); replace r8 := r8.gb cO (by omega); replace r9 := r9.gb cO (by omega); replace aS := aS.gb cO (by omega); replace aM := aM.gb cO (by omega); replace aP := aP.gr cO (fun k hk => hk.1)
 replace aQ := aQ.gr cO (fun k hk => hk.1); replace aR := aR.gr cO (fun k hk => hk.1); replace bE := bE.gb cO (by omega); replace bO := bO.gr cO (fun k hk => hk.1); replace eP := eP.gr cO (fun k hk => hk.1); replace cY := cY.gr cO (fun k hk => hk.1); replace cZ := cZ.gr cO (fun k hk => hk.1); clear hW cO
 refine At.rd kC 1 [[]] [(16, .int .i64 (q.err))] [] (by kernel_rfl) trivial (fun oR kD => ?_)
 clear kC
 refine At.done rfl ?_
 refine t_n ?_
 have kE := kD.sub (r := [(16, .int .i64 (q.err)), (15, .pointer (some ⟨aF.heap.size, 0, none⟩)), (14, .slice aE ((ls ++ ([0])).length) aN), (13, .slice aA ((lm ++ ([0])).length) aL), (12, .pointer (some ⟨aI.heap.size, 0, none⟩)), (11, .bool true), (10, .bool false), (5, .pointer (some ⟨w.heap.size, 0, none⟩)), (1, .int .i64 (i)), (2, .int .i64 (p)), (3, .slice Am lm.length cm), (4, .slice As ls.length cs)]) ⟨rfl, rfl, rfl, rfl, rfl, rfl, rfl, rfl, rfl, rfl, rfl, rfl, trivial⟩
 clear kD
 refine wp_seq ?_
 refine wp_seq ?_
 refine At.start ?_
 refine At.rd kE 1 [[]] [(17, .int .i64 (0))] [] (by kernel_rfl) trivial (fun oS kF => ?_)
 clear kE
 refine At.done rfl ?_
 refine t_n ?_
 refine wp_block ?_
 have kG := kF.sub (r := [(17, .int .i64 (0)), (16, .int .i64 (q.err)), (15, .pointer (some ⟨aF.heap.size, 0, none⟩)), (14, .slice aE ((ls ++ ([0])).length) aN), (13, .slice aA ((lm ++ ([0])).length) aL), (12, .pointer (some ⟨aI.heap.size, 0, none⟩)), (11, .bool true), (5, .pointer (some ⟨w.heap.size, 0, none⟩)), (1, .int .i64 (i)), (2, .int .i64 (p)), (3, .slice Am lm.length cm), (4, .slice As ls.length cs)]) ⟨rfl, rfl, rfl, rfl, rfl, rfl, rfl, rfl, rfl, rfl, rfl, rfl, trivial⟩
 refine loop_g (fun (m_ : Nat) a_ w_ => ∃ (n : Int), m_ = (2 - n).toNat ∧ (Frm 129 a_ [(17, .int .i64 (n)), (16, .int .i64 (q.err)), (15, .pointer (some ⟨aF.heap.size, 0, none⟩)), (14, .slice aE ((ls ++ ([0])).length) aN), (13, .slice aA ((lm ++ ([0])).length) aL), (12, .pointer (some ⟨aI.heap.size, 0, none⟩)), (11, .bool true), (5, .pointer (some ⟨w.heap.size, 0, none⟩)), (1, .int .i64 (i)), (2, .int .i64 (p)), (3, .slice Am lm.length cm), (4, .slice As ls.length cs)]) ∧ (Ext w w_) ∧ (RdG w_ 0 w.heap.size Ag0 Ag1 Ag2 cg0 cg1 cg2 g) ∧ (RdI w_ 0 w.heap.size Am lm) ∧ (RdI w_ 0 w.heap.size As ls) ∧ (Bx w_ (w.heap.size) [.slice Ag0 g.ow.length cg0, .slice Ag1 g.pr.length cg1, .slice Ag2 g.mv.length cg2] 25) ∧ (OwnR w_ (Sx (aJ.heap.size) [some (aF.heap.size), obk (aG), obk (aH), obk (aE), obk (aA), some (aI.heap.size), obk (aC), obk (aD)]) aB aV 3 (g.ow : List Int)) ∧ (OwnR w_ (Sx (aJ.heap.size) [some (aF.heap.size), obk (aG), obk (aH), obk (aE), obk (aA), some (aI.heap.size), obk (aB), obk (aD)]) aC aW 3 (g.pr : List Int)) ∧ (OwnLL w_ (aJ.heap.size) [some (aF.heap.size), obk (aG), obk (aH), obk (aE), obk (aA), some (aI.heap.size), obk (aB), obk (aC)] aD aX 22 3 (g.mv : List (List Int))) ∧ (Bx w_ (aI.heap.size) [.slice aB g.ow.length aV, .slice aC g.pr.length aW, .slice aD g.mv.length aX] 25) ∧ (OwnR w_ (Sx (bB.heap.size) [some (aF.heap.size), obk (aG), obk (aH), obk (aE), obk (aB), obk (aC), obk (aD)]) aA aL 3 (lm ++ ([0]) : List Int)) ∧ (OwnR w_ (Sx (bC.heap.size) [some (aF.heap.size), obk (aG), obk (aH), obk (aB), obk (aC), obk (aD), obk (aA)]) aE aN 3 (ls ++ ([0]) : List Int)) ∧ (OwnR w_ (Sx (aT.heap.size) [some (aF.heap.size), obk (aB), obk (aC), obk (aD), obk (aA), obk (aE), obk (aH)]) aG bM 3 (q.ah : List Int)) ∧ (OwnR w_ (Sx (aT.heap.size) [some (aF.heap.size), obk (aB), obk (aC), obk (aD), obk (aA), obk (aE), obk (aG)]) aH bN 3 (q.ro : List Int)) ∧ (Bx w_ (aF.heap.size) [.slice aG q.ah.length bM, .slice aH q.ro.length bN, .int .i64 (q.win)] 29) ∧ (0 ≤ n) ∧ (n ≤ 2) ∧ (aJ.heap.size ≤ w_.heap.size) ∧ (bB.heap.size ≤ w_.heap.size) ∧ (bC.heap.size ≤ w_.heap.size) ∧ (aT.heap.size ≤ w_.heap.size)) _ ⟨0, rfl, kG, e0, r8, r9, aS, aM, (aP.imp (fun g _ hs => ⟨hs.1, hs.2.1, hs.2.2.1, hs.2.2.2.2.1, hs.2.2.2.2.2.2.1, hs.2.2.2.2.2.2.2.1, hs.2.2.2.2.2.2.2.2.1, hs.2.2.2.2.2.2.2.2.2.1, hs.2.2.2.2.2.2.2.2.2.2⟩)), (aQ.imp (fun g _ hs => ⟨hs.1, hs.2.1, hs.2.2.1, hs.2.2.2.2.1, hs.2.2.2.2.2.2.1, hs.2.2.2.2.2.2.2.1, hs.2.2.2.2.2.2.2.2.1, hs.2.2.2.2.2.2.2.2.2.1, hs.2.2.2.2.2.2.2.2.2.2⟩)), (aR.imp (fun g _ hs => ⟨hs.1, hs.2.1, hs.2.2.1, hs.2.2.2.2.1, hs.2.2.2.2.2.2.1, hs.2.2.2.2.2.2.2.1, hs.2.2.2.2.2.2.2.2.1, hs.2.2.2.2.2.2.2.2.2.1, hs.2.2.2.2.2.2.2.2.2.2⟩)), bE, (bO.imp (fun g _ hs => ⟨hs.1, hs.2.1, hs.2.2.1, hs.2.2.2.2.1, hs.2.2.2.2.2.1, hs.2.2.2.2.2.2.1, hs.2.2.2.2.2.2.2.1, hs.2.2.2.2.2.2.2.2⟩)), eP, cY, cZ, gQ, (by omega), (by omega), (by omega), (by omega), (by omega), (by omega)⟩ ?_
 clear kG kF; clear r8; clear r9; clear aS; clear aM; clear aP; clear aQ; clear aR; clear bE; clear bO; clear eP; clear cY; clear cZ; clear gQ; clear e0
 intro m_ oT bF ⟨n, hm313, kH, bG, bI, bJ, bK, bL, aZ, bA, fR, bD, aY, aU, bP, bQ, bT, i328, i329, i330, i331, i332, i333⟩
 have := bG.size; have := bL.lt; have := bD.lt; have := bT.lt
 refine wp_seq ?_
 refine wp_seq ?_
 refine At.start ?_
 refine At.rd kH 2 [[], []] [(50, .bool (decide ((n : Int) < 2))), (49, .int .i64 (n))] [] (by kernel_rfl) trivial (fun oU fU => ?_)
 clear kH
 refine At.done rfl ?_
 refine t_n ?_
 refine cond_S fU (t := decide ((n : Int) < 2)) rfl (fun hX => ?_) (fun hX => ?_)
 ·have oV := of_decide_eq_true hX
  refine wp_skip ?_
  refine t_n ?_
  refine wp_seq ?_
  refine wp_block ?_
  refine wp_seq (cut (fun a_ w_ => ∃ (r : PlayR) (aK : Nat) (bU : Option Addr) (aO : Option Addr) (dV : Nat) (dB : Nat), (Frm 129 a_ [(19, .int .i64 (r.err)), (18, .pointer (some ⟨aK, 0, none⟩)), (17, .int .i64 (n)), (16, .int .i64 (q.err)), (15, .pointer (some ⟨aF.heap.size, 0, none⟩)), (14, .slice aE ((ls ++ ([0])).length) aN), (13, .slice aA ((lm ++ ([0])).length) aL), (12, .pointer (some ⟨aI.heap.size, 0, none⟩)), (11, .bool true), (5, .pointer (some ⟨w.heap.size, 0, none⟩)), (1, .int .i64 (i)), (2, .int .i64 (p)), (3, .slice Am lm.length cm), (4, .slice As ls.length cs)]) ∧ (Ext w w_) ∧ (RdG w_ 0 w.heap.size Ag0 Ag1 Ag2 cg0 cg1 cg2 g) ∧ (RdI w_ 0 w.heap.size Am lm) ∧ (RdI w_ 0 w.heap.size As ls) ∧ (Bx w_ (w.heap.size) [.slice Ag0 g.ow.length cg0, .slice Ag1 g.pr.length cg1, .slice Ag2 g.mv.length cg2] 25) ∧ (OwnR w_ (Sx (aJ.heap.size) [some (aF.heap.size), obk (aG), obk (aH), obk (aE), obk (aA), some (aI.heap.size), obk (aC), obk (aD), obk (bU), obk (aO), some (aK)]) aB aV 3 (g.ow : List Int)) ∧ (OwnR w_ (Sx (aJ.heap.size) [some (aF.heap.size), obk (aG), obk (aH), obk (aE), obk (aA), some (aI.heap.size), obk (aB), obk (aD), obk (bU), obk (aO), some (aK)]) aC aW 3 (g.pr : List Int)) ∧ (OwnLL w_ (aJ.heap.size) [some (aF.heap.size), obk (aG), obk (aH), obk (aE), obk (aA), some (aI.heap.size), obk (aB), obk (aC), obk (bU), obk (aO), some (aK)] aD aX 22 3 (g.mv : List (List Int))) ∧ (Bx w_ (aI.heap.size) [.slice aB g.ow.length aV, .slice aC g.pr.length aW, .slice aD g.mv.length aX] 25) ∧ (OwnR w_ (Sx (bB.heap.size) [some (aF.heap.size), obk (aG), obk (aH), obk (aE), obk (aB), obk (aC), obk (aD), obk (bU), obk (aO), some (aK)]) aA aL 3 (lm ++ ([0]) : List Int)) ∧ (OwnR w_ (Sx (bC.heap.size) [some (aF.heap.size), obk (aG), obk (aH), obk (aB), obk (aC), obk (aD), obk (aA), obk (bU), obk (aO), some (aK)]) aE aN 3 (ls ++ ([0]) : List Int)) ∧ (OwnR w_ (Sx (aT.heap.size) [some (aF.heap.size), obk (aB), obk (aC), obk (aD), obk (aA), obk (aE), obk (aH), obk (bU), obk (aO), some (aK)]) aG bM 3 (q.ah : List Int)) ∧ (OwnR w_ (Sx (aT.heap.size) [some (aF.heap.size), obk (aB), obk (aC), obk (aD), obk (aA), obk (aE), obk (aG), obk (bU), obk (aO), some (aK)]) aH bN 3 (q.ro : List Int)) ∧ (Bx w_ (aF.heap.size) [.slice aG q.ah.length bM, .slice aH q.ro.length bN, .int .i64 (q.win)] 29) ∧ (OwnR w_ (Sx (bF.heap.size) [obk (aB), obk (aC), obk (aD), obk (aA), obk (aE), obk (aG), obk (aH), obk (aO), some (aK)]) (bU) (dV) 3 (r.ah : List Int)) ∧ (OwnR w_ (Sx (bF.heap.size) [obk (aB), obk (aC), obk (aD), obk (aA), obk (aE), obk (aG), obk (aH), obk (bU), some (aK)]) (aO) (dB) 3 (r.ro : List Int)) ∧ (Bx w_ (aK) [.slice (bU) r.ah.length (dV), .slice (aO) r.ro.length (dB), .int .i64 (r.win)] 29) ∧ (bF.heap.size ≤ aK) ∧ (bF.heap.size ≤ w_.heap.size) ∧ (RunT g i p lm ls r)) ?_ ?_)
  ·have hq343 := aY.cap
   simp only [List.length_append] at hq343
   have hq344 := aU.cap
   simp only [List.length_append] at hq344
   obtain ⟨gC, fV⟩ : ∃ c : List (Addr × Value), c = [(⟨aI.heap.size, 0, none⟩, (.slice aB g.ow.length aV)), (⟨aI.heap.size, 1, none⟩, (.slice aC g.pr.length aW)), (⟨aI.heap.size, 2, none⟩, (.slice aD g.mv.length aX))] := ⟨_, rfl⟩
   have kI : HoldsC gC bF := by rw [fV]; exact ⟨(bD.cell (i := 0) rfl), (bD.cell (i := 1) rfl), (bD.cell (i := 2) rfl), trivial⟩
   refine AtH.start gC 18 #[false, false, false, false, false, false, false, false, false, false, false, false, false, false, false, false, false, false] (by kernel_rfl) rfl rfl (fun cK kJ => ?_)
   have cE := gr_drew kJ; have hY := kI.gr cE; have := cE.size; replace bG := bG.gn cE; replace bI := bI.gn cE; replace bJ := bJ.gn cE; replace bK := bK.gn cE; replace bL := bL.gn cE; replace aZ := aZ.gn cE; replace bA := bA.gn cE; have bR := fR.gn cE; clear fR; replace bD := bD.gn cE; replace aY := aY.gn cE; replace aU := aU.gn cE; replace bP := bP.gn cE; replace bQ := bQ.gn cE
   replace bT := bT.gn cE; clear cE kJ kI
   refine AtH.rd (by kernel_rfl) (fun d v c a w h => by cases d <;> exact h) hY [0, 1, 2, 3, 4, 5, 6, 7, 8, 9, 10] [[.ld (.slice aB g.ow.length aV), .ld (.slice aC g.pr.length aW), .ld (.slice aD g.mv.length aX)], [], [], [], [], [], [.as_ (.slice aA ((lm).length) aL)], [], [], [], [.as_ (.slice aE ((ls).length) aN)]] [(64, .slice aE ((ls).length) aN), (63, .int .i64 (((ls.length : Nat) : Int))), (62, .slice As ls.length cs), (61, .slice aE ((ls ++ ([0])).length) aN), (60, .slice aA ((lm).length) aL), (59, .int .i64 (((lm.length : Nat) : Int))), (58, .slice Am lm.length cm), (57, .slice aA ((lm ++ ([0])).length) aL), (56, .int .i64 (p)), (55, .int .i64 (i)), (54, .agg #[.slice aB g.ow.length aV, .slice aC g.pr.length aW, .slice aD g.mv.length aX])] #[true, true, true, true, true, true, true, true, true, true, true, false, false, false, false, false, false, false] [(∃ j_ : Nat, gC[j_]? = some (⟨aI.heap.size, 0, none⟩, (.slice aB g.ow.length aV))), (∃ j_ : Nat, gC[j_]? = some (⟨aI.heap.size, 1, none⟩, (.slice aC g.pr.length aW))), (∃ j_ : Nat, gC[j_]? = some (⟨aI.heap.size, 2, none⟩, (.slice aD g.mv.length aX))), (0 ≤ (((lm.length : Nat) : Int) : Int)), ((((lm.length : Nat) : Int) : Int) ≤ (aL : Nat)), ((.slice aA ((((lm.length : Nat) : Int) : Int).toNat) aL : Value) = .slice aA ((lm).length) aL), (0 ≤ (((ls.length : Nat) : Int) : Int)), ((((ls.length : Nat) : Int) : Int) ≤ (aN : Nat)), ((.slice aE ((((ls.length : Nat) : Int) : Int).toNat) aN : Value) = .slice aE ((ls).length) aN)] 7 fU (by kernel_rfl) ⟨⟨0, by rw [fV]; rfl⟩, ⟨1, by rw [fV]; rfl⟩, ⟨2, by rw [fV]; rfl⟩, (by omega), (by omega), rfl, (by omega), (by omega), rfl, trivial⟩ (fun oW gR => ?_)
   clear fU
   refine AtH.all [11, 15] 6 (by kernel_rfl) (by simp) ⟨?_, ?_, trivial⟩
   ·refine OneH.call gR 17 #[.agg #[.slice aB g.ow.length aV, .slice aC g.pr.length aW, .slice aD g.mv.length aX], .int .i64 (i), .int .i64 (p), .slice aA ((lm).length) aL, .slice aE ((ls).length) aN] (some 65) #[true, true, true, true, true, true, true, true, true, true, true, true, false, false, false, false, false, false] (by kernel_rfl) (by kernel_rfl) (runM_any (g := g) (i := i) (p := p) (lm := lm) (ls := ls) (RdG.mk (G := g) (aZ.rdI0 (by first | omega | (simp only [List.length_cons, List.length_nil]; omega) | (simp; done) | (simp; omega))) (bA.rdI0 (by first | omega | (simp only [List.length_cons, List.length_nil]; omega) | (simp; done) | (simp; omega))) (bR.rdII0 (by first | omega | (simp only [List.length_cons, List.length_nil]; omega) | (simp; done) | (simp; omega)) hip39) aZ.cap bA.cap bR.cap) (aY.rdIpr (la := lm) (by first | rfl | (simp only [List.nil_append, List.append_assoc]; rfl)) (by omega)) (aU.rdIpr (la := ls) (by first | rfl | (simp only [List.nil_append, List.append_assoc]; rfl)) (by omega))) ?_
    rintro e_ cL ⟨r, hr, cR, fW, cS, fX, rfl, he, cT, cU⟩
    have hlr := run_len hr
    refine ⟨_, rfl, _, rfl, fun oX kK => ?_⟩
    clear gR; have cF := gr_ext he; have gD := hY.gr cF; have hZ := aZ.lt; have iA := bA.lt; have iB := bR.lt; have iC := aY.lt; have iD := aU.lt; have iE := bP.lt; have iF := bQ.lt; have := cF.size; replace bG := bG.gn cF; replace bI := bI.gn cF; replace bJ := bJ.gn cF; replace bK := bK.gn cF; replace bL := bL.gn cF
    replace aZ : OwnR cL (Sx (aJ.heap.size) [obk (cR), obk (cS), some (aF.heap.size), obk (aG), obk (aH), obk (aE), obk (aA), some (aI.heap.size), obk (aC), obk (aD)]) aB aV 3 (g.ow : List Int) := aZ.grA cF (fun _ _ h => by cases h) (fun k hk hs => ⟨(fun e => by have := cT.ge _ e; omega), (fun e => by have := cU.ge _ e; omega), hs.1, hs.2.1, hs.2.2.1, hs.2.2.2.1, hs.2.2.2.2.1, hs.2.2.2.2.2.1, hs.2.2.2.2.2.2.1, hs.2.2.2.2.2.2.2.1, hs.2.2.2.2.2.2.2.2⟩)
    replace bA : OwnR cL (Sx (aJ.heap.size) [obk (cR), obk (cS), some (aF.heap.size), obk (aG), obk (aH), obk (aE), obk (aA), some (aI.heap.size), obk (aB), obk (aD)]) aC aW 3 (g.pr : List Int) := bA.grA cF (fun _ _ h => by cases h) (fun k hk hs => ⟨(fun e => by have := cT.ge _ e; omega), (fun e => by have := cU.ge _ e; omega), hs.1, hs.2.1, hs.2.2.1, hs.2.2.2.1, hs.2.2.2.2.1, hs.2.2.2.2.2.1, hs.2.2.2.2.2.2.1, hs.2.2.2.2.2.2.2.1, hs.2.2.2.2.2.2.2.2⟩)
    replace bR : OwnLL cL (aJ.heap.size) [obk (cR), obk (cS), some (aF.heap.size), obk (aG), obk (aH), obk (aE), obk (aA), some (aI.heap.size), obk (aB), obk (aC)] aD aX 22 3 (g.mv : List (List Int)) := bR.grA cF (fun _ _ h => by cases h) (fun k hk hs => ⟨(fun e => by have := cT.ge _ e; omega), (fun e => by have := cU.ge _ e; omega), hs.1, hs.2.1, hs.2.2.1, hs.2.2.2.1, hs.2.2.2.2.1, hs.2.2.2.2.2.1, hs.2.2.2.2.2.2.1, hs.2.2.2.2.2.2.2.1, hs.2.2.2.2.2.2.2.2⟩)
    replace bD := bD.gn cF
    replace aY : OwnR cL (Sx (bB.heap.size) [obk (cR), obk (cS), some (aF.heap.size), obk (aG), obk (aH), obk (aE), obk (aB), obk (aC), obk (aD)]) aA aL 3 (lm ++ ([0]) : List Int) := aY.grA cF (fun _ _ h => by cases h) (fun k hk hs => ⟨(fun e => by have := cT.ge _ e; omega), (fun e => by have := cU.ge _ e; omega), hs.1, hs.2.1, hs.2.2.1, hs.2.2.2.1, hs.2.2.2.2.1, hs.2.2.2.2.2.1, hs.2.2.2.2.2.2.1, hs.2.2.2.2.2.2.2⟩)
    replace aU : OwnR cL (Sx (bC.heap.size) [obk (cR), obk (cS), some (aF.heap.size), obk (aG), obk (aH), obk (aB), obk (aC), obk (aD), obk (aA)]) aE aN 3 (ls ++ ([0]) : List Int) := aU.grA cF (fun _ _ h => by cases h) (fun k hk hs => ⟨(fun e => by have := cT.ge _ e; omega), (fun e => by have := cU.ge _ e; omega), hs.1, hs.2.1, hs.2.2.1, hs.2.2.2.1, hs.2.2.2.2.1, hs.2.2.2.2.2.1, hs.2.2.2.2.2.2.1, hs.2.2.2.2.2.2.2⟩)
    replace bP : OwnR cL (Sx (aT.heap.size) [obk (cR), obk (cS), some (aF.heap.size), obk (aB), obk (aC), obk (aD), obk (aA), obk (aE), obk (aH)]) aG bM 3 (q.ah : List Int) := bP.grA cF (fun _ _ h => by cases h) (fun k hk hs => ⟨(fun e => by have := cT.ge _ e; omega), (fun e => by have := cU.ge _ e; omega), hs.1, hs.2.1, hs.2.2.1, hs.2.2.2.1, hs.2.2.2.2.1, hs.2.2.2.2.2.1, hs.2.2.2.2.2.2.1, hs.2.2.2.2.2.2.2⟩)
    replace bQ : OwnR cL (Sx (aT.heap.size) [obk (cR), obk (cS), some (aF.heap.size), obk (aB), obk (aC), obk (aD), obk (aA), obk (aE), obk (aG)]) aH bN 3 (q.ro : List Int) := bQ.grA cF (fun _ _ h => by cases h) (fun k hk hs => ⟨(fun e => by have := cT.ge _ e; omega), (fun e => by have := cU.ge _ e; omega), hs.1, hs.2.1, hs.2.2.1, hs.2.2.2.1, hs.2.2.2.2.1, hs.2.2.2.2.2.1, hs.2.2.2.2.2.2.1, hs.2.2.2.2.2.2.2⟩)
    replace bT := bT.gn cF
    replace cT : OwnR cL (Sx (cK.heap.size) [obk (aB), obk (aC), obk (aD), obk (aA), obk (aE), obk (aG), obk (aH), obk (cS)]) cR fW 3 (r.ah : List Int) := cT.imp (fun g _ hs => ⟨(fun e => by have := hZ _ e; have := Sx_base hs; omega), (fun e => by have := iA _ e; have := Sx_base hs; omega), (fun e => by have := iB _ e; have := Sx_base hs; omega), (fun e => by have := iC _ e; have := Sx_base hs; omega), (fun e => by have := iD _ e; have := Sx_base hs; omega), (fun e => by have := iE _ e; have := Sx_base hs; omega), (fun e => by have := iF _ e; have := Sx_base hs; omega), hs⟩)
    replace cU : OwnR cL (Sx (cK.heap.size) [obk (aB), obk (aC), obk (aD), obk (aA), obk (aE), obk (aG), obk (aH), obk (cR)]) cS fX 3 (r.ro : List Int) := cU.imp (fun g _ hs => ⟨(fun e => by have := hZ _ e; have := Sx_base hs; omega), (fun e => by have := iA _ e; have := Sx_base hs; omega), (fun e => by have := iB _ e; have := Sx_base hs; omega), (fun e => by have := iC _ e; have := Sx_base hs; omega), (fun e => by have := iD _ e; have := Sx_base hs; omega), (fun e => by have := iE _ e; have := Sx_base hs; omega), (fun e => by have := iF _ e; have := Sx_base hs; omega), hs⟩)
    clear hZ iA iB iC iD iE iF; clear cF he
    refine ⟨gD, ?_⟩
    refine AtH.rd (by kernel_rfl) (fun d v c a w h => by cases d <;> exact h) gD [12] [[]] [(53, .tuple #[.agg #[.slice cR r.ah.length fW, .slice cS r.ro.length fX, .int .i64 (r.win)], .int .i64 (r.err)])] #[true, true, true, true, true, true, true, true, true, true, true, true, true, false, false, false, false, false] [] 5 kK (by kernel_rfl) trivial (fun oY kL => ?_)
    clear kK
    refine AtH.rd (by kernel_rfl) (fun d v c a w h => by cases d <;> exact h) gD [13] [[]] [(66, .agg #[.slice cR r.ah.length fW, .slice cS r.ro.length fX, .int .i64 (r.win)])] #[true, true, true, true, true, true, true, true, true, true, true, true, true, true, false, false, false, false] [] 4 kL (by kernel_rfl) trivial (fun oZ kM => ?_)
    clear kL
    refine AtH.rd (by kernel_rfl) (fun d v c a w h => by cases d <;> exact h) gD [14] [[]] [(67, .int .i64 (r.err))] #[true, true, true, true, true, true, true, true, true, true, true, true, true, true, true, false, false, false] [] 3 kM (by kernel_rfl) trivial (fun pA kN => ?_)
    clear kM
    refine AtH.all [15] 2 (by kernel_rfl) (by simp) ⟨?_, trivial⟩
    refine OneH.seq kN [[]] [(18, .pointer (some ⟨cL.heap.size, 0, none⟩))] (cL.alloc (.cells #[.slice none 0 0, .slice none 0 0, .int .i64 (0)] 29 (0, 0))) [] #[true, true, true, true, true, true, true, true, true, true, true, true, true, true, true, true, false, false] (by kernel_rfl) (by kernel_rfl) (by kernel_rfl) trivial (fun pB mY iG kO => ?_)
    clear kN; have bV := gr_alloc iG; have kP := gD.gr bV; have := bV.size; replace bG := bG.gn bV; replace bI := bI.gn bV; replace bJ := bJ.gn bV; replace bK := bK.gn bV; replace bL := bL.gn bV; replace aZ := aZ.grN bV; replace bA := bA.grN bV; replace bR := bR.grN bV; replace bD := bD.gn bV; replace aY := aY.grN bV; replace aU := aU.grN bV; replace bP := bP.grN bV; replace bQ := bQ.grN bV
    replace bT := bT.gn bV; replace cT := cT.grN bV; replace cU := cU.grN bV; have iH : Bx mY (cL.heap.size) [.slice none 0 0, .slice none 0 0, .int .i64 (0)] 29 := Bx.new iG; have := iH.lt; clear bV iG
    refine ⟨kP, ?_⟩
    refine AtH.all [16] 1 (by kernel_rfl) (by simp) ⟨?_, trivial⟩
    refine OneH.store kO (t := 29) (b := cL.heap.size) (off := 0) (v := .agg #[.slice cR r.ah.length fW, .slice cS r.ro.length fX, .int .i64 (r.win)]) #[true, true, true, true, true, true, true, true, true, true, true, true, true, true, true, true, true, false] (by kernel_rfl) (by kernel_rfl) iH (by kernel_rfl) (fun pC mZ bW iI kQ => ?_)
    clear kO; replace iI : Bx mZ (cL.heap.size) [.slice cR r.ah.length fW, .slice cS r.ro.length fX, .int .i64 (r.win)] 29 := iI; have iJ := kP.gr' bW (by rw [fV]; exact ⟨(by simp only [add_block]; omega), (by simp only [add_block]; omega), (by simp only [add_block]; omega), trivial⟩); have := bW.size; replace bG := bG.gr bW (fun k h => by injection h; omega); replace bI := bI.gb bW (by omega)
    replace bJ := bJ.gb bW (by omega); replace bK := bK.gb bW (by omega); replace bL := bL.gb bW (by omega); replace aZ := aZ.gr bW (fun k hk => hk.1); replace bA := bA.gr bW (fun k hk => hk.1); replace bR := bR.gr bW (fun k hk => hk.1); replace bD := bD.gb bW (by omega); replace aY := aY.gr bW (fun k hk => hk.1); replace aU := aU.gr bW (fun k hk => hk.1); replace bP := bP.gr bW (fun k hk => hk.1)
    replace bQ := bQ.gr bW (fun k hk => hk.1); replace bT := bT.gb bW (by omega); replace cT := cT.gr bW (fun k hk => hk.1); replace cU := cU.gr bW (fun k hk => hk.1); clear iH bW
    refine ⟨iJ, ?_⟩
    refine AtH.rd (by kernel_rfl) (fun d v c a w h => by cases d <;> exact h) iJ [17] [[]] [(19, .int .i64 (r.err))] #[true, true, true, true, true, true, true, true, true, true, true, true, true, true, true, true, true, true] [] 0 kQ (by kernel_rfl) trivial (fun pD nA => ?_)
    clear kQ
    refine AtH.done (by kernel_rfl) ?_
    clear iJ
    refine t_n ?_
    have nB := nA.sub (r := [(19, .int .i64 (r.err)), (18, .pointer (some ⟨cL.heap.size, 0, none⟩)), (17, .int .i64 (n)), (16, .int .i64 (q.err)), (15, .pointer (some ⟨aF.heap.size, 0, none⟩)), (14, .slice aE ((ls ++ ([0])).length) aN), (13, .slice aA ((lm ++ ([0])).length) aL), (12, .pointer (some ⟨aI.heap.size, 0, none⟩)), (11, .bool true), (5, .pointer (some ⟨w.heap.size, 0, none⟩)), (1, .int .i64 (i)), (2, .int .i64 (p)), (3, .slice Am lm.length cm), (4, .slice As ls.length cs)]) ⟨rfl, rfl, rfl, rfl, rfl, rfl, rfl, rfl, rfl, rfl, rfl, rfl, rfl, rfl, trivial⟩
    exact ⟨r, cL.heap.size, cR, cS, fW, fX, nB, bG, bI, bJ, bK, bL, (aZ.imp (fun g _ hs => ⟨hs.2.2.2.1, hs.2.2.2.2.1, hs.2.2.2.2.2.1, hs.2.2.2.2.2.2.1, hs.2.2.2.2.2.2.2.1, hs.2.2.2.2.2.2.2.2.1, hs.2.2.2.2.2.2.2.2.2.1, hs.2.2.2.2.2.2.2.2.2.2.1, hs.2.1, hs.2.2.1, hs.1, (by have := Sx_base hs; show aJ.heap.size ≤ g; omega)⟩)), (bA.imp (fun g _ hs => ⟨hs.2.2.2.1, hs.2.2.2.2.1, hs.2.2.2.2.2.1, hs.2.2.2.2.2.2.1, hs.2.2.2.2.2.2.2.1, hs.2.2.2.2.2.2.2.2.1, hs.2.2.2.2.2.2.2.2.2.1, hs.2.2.2.2.2.2.2.2.2.2.1, hs.2.1, hs.2.2.1, hs.1, (by have := Sx_base hs; show aJ.heap.size ≤ g; omega)⟩)), (bR.imp (fun g _ hs => ⟨hs.2.2.2.1, hs.2.2.2.2.1, hs.2.2.2.2.2.1, hs.2.2.2.2.2.2.1, hs.2.2.2.2.2.2.2.1, hs.2.2.2.2.2.2.2.2.1, hs.2.2.2.2.2.2.2.2.2.1, hs.2.2.2.2.2.2.2.2.2.2.1, hs.2.1, hs.2.2.1, hs.1, (by have := Sx_base hs; show aJ.heap.size ≤ g; omega)⟩)), bD, (aY.imp (fun g _ hs => ⟨hs.2.2.2.1, hs.2.2.2.2.1, hs.2.2.2.2.2.1, hs.2.2.2.2.2.2.1, hs.2.2.2.2.2.2.2.1, hs.2.2.2.2.2.2.2.2.1, hs.2.2.2.2.2.2.2.2.2.1, hs.2.1, hs.2.2.1, hs.1, (by have := Sx_base hs; show bB.heap.size ≤ g; omega)⟩)), (aU.imp (fun g _ hs => ⟨hs.2.2.2.1, hs.2.2.2.2.1, hs.2.2.2.2.2.1, hs.2.2.2.2.2.2.1, hs.2.2.2.2.2.2.2.1, hs.2.2.2.2.2.2.2.2.1, hs.2.2.2.2.2.2.2.2.2.1, hs.2.1, hs.2.2.1, hs.1, (by have := Sx_base hs; show bC.heap.size ≤ g; omega)⟩)), (bP.imp (fun g _ hs => ⟨hs.2.2.2.1, hs.2.2.2.2.1, hs.2.2.2.2.2.1, hs.2.2.2.2.2.2.1, hs.2.2.2.2.2.2.2.1, hs.2.2.2.2.2.2.2.2.1, hs.2.2.2.2.2.2.2.2.2.1, hs.2.1, hs.2.2.1, hs.1, (by have := Sx_base hs; show aT.heap.size ≤ g; omega)⟩)), (bQ.imp (fun g _ hs => ⟨hs.2.2.2.1, hs.2.2.2.2.1, hs.2.2.2.2.2.1, hs.2.2.2.2.2.2.1, hs.2.2.2.2.2.2.2.1, hs.2.2.2.2.2.2.2.2.1, hs.2.2.2.2.2.2.2.2.2.1, hs.2.1, hs.2.2.1, hs.1, (by have := Sx_base hs; show aT.heap.size ≤ g; omega)⟩)), bT, (cT.imp (fun g _ hs => ⟨hs.2.1, hs.2.2.1, hs.2.2.2.1, hs.2.2.2.2.1, hs.2.2.2.2.2.1, hs.2.2.2.2.2.2.1, hs.2.2.2.2.2.2.2.1, hs.2.2.2.2.2.2.2.2.1, hs.1, (by have := Sx_base hs; show bF.heap.size ≤ g; omega)⟩)), (cU.imp (fun g _ hs => ⟨hs.2.1, hs.2.2.1, hs.2.2.2.1, hs.2.2.2.2.1, hs.2.2.2.2.2.1, hs.2.2.2.2.2.2.1, hs.2.2.2.2.2.2.2.1, hs.2.2.2.2.2.2.2.2.1, hs.1, (by have := Sx_base hs; show bF.heap.size ≤ g; omega)⟩)), iI, (by omega), (by omega), hr⟩
   refine OneH.seq gR [[]] [(18, .pointer (some ⟨cK.heap.size, 0, none⟩))] (cK.alloc (.cells #[.slice none 0 0, .slice none 0 0, .int .i64 (0)] 29 (0, 0))) [] #[true, true, true, true, true, true, true, true, true, true, true, false, false, false, false, true, false, false] (by kernel_rfl) (by kernel_rfl) (by kernel_rfl) trivial (fun pE iK iL kR => ?_)
   clear gR; have cG := gr_alloc iL; have kS := hY.gr cG; have := cG.size; replace bG := bG.gn cG; replace bI := bI.gn cG; replace bJ := bJ.gn cG; replace bK := bK.gn cG; replace bL := bL.gn cG; replace aZ := aZ.grN cG; replace bA := bA.grN cG; replace bR := bR.grN cG; replace bD := bD.gn cG; replace aY := aY.grN cG; replace aU := aU.grN cG; replace bP := bP.grN cG; replace bQ := bQ.grN cG
   replace bT := bT.gn cG; have gE : Bx iK (cK.heap.size) [.slice none 0 0, .slice none 0 0, .int .i64 (0)] 29 := Bx.new iL; have := gE.lt; clear cG iL
   refine ⟨kS, ?_⟩
   refine AtH.all [11] 5 (by kernel_rfl) (by simp) ⟨?_, trivial⟩
   refine OneH.call kR 17 #[.agg #[.slice aB g.ow.length aV, .slice aC g.pr.length aW, .slice aD g.mv.length aX], .int .i64 (i), .int .i64 (p), .slice aA ((lm).length) aL, .slice aE ((ls).length) aN] (some 65) #[true, true, true, true, true, true, true, true, true, true, true, true, false, false, false, true, false, false] (by kernel_rfl) (by kernel_rfl) (runM_any (g := g) (i := i) (p := p) (lm := lm) (ls := ls) (RdG.mk (G := g) (aZ.rdI0 (by first | omega | (simp only [List.length_cons, List.length_nil]; omega) | (simp; done) | (simp; omega))) (bA.rdI0 (by first | omega | (simp only [List.length_cons, List.length_nil]; omega) | (simp; done) | (simp; omega))) (bR.rdII0 (by first | omega | (simp only [List.length_cons, List.length_nil]; omega) | (simp; done) | (simp; omega)) hip39) aZ.cap bA.cap bR.cap) (aY.rdIpr (la := lm) (by first | rfl | (simp only [List.nil_append, List.append_assoc]; rfl)) (by omega)) (aU.rdIpr (la := ls) (by first | rfl | (simp only [List.nil_append, List.append_assoc]; rfl)) (by omega))) ?_
   rintro e_ eQ ⟨r, hr, cV, fY, cW, fZ, rfl, he, dL, dM⟩
   have hlr := run_len hr
   refine ⟨_, rfl, _, rfl, fun pF kT => ?_⟩
   clear kR; have cA := gr_ext he; have gF := kS.gr cA; have iM := aZ.lt; have iN := bA.lt; have iO := bR.lt; have iP := aY.lt; have iQ := aU.lt; have iR := bP.lt; have iS := bQ.lt; have := cA.size; replace bG := bG.gn cA; replace bI := bI.gn cA; replace bJ := bJ.gn cA; replace bK := bK.gn cA; replace bL := bL.gn cA
   replace aZ : OwnR eQ (Sx (aJ.heap.size) [obk (cV), obk (cW), some (cK.heap.size), some (aF.heap.size), obk (aG), obk (aH), obk (aE), obk (aA), some (aI.heap.size), obk (aC), obk (aD)]) aB aV 3 (g.ow : List Int) := aZ.grA cA (fun _ _ h => by cases h) (fun k hk hs => ⟨(fun e => by have := dL.ge _ e; omega), (fun e => by have := dM.ge _ e; omega), hs.1, hs.2.1, hs.2.2.1, hs.2.2.2.1, hs.2.2.2.2.1, hs.2.2.2.2.2.1, hs.2.2.2.2.2.2.1, hs.2.2.2.2.2.2.2.1, hs.2.2.2.2.2.2.2.2.1, hs.2.2.2.2.2.2.2.2.2⟩)
   replace bA : OwnR eQ (Sx (aJ.heap.size) [obk (cV), obk (cW), some (cK.heap.size), some (aF.heap.size), obk (aG), obk (aH), obk (aE), obk (aA), some (aI.heap.size), obk (aB), obk (aD)]) aC aW 3 (g.pr : List Int) := bA.grA cA (fun _ _ h => by cases h) (fun k hk hs => ⟨(fun e => by have := dL.ge _ e; omega), (fun e => by have := dM.ge _ e; omega), hs.1, hs.2.1, hs.2.2.1, hs.2.2.2.1, hs.2.2.2.2.1, hs.2.2.2.2.2.1, hs.2.2.2.2.2.2.1, hs.2.2.2.2.2.2.2.1, hs.2.2.2.2.2.2.2.2.1, hs.2.2.2.2.2.2.2.2.2⟩)
   replace bR : OwnLL eQ (aJ.heap.size) [obk (cV), obk (cW), some (cK.heap.size), some (aF.heap.size), obk (aG), obk (aH), obk (aE), obk (aA), some (aI.heap.size), obk (aB), obk (aC)] aD aX 22 3 (g.mv : List (List Int)) := bR.grA cA (fun _ _ h => by cases h) (fun k hk hs => ⟨(fun e => by have := dL.ge _ e; omega), (fun e => by have := dM.ge _ e; omega), hs.1, hs.2.1, hs.2.2.1, hs.2.2.2.1, hs.2.2.2.2.1, hs.2.2.2.2.2.1, hs.2.2.2.2.2.2.1, hs.2.2.2.2.2.2.2.1, hs.2.2.2.2.2.2.2.2.1, hs.2.2.2.2.2.2.2.2.2⟩)
   replace bD := bD.gn cA
   replace aY : OwnR eQ (Sx (bB.heap.size) [obk (cV), obk (cW), some (cK.heap.size), some (aF.heap.size), obk (aG), obk (aH), obk (aE), obk (aB), obk (aC), obk (aD)]) aA aL 3 (lm ++ ([0]) : List Int) := aY.grA cA (fun _ _ h => by cases h) (fun k hk hs => ⟨(fun e => by have := dL.ge _ e; omega), (fun e => by have := dM.ge _ e; omega), hs.1, hs.2.1, hs.2.2.1, hs.2.2.2.1, hs.2.2.2.2.1, hs.2.2.2.2.2.1, hs.2.2.2.2.2.2.1, hs.2.2.2.2.2.2.2.1, hs.2.2.2.2.2.2.2.2⟩)
   replace aU : OwnR eQ (Sx (bC.heap.size) [obk (cV), obk (cW), some (cK.heap.size), some (aF.heap.size), obk (aG), obk (aH), obk (aB), obk (aC), obk (aD), obk (aA)]) aE aN 3 (ls ++ ([0]) : List Int) := aU.grA cA (fun _ _ h => by cases h) (fun k hk hs => ⟨(fun e => by have := dL.ge _ e; omega), (fun e => by have := dM.ge _ e; omega), hs.1, hs.2.1, hs.2.2.1, hs.2.2.2.1, hs.2.2.2.2.1, hs.2.2.2.2.2.1, hs.2.2.2.2.2.2.1, hs.2.2.2.2.2.2.2.1, hs.2.2.2.2.2.2.2.2⟩)
   replace bP : OwnR eQ (Sx (aT.heap.size) [obk (cV), obk (cW), some (cK.heap.size), some (aF.heap.size), obk (aB), obk (aC), obk (aD), obk (aA), obk (aE), obk (aH)]) aG bM 3 (q.ah : List Int) := bP.grA cA (fun _ _ h => by cases h) (fun k hk hs => ⟨(fun e => by have := dL.ge _ e; omega), (fun e => by have := dM.ge _ e; omega), hs.1, hs.2.1, hs.2.2.1, hs.2.2.2.1, hs.2.2.2.2.1, hs.2.2.2.2.2.1, hs.2.2.2.2.2.2.1, hs.2.2.2.2.2.2.2.1, hs.2.2.2.2.2.2.2.2⟩)
   replace bQ : OwnR eQ (Sx (aT.heap.size) [obk (cV), obk (cW), some (cK.heap.size), some (aF.heap.size), obk (aB), obk (aC), obk (aD), obk (aA), obk (aE), obk (aG)]) aH bN 3 (q.ro : List Int) := bQ.grA cA (fun _ _ h => by cases h) (fun k hk hs => ⟨(fun e => by have := dL.ge _ e; omega), (fun e => by have := dM.ge _ e; omega), hs.1, hs.2.1, hs.2.2.1, hs.2.2.2.1, hs.2.2.2.2.1, hs.2.2.2.2.2.1, hs.2.2.2.2.2.2.1, hs.2.2.2.2.2.2.2.1, hs.2.2.2.2.2.2.2.2⟩)
   replace bT := bT.gn cA; replace gE := gE.gn cA
   replace dL : OwnR eQ (Sx (iK.heap.size) [obk (aB), obk (aC), obk (aD), obk (aA), obk (aE), obk (aG), obk (aH), obk (cW)]) cV fY 3 (r.ah : List Int) := dL.imp (fun g _ hs => ⟨(fun e => by have := iM _ e; have := Sx_base hs; omega), (fun e => by have := iN _ e; have := Sx_base hs; omega), (fun e => by have := iO _ e; have := Sx_base hs; omega), (fun e => by have := iP _ e; have := Sx_base hs; omega), (fun e => by have := iQ _ e; have := Sx_base hs; omega), (fun e => by have := iR _ e; have := Sx_base hs; omega), (fun e => by have := iS _ e; have := Sx_base hs; omega), hs⟩)
   replace dM : OwnR eQ (Sx (iK.heap.size) [obk (aB), obk (aC), obk (aD), obk (aA), obk (aE), obk (aG), obk (aH), obk (cV)]) cW fZ 3 (r.ro : List Int) := dM.imp (fun g _ hs => ⟨(fun e => by have := iM _ e; have := Sx_base hs; omega), (fun e => by have := iN _ e; have := Sx_base hs; omega), (fun e => by have := iO _ e; have := Sx_base hs; omega), (fun e => by have := iP _ e; have := Sx_base hs; omega), (fun e => by have := iQ _ e; have := Sx_base hs; omega), (fun e => by have := iR _ e; have := Sx_base hs; omega), (fun e => by have := iS _ e; have := Sx_base hs; omega), hs⟩)
   clear iM iN iO iP iQ iR iS; clear cA he
   refine ⟨gF, ?_⟩
   refine AtH.rd (by kernel_rfl) (fun d v c a w h => by cases d <;> exact h) gF [12] [[]] [(53, .tuple #[.agg #[.slice cV r.ah.length fY, .slice cW r.ro.length fZ, .int .i64 (r.win)], .int .i64 (r.err)])] #[true, true, true, true, true, true, true, true, true, true, true, true, true, false, false, true, false, false] [] 4 kT (by kernel_rfl) trivial (fun pG kU => ?_)
   clear kT
   refine AtH.rd (by kernel_rfl) (fun d v c a w h => by cases d <;> exact h) gF [13] [[]] [(66, .agg #[.slice cV r.ah.length fY, .slice cW r.ro.length fZ, .int .i64 (r.win)])] #[true, true, true, true, true, true, true, true, true, true, true, true, true, true, false, true, false, false] [] 3 kU (by kernel_rfl) trivial (fun pH kV => ?_)
   clear kU
   refine AtH.rd (by kernel_rfl) (fun d v c a w h => by cases d <;> exact h) gF [14] [[]] [(67, .int .i64 (r.err))] #[true, true, true, true, true, true, true, true, true, true, true, true, true, true, true, true, false, false] [] 2 kV (by kernel_rfl) trivial (fun pI kW => ?_)
   clear kV
   refine AtH.all [16] 1 (by kernel_rfl) (by simp) ⟨?_, trivial⟩
   refine OneH.store kW (t := 29) (b := cK.heap.size) (off := 0) (v := .agg #[.slice cV r.ah.length fY, .slice cW r.ro.length fZ, .int .i64 (r.win)]) #[true, true, true, true, true, true, true, true, true, true, true, true, true, true, true, true, true, false] (by kernel_rfl) (by kernel_rfl) gE (by kernel_rfl) (fun pJ nC bX iT kX => ?_)
   clear kW; replace iT : Bx nC (cK.heap.size) [.slice cV r.ah.length fY, .slice cW r.ro.length fZ, .int .i64 (r.win)] 29 := iT; have iU := gF.gr' bX (by rw [fV]; exact ⟨(by simp only [add_block]; omega), (by simp only [add_block]; omega), (by simp only [add_block]; omega), trivial⟩); have := bX.size; replace bG := bG.gr bX (fun k h => by injection h; omega); replace bI := bI.gb bX (by omega)
   replace bJ := bJ.gb bX (by omega); replace bK := bK.gb bX (by omega); replace bL := bL.gb bX (by omega); replace aZ := aZ.gr bX (fun k hk => hk.2.2.1); replace bA := bA.gr bX (fun k hk => hk.2.2.1); replace bR := bR.gr bX (fun k hk => hk.2.2.1); replace bD := bD.gb bX (by omega); replace aY := aY.gr bX (fun k hk => hk.2.2.1); replace aU := aU.gr bX (fun k hk => hk.2.2.1)
   replace bP := bP.gr bX (fun k hk => hk.2.2.1); replace bQ := bQ.gr bX (fun k hk => hk.2.2.1); replace bT := bT.gb bX (by omega); replace dL := dL.gr bX (fun k hk e => by have := Sx_base hk; injection e; omega); replace dM := dM.gr bX (fun k hk e => by have := Sx_base hk; injection e; omega); clear gE bX
   refine ⟨iU, ?_⟩
   refine AtH.rd (by kernel_rfl) (fun d v c a w h => by cases d <;> exact h) iU [17] [[]] [(19, .int .i64 (r.err))] #[true, true, true, true, true, true, true, true, true, true, true, true, true, true, true, true, true, true] [] 0 kX (by kernel_rfl) trivial (fun pK nD => ?_)
   clear kX
   refine AtH.done (by kernel_rfl) ?_
   clear iU
   refine t_n ?_
   have nE := nD.sub (r := [(19, .int .i64 (r.err)), (18, .pointer (some ⟨cK.heap.size, 0, none⟩)), (17, .int .i64 (n)), (16, .int .i64 (q.err)), (15, .pointer (some ⟨aF.heap.size, 0, none⟩)), (14, .slice aE ((ls ++ ([0])).length) aN), (13, .slice aA ((lm ++ ([0])).length) aL), (12, .pointer (some ⟨aI.heap.size, 0, none⟩)), (11, .bool true), (5, .pointer (some ⟨w.heap.size, 0, none⟩)), (1, .int .i64 (i)), (2, .int .i64 (p)), (3, .slice Am lm.length cm), (4, .slice As ls.length cs)]) ⟨rfl, rfl, rfl, rfl, rfl, rfl, rfl, rfl, rfl, rfl, rfl, rfl, rfl, rfl, trivial⟩
   exact ⟨r, cK.heap.size, cV, cW, fY, fZ, nE, bG, bI, bJ, bK, bL, (aZ.imp (fun g _ hs => ⟨hs.2.2.2.1, hs.2.2.2.2.1, hs.2.2.2.2.2.1, hs.2.2.2.2.2.2.1, hs.2.2.2.2.2.2.2.1, hs.2.2.2.2.2.2.2.2.1, hs.2.2.2.2.2.2.2.2.2.1, hs.2.2.2.2.2.2.2.2.2.2.1, hs.1, hs.2.1, hs.2.2.1, (by have := Sx_base hs; show aJ.heap.size ≤ g; omega)⟩)), (bA.imp (fun g _ hs => ⟨hs.2.2.2.1, hs.2.2.2.2.1, hs.2.2.2.2.2.1, hs.2.2.2.2.2.2.1, hs.2.2.2.2.2.2.2.1, hs.2.2.2.2.2.2.2.2.1, hs.2.2.2.2.2.2.2.2.2.1, hs.2.2.2.2.2.2.2.2.2.2.1, hs.1, hs.2.1, hs.2.2.1, (by have := Sx_base hs; show aJ.heap.size ≤ g; omega)⟩)), (bR.imp (fun g _ hs => ⟨hs.2.2.2.1, hs.2.2.2.2.1, hs.2.2.2.2.2.1, hs.2.2.2.2.2.2.1, hs.2.2.2.2.2.2.2.1, hs.2.2.2.2.2.2.2.2.1, hs.2.2.2.2.2.2.2.2.2.1, hs.2.2.2.2.2.2.2.2.2.2.1, hs.1, hs.2.1, hs.2.2.1, (by have := Sx_base hs; show aJ.heap.size ≤ g; omega)⟩)), bD, (aY.imp (fun g _ hs => ⟨hs.2.2.2.1, hs.2.2.2.2.1, hs.2.2.2.2.2.1, hs.2.2.2.2.2.2.1, hs.2.2.2.2.2.2.2.1, hs.2.2.2.2.2.2.2.2.1, hs.2.2.2.2.2.2.2.2.2.1, hs.1, hs.2.1, hs.2.2.1, (by have := Sx_base hs; show bB.heap.size ≤ g; omega)⟩)), (aU.imp (fun g _ hs => ⟨hs.2.2.2.1, hs.2.2.2.2.1, hs.2.2.2.2.2.1, hs.2.2.2.2.2.2.1, hs.2.2.2.2.2.2.2.1, hs.2.2.2.2.2.2.2.2.1, hs.2.2.2.2.2.2.2.2.2.1, hs.1, hs.2.1, hs.2.2.1, (by have := Sx_base hs; show bC.heap.size ≤ g; omega)⟩)), (bP.imp (fun g _ hs => ⟨hs.2.2.2.1, hs.2.2.2.2.1, hs.2.2.2.2.2.1, hs.2.2.2.2.2.2.1, hs.2.2.2.2.2.2.2.1, hs.2.2.2.2.2.2.2.2.1, hs.2.2.2.2.2.2.2.2.2.1, hs.1, hs.2.1, hs.2.2.1, (by have := Sx_base hs; show aT.heap.size ≤ g; omega)⟩)), (bQ.imp (fun g _ hs => ⟨hs.2.2.2.1, hs.2.2.2.2.1, hs.2.2.2.2.2.1, hs.2.2.2.2.2.2.1, hs.2.2.2.2.2.2.2.1, hs.2.2.2.2.2.2.2.2.1, hs.2.2.2.2.2.2.2.2.2.1, hs.1, hs.2.1, hs.2.2.1, (by have := Sx_base hs; show aT.heap.size ≤ g; omega)⟩)), bT, (dL.imp (fun g _ hs => ⟨hs.1, hs.2.1, hs.2.2.1, hs.2.2.2.1, hs.2.2.2.2.1, hs.2.2.2.2.2.1, hs.2.2.2.2.2.2.1, hs.2.2.2.2.2.2.2.1, (fun e => by have := Sx_base hs; injection e; omega), (by have := Sx_base hs; show bF.heap.size ≤ g; omega)⟩)), (dM.imp (fun g _ hs => ⟨hs.1, hs.2.1, hs.2.2.1, hs.2.2.2.1, hs.2.2.2.2.1, hs.2.2.2.2.2.1, hs.2.2.2.2.2.2.1, hs.2.2.2.2.2.2.2.1, (fun e => by have := Sx_base hs; injection e; omega), (by have := Sx_base hs; show bF.heap.size ≤ g; omega)⟩)), iT, (by omega), (by omega), hr⟩
  clear bI; clear bJ; clear bK; clear bL; clear aZ; clear bA; clear fR; clear bD; clear aY; clear aU; clear bP; clear bQ; clear bT; clear fU bG
  intro pL gA ⟨r, aK, bU, aO, dV, dB, kY, eR, fI, fJ, fK, eS, eT, eU, eV, eW, eX, eY, eB, eC, dN, cP, eD, dC, pM, pN, hr⟩
  have := eR.size; have hlr := run_len hr; have := eS.lt; have := eW.lt; have := dN.lt; have := dC.lt
  refine wp_seq ?_
  refine At.start ?_
  refine At.rd kY 2 [[.ld (.slice bU r.ah.length dV), .ld (.slice aO r.ro.length dB), .ld (.int .i64 (r.win))], [.ld (.slice aG q.ah.length bM), .ld (.slice aH q.ro.length bN), .ld (.int .i64 (q.win))]] [(69, .agg #[.slice aG q.ah.length bM, .slice aH q.ro.length bN, .int .i64 (q.win)]), (68, .agg #[.slice bU r.ah.length dV, .slice aO r.ro.length dB, .int .i64 (r.win)])] [(gA.cell? ⟨aK, 0, none⟩ = some (.slice bU r.ah.length dV)), (gA.cell? ⟨aK, 1, none⟩ = some (.slice aO r.ro.length dB)), (gA.cell? ⟨aK, 2, none⟩ = some (.int .i64 (r.win))), (gA.cell? ⟨aF.heap.size, 0, none⟩ = some (.slice aG q.ah.length bM)), (gA.cell? ⟨aF.heap.size, 1, none⟩ = some (.slice aH q.ro.length bN)), (gA.cell? ⟨aF.heap.size, 2, none⟩ = some (.int .i64 (q.win)))] (by kernel_rfl) ⟨(dC.cell (i := 0) rfl), (dC.cell (i := 1) rfl), (dC.cell (i := 2) rfl), (dN.cell (i := 0) rfl), (dN.cell (i := 1) rfl), (dN.cell (i := 2) rfl), trivial⟩ (fun pO kZ => ?_)
  clear kY
  refine At.call kZ 18 #[.agg #[.slice bU r.ah.length dV, .slice aO r.ro.length dB, .int .i64 (r.win)], .agg #[.slice aG q.ah.length bM, .slice aH q.ro.length bN, .int .i64 (q.win)]] (some 70) (by kernel_rfl) ((same17_any (la0 := r.ah) (la1 := r.ro) (lb0 := q.ah) (lb1 := q.ro) (va := r.win) (vb := q.win) (cP.rdI0 (by first | omega | (simp only [List.length_cons, List.length_nil]; omega) | (simp; done) | (simp; omega))) (eD.rdI0 (by first | omega | (simp only [List.length_cons, List.length_nil]; omega) | (simp; done) | (simp; omega))) (eB.rdI0 (by first | omega | (simp only [List.length_cons, List.length_nil]; omega) | (simp; done) | (simp; omega))) (eC.rdI0 (by first | omega | (simp only [List.length_cons, List.length_nil]; omega) | (simp; done) | (simp; omega)))).mono (R' := fun e w' => e = .returned (.bool true) ∧ Ext _ w') (fun e_ w_ h_ => by rw [show (decide (r.ah = q.ah ∧ r.ro = q.ro ∧ r.win = q.win) : Bool) = true from decide_eq_true (by rw [run_one hr hq]; exact ⟨rfl, rfl, rfl⟩)] at h_; exact h_)) ?_
  rintro e_ dO ⟨rfl, he⟩
  refine ⟨_, rfl, _, rfl, fun pP lA => ?_⟩
  clear kZ; have bY := gr_ext he; have := bY.size; replace eR := eR.gn bY; replace fI := fI.gn bY; replace fJ := fJ.gn bY; replace fK := fK.gn bY; replace eS := eS.gn bY; replace eT := eT.gn bY; replace eU := eU.gn bY; replace eV := eV.gn bY; replace eW := eW.gn bY; replace eX := eX.gn bY; replace eY := eY.gn bY; replace eB := eB.gn bY; replace eC := eC.gn bY; replace dN := dN.gn bY
  replace cP := cP.gn bY; replace eD := eD.gn bY; replace dC := dC.gn bY; clear bY he
  refine At.rd lA 1 [[]] [(20, .bool true)] [] (by kernel_rfl) trivial (fun pQ lB => ?_)
  clear lA
  refine At.done rfl ?_
  refine t_n ?_
  refine wp_seq ?_
  refine wp_seq ?_
  refine At.start ?_
  refine At.rd lB 7 [[], [], [.as_ (.bool false)], [], [], [], []] [(77, .bool false), (76, .bool false), (75, .bool true), (74, .bool false), (73, .bool false), (72, .int .i64 (q.err)), (71, .int .i64 (r.err))] [((.bool ((r.err : Int) != q.err) : Value) = .bool false)] (by kernel_rfl) ⟨(congrArg Value.bool (pneF (by rw [run_one hr hq]))), trivial⟩ (fun pR iV => ?_)
  clear lB
  refine At.done rfl ?_
  refine t_n ?_
  refine cond_F iV rfl ?_
  refine wp_skip ?_
  refine t_n ?_
  refine wp_seq ?_
  refine At.start ?_
  refine At.rd iV 2 [[], [.ld (.slice bU r.ah.length dV)]] [(79, .slice bU r.ah.length dV), (78, .pointer (some ⟨aK, 0, none⟩))] [(dO.cell? ⟨aK, 0, none⟩ = some (.slice bU r.ah.length dV))] (by kernel_rfl) ⟨(dC.cell (i := 0) rfl), trivial⟩ (fun pS lC => ?_)
  clear iV
  refine At.seq lC 1 [[]] [(80, .slice (some ⟨dO.heap.size, 0, none⟩) 1 1)] (dO.alloc (.cells #[.int .i64 (9)] 3 (0, 0))) [] (by kernel_rfl) trivial (fun pT lD iW lE => ?_)
  clear lC; have bZ := gr_alloc iW; have := bZ.size; replace eR := eR.gn bZ; replace fI := fI.gn bZ; replace fJ := fJ.gn bZ; replace fK := fK.gn bZ; replace eS := eS.gn bZ; replace eT := eT.grN bZ; replace eU := eU.grN bZ; replace eV := eV.grN bZ; replace eW := eW.gn bZ; replace eX := eX.grN bZ; replace eY := eY.grN bZ; replace eB := eB.grN bZ; replace eC := eC.grN bZ; replace dN := dN.gn bZ
  replace cP := cP.grN bZ; replace eD := eD.grN bZ; replace dC := dC.gn bZ; have iX : Bx lD (dO.heap.size) [.int .i64 (9)] 3 := Bx.new iW; have := iX.lt; clear bZ iW; have nF : (r.ah ++ ([9])).length = (r.ah).length + ([9] : List Int).length := List.length_append
  simp only [List.length_cons, List.length_nil] at nF
  refine At.act lE (appendR (α := Int) (t := 22) (d := 81) (n := r.ah.length) (m := 1) (cc := 1) (xs := r.ah) (ys := [9]) (bytes := 8) (by first | rfl | omega | (simp; done) | (simp; omega)) (by first | rfl | omega | (simp; done) | (simp; omega)) (by kernel_rfl) rfl (by kernel_rfl) cP (Bx.srcR (l := ([9] : List Int)) iX rfl) (by simp only [List.length_cons, List.length_nil]; omega) (by simp only [List.length_cons, List.length_nil]; omega)) ?_
  rintro d_ v_ fL ⟨rfl, dD, gG, dP⟩
  obtain rfl := dP.val
  have cB := dP.gr
  refine ⟨_, rfl, fun pU lF => ?_⟩
  clear lE; clear iX
  have lG := dP.own (Sx (bF.heap.size) [obk (aB), obk (aC), obk (aD), obk (aA), obk (aE), obk (aG), obk (aH), obk (aO), some (aK)]) (fun g _ hs => ⟨hs.2.1, hs.2.2.1, hs.2.2.2.1, hs.2.2.2.2.1, hs.2.2.2.2.2.1, hs.2.2.2.2.2.2.1, hs.2.2.2.2.2.2.2.1, hs.2.2.2.2.2.2.2.2.1, hs.2.2.2.2.2.2.2.2.2.1, hs.2.2.2.2.2.2.2.2.2.2⟩) ⟨eT.ne_new, eU.ne_new, eV.ne_new, eX.ne_new, eY.ne_new, eB.ne_new, eC.ne_new, eD.ne_new, (fun e => by injection e; omega), (show bF.heap.size ≤ lD.heap.size by omega)⟩
  have := cB.size; replace eR := eR.gr cB (fun k hk => by have := cP.ge k hk; omega); replace fI := fI.gr cB (fun k hk => by have := cP.ge k hk; omega); replace fJ := fJ.gr cB (fun k hk => by have := cP.ge k hk; omega); replace fK := fK.gr cB (fun k hk => by have := cP.ge k hk; omega); replace eS := eS.gr cB (fun e => by have := cP.ge _ e; omega)
  replace eT : OwnR fL (Sx (aJ.heap.size) [some (dO.heap.size), some (aF.heap.size), obk (aG), obk (aH), obk (aE), obk (aA), some (aI.heap.size), obk (aC), obk (aD), obk (dD), obk (aO), some (aK)]) aB aV 3 (g.ow : List Int) := eT.grA cB (fun k hk => hk.2.2.2.2.2.2.2.2.2.1) (fun k hk hs => ⟨hs.1, hs.2.1, hs.2.2.1, hs.2.2.2.1, hs.2.2.2.2.1, hs.2.2.2.2.2.1, hs.2.2.2.2.2.2.1, hs.2.2.2.2.2.2.2.1, hs.2.2.2.2.2.2.2.2.1, own_repl dP.at_ hs.2.2.2.2.2.2.2.2.2.1 hk, hs.2.2.2.2.2.2.2.2.2.2.1, hs.2.2.2.2.2.2.2.2.2.2.2.1, hs.2.2.2.2.2.2.2.2.2.2.2.2⟩)
  replace eU : OwnR fL (Sx (aJ.heap.size) [some (dO.heap.size), some (aF.heap.size), obk (aG), obk (aH), obk (aE), obk (aA), some (aI.heap.size), obk (aB), obk (aD), obk (dD), obk (aO), some (aK)]) aC aW 3 (g.pr : List Int) := eU.grA cB (fun k hk => hk.2.2.2.2.2.2.2.2.2.1) (fun k hk hs => ⟨hs.1, hs.2.1, hs.2.2.1, hs.2.2.2.1, hs.2.2.2.2.1, hs.2.2.2.2.2.1, hs.2.2.2.2.2.2.1, hs.2.2.2.2.2.2.2.1, hs.2.2.2.2.2.2.2.2.1, own_repl dP.at_ hs.2.2.2.2.2.2.2.2.2.1 hk, hs.2.2.2.2.2.2.2.2.2.2.1, hs.2.2.2.2.2.2.2.2.2.2.2.1, hs.2.2.2.2.2.2.2.2.2.2.2.2⟩)
  replace eV : OwnLL fL (aJ.heap.size) [some (dO.heap.size), some (aF.heap.size), obk (aG), obk (aH), obk (aE), obk (aA), some (aI.heap.size), obk (aB), obk (aC), obk (dD), obk (aO), some (aK)] aD aX 22 3 (g.mv : List (List Int)) := eV.grA cB (fun k hk => hk.2.2.2.2.2.2.2.2.2.1) (fun k hk hs => ⟨hs.1, hs.2.1, hs.2.2.1, hs.2.2.2.1, hs.2.2.2.2.1, hs.2.2.2.2.2.1, hs.2.2.2.2.2.2.1, hs.2.2.2.2.2.2.2.1, hs.2.2.2.2.2.2.2.2.1, own_repl dP.at_ hs.2.2.2.2.2.2.2.2.2.1 hk, hs.2.2.2.2.2.2.2.2.2.2.1, hs.2.2.2.2.2.2.2.2.2.2.2.1, hs.2.2.2.2.2.2.2.2.2.2.2.2⟩)
  replace eW := eW.gr cB (fun e => by have := cP.ge _ e; omega)
  replace eX : OwnR fL (Sx (bB.heap.size) [some (dO.heap.size), some (aF.heap.size), obk (aG), obk (aH), obk (aE), obk (aB), obk (aC), obk (aD), obk (dD), obk (aO), some (aK)]) aA aL 3 (lm ++ ([0]) : List Int) := eX.grA cB (fun k hk => hk.2.2.2.2.2.2.2.2.1) (fun k hk hs => ⟨hs.1, hs.2.1, hs.2.2.1, hs.2.2.2.1, hs.2.2.2.2.1, hs.2.2.2.2.2.1, hs.2.2.2.2.2.2.1, hs.2.2.2.2.2.2.2.1, own_repl dP.at_ hs.2.2.2.2.2.2.2.2.1 hk, hs.2.2.2.2.2.2.2.2.2.1, hs.2.2.2.2.2.2.2.2.2.2.1, hs.2.2.2.2.2.2.2.2.2.2.2⟩)
  replace eY : OwnR fL (Sx (bC.heap.size) [some (dO.heap.size), some (aF.heap.size), obk (aG), obk (aH), obk (aB), obk (aC), obk (aD), obk (aA), obk (dD), obk (aO), some (aK)]) aE aN 3 (ls ++ ([0]) : List Int) := eY.grA cB (fun k hk => hk.2.2.2.2.2.2.2.2.1) (fun k hk hs => ⟨hs.1, hs.2.1, hs.2.2.1, hs.2.2.2.1, hs.2.2.2.2.1, hs.2.2.2.2.2.1, hs.2.2.2.2.2.2.1, hs.2.2.2.2.2.2.2.1, own_repl dP.at_ hs.2.2.2.2.2.2.2.2.1 hk, hs.2.2.2.2.2.2.2.2.2.1, hs.2.2.2.2.2.2.2.2.2.2.1, hs.2.2.2.2.2.2.2.2.2.2.2⟩)
  replace eB : OwnR fL (Sx (aT.heap.size) [some (dO.heap.size), some (aF.heap.size), obk (aB), obk (aC), obk (aD), obk (aA), obk (aE), obk (aH), obk (dD), obk (aO), some (aK)]) aG bM 3 (q.ah : List Int) := eB.grA cB (fun k hk => hk.2.2.2.2.2.2.2.2.1) (fun k hk hs => ⟨hs.1, hs.2.1, hs.2.2.1, hs.2.2.2.1, hs.2.2.2.2.1, hs.2.2.2.2.2.1, hs.2.2.2.2.2.2.1, hs.2.2.2.2.2.2.2.1, own_repl dP.at_ hs.2.2.2.2.2.2.2.2.1 hk, hs.2.2.2.2.2.2.2.2.2.1, hs.2.2.2.2.2.2.2.2.2.2.1, hs.2.2.2.2.2.2.2.2.2.2.2⟩)
  replace eC : OwnR fL (Sx (aT.heap.size) [some (dO.heap.size), some (aF.heap.size), obk (aB), obk (aC), obk (aD), obk (aA), obk (aE), obk (aG), obk (dD), obk (aO), some (aK)]) aH bN 3 (q.ro : List Int) := eC.grA cB (fun k hk => hk.2.2.2.2.2.2.2.2.1) (fun k hk hs => ⟨hs.1, hs.2.1, hs.2.2.1, hs.2.2.2.1, hs.2.2.2.2.1, hs.2.2.2.2.2.1, hs.2.2.2.2.2.2.1, hs.2.2.2.2.2.2.2.1, own_repl dP.at_ hs.2.2.2.2.2.2.2.2.1 hk, hs.2.2.2.2.2.2.2.2.2.1, hs.2.2.2.2.2.2.2.2.2.2.1, hs.2.2.2.2.2.2.2.2.2.2.2⟩)
  replace dN := dN.gr cB (fun e => by have := cP.ge _ e; omega)
  replace eD : OwnR fL (Sx (bF.heap.size) [some (dO.heap.size), obk (aB), obk (aC), obk (aD), obk (aA), obk (aE), obk (aG), obk (aH), obk (dD), some (aK)]) aO dB 3 (r.ro : List Int) := eD.grA cB (fun k hk => hk.2.2.2.2.2.2.2.2.1) (fun k hk hs => ⟨hs.1, hs.2.1, hs.2.2.1, hs.2.2.2.1, hs.2.2.2.2.1, hs.2.2.2.2.2.1, hs.2.2.2.2.2.2.1, hs.2.2.2.2.2.2.2.1, own_repl dP.at_ hs.2.2.2.2.2.2.2.2.1 hk, hs.2.2.2.2.2.2.2.2.2.1, hs.2.2.2.2.2.2.2.2.2.2⟩)
  replace dC := dC.gr cB (cP.neb (fun g hs => hs.2.2.2.2.2.2.2.2.2.1)); clear cP cB dP
  refine At.rd lF 1 [[]] [(21, .slice dD ((r.ah ++ ([9])).length) gG)] [] (by kernel_rfl) trivial (fun pV lH => ?_)
  clear lF
  refine At.done rfl ?_
  refine t_n ?_
  refine wp_seq ?_
  refine wp_seq ?_
  refine At.start ?_
  refine At.rd lH 1 [[]] [(22, .int .i64 (0))] [] (by kernel_rfl) trivial (fun pW lI => ?_)
  clear lH
  refine At.done rfl ?_
  refine t_n ?_
  refine wp_block ?_
  have lJ := lI.as 21 (.slice dD ((r.ah ++ ([9])).length) gG) (.slice dD ((r.ah ++ ([9]) : List Int).length) gG) rfl (slice_len (by first | rfl | omega | (simp; done) | (simp; omega)))
  clear lI
  have lK := lJ.sub (r := [(22, .int .i64 (0)), (21, .slice dD ((r.ah ++ ([9]) : List Int).length) gG), (76, .bool false), (75, .bool true), (18, .pointer (some ⟨aK, 0, none⟩)), (17, .int .i64 (n)), (16, .int .i64 (q.err)), (15, .pointer (some ⟨aF.heap.size, 0, none⟩)), (14, .slice aE ((ls ++ ([0])).length) aN), (13, .slice aA ((lm ++ ([0])).length) aL), (12, .pointer (some ⟨aI.heap.size, 0, none⟩)), (11, .bool true), (5, .pointer (some ⟨w.heap.size, 0, none⟩)), (1, .int .i64 (i)), (2, .int .i64 (p)), (3, .slice Am lm.length cm), (4, .slice As ls.length cs)]) ⟨rfl, rfl, rfl, rfl, rfl, rfl, rfl, rfl, rfl, rfl, rfl, rfl, rfl, rfl, rfl, rfl, rfl, trivial⟩
  refine loop_g (fun (m_ : Nat) a_ w_ => ∃ (k : Int) (xs : List Int) (bH : Option Addr) (eZ : Nat), m_ = ((xs.length : Int) - k).toNat ∧ (Frm 129 a_ [(22, .int .i64 (k)), (21, .slice bH xs.length eZ), (76, .bool false), (75, .bool true), (18, .pointer (some ⟨aK, 0, none⟩)), (17, .int .i64 (n)), (16, .int .i64 (q.err)), (15, .pointer (some ⟨aF.heap.size, 0, none⟩)), (14, .slice aE ((ls ++ ([0])).length) aN), (13, .slice aA ((lm ++ ([0])).length) aL), (12, .pointer (some ⟨aI.heap.size, 0, none⟩)), (11, .bool true), (5, .pointer (some ⟨w.heap.size, 0, none⟩)), (1, .int .i64 (i)), (2, .int .i64 (p)), (3, .slice Am lm.length cm), (4, .slice As ls.length cs)]) ∧ (Ext w w_) ∧ (RdG w_ 0 w.heap.size Ag0 Ag1 Ag2 cg0 cg1 cg2 g) ∧ (RdI w_ 0 w.heap.size Am lm) ∧ (RdI w_ 0 w.heap.size As ls) ∧ (Bx w_ (w.heap.size) [.slice Ag0 g.ow.length cg0, .slice Ag1 g.pr.length cg1, .slice Ag2 g.mv.length cg2] 25) ∧ (OwnR w_ (Sx (aJ.heap.size) [some (aF.heap.size), obk (aG), obk (aH), obk (aE), obk (aA), some (aI.heap.size), obk (aC), obk (aD), obk (bH), obk (aO), some (aK)]) aB aV 3 (g.ow : List Int)) ∧ (OwnR w_ (Sx (aJ.heap.size) [some (aF.heap.size), obk (aG), obk (aH), obk (aE), obk (aA), some (aI.heap.size), obk (aB), obk (aD), obk (bH), obk (aO), some (aK)]) aC aW 3 (g.pr : List Int)) ∧ (OwnLL w_ (aJ.heap.size) [some (aF.heap.size), obk (aG), obk (aH), obk (aE), obk (aA), some (aI.heap.size), obk (aB), obk (aC), obk (bH), obk (aO), some (aK)] aD aX 22 3 (g.mv : List (List Int))) ∧ (Bx w_ (aI.heap.size) [.slice aB g.ow.length aV, .slice aC g.pr.length aW, .slice aD g.mv.length aX] 25) ∧ (OwnR w_ (Sx (bB.heap.size) [some (aF.heap.size), obk (aG), obk (aH), obk (aE), obk (aB), obk (aC), obk (aD), obk (bH), obk (aO), some (aK)]) aA aL 3 (lm ++ ([0]) : List Int)) ∧ (OwnR w_ (Sx (bC.heap.size) [some (aF.heap.size), obk (aG), obk (aH), obk (aB), obk (aC), obk (aD), obk (aA), obk (bH), obk (aO), some (aK)]) aE aN 3 (ls ++ ([0]) : List Int)) ∧ (OwnR w_ (Sx (aT.heap.size) [some (aF.heap.size), obk (aB), obk (aC), obk (aD), obk (aA), obk (aE), obk (aH), obk (bH), obk (aO), some (aK)]) aG bM 3 (q.ah : List Int)) ∧ (OwnR w_ (Sx (aT.heap.size) [some (aF.heap.size), obk (aB), obk (aC), obk (aD), obk (aA), obk (aE), obk (aG), obk (bH), obk (aO), some (aK)]) aH bN 3 (q.ro : List Int)) ∧ (Bx w_ (aF.heap.size) [.slice aG q.ah.length bM, .slice aH q.ro.length bN, .int .i64 (q.win)] 29) ∧ (OwnR w_ (Sx (bF.heap.size) [obk (aB), obk (aC), obk (aD), obk (aA), obk (aE), obk (aG), obk (aH), obk (aO), some (aK)]) bH eZ 3 (xs : List Int)) ∧ (OwnR w_ (Sx (bF.heap.size) [obk (aB), obk (aC), obk (aD), obk (aA), obk (aE), obk (aG), obk (aH), obk (bH), some (aK)]) aO dB 3 (r.ro : List Int)) ∧ (Bx w_ (aK) [.slice bU r.ah.length dV, .slice aO r.ro.length dB, .int .i64 (r.win)] 29) ∧ (0 ≤ k) ∧ (k ≤ (xs.length : Int)) ∧ (xs.length ≤ 20000) ∧ (aJ.heap.size ≤ w_.heap.size) ∧ (bB.heap.size ≤ w_.heap.size) ∧ (bC.heap.size ≤ w_.heap.size) ∧ (aT.heap.size ≤ w_.heap.size) ∧ (bF.heap.size ≤ w_.heap.size)) _ ⟨0, (r.ah ++ ([9]) : List Int), dD, gG, rfl, lK, eR, fI, fJ, fK, eS, (eT.imp (fun g _ hs => ⟨hs.2.1, hs.2.2.1, hs.2.2.2.1, hs.2.2.2.2.1, hs.2.2.2.2.2.1, hs.2.2.2.2.2.2.1, hs.2.2.2.2.2.2.2.1, hs.2.2.2.2.2.2.2.2.1, hs.2.2.2.2.2.2.2.2.2.1, hs.2.2.2.2.2.2.2.2.2.2.1, hs.2.2.2.2.2.2.2.2.2.2.2.1, hs.2.2.2.2.2.2.2.2.2.2.2.2⟩)), (eU.imp (fun g _ hs => ⟨hs.2.1, hs.2.2.1, hs.2.2.2.1, hs.2.2.2.2.1, hs.2.2.2.2.2.1, hs.2.2.2.2.2.2.1, hs.2.2.2.2.2.2.2.1, hs.2.2.2.2.2.2.2.2.1, hs.2.2.2.2.2.2.2.2.2.1, hs.2.2.2.2.2.2.2.2.2.2.1, hs.2.2.2.2.2.2.2.2.2.2.2.1, hs.2.2.2.2.2.2.2.2.2.2.2.2⟩)), (eV.imp (fun g _ hs => ⟨hs.2.1, hs.2.2.1, hs.2.2.2.1, hs.2.2.2.2.1, hs.2.2.2.2.2.1, hs.2.2.2.2.2.2.1, hs.2.2.2.2.2.2.2.1, hs.2.2.2.2.2.2.2.2.1, hs.2.2.2.2.2.2.2.2.2.1, hs.2.2.2.2.2.2.2.2.2.2.1, hs.2.2.2.2.2.2.2.2.2.2.2.1, hs.2.2.2.2.2.2.2.2.2.2.2.2⟩)), eW, (eX.imp (fun g _ hs => ⟨hs.2.1, hs.2.2.1, hs.2.2.2.1, hs.2.2.2.2.1, hs.2.2.2.2.2.1, hs.2.2.2.2.2.2.1, hs.2.2.2.2.2.2.2.1, hs.2.2.2.2.2.2.2.2.1, hs.2.2.2.2.2.2.2.2.2.1, hs.2.2.2.2.2.2.2.2.2.2.1, hs.2.2.2.2.2.2.2.2.2.2.2⟩)), (eY.imp (fun g _ hs => ⟨hs.2.1, hs.2.2.1, hs.2.2.2.1, hs.2.2.2.2.1, hs.2.2.2.2.2.1, hs.2.2.2.2.2.2.1, hs.2.2.2.2.2.2.2.1, hs.2.2.2.2.2.2.2.2.1, hs.2.2.2.2.2.2.2.2.2.1, hs.2.2.2.2.2.2.2.2.2.2.1, hs.2.2.2.2.2.2.2.2.2.2.2⟩)), (eB.imp (fun g _ hs => ⟨hs.2.1, hs.2.2.1, hs.2.2.2.1, hs.2.2.2.2.1, hs.2.2.2.2.2.1, hs.2.2.2.2.2.2.1, hs.2.2.2.2.2.2.2.1, hs.2.2.2.2.2.2.2.2.1, hs.2.2.2.2.2.2.2.2.2.1, hs.2.2.2.2.2.2.2.2.2.2.1, hs.2.2.2.2.2.2.2.2.2.2.2⟩)), (eC.imp (fun g _ hs => ⟨hs.2.1, hs.2.2.1, hs.2.2.2.1, hs.2.2.2.2.1, hs.2.2.2.2.2.1, hs.2.2.2.2.2.2.1, hs.2.2.2.2.2.2.2.1, hs.2.2.2.2.2.2.2.2.1, hs.2.2.2.2.2.2.2.2.2.1, hs.2.2.2.2.2.2.2.2.2.2.1, hs.2.2.2.2.2.2.2.2.2.2.2⟩)), dN, lG, (eD.imp (fun g _ hs => ⟨hs.2.1, hs.2.2.1, hs.2.2.2.1, hs.2.2.2.2.1, hs.2.2.2.2.2.1, hs.2.2.2.2.2.2.1, hs.2.2.2.2.2.2.2.1, hs.2.2.2.2.2.2.2.2.1, hs.2.2.2.2.2.2.2.2.2.1, hs.2.2.2.2.2.2.2.2.2.2⟩)), dC, (by omega), (by omega), (by omega), (by omega), (by omega), (by omega), (by omega), (by omega)⟩ ?_
  clear lK lJ; clear fI; clear fJ; clear fK; clear eS; clear eT; clear eU; clear eV; clear eW; clear eX; clear eY; clear eB; clear eC; clear dN; clear lG; clear eD; clear dC; clear eR
  intro m_ pX dW ⟨k, xs, bH, eZ, hm663, lL, eE, fA, fB, fC, eF, eG, eH, gS, eI, eJ, eK, eL, eM, eN, dQ, cQ, eO, i681, i682, i683, i684, i685, i686, i687, i688⟩
  have := eE.size; have := eF.lt; have := eI.lt; have := eN.lt; have := eO.lt
  refine wp_seq ?_
  refine wp_seq ?_
  refine At.start ?_
  refine At.rd lL 4 [[], [], [], []] [(85, .bool (decide ((k : Int) < ((xs.length : Nat) : Int)))), (84, .int .i64 (((xs.length : Nat) : Int))), (83, .slice bH xs.length eZ), (82, .int .i64 (k))] [] (by kernel_rfl) trivial (fun pY gH => ?_)
  clear lL
  refine At.done rfl ?_
  refine t_n ?_
  refine cond_S gH (t := decide ((k : Int) < ((xs.length : Nat) : Int))) rfl (fun iY => ?_) (fun iY => ?_)
  ·have pZ := of_decide_eq_true iY
   refine wp_skip ?_
   refine t_n ?_
   refine wp_seq ?_
   refine wp_block ?_
   refine At.start ?_
   obtain ⟨gT, lM, qA, qB, qC⟩ := dQ.get (k) (by omega) (by omega) (sz := 1) rfl
   refine At.rd gH 3 [[], [], [.ad gT]] [(90, .pointer (some (gT.add ((k : Int).toNat * 1)))), (89, .int .i64 (k)), (88, .slice bH xs.length eZ)] [(bH = some gT), (0 ≤ (k : Int)), ((k : Int) < (xs.length : Nat))] (by kernel_rfl) ⟨lM, (by omega), (by omega), trivial⟩ (fun qD lN => ?_)
   clear gH
   refine At.act lN (storeR (α := Int) (t := 3) (i := k) (ad := gT) (v := .int .i64 (-9)) (-9) (by kernel_rfl) rfl rfl (by kernel_rfl) lM dQ (by omega) (by omega)) ?_
   rintro d_ v_ qE ⟨rfl, cC, nG⟩
   refine ⟨_, rfl, fun qF lO => ?_⟩
   clear lN; have qG : ((xs).set (k : Int).toNat (-9)).length = (xs).length := List.length_set; have := cC.size; replace eE := eE.gr cC (fun k hk => by have := dQ.ge k hk; omega); replace fA := fA.gr cC (fun k hk => by have := dQ.ge k hk; omega); replace fB := fB.gr cC (fun k hk => by have := dQ.ge k hk; omega); replace fC := fC.gr cC (fun k hk => by have := dQ.ge k hk; omega)
   replace eF := eF.gr cC (fun e => by have := dQ.ge _ e; omega); replace eG := eG.gr cC (fun k hk => hk.2.2.2.2.2.2.2.2.1); replace eH := eH.gr cC (fun k hk => hk.2.2.2.2.2.2.2.2.1); have nH := gS.gr cC (fun k hk => hk.2.2.2.2.2.2.2.2.1); clear gS; replace eI := eI.gr cC (fun e => by have := dQ.ge _ e; omega); replace eJ := eJ.gr cC (fun k hk => hk.2.2.2.2.2.2.2.1)
   replace eK := eK.gr cC (fun k hk => hk.2.2.2.2.2.2.2.1); replace eL := eL.gr cC (fun k hk => hk.2.2.2.2.2.2.2.1); replace eM := eM.gr cC (fun k hk => hk.2.2.2.2.2.2.2.1); replace eN := eN.gr cC (fun e => by have := dQ.ge _ e; omega); replace cQ := cQ.gr cC (fun k hk => hk.2.2.2.2.2.2.2.1); replace eO := eO.gr cC (dQ.neb (fun g hs => hs.2.2.2.2.2.2.2.2.1)); clear dQ cC
   refine At.done rfl ?_
   refine b_n ?_
   refine t_n ?_
   refine At.start ?_
   refine At.rd lO 3 [[], [.as_ (.int .i64 (k + 1))], []] [(22, .int .i64 (k + 1)), (87, .int .i64 (k + 1)), (86, .int .i64 (k))] [((.int .i64 (IntKind.i64.wrap (k + 1)) : Value) = .int .i64 (k + 1))] (by kernel_rfl) ⟨(w64 (by omega) (by omega)), trivial⟩ (fun qH lP => ?_)
   clear lO
   refine At.done rfl ?_
   refine t_n ?_
   have nI := lP.as 21 (.slice bH xs.length eZ) (.slice bH (((xs).set (k : Int).toNat (-9) : List Int).length) eZ) rfl (slice_len (by first | rfl | omega | (simp; done) | (simp; omega)))
   clear lP
   have nJ := nI.sub (r := [(22, .int .i64 (k + 1)), (21, .slice bH (((xs).set (k : Int).toNat (-9) : List Int).length) eZ), (76, .bool false), (75, .bool true), (18, .pointer (some ⟨aK, 0, none⟩)), (17, .int .i64 (n)), (16, .int .i64 (q.err)), (15, .pointer (some ⟨aF.heap.size, 0, none⟩)), (14, .slice aE ((ls ++ ([0])).length) aN), (13, .slice aA ((lm ++ ([0])).length) aL), (12, .pointer (some ⟨aI.heap.size, 0, none⟩)), (11, .bool true), (5, .pointer (some ⟨w.heap.size, 0, none⟩)), (1, .int .i64 (i)), (2, .int .i64 (p)), (3, .slice Am lm.length cm), (4, .slice As ls.length cs)]) ⟨rfl, rfl, rfl, rfl, rfl, rfl, rfl, rfl, rfl, rfl, rfl, rfl, rfl, rfl, rfl, rfl, rfl, trivial⟩
   exact ⟨_, (by omega), (k + 1), ((xs).set (k : Int).toNat (-9) : List Int), bH, eZ, rfl, nJ, eE, fA, fB, fC, eF, eG, eH, nH, eI, eJ, eK, eL, eM, eN, nG, cQ, eO, (by omega), (by omega), (by rw [List.length_set]; omega), (by omega), (by omega), (by omega), (by omega), (by omega)⟩
  have qI := of_decide_eq_false iY
  refine wp_exit ?_
  refine t_e ?_
  refine t_e ?_
  refine b_e ?_
  refine t_n ?_
  clear dQ
  refine wp_seq ?_
  refine At.start ?_
  refine At.rd gH 2 [[], [.ld (.slice aO r.ro.length dB)]] [(92, .slice aO r.ro.length dB), (91, .pointer (some ⟨aK, 1, none⟩))] [(dW.cell? ⟨aK, 1, none⟩ = some (.slice aO r.ro.length dB))] (by kernel_rfl) ⟨(eO.cell (i := 1) rfl), trivial⟩ (fun qJ lQ => ?_)
  clear gH
  refine At.seq lQ 1 [[]] [(93, .slice (some ⟨dW.heap.size, 0, none⟩) 1 1)] (dW.alloc (.cells #[.int .i64 (9)] 3 (0, 0))) [] (by kernel_rfl) trivial (fun qK lR iZ lS => ?_)
  clear lQ; have cD := gr_alloc iZ; have := cD.size; replace eE := eE.gn cD; replace fA := fA.gn cD; replace fB := fB.gn cD; replace fC := fC.gn cD; replace eF := eF.gn cD; replace eG := eG.grN cD; replace eH := eH.grN cD; have gI := gS.grN cD; clear gS; replace eI := eI.gn cD; replace eJ := eJ.grN cD; replace eK := eK.grN cD; replace eL := eL.grN cD; replace eM := eM.grN cD; replace eN := eN.gn cD
  replace cQ := cQ.grN cD; replace eO := eO.gn cD; have jA : Bx lR (dW.heap.size) [.int .i64 (9)] 3 := Bx.new iZ; have := jA.lt; clear cD iZ; have nK : (r.ro ++ ([9])).length = (r.ro).length + ([9] : List Int).length := List.length_append
  simp only [List.length_cons, List.length_nil] at nK
  refine At.act lS (appendR (α := Int) (t := 22) (d := 94) (n := r.ro.length) (m := 1) (cc := 1) (xs := r.ro) (ys := [9]) (bytes := 8) (by first | rfl | omega | (simp; done) | (simp; omega)) (by first | rfl | omega | (simp; done) | (simp; omega)) (by kernel_rfl) rfl (by kernel_rfl) cQ (Bx.srcR (l := ([9] : List Int)) jA rfl) (by simp only [List.length_cons, List.length_nil]; omega) (by simp only [List.length_cons, List.length_nil]; omega)) ?_
  rintro d_ v_ fS ⟨rfl, dR, gJ, dX⟩
  obtain rfl := dX.val
  have cH := dX.gr
  refine ⟨_, rfl, fun qL lT => ?_⟩
  clear lS; clear jA
  have lU := dX.own (Sx (bF.heap.size) [obk (aB), obk (aC), obk (aD), obk (aA), obk (aE), obk (aG), obk (aH), some (aK)]) (fun g _ hs => ⟨hs.2.1, hs.2.2.1, hs.2.2.2.1, hs.2.2.2.2.1, hs.2.2.2.2.2.1, hs.2.2.2.2.2.2.1, hs.2.2.2.2.2.2.2.1, hs.2.2.2.2.2.2.2.2.2.1, hs.2.2.2.2.2.2.2.2.2.2⟩) ⟨eG.ne_new, eH.ne_new, gI.ne_new, eJ.ne_new, eK.ne_new, eL.ne_new, eM.ne_new, (fun e => by injection e; omega), (show bF.heap.size ≤ lR.heap.size by omega)⟩
  have := cH.size; replace eE := eE.gr cH (fun k hk => by have := cQ.ge k hk; omega); replace fA := fA.gr cH (fun k hk => by have := cQ.ge k hk; omega); replace fB := fB.gr cH (fun k hk => by have := cQ.ge k hk; omega); replace fC := fC.gr cH (fun k hk => by have := cQ.ge k hk; omega); replace eF := eF.gr cH (fun e => by have := cQ.ge _ e; omega)
  replace eG : OwnR fS (Sx (aJ.heap.size) [some (dW.heap.size), some (aF.heap.size), obk (aG), obk (aH), obk (aE), obk (aA), some (aI.heap.size), obk (aC), obk (aD), obk (bH), obk (dR), some (aK)]) aB aV 3 (g.ow : List Int) := eG.grA cH (fun k hk => hk.2.2.2.2.2.2.2.2.2.2.1) (fun k hk hs => ⟨hs.1, hs.2.1, hs.2.2.1, hs.2.2.2.1, hs.2.2.2.2.1, hs.2.2.2.2.2.1, hs.2.2.2.2.2.2.1, hs.2.2.2.2.2.2.2.1, hs.2.2.2.2.2.2.2.2.1, hs.2.2.2.2.2.2.2.2.2.1, own_repl dX.at_ hs.2.2.2.2.2.2.2.2.2.2.1 hk, hs.2.2.2.2.2.2.2.2.2.2.2.1, hs.2.2.2.2.2.2.2.2.2.2.2.2⟩)
  replace eH : OwnR fS (Sx (aJ.heap.size) [some (dW.heap.size), some (aF.heap.size), obk (aG), obk (aH), obk (aE), obk (aA), some (aI.heap.size), obk (aB), obk (aD), obk (bH), obk (dR), some (aK)]) aC aW 3 (g.pr : List Int) := eH.grA cH (fun k hk => hk.2.2.2.2.2.2.2.2.2.2.1) (fun k hk hs => ⟨hs.1, hs.2.1, hs.2.2.1, hs.2.2.2.1, hs.2.2.2.2.1, hs.2.2.2.2.2.1, hs.2.2.2.2.2.2.1, hs.2.2.2.2.2.2.2.1, hs.2.2.2.2.2.2.2.2.1, hs.2.2.2.2.2.2.2.2.2.1, own_repl dX.at_ hs.2.2.2.2.2.2.2.2.2.2.1 hk, hs.2.2.2.2.2.2.2.2.2.2.2.1, hs.2.2.2.2.2.2.2.2.2.2.2.2⟩)
  replace gI : OwnLL fS (aJ.heap.size) [some (dW.heap.size), some (aF.heap.size), obk (aG), obk (aH), obk (aE), obk (aA), some (aI.heap.size), obk (aB), obk (aC), obk (bH), obk (dR), some (aK)] aD aX 22 3 (g.mv : List (List Int)) := gI.grA cH (fun k hk => hk.2.2.2.2.2.2.2.2.2.2.1) (fun k hk hs => ⟨hs.1, hs.2.1, hs.2.2.1, hs.2.2.2.1, hs.2.2.2.2.1, hs.2.2.2.2.2.1, hs.2.2.2.2.2.2.1, hs.2.2.2.2.2.2.2.1, hs.2.2.2.2.2.2.2.2.1, hs.2.2.2.2.2.2.2.2.2.1, own_repl dX.at_ hs.2.2.2.2.2.2.2.2.2.2.1 hk, hs.2.2.2.2.2.2.2.2.2.2.2.1, hs.2.2.2.2.2.2.2.2.2.2.2.2⟩)
  replace eI := eI.gr cH (fun e => by have := cQ.ge _ e; omega)
  replace eJ : OwnR fS (Sx (bB.heap.size) [some (dW.heap.size), some (aF.heap.size), obk (aG), obk (aH), obk (aE), obk (aB), obk (aC), obk (aD), obk (bH), obk (dR), some (aK)]) aA aL 3 (lm ++ ([0]) : List Int) := eJ.grA cH (fun k hk => hk.2.2.2.2.2.2.2.2.2.1) (fun k hk hs => ⟨hs.1, hs.2.1, hs.2.2.1, hs.2.2.2.1, hs.2.2.2.2.1, hs.2.2.2.2.2.1, hs.2.2.2.2.2.2.1, hs.2.2.2.2.2.2.2.1, hs.2.2.2.2.2.2.2.2.1, own_repl dX.at_ hs.2.2.2.2.2.2.2.2.2.1 hk, hs.2.2.2.2.2.2.2.2.2.2.1, hs.2.2.2.2.2.2.2.2.2.2.2⟩)
  replace eK : OwnR fS (Sx (bC.heap.size) [some (dW.heap.size), some (aF.heap.size), obk (aG), obk (aH), obk (aB), obk (aC), obk (aD), obk (aA), obk (bH), obk (dR), some (aK)]) aE aN 3 (ls ++ ([0]) : List Int) := eK.grA cH (fun k hk => hk.2.2.2.2.2.2.2.2.2.1) (fun k hk hs => ⟨hs.1, hs.2.1, hs.2.2.1, hs.2.2.2.1, hs.2.2.2.2.1, hs.2.2.2.2.2.1, hs.2.2.2.2.2.2.1, hs.2.2.2.2.2.2.2.1, hs.2.2.2.2.2.2.2.2.1, own_repl dX.at_ hs.2.2.2.2.2.2.2.2.2.1 hk, hs.2.2.2.2.2.2.2.2.2.2.1, hs.2.2.2.2.2.2.2.2.2.2.2⟩)
  replace eL : OwnR fS (Sx (aT.heap.size) [some (dW.heap.size), some (aF.heap.size), obk (aB), obk (aC), obk (aD), obk (aA), obk (aE), obk (aH), obk (bH), obk (dR), some (aK)]) aG bM 3 (q.ah : List Int) := eL.grA cH (fun k hk => hk.2.2.2.2.2.2.2.2.2.1) (fun k hk hs => ⟨hs.1, hs.2.1, hs.2.2.1, hs.2.2.2.1, hs.2.2.2.2.1, hs.2.2.2.2.2.1, hs.2.2.2.2.2.2.1, hs.2.2.2.2.2.2.2.1, hs.2.2.2.2.2.2.2.2.1, own_repl dX.at_ hs.2.2.2.2.2.2.2.2.2.1 hk, hs.2.2.2.2.2.2.2.2.2.2.1, hs.2.2.2.2.2.2.2.2.2.2.2⟩)
  replace eM : OwnR fS (Sx (aT.heap.size) [some (dW.heap.size), some (aF.heap.size), obk (aB), obk (aC), obk (aD), obk (aA), obk (aE), obk (aG), obk (bH), obk (dR), some (aK)]) aH bN 3 (q.ro : List Int) := eM.grA cH (fun k hk => hk.2.2.2.2.2.2.2.2.2.1) (fun k hk hs => ⟨hs.1, hs.2.1, hs.2.2.1, hs.2.2.2.1, hs.2.2.2.2.1, hs.2.2.2.2.2.1, hs.2.2.2.2.2.2.1, hs.2.2.2.2.2.2.2.1, hs.2.2.2.2.2.2.2.2.1, own_repl dX.at_ hs.2.2.2.2.2.2.2.2.2.1 hk, hs.2.2.2.2.2.2.2.2.2.2.1, hs.2.2.2.2.2.2.2.2.2.2.2⟩)
  replace eN := eN.gr cH (fun e => by have := cQ.ge _ e; omega); replace eO := eO.gr cH (cQ.neb (fun g hs => hs.2.2.2.2.2.2.2.2.2.1)); clear cQ cH dX
  refine At.rd lT 1 [[]] [(21, .slice dR ((r.ro ++ ([9])).length) gJ)] [] (by kernel_rfl) trivial (fun qM lV => ?_)
  clear lT
  refine At.done rfl ?_
  refine t_n ?_
  clear eO
  refine wp_seq ?_
  refine At.start ?_
  refine At.rd lV 1 [[]] [(23, .int .i64 (0))] [] (by kernel_rfl) trivial (fun qN lW => ?_)
  clear lV
  refine At.done rfl ?_
  refine t_n ?_
  refine wp_block ?_
  have lX := lW.as 21 (.slice dR ((r.ro ++ ([9])).length) gJ) (.slice dR ((r.ro ++ ([9]) : List Int).length) gJ) rfl (slice_len (by first | rfl | omega | (simp; done) | (simp; omega)))
  clear lW
  have lY := lX.sub (r := [(23, .int .i64 (0)), (21, .slice dR ((r.ro ++ ([9]) : List Int).length) gJ), (76, .bool false), (75, .bool true), (17, .int .i64 (n)), (16, .int .i64 (q.err)), (15, .pointer (some ⟨aF.heap.size, 0, none⟩)), (14, .slice aE ((ls ++ ([0])).length) aN), (13, .slice aA ((lm ++ ([0])).length) aL), (12, .pointer (some ⟨aI.heap.size, 0, none⟩)), (11, .bool true), (5, .pointer (some ⟨w.heap.size, 0, none⟩)), (1, .int .i64 (i)), (2, .int .i64 (p)), (3, .slice Am lm.length cm), (4, .slice As ls.length cs)]) ⟨rfl, rfl, rfl, rfl, rfl, rfl, rfl, rfl, rfl, rfl, rfl, rfl, rfl, rfl, rfl, rfl, trivial⟩
  refine loop_g (fun (m_ : Nat) a_ w_ => ∃ (j : Int) (ys : List Int) (cI : Option Addr) (fD : Nat), m_ = ((ys.length : Int) - j).toNat ∧ (Frm 129 a_ [(23, .int .i64 (j)), (21, .slice cI ys.length fD), (76, .bool false), (75, .bool true), (17, .int .i64 (n)), (16, .int .i64 (q.err)), (15, .pointer (some ⟨aF.heap.size, 0, none⟩)), (14, .slice aE ((ls ++ ([0])).length) aN), (13, .slice aA ((lm ++ ([0])).length) aL), (12, .pointer (some ⟨aI.heap.size, 0, none⟩)), (11, .bool true), (5, .pointer (some ⟨w.heap.size, 0, none⟩)), (1, .int .i64 (i)), (2, .int .i64 (p)), (3, .slice Am lm.length cm), (4, .slice As ls.length cs)]) ∧ (Ext w w_) ∧ (RdG w_ 0 w.heap.size Ag0 Ag1 Ag2 cg0 cg1 cg2 g) ∧ (RdI w_ 0 w.heap.size Am lm) ∧ (RdI w_ 0 w.heap.size As ls) ∧ (Bx w_ (w.heap.size) [.slice Ag0 g.ow.length cg0, .slice Ag1 g.pr.length cg1, .slice Ag2 g.mv.length cg2] 25) ∧ (OwnR w_ (Sx (aJ.heap.size) [some (aF.heap.size), obk (aG), obk (aH), obk (aE), obk (aA), some (aI.heap.size), obk (aC), obk (aD), obk (cI)]) aB aV 3 (g.ow : List Int)) ∧ (OwnR w_ (Sx (aJ.heap.size) [some (aF.heap.size), obk (aG), obk (aH), obk (aE), obk (aA), some (aI.heap.size), obk (aB), obk (aD), obk (cI)]) aC aW 3 (g.pr : List Int)) ∧ (OwnLL w_ (aJ.heap.size) [some (aF.heap.size), obk (aG), obk (aH), obk (aE), obk (aA), some (aI.heap.size), obk (aB), obk (aC), obk (cI)] aD aX 22 3 (g.mv : List (List Int))) ∧ (Bx w_ (aI.heap.size) [.slice aB g.ow.length aV, .slice aC g.pr.length aW, .slice aD g.mv.length aX] 25) ∧ (OwnR w_ (Sx (bB.heap.size) [some (aF.heap.size), obk (aG), obk (aH), obk (aE), obk (aB), obk (aC), obk (aD), obk (cI)]) aA aL 3 (lm ++ ([0]) : List Int)) ∧ (OwnR w_ (Sx (bC.heap.size) [some (aF.heap.size), obk (aG), obk (aH), obk (aB), obk (aC), obk (aD), obk (aA), obk (cI)]) aE aN 3 (ls ++ ([0]) : List Int)) ∧ (OwnR w_ (Sx (aT.heap.size) [some (aF.heap.size), obk (aB), obk (aC), obk (aD), obk (aA), obk (aE), obk (aH), obk (cI)]) aG bM 3 (q.ah : List Int)) ∧ (OwnR w_ (Sx (aT.heap.size) [some (aF.heap.size), obk (aB), obk (aC), obk (aD), obk (aA), obk (aE), obk (aG), obk (cI)]) aH bN 3 (q.ro : List Int)) ∧ (Bx w_ (aF.heap.size) [.slice aG q.ah.length bM, .slice aH q.ro.length bN, .int .i64 (q.win)] 29) ∧ (OwnR w_ (Sx (bF.heap.size) [obk (aB), obk (aC), obk (aD), obk (aA), obk (aE), obk (aG), obk (aH)]) cI fD 3 (ys : List Int)) ∧ (0 ≤ j) ∧ (j ≤ (ys.length : Int)) ∧ (ys.length ≤ 20000) ∧ (aJ.heap.size ≤ w_.heap.size) ∧ (bB.heap.size ≤ w_.heap.size) ∧ (bC.heap.size ≤ w_.heap.size) ∧ (aT.heap.size ≤ w_.heap.size) ∧ (bF.heap.size ≤ w_.heap.size)) _ ⟨0, (r.ro ++ ([9]) : List Int), dR, gJ, rfl, lY, eE, fA, fB, fC, eF, (eG.imp (fun g _ hs => ⟨hs.2.1, hs.2.2.1, hs.2.2.2.1, hs.2.2.2.2.1, hs.2.2.2.2.2.1, hs.2.2.2.2.2.2.1, hs.2.2.2.2.2.2.2.1, hs.2.2.2.2.2.2.2.2.1, hs.2.2.2.2.2.2.2.2.2.2.1, hs.2.2.2.2.2.2.2.2.2.2.2.2⟩)), (eH.imp (fun g _ hs => ⟨hs.2.1, hs.2.2.1, hs.2.2.2.1, hs.2.2.2.2.1, hs.2.2.2.2.2.1, hs.2.2.2.2.2.2.1, hs.2.2.2.2.2.2.2.1, hs.2.2.2.2.2.2.2.2.1, hs.2.2.2.2.2.2.2.2.2.2.1, hs.2.2.2.2.2.2.2.2.2.2.2.2⟩)), (gI.imp (fun g _ hs => ⟨hs.2.1, hs.2.2.1, hs.2.2.2.1, hs.2.2.2.2.1, hs.2.2.2.2.2.1, hs.2.2.2.2.2.2.1, hs.2.2.2.2.2.2.2.1, hs.2.2.2.2.2.2.2.2.1, hs.2.2.2.2.2.2.2.2.2.2.1, hs.2.2.2.2.2.2.2.2.2.2.2.2⟩)), eI, (eJ.imp (fun g _ hs => ⟨hs.2.1, hs.2.2.1, hs.2.2.2.1, hs.2.2.2.2.1, hs.2.2.2.2.2.1, hs.2.2.2.2.2.2.1, hs.2.2.2.2.2.2.2.1, hs.2.2.2.2.2.2.2.2.2.1, hs.2.2.2.2.2.2.2.2.2.2.2⟩)), (eK.imp (fun g _ hs => ⟨hs.2.1, hs.2.2.1, hs.2.2.2.1, hs.2.2.2.2.1, hs.2.2.2.2.2.1, hs.2.2.2.2.2.2.1, hs.2.2.2.2.2.2.2.1, hs.2.2.2.2.2.2.2.2.2.1, hs.2.2.2.2.2.2.2.2.2.2.2⟩)), (eL.imp (fun g _ hs => ⟨hs.2.1, hs.2.2.1, hs.2.2.2.1, hs.2.2.2.2.1, hs.2.2.2.2.2.1, hs.2.2.2.2.2.2.1, hs.2.2.2.2.2.2.2.1, hs.2.2.2.2.2.2.2.2.2.1, hs.2.2.2.2.2.2.2.2.2.2.2⟩)), (eM.imp (fun g _ hs => ⟨hs.2.1, hs.2.2.1, hs.2.2.2.1, hs.2.2.2.2.1, hs.2.2.2.2.2.1, hs.2.2.2.2.2.2.1, hs.2.2.2.2.2.2.2.1, hs.2.2.2.2.2.2.2.2.2.1, hs.2.2.2.2.2.2.2.2.2.2.2⟩)), eN, (lU.imp (fun g _ hs => ⟨hs.1, hs.2.1, hs.2.2.1, hs.2.2.2.1, hs.2.2.2.2.1, hs.2.2.2.2.2.1, hs.2.2.2.2.2.2.1, hs.2.2.2.2.2.2.2.2⟩)), (by omega), (by omega), (by omega), (by omega), (by omega), (by omega), (by omega), (by omega)⟩ ?_
  clear lY lX; clear fA; clear fB; clear fC; clear eF; clear eG; clear eH; clear gI; clear eI; clear eJ; clear eK; clear eL; clear eM; clear eN; clear lU; clear eE
  intro m_ qO qP ⟨j, ys, cI, fD, hm787, lZ, gK, gU, gV, gW, gL, gX, gY, jB, gM, gZ, hA, hB, hC, gN, dY, i803, i804, i805, i806, i807, i808, i809, i810⟩
  have := gK.size; have := gL.lt; have := gM.lt; have := gN.lt
  refine wp_seq ?_
  refine wp_seq ?_
  refine At.start ?_
  refine At.rd lZ 4 [[], [], [], []] [(98, .bool (decide ((j : Int) < ((ys.length : Nat) : Int)))), (97, .int .i64 (((ys.length : Nat) : Int))), (96, .slice cI ys.length fD), (95, .int .i64 (j))] [] (by kernel_rfl) trivial (fun qQ gO => ?_)
  clear lZ
  refine At.done rfl ?_
  refine t_n ?_
  refine cond_S gO (t := decide ((j : Int) < ((ys.length : Nat) : Int))) rfl (fun jC => ?_) (fun jC => ?_)
  ·have qR := of_decide_eq_true jC
   refine wp_skip ?_
   refine t_n ?_
   refine wp_seq ?_
   refine wp_block ?_
   refine At.start ?_
   obtain ⟨hD, mA, qS, qT, qU⟩ := dY.get (j) (by omega) (by omega) (sz := 1) rfl
   refine At.rd gO 3 [[], [], [.ad hD]] [(103, .pointer (some (hD.add ((j : Int).toNat * 1)))), (102, .int .i64 (j)), (101, .slice cI ys.length fD)] [(cI = some hD), (0 ≤ (j : Int)), ((j : Int) < (ys.length : Nat))] (by kernel_rfl) ⟨mA, (by omega), (by omega), trivial⟩ (fun qV mB => ?_)
   clear gO
   refine At.act mB (storeR (α := Int) (t := 3) (i := j) (ad := hD) (v := .int .i64 (-9)) (-9) (by kernel_rfl) rfl rfl (by kernel_rfl) mA dY (by omega) (by omega)) ?_
   rintro d_ v_ qW ⟨rfl, cM, nL⟩
   refine ⟨_, rfl, fun qX mC => ?_⟩
   clear mB; have qY : ((ys).set (j : Int).toNat (-9)).length = (ys).length := List.length_set; have := cM.size; replace gK := gK.gr cM (fun k hk => by have := dY.ge k hk; omega); replace gU := gU.gr cM (fun k hk => by have := dY.ge k hk; omega); replace gV := gV.gr cM (fun k hk => by have := dY.ge k hk; omega); replace gW := gW.gr cM (fun k hk => by have := dY.ge k hk; omega)
   replace gL := gL.gr cM (fun e => by have := dY.ge _ e; omega); replace gX := gX.gr cM (fun k hk => hk.2.2.2.2.2.2.2.2.1); replace gY := gY.gr cM (fun k hk => hk.2.2.2.2.2.2.2.2.1); have nM := jB.gr cM (fun k hk => hk.2.2.2.2.2.2.2.2.1); clear jB; replace gM := gM.gr cM (fun e => by have := dY.ge _ e; omega); replace gZ := gZ.gr cM (fun k hk => hk.2.2.2.2.2.2.2.1)
   replace hA := hA.gr cM (fun k hk => hk.2.2.2.2.2.2.2.1); replace hB := hB.gr cM (fun k hk => hk.2.2.2.2.2.2.2.1); replace hC := hC.gr cM (fun k hk => hk.2.2.2.2.2.2.2.1); replace gN := gN.gr cM (fun e => by have := dY.ge _ e; omega); clear dY cM
   refine At.done rfl ?_
   refine b_n ?_
   refine t_n ?_
   refine At.start ?_
   refine At.rd mC 3 [[], [.as_ (.int .i64 (j + 1))], []] [(23, .int .i64 (j + 1)), (100, .int .i64 (j + 1)), (99, .int .i64 (j))] [((.int .i64 (IntKind.i64.wrap (j + 1)) : Value) = .int .i64 (j + 1))] (by kernel_rfl) ⟨(w64 (by omega) (by omega)), trivial⟩ (fun qZ mD => ?_)
   clear mC
   refine At.done rfl ?_
   refine t_n ?_
   have nN := mD.as 21 (.slice cI ys.length fD) (.slice cI (((ys).set (j : Int).toNat (-9) : List Int).length) fD) rfl (slice_len (by first | rfl | omega | (simp; done) | (simp; omega)))
   clear mD
   have nO := nN.sub (r := [(23, .int .i64 (j + 1)), (21, .slice cI (((ys).set (j : Int).toNat (-9) : List Int).length) fD), (76, .bool false), (75, .bool true), (17, .int .i64 (n)), (16, .int .i64 (q.err)), (15, .pointer (some ⟨aF.heap.size, 0, none⟩)), (14, .slice aE ((ls ++ ([0])).length) aN), (13, .slice aA ((lm ++ ([0])).length) aL), (12, .pointer (some ⟨aI.heap.size, 0, none⟩)), (11, .bool true), (5, .pointer (some ⟨w.heap.size, 0, none⟩)), (1, .int .i64 (i)), (2, .int .i64 (p)), (3, .slice Am lm.length cm), (4, .slice As ls.length cs)]) ⟨rfl, rfl, rfl, rfl, rfl, rfl, rfl, rfl, rfl, rfl, rfl, rfl, rfl, rfl, rfl, rfl, trivial⟩
   exact ⟨_, (by omega), (j + 1), ((ys).set (j : Int).toNat (-9) : List Int), cI, fD, rfl, nO, gK, gU, gV, gW, gL, gX, gY, nM, gM, gZ, hA, hB, hC, gN, nL, (by omega), (by omega), (by rw [List.length_set]; omega), (by omega), (by omega), (by omega), (by omega), (by omega)⟩
  have rA := of_decide_eq_false jC
  refine wp_exit ?_
  refine t_e ?_
  refine t_e ?_
  refine b_e ?_
  refine b_n ?_
  refine t_n ?_
  clear dY
  refine At.start ?_
  refine At.rd gO 3 [[], [.as_ (.int .i64 (n + 1))], []] [(17, .int .i64 (n + 1)), (52, .int .i64 (n + 1)), (51, .int .i64 (n))] [((.int .i64 (IntKind.i64.wrap (n + 1)) : Value) = .int .i64 (n + 1))] (by kernel_rfl) ⟨(w64 (by omega) (by omega)), trivial⟩ (fun rB nP => ?_)
  clear gO
  refine At.done rfl ?_
  refine t_n ?_
  have nQ := nP.sub (r := [(17, .int .i64 (n + 1)), (16, .int .i64 (q.err)), (15, .pointer (some ⟨aF.heap.size, 0, none⟩)), (14, .slice aE ((ls ++ ([0])).length) aN), (13, .slice aA ((lm ++ ([0])).length) aL), (12, .pointer (some ⟨aI.heap.size, 0, none⟩)), (11, .bool true), (5, .pointer (some ⟨w.heap.size, 0, none⟩)), (1, .int .i64 (i)), (2, .int .i64 (p)), (3, .slice Am lm.length cm), (4, .slice As ls.length cs)]) ⟨rfl, rfl, rfl, rfl, rfl, rfl, rfl, rfl, rfl, rfl, rfl, rfl, trivial⟩
  exact ⟨_, (by omega), (n + 1), rfl, nQ, gK, gU, gV, gW, gL, (gX.imp (fun g _ hs => ⟨hs.1, hs.2.1, hs.2.2.1, hs.2.2.2.1, hs.2.2.2.2.1, hs.2.2.2.2.2.1, hs.2.2.2.2.2.2.1, hs.2.2.2.2.2.2.2.1, hs.2.2.2.2.2.2.2.2.2⟩)), (gY.imp (fun g _ hs => ⟨hs.1, hs.2.1, hs.2.2.1, hs.2.2.2.1, hs.2.2.2.2.1, hs.2.2.2.2.2.1, hs.2.2.2.2.2.2.1, hs.2.2.2.2.2.2.2.1, hs.2.2.2.2.2.2.2.2.2⟩)), (jB.imp (fun g _ hs => ⟨hs.1, hs.2.1, hs.2.2.1, hs.2.2.2.1, hs.2.2.2.2.1, hs.2.2.2.2.2.1, hs.2.2.2.2.2.2.1, hs.2.2.2.2.2.2.2.1, hs.2.2.2.2.2.2.2.2.2⟩)), gM, (gZ.imp (fun g _ hs => ⟨hs.1, hs.2.1, hs.2.2.1, hs.2.2.2.1, hs.2.2.2.2.1, hs.2.2.2.2.2.1, hs.2.2.2.2.2.2.1, hs.2.2.2.2.2.2.2.2⟩)), (hA.imp (fun g _ hs => ⟨hs.1, hs.2.1, hs.2.2.1, hs.2.2.2.1, hs.2.2.2.2.1, hs.2.2.2.2.2.1, hs.2.2.2.2.2.2.1, hs.2.2.2.2.2.2.2.2⟩)), (hB.imp (fun g _ hs => ⟨hs.1, hs.2.1, hs.2.2.1, hs.2.2.2.1, hs.2.2.2.2.1, hs.2.2.2.2.2.1, hs.2.2.2.2.2.2.1, hs.2.2.2.2.2.2.2.2⟩)), (hC.imp (fun g _ hs => ⟨hs.1, hs.2.1, hs.2.2.1, hs.2.2.2.1, hs.2.2.2.2.1, hs.2.2.2.2.2.1, hs.2.2.2.2.2.2.1, hs.2.2.2.2.2.2.2.2⟩)), gN, (by omega), (by omega), (by omega), (by omega), (by omega), (by omega)⟩
 have rC := of_decide_eq_false hX
 refine wp_exit ?_
 refine t_e ?_
 refine t_e ?_
 refine b_e ?_
 refine t_n ?_
 clear bP; clear bQ; clear bT
 refine wp_seq ?_
 refine At.start ?_
 refine At.rd fU 2 [[.ld (.slice aB g.ow.length aV), .ld (.slice aC g.pr.length aW), .ld (.slice aD g.mv.length aX)], [.ld (.slice Ag0 g.ow.length cg0), .ld (.slice Ag1 g.pr.length cg1), .ld (.slice Ag2 g.mv.length cg2)]] [(105, .agg #[.slice Ag0 g.ow.length cg0, .slice Ag1 g.pr.length cg1, .slice Ag2 g.mv.length cg2]), (104, .agg #[.slice aB g.ow.length aV, .slice aC g.pr.length aW, .slice aD g.mv.length aX])] [(bF.cell? ⟨aI.heap.size, 0, none⟩ = some (.slice aB g.ow.length aV)), (bF.cell? ⟨aI.heap.size, 1, none⟩ = some (.slice aC g.pr.length aW)), (bF.cell? ⟨aI.heap.size, 2, none⟩ = some (.slice aD g.mv.length aX)), (bF.cell? ⟨w.heap.size, 0, none⟩ = some (.slice Ag0 g.ow.length cg0)), (bF.cell? ⟨w.heap.size, 1, none⟩ = some (.slice Ag1 g.pr.length cg1)), (bF.cell? ⟨w.heap.size, 2, none⟩ = some (.slice Ag2 g.mv.length cg2))] (by kernel_rfl) ⟨(bD.cell (i := 0) rfl), (bD.cell (i := 1) rfl), (bD.cell (i := 2) rfl), (bL.cell (i := 0) rfl), (bL.cell (i := 1) rfl), (bL.cell (i := 2) rfl), trivial⟩ (fun rD mE => ?_)
 clear fU
 refine At.call mE 19 #[.agg #[.slice aB g.ow.length aV, .slice aC g.pr.length aW, .slice aD g.mv.length aX], .agg #[.slice Ag0 g.ow.length cg0, .slice Ag1 g.pr.length cg1, .slice Ag2 g.mv.length cg2]] (some 106) (by kernel_rfl) ((same_any (a := g) (b := g) (RdG.mk (G := g) (aZ.rdI0 (by first | omega | (simp only [List.length_cons, List.length_nil]; omega) | (simp; done) | (simp; omega))) (bA.rdI0 (by first | omega | (simp only [List.length_cons, List.length_nil]; omega) | (simp; done) | (simp; omega))) (fR.rdII0 (by first | omega | (simp only [List.length_cons, List.length_nil]; omega) | (simp; done) | (simp; omega)) hip39) aZ.cap bA.cap fR.cap) (bI.wide (Nat.zero_le _) (by omega))).mono (R' := fun e w' => e = .returned (.bool true) ∧ Ext _ w') (fun e_ w_ h_ => by rw [show (decide (g = g) : Bool) = true from decide_eq_true rfl] at h_; exact h_)) ?_
 rintro e_ rE ⟨rfl, he⟩
 refine ⟨_, rfl, _, rfl, fun rF mF => ?_⟩
 clear mE; have dE := gr_ext he; have := dE.size; replace bG := bG.gn dE; replace bI := bI.gn dE; replace bJ := bJ.gn dE; replace bK := bK.gn dE; replace bL := bL.gn dE; replace aZ := aZ.gn dE; replace bA := bA.gn dE; have nR := fR.gn dE; clear fR; replace bD := bD.gn dE; replace aY := aY.gn dE; replace aU := aU.gn dE; clear dE he
 refine At.rd mF 1 [[]] [(24, .bool true)] [] (by kernel_rfl) trivial (fun rG mG => ?_)
 clear mF
 refine At.done rfl ?_
 refine t_n ?_
 clear bL; clear aZ; clear bA; clear nR; clear bD
 refine wp_seq ?_
 refine At.start ?_
 have hq870 := aY.cap
 simp only [List.length_append] at hq870
 refine At.rd mG 5 [[], [], [], [.as_ (.slice aA ((lm).length) aL)], []] [(111, .slice Am lm.length cm), (110, .slice aA ((lm).length) aL), (109, .int .i64 (((lm.length : Nat) : Int))), (108, .slice Am lm.length cm), (107, .slice aA ((lm ++ ([0])).length) aL)] [(0 ≤ (((lm.length : Nat) : Int) : Int)), ((((lm.length : Nat) : Int) : Int) ≤ (aL : Nat)), ((.slice aA ((((lm.length : Nat) : Int) : Int).toNat) aL : Value) = .slice aA ((lm).length) aL)] (by kernel_rfl) ⟨(by omega), (by omega), rfl, trivial⟩ (fun rH mH => ?_)
 clear mG
 refine At.call mH 20 #[.slice aA ((lm).length) aL, .slice Am lm.length cm] (some 112) (by kernel_rfl) ((sameInts_any (la := lm) (lb := lm) (aY.rdIpr (la := lm) (by first | rfl | (simp only [List.nil_append, List.append_assoc]; rfl)) (by omega)) (bJ.wide (Nat.zero_le _) (by omega))).mono (R' := fun e w' => e = .returned (.bool true) ∧ Ext _ w') (fun e_ w_ h_ => by rw [show (decide (lm = lm) : Bool) = true from decide_eq_true rfl] at h_; exact h_)) ?_
 rintro e_ rI ⟨rfl, he⟩
 refine ⟨_, rfl, _, rfl, fun rJ mI => ?_⟩
 clear mH; have fM := gr_ext he; have := fM.size; replace bG := bG.gn fM; replace bI := bI.gn fM; replace bJ := bJ.gn fM; replace bK := bK.gn fM; replace aY := aY.gn fM; replace aU := aU.gn fM; clear fM he
 refine At.rd mI 1 [[]] [(25, .bool true)] [] (by kernel_rfl) trivial (fun rK mJ => ?_)
 clear mI
 refine At.done rfl ?_
 refine t_n ?_
 clear aY
 have mK := mJ.sub (r := [(25, .bool true), (24, .bool true), (14, .slice aE ((ls ++ ([0])).length) aN), (11, .bool true), (4, .slice As ls.length cs)]) ⟨rfl, rfl, rfl, rfl, rfl, trivial⟩
 clear mJ
 refine wp_seq ?_
 refine At.start ?_
 have hq886 := aU.cap
 simp only [List.length_append] at hq886
 refine At.rd mK 5 [[], [], [], [.as_ (.slice aE ((ls).length) aN)], []] [(117, .slice As ls.length cs), (116, .slice aE ((ls).length) aN), (115, .int .i64 (((ls.length : Nat) : Int))), (114, .slice As ls.length cs), (113, .slice aE ((ls ++ ([0])).length) aN)] [(0 ≤ (((ls.length : Nat) : Int) : Int)), ((((ls.length : Nat) : Int) : Int) ≤ (aN : Nat)), ((.slice aE ((((ls.length : Nat) : Int) : Int).toNat) aN : Value) = .slice aE ((ls).length) aN)] (by kernel_rfl) ⟨(by omega), (by omega), rfl, trivial⟩ (fun rL mL => ?_)
 clear mK
 refine At.call mL 20 #[.slice aE ((ls).length) aN, .slice As ls.length cs] (some 118) (by kernel_rfl) ((sameInts_any (la := ls) (lb := ls) (aU.rdIpr (la := ls) (by first | rfl | (simp only [List.nil_append, List.append_assoc]; rfl)) (by omega)) (bK.wide (Nat.zero_le _) (by omega))).mono (R' := fun e w' => e = .returned (.bool true) ∧ Ext _ w') (fun e_ w_ h_ => by rw [show (decide (ls = ls) : Bool) = true from decide_eq_true rfl] at h_; exact h_)) ?_
 rintro e_ rM ⟨rfl, he⟩
 refine ⟨_, rfl, _, rfl, fun rN mM => ?_⟩
 clear mL; have fT := gr_ext he; have := fT.size; replace bG := bG.gn fT; replace bI := bI.gn fT; replace bJ := bJ.gn fT; replace bK := bK.gn fT; replace aU := aU.gn fT; clear fT he
 refine At.rd mM 1 [[]] [(26, .bool true)] [] (by kernel_rfl) trivial (fun rO mN => ?_)
 clear mM
 refine At.done rfl ?_
 refine t_n ?_
 clear aU
 refine wp_seq ?_
 refine At.start ?_
 refine At.rd mN 11 [[], [], [], [], [], [], [], [], [], [], []] [(10, .bool true), (128, .bool true), (127, .bool true), (126, .bool true), (125, .bool true), (124, .bool true), (123, .bool true), (122, .bool true), (121, .bool true), (120, .bool true), (119, .bool true)] [] (by kernel_rfl) trivial (fun rP mO => ?_)
 clear mN
 refine At.done rfl ?_
 refine t_n ?_
 have nS := mO.sub (r := [(10, .bool true)]) ⟨rfl, trivial⟩; clear mO
 refine wp_ret ?_
 refine ret_ nS [] [.bool true] [] (by kernel_rfl) trivial ?_
 exact ⟨rfl, bG⟩

end Go.Proofs.Ytklbpajmoklheaa
