/-
  A walk of a Go function, printed by a program of this repo. Conditions: what the theorems name.
-/
import Derived.Test.YtklbpajmoklheaaWShown17
set_option linter.unusedVariables false
set_option linter.unusedSimpArgs false
namespace Go.Proofs.Ytklbpajmoklheaa
open Go Go.RowKit

set_option maxHeartbeats 4000000 in
theorem twice17_any {Ag0 Ag1 Ag2 : Option Addr} {cg0 cg1 cg2 : Nat} {g : GameL} {Am : Option Addr} {cm : Nat} {lm : List Int} {As : Option Addr} {cs : Nat} {ls : List Int} {i p : Int} {w : World} (rg : RdG w 0 w.heap.size Ag0 Ag1 Ag2 cg0 cg1 cg2 g) (rm : RdI w 0 w.heap.size Am lm) (rs : RdI w 0 w.heap.size As ls) :
    Calls Try.prog 5 #[.agg #[.slice Ag0 g.ow.length cg0, .slice Ag1 g.pr.length cg1, .slice Ag2 g.mv.length cg2], .int .i64 (i), .int .i64 (p), .slice Am lm.length cm, .slice As ls.length cs] w fun e w' => e = .returned (.bool true) ∧ Ext w w' := by
 have hlg0 := rg.ow.len; have hlg1 := rg.pr.len; have hlg2 := rg.mv.len; have hkg0 := rg.k0; have hkg1 := rg.k1; have hkg2 := rg.k2; have hlm := rm.len; have hls := rs.len
 refine enter_ (args := [.agg #[.slice Ag0 g.ow.length cg0, .slice Ag1 g.pr.length cg1, .slice Ag2 g.mv.length cg2], .int .i64 (i), .int .i64 (p), .slice Am lm.length cm, .slice As ls.length cs]) Try.func5 rfl Try.ntmps5 (Nat.le_of_ble_eq_true rfl) (fun act0 f0 => ?_)
 have e0 : Ext w w := Ext.refl w
 refine wp_seq ?_
 refine At.start ?_
 refine At.seq f0 1 [[]] [(5, .pointer (some ⟨w.heap.size, 0, none⟩))] (w.alloc (.cells #[.slice Ag0 g.ow.length cg0, .slice Ag1 g.pr.length cg1, .slice Ag2 g.mv.length cg2] 25 (0, 0))) [] (by kernel_rfl) trivial (fun act4 w1 hw2 f3 => ?_)
 clear f0; have g5 := gr_alloc hw2; have := g5.size; replace e0 := e0.gn g5; have r8 := rg.gn g5; clear rg; have r9 := rm.gn g5; clear rm; have aE := rs.gn g5; clear rs; have aF : Bx w1 (w.heap.size) [.slice Ag0 g.ow.length cg0, .slice Ag1 g.pr.length cg1, .slice Ag2 g.mv.length cg2] 25 := Bx.new hw2; have := aF.lt; clear g5 hw2
 refine At.rd f3 1 [[]] [(10, .bool false)] [] (by kernel_rfl) trivial (fun mC iB => ?_)
 clear f3
 refine At.done rfl ?_
 refine t_n ?_
 refine wp_seq ?_
 refine At.start ?_
 refine At.call iB 14 #[] (some 17) (by kernel_rfl) (shown17_any) ?_
 rintro e_ aI ⟨rfl, he⟩
 refine ⟨_, rfl, _, rfl, fun mD iC => ?_⟩
 clear iB; have dR := gr_ext he; have := dR.size; replace e0 := e0.gn dR; replace r8 := r8.gn dR; replace r9 := r9.gn dR; replace aE := aE.gn dR; replace aF := aF.gn dR; clear dR he
 refine At.rd iC 1 [[]] [(11, .bool true)] [] (by kernel_rfl) trivial (fun mE iD => ?_)
 clear iC
 refine At.done rfl ?_
 refine t_n ?_
 refine wp_seq ?_
 refine wp_seq ?_
 refine At.start ?_
 refine At.rd iD 3 [[], [], []] [(20, .bool (decide ((((ls.length : Nat) : Int) : Int) > 32))), (19, .int .i64 (((ls.length : Nat) : Int))), (18, .slice As ls.length cs)] [] (by kernel_rfl) trivial (fun mF eU => ?_)
 clear iD
 refine At.done rfl ?_
 refine t_n ?_
 refine cond_S eU (t := decide ((((ls.length : Nat) : Int) : Int) > 32)) rfl (fun fV => ?_) (fun fV => ?_)
 ·have mG := of_decide_eq_true fV
  refine wp_seq ?_
  refine At.start ?_
  refine At.rd eU 2 [[], []] [(10, .bool true), (21, .bool true)] [] (by kernel_rfl) trivial (fun mH lA => ?_)
  clear eU
  refine At.done rfl ?_
  refine t_n ?_
  clear aF
  refine wp_ret ?_
  refine t_r ?_
  refine ret_ lA [] [.bool true] [] (by kernel_rfl) trivial ?_
  exact ⟨rfl, e0⟩
 have mI := of_decide_eq_false fV
 refine wp_skip ?_
 refine t_n ?_
 refine wp_seq ?_
 refine At.start ?_
 refine At.rd eU 5 [[.ld (.slice Ag0 g.ow.length cg0), .ld (.slice Ag1 g.pr.length cg1), .ld (.slice Ag2 g.mv.length cg2)], [], [], [], []] [(27, .slice As ls.length cs), (26, .slice Am lm.length cm), (25, .int .i64 (p)), (24, .int .i64 (i)), (23, .agg #[.slice Ag0 g.ow.length cg0, .slice Ag1 g.pr.length cg1, .slice Ag2 g.mv.length cg2])] [(aI.cell? ⟨w.heap.size, 0, none⟩ = some (.slice Ag0 g.ow.length cg0)), (aI.cell? ⟨w.heap.size, 1, none⟩ = some (.slice Ag1 g.pr.length cg1)), (aI.cell? ⟨w.heap.size, 2, none⟩ = some (.slice Ag2 g.mv.length cg2))] (by kernel_rfl) ⟨(aF.cell (i := 0) rfl), (aF.cell (i := 1) rfl), (aF.cell (i := 2) rfl), trivial⟩ (fun mJ iE => ?_)
 clear eU
 refine At.call iE 17 #[.agg #[.slice Ag0 g.ow.length cg0, .slice Ag1 g.pr.length cg1, .slice Ag2 g.mv.length cg2], .int .i64 (i), .int .i64 (p), .slice Am lm.length cm, .slice As ls.length cs] (some 28) (by kernel_rfl) (runM_any (g := g) (i := i) (p := p) (lm := lm) (ls := ls) (r8.wide (Nat.zero_le _) (by omega)) (r9.wide (Nat.zero_le _) (by omega)) (aE.wide (Nat.zero_le _) (by omega))) ?_
 rintro e_ aH ⟨r, hr, aC, aL, aD, aM, rfl, he, aA, aB⟩
 have hlr := run_len hr
 refine ⟨_, rfl, _, rfl, fun mK iF => ?_⟩
 clear iE; have dS := gr_ext he; have := dS.size; replace e0 := e0.gn dS; replace r8 := r8.gn dS; replace r9 := r9.gn dS; replace aE := aE.gn dS; replace aF := aF.gn dS; clear dS he
 refine At.rd iF 3 [[], [], []] [(30, .int .i64 (r.err)), (29, .agg #[.slice aC r.ah.length aL, .slice aD r.ro.length aM, .int .i64 (r.win)]), (22, .tuple #[.agg #[.slice aC r.ah.length aL, .slice aD r.ro.length aM, .int .i64 (r.win)], .int .i64 (r.err)])] [] (by kernel_rfl) trivial (fun mL iG => ?_)
 clear iF
 refine At.seq iG 1 [[]] [(12, .pointer (some ⟨aH.heap.size, 0, none⟩))] (aH.alloc (.cells #[.slice none 0 0, .slice none 0 0, .int .i64 (0)] 29 (0, 0))) [] (by kernel_rfl) trivial (fun mM lB fW iH => ?_)
 clear iG; have cX := gr_alloc fW; have := cX.size; replace e0 := e0.gn cX; replace r8 := r8.gn cX; replace r9 := r9.gn cX; replace aE := aE.gn cX; replace aF := aF.gn cX; replace aA := aA.grN cX; replace aB := aB.grN cX; have fX : Bx lB (aH.heap.size) [.slice none 0 0, .slice none 0 0, .int .i64 (0)] 29 := Bx.new fW; have := fX.lt; clear cX fW
 refine At.store iH (t := 29) (b := aH.heap.size) (off := 0) (v := .agg #[.slice aC r.ah.length aL, .slice aD r.ro.length aM, .int .i64 (r.win)]) (by kernel_rfl) fX (by kernel_rfl) (fun mN aP cY aG iI => ?_)
 clear iH; replace aG : Bx aP (aH.heap.size) [.slice aC r.ah.length aL, .slice aD r.ro.length aM, .int .i64 (r.win)] 29 := aG; have := cY.size; replace e0 := e0.gr cY (fun k h => by injection h; omega); replace r8 := r8.gb cY (by omega); replace r9 := r9.gb cY (by omega); replace aE := aE.gb cY (by omega); replace aF := aF.gb cY (by omega); replace aA := aA.gr cY (fun k hk => hk.1)
 replace aB := aB.gr cY (fun k hk => hk.1); clear fX cY
 refine At.rd iI 1 [[]] [(13, .int .i64 (r.err))] [] (by kernel_rfl) trivial (fun mO fY => ?_)
 clear iI
 refine At.done rfl ?_
 refine t_n ?_
 refine wp_seq (cut (fun a_ w_ => ∃ (q : PlayR) (aK : Nat) (aQ : Option Addr) (aR : Option Addr) (bH : Nat) (bI : Nat), (Frm 86 a_ [(15, .int .i64 (q.err)), (14, .pointer (some ⟨aK, 0, none⟩)), (13, .int .i64 (r.err)), (12, .pointer (some ⟨aH.heap.size, 0, none⟩)), (11, .bool true), (10, .bool false)]) ∧ (Ext w w_) ∧ (RdG w_ 0 w.heap.size Ag0 Ag1 Ag2 cg0 cg1 cg2 g) ∧ (RdI w_ 0 w.heap.size Am lm) ∧ (RdI w_ 0 w.heap.size As ls) ∧ (Bx w_ (w.heap.size) [.slice Ag0 g.ow.length cg0, .slice Ag1 g.pr.length cg1, .slice Ag2 g.mv.length cg2] 25) ∧ (OwnR w_ (Sx (aI.heap.size) [some (aH.heap.size), obk (aD), obk (aQ), obk (aR), some (aK)]) aC aL 3 (r.ah : List Int)) ∧ (OwnR w_ (Sx (aI.heap.size) [some (aH.heap.size), obk (aC), obk (aQ), obk (aR), some (aK)]) aD aM 3 (r.ro : List Int)) ∧ (Bx w_ (aH.heap.size) [.slice aC r.ah.length aL, .slice aD r.ro.length aM, .int .i64 (r.win)] 29) ∧ (OwnR w_ (Sx (aP.heap.size) [obk (aC), obk (aD), obk (aR), some (aK)]) (aQ) (bH) 3 (q.ah : List Int)) ∧ (OwnR w_ (Sx (aP.heap.size) [obk (aC), obk (aD), obk (aQ), some (aK)]) (aR) (bI) 3 (q.ro : List Int)) ∧ (Bx w_ (aK) [.slice (aQ) q.ah.length (bH), .slice (aR) q.ro.length (bI), .int .i64 (q.win)] 29) ∧ (aP.heap.size ≤ aK) ∧ (aP.heap.size ≤ w_.heap.size) ∧ (RunT g i p lm (ls ++ ls) q)) ?_ ?_)
 ·obtain ⟨eV, aT⟩ : ∃ c : List (Addr × Value), c = [(⟨w.heap.size, 0, none⟩, (.slice Ag0 g.ow.length cg0)), (⟨w.heap.size, 1, none⟩, (.slice Ag1 g.pr.length cg1)), (⟨w.heap.size, 2, none⟩, (.slice Ag2 g.mv.length cg2))] := ⟨_, rfl⟩
  have iJ : HoldsC eV aP := by rw [aT]; exact ⟨(aF.cell (i := 0) rfl), (aF.cell (i := 1) rfl), (aF.cell (i := 2) rfl), trivial⟩
  refine AtH.start eV 16 #[false, false, false, false, false, false, false, false, false, false, false, false, false, false, false, false] (by kernel_rfl) rfl rfl (fun aJ iK => ?_)
  have cE := gr_drew iK; have fZ := iJ.gr cE; have := cE.size; replace e0 := e0.gn cE; replace r8 := r8.gn cE; replace r9 := r9.gn cE; replace aE := aE.gn cE; replace aF := aF.gn cE; replace aA := aA.gn cE; replace aB := aB.gn cE; replace aG := aG.gn cE; clear cE iK iJ
  refine AtH.rd (by kernel_rfl) (fun d v c a w h => by cases d <;> exact h) fZ [0, 1, 2, 3, 5, 7] [[.ld (.slice Ag0 g.ow.length cg0), .ld (.slice Ag1 g.pr.length cg1), .ld (.slice Ag2 g.mv.length cg2)], [], [], [], [], []] [(39, .slice As ls.length cs), (37, .slice As ls.length cs), (35, .slice Am lm.length cm), (34, .int .i64 (p)), (33, .int .i64 (i)), (32, .agg #[.slice Ag0 g.ow.length cg0, .slice Ag1 g.pr.length cg1, .slice Ag2 g.mv.length cg2])] #[true, true, true, true, false, true, false, true, false, false, false, false, false, false, false, false] [(∃ j_ : Nat, eV[j_]? = some (⟨w.heap.size, 0, none⟩, (.slice Ag0 g.ow.length cg0))), (∃ j_ : Nat, eV[j_]? = some (⟨w.heap.size, 1, none⟩, (.slice Ag1 g.pr.length cg1))), (∃ j_ : Nat, eV[j_]? = some (⟨w.heap.size, 2, none⟩, (.slice Ag2 g.mv.length cg2)))] 10 fY (by kernel_rfl) ⟨⟨0, by rw [aT]; rfl⟩, ⟨1, by rw [aT]; rfl⟩, ⟨2, by rw [aT]; rfl⟩, trivial⟩ (fun mP fI => ?_)
  clear fY
  refine AtH.all [4, 13] 9 (by kernel_rfl) (by simp) ⟨?_, ?_, trivial⟩
  ·refine OneH.seq fI [[]] [(36, .slice (some ⟨aJ.heap.size, 0, none⟩) 0 0)] (aJ.alloc (.cells #[] 3 (0, 0))) [] #[true, true, true, true, true, true, false, true, false, false, false, false, false, false, false, false] (by kernel_rfl) (by kernel_rfl) (by kernel_rfl) trivial (fun mQ aO gA fJ => ?_)
   clear fI; have cF := gr_alloc gA; have gB := fZ.gr cF
   refine ⟨gB, ?_⟩
   have := cF.size; replace e0 := e0.gn cF; replace r8 := r8.gn cF; replace r9 := r9.gn cF; replace aE := aE.gn cF; replace aF := aF.gn cF; replace aA := aA.grN cF; replace aB := aB.grN cF; replace aG := aG.gn cF; have dT : Bx aO (aJ.heap.size) [] 3 := Bx.new gA; have := dT.lt; clear cF gA
   refine AtH.all [6, 13] 8 (by kernel_rfl) (by simp) ⟨?_, ?_, trivial⟩
   ·have cG : OwnR aO (Sx (aJ.heap.size) [obk (aC), obk (aD)]) (some ⟨aJ.heap.size, 0, none⟩) 0 3 ([] : List Int) := Bx.own0 dT ⟨(aA.neb (fun g hs => hs.1)), (aB.neb (fun g hs => hs.1)), (Nat.le_refl _)⟩
    clear dT; have lC : (([] : List Int) ++ ls).length = (([] : List Int)).length + (ls : List Int).length := List.length_append
    simp only [List.length_cons, List.length_nil] at lC
    refine OneH.act fJ #[true, true, true, true, true, true, true, true, false, false, false, false, false, false, false, false] (by kernel_rfl) (appendR (α := Int) (t := 22) (d := 38) (n := 0) (m := ls.length) (cc := cs) (xs := []) (ys := ls) (bytes := 8) (by first | rfl | omega | (simp; done) | (simp; omega)) (by first | rfl | omega | (simp; done) | (simp; omega)) (by kernel_rfl) rfl (by kernel_rfl) cG aE.srcR (by simp only [List.length_cons, List.length_nil]; omega) (by simp only [List.length_cons, List.length_nil]; omega)) ?_
    rintro d_ v_ aS ⟨rfl, gC, lD, eA⟩
    obtain rfl := eA.val
    have cH := eA.gr
    have gD := gB.grO cH (by rw [aT]; exact ⟨(fun e => by have := cG.ge _ e; simp only [add_block] at this; omega), (fun e => by have := cG.ge _ e; simp only [add_block] at this; omega), (fun e => by have := cG.ge _ e; simp only [add_block] at this; omega), trivial⟩)
    refine ⟨_, rfl, fun mR fK => ⟨gD, ?_⟩⟩
    clear fJ
    have aN := eA.own (Sx (aJ.heap.size) [obk (aC), obk (aD)]) (fun g _ hs => ⟨hs.1, hs.2.1, hs.2.2⟩) ⟨aA.ne_new, aB.ne_new, (show aJ.heap.size ≤ aO.heap.size by omega)⟩
    have := cH.size; replace e0 := e0.gr cH (fun k hk => by have := cG.ge k hk; omega); replace r8 := r8.gr cH (fun k hk => by have := cG.ge k hk; omega); replace r9 := r9.gr cH (fun k hk => by have := cG.ge k hk; omega); replace aE := aE.gr cH (fun k hk => by have := cG.ge k hk; omega); replace aF := aF.gr cH (fun e => by have := cG.ge _ e; omega)
    replace aA : OwnR aS (Sx (aI.heap.size) [obk (gC), some (aH.heap.size), obk (aD)]) aC aL 3 (r.ah : List Int) := aA.grA cH (fun k hk => hk.1) (fun k hk hs => ⟨own_repl eA.at_ hs.1 hk, hs.2.1, hs.2.2.1, hs.2.2.2⟩)
    replace aB : OwnR aS (Sx (aI.heap.size) [obk (gC), some (aH.heap.size), obk (aC)]) aD aM 3 (r.ro : List Int) := aB.grA cH (fun k hk => hk.1) (fun k hk hs => ⟨own_repl eA.at_ hs.1 hk, hs.2.1, hs.2.2.1, hs.2.2.2⟩)
    replace aG := aG.gr cH (fun e => by have := cG.ge _ e; omega); clear cG cH eA; replace aN : OwnR aS (Sx (aJ.heap.size) [obk (aC), obk (aD)]) gC lD 3 (ls : List Int) := aN
    refine AtH.all [8, 13] 7 (by kernel_rfl) (by simp) ⟨?_, ?_, trivial⟩
    ·have mS : (ls ++ ls).length = (ls).length + (ls : List Int).length := List.length_append
     refine OneH.act fK #[true, true, true, true, true, true, true, true, true, false, false, false, false, false, false, false] (by kernel_rfl) (appendR (α := Int) (t := 22) (d := 40) (n := (([] : List Int) ++ ls).length) (m := ls.length) (cc := cs) (xs := ls) (ys := ls) (bytes := 8) (by first | rfl | omega | (simp; done) | (simp; omega)) (by first | rfl | omega | (simp; done) | (simp; omega)) (by kernel_rfl) rfl (by kernel_rfl) aN aE.srcR (by omega) (by omega)) ?_
     rintro d_ v_ aX ⟨rfl, aY, fL, eB⟩
     obtain rfl := eB.val
     have cI := eB.gr
     have gE := gD.grO cI (by rw [aT]; exact ⟨(fun e => by have := aN.ge _ e; simp only [add_block] at this; omega), (fun e => by have := aN.ge _ e; simp only [add_block] at this; omega), (fun e => by have := aN.ge _ e; simp only [add_block] at this; omega), trivial⟩)
     refine ⟨_, rfl, fun mT fM => ⟨gE, ?_⟩⟩
     clear fK
     have aU := eB.own (Sx (aJ.heap.size) [obk (aC), obk (aD)]) (fun g _ hs => ⟨hs.1, hs.2.1, hs.2.2⟩) ⟨aA.ne_new, aB.ne_new, (show aJ.heap.size ≤ aS.heap.size by omega)⟩
     have := cI.size; replace e0 := e0.gr cI (fun k hk => by have := aN.ge k hk; omega); replace r8 := r8.gr cI (fun k hk => by have := aN.ge k hk; omega); replace r9 := r9.gr cI (fun k hk => by have := aN.ge k hk; omega); replace aE := aE.gr cI (fun k hk => by have := aN.ge k hk; omega); replace aF := aF.gr cI (fun e => by have := aN.ge _ e; omega)
     replace aA : OwnR aX (Sx (aI.heap.size) [obk (aY), some (aH.heap.size), obk (aD)]) aC aL 3 (r.ah : List Int) := aA.grA cI (fun k hk => hk.1) (fun k hk hs => ⟨own_repl eB.at_ hs.1 hk, hs.2.1, hs.2.2.1, hs.2.2.2⟩)
     replace aB : OwnR aX (Sx (aI.heap.size) [obk (aY), some (aH.heap.size), obk (aC)]) aD aM 3 (r.ro : List Int) := aB.grA cI (fun k hk => hk.1) (fun k hk hs => ⟨own_repl eB.at_ hs.1 hk, hs.2.1, hs.2.2.1, hs.2.2.2⟩)
     replace aG := aG.gr cI (fun e => by have := aN.ge _ e; omega); clear aN cI eB
     refine AtH.all [9, 13] 6 (by kernel_rfl) (by simp) ⟨?_, ?_, trivial⟩
     ·refine OneH.call fM 17 #[.agg #[.slice Ag0 g.ow.length cg0, .slice Ag1 g.pr.length cg1, .slice Ag2 g.mv.length cg2], .int .i64 (i), .int .i64 (p), .slice Am lm.length cm, .slice aY ((ls ++ ls).length) fL] (some 41) #[true, true, true, true, true, true, true, true, true, true, false, false, false, false, false, false] (by kernel_rfl) (by kernel_rfl) (runM_any (g := g) (i := i) (p := p) (lm := lm) (ls := ls ++ ls) (r8.wide (Nat.zero_le _) (by omega)) (r9.wide (Nat.zero_le _) (by omega)) (aU.rdI0 (by first | omega | (simp only [List.length_cons, List.length_nil]; omega) | (simp; done) | (simp; omega)))) ?_
      rintro e_ bQ ⟨q, hq, cL, eC, cM, eD, rfl, he, cN, cO⟩
      have hlq := run_len hq
      refine ⟨_, rfl, _, rfl, fun mU iL => ?_⟩
      clear fM; have bR := gr_ext he; have eW := gE.gr bR; have gF := aA.lt; have gG := aB.lt; have gH := aU.lt; have := bR.size; replace e0 := e0.gn bR; replace r8 := r8.gn bR; replace r9 := r9.gn bR; replace aE := aE.gn bR; replace aF := aF.gn bR
      replace aA : OwnR bQ (Sx (aI.heap.size) [obk (cL), obk (cM), obk (aY), some (aH.heap.size), obk (aD)]) aC aL 3 (r.ah : List Int) := aA.grA bR (fun _ _ h => by cases h) (fun k hk hs => ⟨(fun e => by have := cN.ge _ e; omega), (fun e => by have := cO.ge _ e; omega), hs.1, hs.2.1, hs.2.2.1, hs.2.2.2⟩)
      replace aB : OwnR bQ (Sx (aI.heap.size) [obk (cL), obk (cM), obk (aY), some (aH.heap.size), obk (aC)]) aD aM 3 (r.ro : List Int) := aB.grA bR (fun _ _ h => by cases h) (fun k hk hs => ⟨(fun e => by have := cN.ge _ e; omega), (fun e => by have := cO.ge _ e; omega), hs.1, hs.2.1, hs.2.2.1, hs.2.2.2⟩)
      replace aG := aG.gn bR
      replace aU : OwnR bQ (Sx (aJ.heap.size) [obk (cL), obk (cM), obk (aC), obk (aD)]) aY fL 3 (ls ++ ls : List Int) := aU.grA bR (fun _ _ h => by cases h) (fun k hk hs => ⟨(fun e => by have := cN.ge _ e; omega), (fun e => by have := cO.ge _ e; omega), hs.1, hs.2.1, hs.2.2⟩)
      replace cN : OwnR bQ (Sx (aX.heap.size) [obk (aC), obk (aD), obk (aY), obk (cM)]) cL eC 3 (q.ah : List Int) := cN.imp (fun g _ hs => ⟨(fun e => by have := gF _ e; have := Sx_base hs; omega), (fun e => by have := gG _ e; have := Sx_base hs; omega), (fun e => by have := gH _ e; have := Sx_base hs; omega), hs⟩)
      replace cO : OwnR bQ (Sx (aX.heap.size) [obk (aC), obk (aD), obk (aY), obk (cL)]) cM eD 3 (q.ro : List Int) := cO.imp (fun g _ hs => ⟨(fun e => by have := gF _ e; have := Sx_base hs; omega), (fun e => by have := gG _ e; have := Sx_base hs; omega), (fun e => by have := gH _ e; have := Sx_base hs; omega), hs⟩)
      clear gF gG gH; clear bR he
      refine ⟨eW, ?_⟩
      refine AtH.rd (by kernel_rfl) (fun d v c a w h => by cases d <;> exact h) eW [10] [[]] [(31, .tuple #[.agg #[.slice cL q.ah.length eC, .slice cM q.ro.length eD, .int .i64 (q.win)], .int .i64 (q.err)])] #[true, true, true, true, true, true, true, true, true, true, true, false, false, false, false, false] [] 5 iL (by kernel_rfl) trivial (fun mV iM => ?_)
      clear iL
      refine AtH.rd (by kernel_rfl) (fun d v c a w h => by cases d <;> exact h) eW [11] [[]] [(42, .agg #[.slice cL q.ah.length eC, .slice cM q.ro.length eD, .int .i64 (q.win)])] #[true, true, true, true, true, true, true, true, true, true, true, true, false, false, false, false] [] 4 iM (by kernel_rfl) trivial (fun mW iN => ?_)
      clear iM
      refine AtH.rd (by kernel_rfl) (fun d v c a w h => by cases d <;> exact h) eW [12] [[]] [(43, .int .i64 (q.err))] #[true, true, true, true, true, true, true, true, true, true, true, true, true, false, false, false] [] 3 iN (by kernel_rfl) trivial (fun mX iO => ?_)
      clear iN
      refine AtH.all [13] 2 (by kernel_rfl) (by simp) ⟨?_, trivial⟩
      refine OneH.seq iO [[]] [(14, .pointer (some ⟨bQ.heap.size, 0, none⟩))] (bQ.alloc (.cells #[.slice none 0 0, .slice none 0 0, .int .i64 (0)] 29 (0, 0))) [] #[true, true, true, true, true, true, true, true, true, true, true, true, true, true, false, false] (by kernel_rfl) (by kernel_rfl) (by kernel_rfl) trivial (fun mY lE gI iP => ?_)
      clear iO; have aZ := gr_alloc gI; have iQ := eW.gr aZ; have := aZ.size; replace e0 := e0.gn aZ; replace r8 := r8.gn aZ; replace r9 := r9.gn aZ; replace aE := aE.gn aZ; replace aF := aF.gn aZ; replace aA := aA.grN aZ; replace aB := aB.grN aZ; replace aG := aG.gn aZ; replace aU := aU.grN aZ; replace cN := cN.grN aZ; replace cO := cO.grN aZ
      have gJ : Bx lE (bQ.heap.size) [.slice none 0 0, .slice none 0 0, .int .i64 (0)] 29 := Bx.new gI; have := gJ.lt; clear aZ gI
      refine ⟨iQ, ?_⟩
      refine AtH.all [14] 1 (by kernel_rfl) (by simp) ⟨?_, trivial⟩
      refine OneH.store iP (t := 29) (b := bQ.heap.size) (off := 0) (v := .agg #[.slice cL q.ah.length eC, .slice cM q.ro.length eD, .int .i64 (q.win)]) #[true, true, true, true, true, true, true, true, true, true, true, true, true, true, true, false] (by kernel_rfl) (by kernel_rfl) gJ (by kernel_rfl) (fun mZ lF bA gK iR => ?_)
      clear iP; replace gK : Bx lF (bQ.heap.size) [.slice cL q.ah.length eC, .slice cM q.ro.length eD, .int .i64 (q.win)] 29 := gK
      have gL := iQ.gr' bA (by rw [aT]; exact ⟨(by simp only [add_block]; omega), (by simp only [add_block]; omega), (by simp only [add_block]; omega), trivial⟩)
      have := bA.size; replace e0 := e0.gr bA (fun k h => by injection h; omega); replace r8 := r8.gb bA (by omega); replace r9 := r9.gb bA (by omega); replace aE := aE.gb bA (by omega); replace aF := aF.gb bA (by omega); replace aA := aA.gr bA (fun k hk => hk.1); replace aB := aB.gr bA (fun k hk => hk.1); replace aG := aG.gb bA (by omega); replace aU := aU.gr bA (fun k hk => hk.1)
      replace cN := cN.gr bA (fun k hk => hk.1); replace cO := cO.gr bA (fun k hk => hk.1); clear gJ bA
      refine ⟨gL, ?_⟩
      refine AtH.rd (by kernel_rfl) (fun d v c a w h => by cases d <;> exact h) gL [15] [[]] [(15, .int .i64 (q.err))] #[true, true, true, true, true, true, true, true, true, true, true, true, true, true, true, true] [] 0 iR (by kernel_rfl) trivial (fun nA lG => ?_)
      clear iR
      refine AtH.done (by kernel_rfl) ?_
      clear gL
      refine t_n ?_
      have lH := lG.sub (r := [(15, .int .i64 (q.err)), (14, .pointer (some ⟨bQ.heap.size, 0, none⟩)), (13, .int .i64 (r.err)), (12, .pointer (some ⟨aH.heap.size, 0, none⟩)), (11, .bool true), (10, .bool false)]) ⟨rfl, rfl, rfl, rfl, rfl, rfl, trivial⟩
      exact ⟨q, bQ.heap.size, cL, cM, eC, eD, lH, e0, r8, r9, aE, aF, (aA.imp (fun g _ hs => ⟨hs.2.2.2.2.1, hs.2.2.2.2.2.1, hs.2.1, hs.2.2.1, hs.1, (by have := Sx_base hs; show aI.heap.size ≤ g; omega)⟩)), (aB.imp (fun g _ hs => ⟨hs.2.2.2.2.1, hs.2.2.2.2.2.1, hs.2.1, hs.2.2.1, hs.1, (by have := Sx_base hs; show aI.heap.size ≤ g; omega)⟩)), aG, (cN.imp (fun g _ hs => ⟨hs.2.1, hs.2.2.1, hs.2.2.2.2.1, hs.1, (by have := Sx_base hs; show aP.heap.size ≤ g; omega)⟩)), (cO.imp (fun g _ hs => ⟨hs.2.1, hs.2.2.1, hs.2.2.2.2.1, hs.1, (by have := Sx_base hs; show aP.heap.size ≤ g; omega)⟩)), gK, (by omega), (by omega), hq⟩
     refine OneH.seq fM [[]] [(14, .pointer (some ⟨aX.heap.size, 0, none⟩))] (aX.alloc (.cells #[.slice none 0 0, .slice none 0 0, .int .i64 (0)] 29 (0, 0))) [] #[true, true, true, true, true, true, true, true, true, false, false, false, false, true, false, false] (by kernel_rfl) (by kernel_rfl) (by kernel_rfl) trivial (fun nB gM gN iS => ?_)
     clear fM; have bS := gr_alloc gN; have iT := gE.gr bS; have := bS.size; replace e0 := e0.gn bS; replace r8 := r8.gn bS; replace r9 := r9.gn bS; replace aE := aE.gn bS; replace aF := aF.gn bS; replace aA := aA.grN bS; replace aB := aB.grN bS; replace aG := aG.gn bS; replace aU := aU.grN bS; have eX : Bx gM (aX.heap.size) [.slice none 0 0, .slice none 0 0, .int .i64 (0)] 29 := Bx.new gN
     have := eX.lt; clear bS gN
     refine ⟨iT, ?_⟩
     refine AtH.all [9] 5 (by kernel_rfl) (by simp) ⟨?_, trivial⟩
     refine OneH.call iS 17 #[.agg #[.slice Ag0 g.ow.length cg0, .slice Ag1 g.pr.length cg1, .slice Ag2 g.mv.length cg2], .int .i64 (i), .int .i64 (p), .slice Am lm.length cm, .slice aY ((ls ++ ls).length) fL] (some 41) #[true, true, true, true, true, true, true, true, true, true, false, false, false, true, false, false] (by kernel_rfl) (by kernel_rfl) (runM_any (g := g) (i := i) (p := p) (lm := lm) (ls := ls ++ ls) (r8.wide (Nat.zero_le _) (by omega)) (r9.wide (Nat.zero_le _) (by omega)) (aU.rdI0 (by first | omega | (simp only [List.length_cons, List.length_nil]; omega) | (simp; done) | (simp; omega)))) ?_
     rintro e_ eY ⟨q, hq, cP, eE, cQ, eF, rfl, he, dF, dG⟩
     have hlq := run_len hq
     refine ⟨_, rfl, _, rfl, fun nC iU => ?_⟩
     clear iS; have bJ := gr_ext he; have eZ := iT.gr bJ; have gO := aA.lt; have gP := aB.lt; have gQ := aU.lt; have := bJ.size; replace e0 := e0.gn bJ; replace r8 := r8.gn bJ; replace r9 := r9.gn bJ; replace aE := aE.gn bJ; replace aF := aF.gn bJ
     replace aA : OwnR eY (Sx (aI.heap.size) [obk (cP), obk (cQ), some (aX.heap.size), obk (aY), some (aH.heap.size), obk (aD)]) aC aL 3 (r.ah : List Int) := aA.grA bJ (fun _ _ h => by cases h) (fun k hk hs => ⟨(fun e => by have := dF.ge _ e; omega), (fun e => by have := dG.ge _ e; omega), hs.1, hs.2.1, hs.2.2.1, hs.2.2.2.1, hs.2.2.2.2⟩)
     replace aB : OwnR eY (Sx (aI.heap.size) [obk (cP), obk (cQ), some (aX.heap.size), obk (aY), some (aH.heap.size), obk (aC)]) aD aM 3 (r.ro : List Int) := aB.grA bJ (fun _ _ h => by cases h) (fun k hk hs => ⟨(fun e => by have := dF.ge _ e; omega), (fun e => by have := dG.ge _ e; omega), hs.1, hs.2.1, hs.2.2.1, hs.2.2.2.1, hs.2.2.2.2⟩)
     replace aG := aG.gn bJ
     replace aU : OwnR eY (Sx (aJ.heap.size) [obk (cP), obk (cQ), some (aX.heap.size), obk (aC), obk (aD)]) aY fL 3 (ls ++ ls : List Int) := aU.grA bJ (fun _ _ h => by cases h) (fun k hk hs => ⟨(fun e => by have := dF.ge _ e; omega), (fun e => by have := dG.ge _ e; omega), hs.1, hs.2.1, hs.2.2.1, hs.2.2.2⟩)
     replace eX := eX.gn bJ
     replace dF : OwnR eY (Sx (gM.heap.size) [obk (aC), obk (aD), obk (aY), obk (cQ)]) cP eE 3 (q.ah : List Int) := dF.imp (fun g _ hs => ⟨(fun e => by have := gO _ e; have := Sx_base hs; omega), (fun e => by have := gP _ e; have := Sx_base hs; omega), (fun e => by have := gQ _ e; have := Sx_base hs; omega), hs⟩)
     replace dG : OwnR eY (Sx (gM.heap.size) [obk (aC), obk (aD), obk (aY), obk (cP)]) cQ eF 3 (q.ro : List Int) := dG.imp (fun g _ hs => ⟨(fun e => by have := gO _ e; have := Sx_base hs; omega), (fun e => by have := gP _ e; have := Sx_base hs; omega), (fun e => by have := gQ _ e; have := Sx_base hs; omega), hs⟩)
     clear gO gP gQ; clear bJ he
     refine ⟨eZ, ?_⟩
     refine AtH.rd (by kernel_rfl) (fun d v c a w h => by cases d <;> exact h) eZ [10] [[]] [(31, .tuple #[.agg #[.slice cP q.ah.length eE, .slice cQ q.ro.length eF, .int .i64 (q.win)], .int .i64 (q.err)])] #[true, true, true, true, true, true, true, true, true, true, true, false, false, true, false, false] [] 4 iU (by kernel_rfl) trivial (fun nD iV => ?_)
     clear iU
     refine AtH.rd (by kernel_rfl) (fun d v c a w h => by cases d <;> exact h) eZ [11] [[]] [(42, .agg #[.slice cP q.ah.length eE, .slice cQ q.ro.length eF, .int .i64 (q.win)])] #[true, true, true, true, true, true, true, true, true, true, true, true, false, true, false, false] [] 3 iV (by kernel_rfl) trivial (fun nE iW => ?_)
     clear iV
     refine AtH.rd (by kernel_rfl) (fun d v c a w h => by cases d <;> exact h) eZ [12] [[]] [(43, .int .i64 (q.err))] #[true, true, true, true, true, true, true, true, true, true, true, true, true, true, false, false] [] 2 iW (by kernel_rfl) trivial (fun nF iX => ?_)
     clear iW
     refine AtH.all [14] 1 (by kernel_rfl) (by simp) ⟨?_, trivial⟩
     refine OneH.store iX (t := 29) (b := aX.heap.size) (off := 0) (v := .agg #[.slice cP q.ah.length eE, .slice cQ q.ro.length eF, .int .i64 (q.win)]) #[true, true, true, true, true, true, true, true, true, true, true, true, true, true, true, false] (by kernel_rfl) (by kernel_rfl) eX (by kernel_rfl) (fun nG lI bB gR iY => ?_)
     clear iX; replace gR : Bx lI (aX.heap.size) [.slice cP q.ah.length eE, .slice cQ q.ro.length eF, .int .i64 (q.win)] 29 := gR
     have gS := eZ.gr' bB (by rw [aT]; exact ⟨(by simp only [add_block]; omega), (by simp only [add_block]; omega), (by simp only [add_block]; omega), trivial⟩)
     have := bB.size; replace e0 := e0.gr bB (fun k h => by injection h; omega); replace r8 := r8.gb bB (by omega); replace r9 := r9.gb bB (by omega); replace aE := aE.gb bB (by omega); replace aF := aF.gb bB (by omega); replace aA := aA.gr bB (fun k hk => hk.2.2.1); replace aB := aB.gr bB (fun k hk => hk.2.2.1); replace aG := aG.gb bB (by omega); replace aU := aU.gr bB (fun k hk => hk.2.2.1)
     replace dF := dF.gr bB (fun k hk e => by have := Sx_base hk; injection e; omega); replace dG := dG.gr bB (fun k hk e => by have := Sx_base hk; injection e; omega); clear eX bB
     refine ⟨gS, ?_⟩
     refine AtH.rd (by kernel_rfl) (fun d v c a w h => by cases d <;> exact h) gS [15] [[]] [(15, .int .i64 (q.err))] #[true, true, true, true, true, true, true, true, true, true, true, true, true, true, true, true] [] 0 iY (by kernel_rfl) trivial (fun nH lJ => ?_)
     clear iY
     refine AtH.done (by kernel_rfl) ?_
     clear gS
     refine t_n ?_
     have lK := lJ.sub (r := [(15, .int .i64 (q.err)), (14, .pointer (some ⟨aX.heap.size, 0, none⟩)), (13, .int .i64 (r.err)), (12, .pointer (some ⟨aH.heap.size, 0, none⟩)), (11, .bool true), (10, .bool false)]) ⟨rfl, rfl, rfl, rfl, rfl, rfl, trivial⟩
     exact ⟨q, aX.heap.size, cP, cQ, eE, eF, lK, e0, r8, r9, aE, aF, (aA.imp (fun g _ hs => ⟨hs.2.2.2.2.1, hs.2.2.2.2.2.1, hs.1, hs.2.1, hs.2.2.1, (by have := Sx_base hs; show aI.heap.size ≤ g; omega)⟩)), (aB.imp (fun g _ hs => ⟨hs.2.2.2.2.1, hs.2.2.2.2.2.1, hs.1, hs.2.1, hs.2.2.1, (by have := Sx_base hs; show aI.heap.size ≤ g; omega)⟩)), aG, (dF.imp (fun g _ hs => ⟨hs.1, hs.2.1, hs.2.2.2.1, (fun e => by have := Sx_base hs; injection e; omega), (by have := Sx_base hs; show aP.heap.size ≤ g; omega)⟩)), (dG.imp (fun g _ hs => ⟨hs.1, hs.2.1, hs.2.2.2.1, (fun e => by have := Sx_base hs; injection e; omega), (by have := Sx_base hs; show aP.heap.size ≤ g; omega)⟩)), gR, (by omega), (by omega), hq⟩
    refine OneH.seq fK [[]] [(14, .pointer (some ⟨aS.heap.size, 0, none⟩))] (aS.alloc (.cells #[.slice none 0 0, .slice none 0 0, .int .i64 (0)] 29 (0, 0))) [] #[true, true, true, true, true, true, true, true, false, false, false, false, false, true, false, false] (by kernel_rfl) (by kernel_rfl) (by kernel_rfl) trivial (fun nI iZ gT jA => ?_)
    clear fK; have bT := gr_alloc gT; have jB := gD.gr bT; have := bT.size; replace e0 := e0.gn bT; replace r8 := r8.gn bT; replace r9 := r9.gn bT; replace aE := aE.gn bT; replace aF := aF.gn bT; replace aA := aA.grN bT; replace aB := aB.grN bT; replace aG := aG.gn bT; replace aN := aN.grN bT; have dU : Bx iZ (aS.heap.size) [.slice none 0 0, .slice none 0 0, .int .i64 (0)] 29 := Bx.new gT
    have := dU.lt; clear bT gT
    refine ⟨jB, ?_⟩
    refine AtH.all [8] 6 (by kernel_rfl) (by simp) ⟨?_, trivial⟩
    have nJ : (ls ++ ls).length = (ls).length + (ls : List Int).length := List.length_append
    refine OneH.act jA #[true, true, true, true, true, true, true, true, true, false, false, false, false, true, false, false] (by kernel_rfl) (appendR (α := Int) (t := 22) (d := 40) (n := (([] : List Int) ++ ls).length) (m := ls.length) (cc := cs) (xs := ls) (ys := ls) (bytes := 8) (by first | rfl | omega | (simp; done) | (simp; omega)) (by first | rfl | omega | (simp; done) | (simp; omega)) (by kernel_rfl) rfl (by kernel_rfl) aN aE.srcR (by omega) (by omega)) ?_
    rintro d_ v_ fN ⟨rfl, dH, jC, eG⟩
    obtain rfl := eG.val
    have bU := eG.gr
    have jD := jB.grO bU (by rw [aT]; exact ⟨(fun e => by have := aN.ge _ e; simp only [add_block] at this; omega), (fun e => by have := aN.ge _ e; simp only [add_block] at this; omega), (fun e => by have := aN.ge _ e; simp only [add_block] at this; omega), trivial⟩)
    refine ⟨_, rfl, fun nK jE => ⟨jD, ?_⟩⟩
    clear jA
    have eH := eG.own (Sx (aJ.heap.size) [some (aS.heap.size), obk (aC), obk (aD)]) (fun g _ hs => ⟨hs.1, hs.2.1, hs.2.2.1, hs.2.2.2⟩) ⟨(fun e => by injection e; omega), aA.ne_new, aB.ne_new, (show aJ.heap.size ≤ iZ.heap.size by omega)⟩
    have := bU.size; replace e0 := e0.gr bU (fun k hk => by have := aN.ge k hk; omega); replace r8 := r8.gr bU (fun k hk => by have := aN.ge k hk; omega); replace r9 := r9.gr bU (fun k hk => by have := aN.ge k hk; omega); replace aE := aE.gr bU (fun k hk => by have := aN.ge k hk; omega); replace aF := aF.gr bU (fun e => by have := aN.ge _ e; omega)
    replace aA : OwnR fN (Sx (aI.heap.size) [some (aS.heap.size), obk (dH), some (aH.heap.size), obk (aD)]) aC aL 3 (r.ah : List Int) := aA.grA bU (fun k hk => hk.2.1) (fun k hk hs => ⟨hs.1, own_repl eG.at_ hs.2.1 hk, hs.2.2.1, hs.2.2.2.1, hs.2.2.2.2⟩)
    replace aB : OwnR fN (Sx (aI.heap.size) [some (aS.heap.size), obk (dH), some (aH.heap.size), obk (aC)]) aD aM 3 (r.ro : List Int) := aB.grA bU (fun k hk => hk.2.1) (fun k hk hs => ⟨hs.1, own_repl eG.at_ hs.2.1 hk, hs.2.2.1, hs.2.2.2.1, hs.2.2.2.2⟩)
    replace aG := aG.gr bU (fun e => by have := aN.ge _ e; omega); replace dU := dU.gr bU (aN.neb (fun g hs => hs.1)); clear aN bU eG
    refine AtH.all [9] 5 (by kernel_rfl) (by simp) ⟨?_, trivial⟩
    refine OneH.call jE 17 #[.agg #[.slice Ag0 g.ow.length cg0, .slice Ag1 g.pr.length cg1, .slice Ag2 g.mv.length cg2], .int .i64 (i), .int .i64 (p), .slice Am lm.length cm, .slice dH ((ls ++ ls).length) jC] (some 41) #[true, true, true, true, true, true, true, true, true, true, false, false, false, true, false, false] (by kernel_rfl) (by kernel_rfl) (runM_any (g := g) (i := i) (p := p) (lm := lm) (ls := ls ++ ls) (r8.wide (Nat.zero_le _) (by omega)) (r9.wide (Nat.zero_le _) (by omega)) (eH.rdI0 (by first | omega | (simp only [List.length_cons, List.length_nil]; omega) | (simp; done) | (simp; omega)))) ?_
    rintro e_ fA ⟨q, hq, cR, eI, cS, eJ, rfl, he, dI, dJ⟩
    have hlq := run_len hq
    refine ⟨_, rfl, _, rfl, fun nL jF => ?_⟩
    clear jE; have bK := gr_ext he; have fB := jD.gr bK; have gU := aA.lt; have gV := aB.lt; have gW := eH.lt; have := bK.size; replace e0 := e0.gn bK; replace r8 := r8.gn bK; replace r9 := r9.gn bK; replace aE := aE.gn bK; replace aF := aF.gn bK
    replace aA : OwnR fA (Sx (aI.heap.size) [obk (cR), obk (cS), some (aS.heap.size), obk (dH), some (aH.heap.size), obk (aD)]) aC aL 3 (r.ah : List Int) := aA.grA bK (fun _ _ h => by cases h) (fun k hk hs => ⟨(fun e => by have := dI.ge _ e; omega), (fun e => by have := dJ.ge _ e; omega), hs.1, hs.2.1, hs.2.2.1, hs.2.2.2.1, hs.2.2.2.2⟩)
    replace aB : OwnR fA (Sx (aI.heap.size) [obk (cR), obk (cS), some (aS.heap.size), obk (dH), some (aH.heap.size), obk (aC)]) aD aM 3 (r.ro : List Int) := aB.grA bK (fun _ _ h => by cases h) (fun k hk hs => ⟨(fun e => by have := dI.ge _ e; omega), (fun e => by have := dJ.ge _ e; omega), hs.1, hs.2.1, hs.2.2.1, hs.2.2.2.1, hs.2.2.2.2⟩)
    replace aG := aG.gn bK
    replace eH : OwnR fA (Sx (aJ.heap.size) [obk (cR), obk (cS), some (aS.heap.size), obk (aC), obk (aD)]) dH jC 3 (ls ++ ls : List Int) := eH.grA bK (fun _ _ h => by cases h) (fun k hk hs => ⟨(fun e => by have := dI.ge _ e; omega), (fun e => by have := dJ.ge _ e; omega), hs.1, hs.2.1, hs.2.2.1, hs.2.2.2⟩)
    replace dU := dU.gn bK
    replace dI : OwnR fA (Sx (fN.heap.size) [obk (aC), obk (aD), obk (dH), obk (cS)]) cR eI 3 (q.ah : List Int) := dI.imp (fun g _ hs => ⟨(fun e => by have := gU _ e; have := Sx_base hs; omega), (fun e => by have := gV _ e; have := Sx_base hs; omega), (fun e => by have := gW _ e; have := Sx_base hs; omega), hs⟩)
    replace dJ : OwnR fA (Sx (fN.heap.size) [obk (aC), obk (aD), obk (dH), obk (cR)]) cS eJ 3 (q.ro : List Int) := dJ.imp (fun g _ hs => ⟨(fun e => by have := gU _ e; have := Sx_base hs; omega), (fun e => by have := gV _ e; have := Sx_base hs; omega), (fun e => by have := gW _ e; have := Sx_base hs; omega), hs⟩)
    clear gU gV gW; clear bK he
    refine ⟨fB, ?_⟩
    refine AtH.rd (by kernel_rfl) (fun d v c a w h => by cases d <;> exact h) fB [10] [[]] [(31, .tuple #[.agg #[.slice cR q.ah.length eI, .slice cS q.ro.length eJ, .int .i64 (q.win)], .int .i64 (q.err)])] #[true, true, true, true, true, true, true, true, true, true, true, false, false, true, false, false] [] 4 jF (by kernel_rfl) trivial (fun nM jG => ?_)
    clear jF
    refine AtH.rd (by kernel_rfl) (fun d v c a w h => by cases d <;> exact h) fB [11] [[]] [(42, .agg #[.slice cR q.ah.length eI, .slice cS q.ro.length eJ, .int .i64 (q.win)])] #[true, true, true, true, true, true, true, true, true, true, true, true, false, true, false, false] [] 3 jG (by kernel_rfl) trivial (fun nN jH => ?_)
    clear jG
    refine AtH.rd (by kernel_rfl) (fun d v c a w h => by cases d <;> exact h) fB [12] [[]] [(43, .int .i64 (q.err))] #[true, true, true, true, true, true, true, true, true, true, true, true, true, true, false, false] [] 2 jH (by kernel_rfl) trivial (fun nO jI => ?_)
    clear jH
    refine AtH.all [14] 1 (by kernel_rfl) (by simp) ⟨?_, trivial⟩
    refine OneH.store jI (t := 29) (b := aS.heap.size) (off := 0) (v := .agg #[.slice cR q.ah.length eI, .slice cS q.ro.length eJ, .int .i64 (q.win)]) #[true, true, true, true, true, true, true, true, true, true, true, true, true, true, true, false] (by kernel_rfl) (by kernel_rfl) dU (by kernel_rfl) (fun nP lL bC gX jJ => ?_)
    clear jI; replace gX : Bx lL (aS.heap.size) [.slice cR q.ah.length eI, .slice cS q.ro.length eJ, .int .i64 (q.win)] 29 := gX; have gY := fB.gr' bC (by rw [aT]; exact ⟨(by simp only [add_block]; omega), (by simp only [add_block]; omega), (by simp only [add_block]; omega), trivial⟩); have := bC.size; replace e0 := e0.gr bC (fun k h => by injection h; omega); replace r8 := r8.gb bC (by omega)
    replace r9 := r9.gb bC (by omega); replace aE := aE.gb bC (by omega); replace aF := aF.gb bC (by omega); replace aA := aA.gr bC (fun k hk => hk.2.2.1); replace aB := aB.gr bC (fun k hk => hk.2.2.1); replace aG := aG.gb bC (by omega); replace eH := eH.gr bC (fun k hk => hk.2.2.1); replace dI := dI.gr bC (fun k hk e => by have := Sx_base hk; injection e; omega)
    replace dJ := dJ.gr bC (fun k hk e => by have := Sx_base hk; injection e; omega); clear dU bC
    refine ⟨gY, ?_⟩
    refine AtH.rd (by kernel_rfl) (fun d v c a w h => by cases d <;> exact h) gY [15] [[]] [(15, .int .i64 (q.err))] #[true, true, true, true, true, true, true, true, true, true, true, true, true, true, true, true] [] 0 jJ (by kernel_rfl) trivial (fun nQ lM => ?_)
    clear jJ
    refine AtH.done (by kernel_rfl) ?_
    clear gY
    refine t_n ?_
    have lN := lM.sub (r := [(15, .int .i64 (q.err)), (14, .pointer (some ⟨aS.heap.size, 0, none⟩)), (13, .int .i64 (r.err)), (12, .pointer (some ⟨aH.heap.size, 0, none⟩)), (11, .bool true), (10, .bool false)]) ⟨rfl, rfl, rfl, rfl, rfl, rfl, trivial⟩
    exact ⟨q, aS.heap.size, cR, cS, eI, eJ, lN, e0, r8, r9, aE, aF, (aA.imp (fun g _ hs => ⟨hs.2.2.2.2.1, hs.2.2.2.2.2.1, hs.1, hs.2.1, hs.2.2.1, (by have := Sx_base hs; show aI.heap.size ≤ g; omega)⟩)), (aB.imp (fun g _ hs => ⟨hs.2.2.2.2.1, hs.2.2.2.2.2.1, hs.1, hs.2.1, hs.2.2.1, (by have := Sx_base hs; show aI.heap.size ≤ g; omega)⟩)), aG, (dI.imp (fun g _ hs => ⟨hs.1, hs.2.1, hs.2.2.2.1, (fun e => by have := Sx_base hs; injection e; omega), (by have := Sx_base hs; show aP.heap.size ≤ g; omega)⟩)), (dJ.imp (fun g _ hs => ⟨hs.1, hs.2.1, hs.2.2.2.1, (fun e => by have := Sx_base hs; injection e; omega), (by have := Sx_base hs; show aP.heap.size ≤ g; omega)⟩)), gX, (by omega), (by omega), hq⟩
   refine OneH.seq fJ [[]] [(14, .pointer (some ⟨aO.heap.size, 0, none⟩))] (aO.alloc (.cells #[.slice none 0 0, .slice none 0 0, .int .i64 (0)] 29 (0, 0))) [] #[true, true, true, true, true, true, false, true, false, false, false, false, false, true, false, false] (by kernel_rfl) (by kernel_rfl) (by kernel_rfl) trivial (fun nR gZ hA jK => ?_)
   clear fJ; have bV := gr_alloc hA; have jL := gB.gr bV; have := bV.size; replace e0 := e0.gn bV; replace r8 := r8.gn bV; replace r9 := r9.gn bV; replace aE := aE.gn bV; replace aF := aF.gn bV; replace aA := aA.grN bV; replace aB := aB.grN bV; replace aG := aG.gn bV; replace dT := dT.gn bV; have cZ : Bx gZ (aO.heap.size) [.slice none 0 0, .slice none 0 0, .int .i64 (0)] 29 := Bx.new hA; have := cZ.lt
   clear bV hA
   refine ⟨jL, ?_⟩
   refine AtH.all [6] 7 (by kernel_rfl) (by simp) ⟨?_, trivial⟩
   have bW : OwnR gZ (Sx (aJ.heap.size) [obk (aC), obk (aD), some (aO.heap.size)]) (some ⟨aJ.heap.size, 0, none⟩) 0 3 ([] : List Int) := Bx.own0 dT ⟨(aA.neb (fun g hs => hs.2.1)), (aB.neb (fun g hs => hs.2.1)), (fun e => by injection e; omega), (Nat.le_refl _)⟩
   clear dT; have lO : (([] : List Int) ++ ls).length = (([] : List Int)).length + (ls : List Int).length := List.length_append
   simp only [List.length_cons, List.length_nil] at lO
   refine OneH.act jK #[true, true, true, true, true, true, true, true, false, false, false, false, false, true, false, false] (by kernel_rfl) (appendR (α := Int) (t := 22) (d := 38) (n := 0) (m := ls.length) (cc := cs) (xs := []) (ys := ls) (bytes := 8) (by first | rfl | omega | (simp; done) | (simp; omega)) (by first | rfl | omega | (simp; done) | (simp; omega)) (by kernel_rfl) rfl (by kernel_rfl) bW aE.srcR (by simp only [List.length_cons, List.length_nil]; omega) (by simp only [List.length_cons, List.length_nil]; omega)) ?_
   rintro d_ v_ fO ⟨rfl, hB, lP, eK⟩
   obtain rfl := eK.val
   have bX := eK.gr
   have jM := jL.grO bX (by rw [aT]; exact ⟨(fun e => by have := bW.ge _ e; simp only [add_block] at this; omega), (fun e => by have := bW.ge _ e; simp only [add_block] at this; omega), (fun e => by have := bW.ge _ e; simp only [add_block] at this; omega), trivial⟩)
   refine ⟨_, rfl, fun nS jN => ⟨jM, ?_⟩⟩
   clear jK
   have bD := eK.own (Sx (aJ.heap.size) [obk (aC), obk (aD), some (aO.heap.size)]) (fun g _ hs => ⟨hs.1, hs.2.1, hs.2.2.1, hs.2.2.2⟩) ⟨aA.ne_new, aB.ne_new, (fun e => by injection e; omega), (show aJ.heap.size ≤ gZ.heap.size by omega)⟩
   have := bX.size; replace e0 := e0.gr bX (fun k hk => by have := bW.ge k hk; omega); replace r8 := r8.gr bX (fun k hk => by have := bW.ge k hk; omega); replace r9 := r9.gr bX (fun k hk => by have := bW.ge k hk; omega); replace aE := aE.gr bX (fun k hk => by have := bW.ge k hk; omega); replace aF := aF.gr bX (fun e => by have := bW.ge _ e; omega)
   replace aA : OwnR fO (Sx (aI.heap.size) [some (aO.heap.size), obk (hB), some (aH.heap.size), obk (aD)]) aC aL 3 (r.ah : List Int) := aA.grA bX (fun k hk => hk.2.1) (fun k hk hs => ⟨hs.1, own_repl eK.at_ hs.2.1 hk, hs.2.2.1, hs.2.2.2.1, hs.2.2.2.2⟩)
   replace aB : OwnR fO (Sx (aI.heap.size) [some (aO.heap.size), obk (hB), some (aH.heap.size), obk (aC)]) aD aM 3 (r.ro : List Int) := aB.grA bX (fun k hk => hk.2.1) (fun k hk hs => ⟨hs.1, own_repl eK.at_ hs.2.1 hk, hs.2.2.1, hs.2.2.2.1, hs.2.2.2.2⟩)
   replace aG := aG.gr bX (fun e => by have := bW.ge _ e; omega); replace cZ := cZ.gr bX (bW.neb (fun g hs => hs.2.2.1)); clear bW bX eK; replace bD : OwnR fO (Sx (aJ.heap.size) [obk (aC), obk (aD), some (aO.heap.size)]) hB lP 3 (ls : List Int) := bD
   refine AtH.all [8] 6 (by kernel_rfl) (by simp) ⟨?_, trivial⟩
   have nT : (ls ++ ls).length = (ls).length + (ls : List Int).length := List.length_append
   refine OneH.act jN #[true, true, true, true, true, true, true, true, true, false, false, false, false, true, false, false] (by kernel_rfl) (appendR (α := Int) (t := 22) (d := 40) (n := (([] : List Int) ++ ls).length) (m := ls.length) (cc := cs) (xs := ls) (ys := ls) (bytes := 8) (by first | rfl | omega | (simp; done) | (simp; omega)) (by first | rfl | omega | (simp; done) | (simp; omega)) (by kernel_rfl) rfl (by kernel_rfl) bD aE.srcR (by omega) (by omega)) ?_
   rintro d_ v_ fP ⟨rfl, dK, jO, eL⟩
   obtain rfl := eL.val
   have bY := eL.gr
   have jP := jM.grO bY (by rw [aT]; exact ⟨(fun e => by have := bD.ge _ e; simp only [add_block] at this; omega), (fun e => by have := bD.ge _ e; simp only [add_block] at this; omega), (fun e => by have := bD.ge _ e; simp only [add_block] at this; omega), trivial⟩)
   refine ⟨_, rfl, fun nU jQ => ⟨jP, ?_⟩⟩
   clear jN
   have eM := eL.own (Sx (aJ.heap.size) [obk (aC), obk (aD), some (aO.heap.size)]) (fun g _ hs => ⟨hs.1, hs.2.1, hs.2.2.1, hs.2.2.2⟩) ⟨aA.ne_new, aB.ne_new, (fun e => by injection e; omega), (show aJ.heap.size ≤ fO.heap.size by omega)⟩
   have := bY.size; replace e0 := e0.gr bY (fun k hk => by have := bD.ge k hk; omega); replace r8 := r8.gr bY (fun k hk => by have := bD.ge k hk; omega); replace r9 := r9.gr bY (fun k hk => by have := bD.ge k hk; omega); replace aE := aE.gr bY (fun k hk => by have := bD.ge k hk; omega); replace aF := aF.gr bY (fun e => by have := bD.ge _ e; omega)
   replace aA : OwnR fP (Sx (aI.heap.size) [some (aO.heap.size), obk (dK), some (aH.heap.size), obk (aD)]) aC aL 3 (r.ah : List Int) := aA.grA bY (fun k hk => hk.2.1) (fun k hk hs => ⟨hs.1, own_repl eL.at_ hs.2.1 hk, hs.2.2.1, hs.2.2.2.1, hs.2.2.2.2⟩)
   replace aB : OwnR fP (Sx (aI.heap.size) [some (aO.heap.size), obk (dK), some (aH.heap.size), obk (aC)]) aD aM 3 (r.ro : List Int) := aB.grA bY (fun k hk => hk.2.1) (fun k hk hs => ⟨hs.1, own_repl eL.at_ hs.2.1 hk, hs.2.2.1, hs.2.2.2.1, hs.2.2.2.2⟩)
   replace aG := aG.gr bY (fun e => by have := bD.ge _ e; omega); replace cZ := cZ.gr bY (bD.neb (fun g hs => hs.2.2.1)); clear bD bY eL
   refine AtH.all [9] 5 (by kernel_rfl) (by simp) ⟨?_, trivial⟩
   refine OneH.call jQ 17 #[.agg #[.slice Ag0 g.ow.length cg0, .slice Ag1 g.pr.length cg1, .slice Ag2 g.mv.length cg2], .int .i64 (i), .int .i64 (p), .slice Am lm.length cm, .slice dK ((ls ++ ls).length) jO] (some 41) #[true, true, true, true, true, true, true, true, true, true, false, false, false, true, false, false] (by kernel_rfl) (by kernel_rfl) (runM_any (g := g) (i := i) (p := p) (lm := lm) (ls := ls ++ ls) (r8.wide (Nat.zero_le _) (by omega)) (r9.wide (Nat.zero_le _) (by omega)) (eM.rdI0 (by first | omega | (simp only [List.length_cons, List.length_nil]; omega) | (simp; done) | (simp; omega)))) ?_
   rintro e_ fC ⟨q, hq, cT, eN, cU, eO, rfl, he, dL, dM⟩
   have hlq := run_len hq
   refine ⟨_, rfl, _, rfl, fun nV jR => ?_⟩
   clear jQ; have bL := gr_ext he; have fD := jP.gr bL; have hC := aA.lt; have hD := aB.lt; have hE := eM.lt; have := bL.size; replace e0 := e0.gn bL; replace r8 := r8.gn bL; replace r9 := r9.gn bL; replace aE := aE.gn bL; replace aF := aF.gn bL
   replace aA : OwnR fC (Sx (aI.heap.size) [obk (cT), obk (cU), some (aO.heap.size), obk (dK), some (aH.heap.size), obk (aD)]) aC aL 3 (r.ah : List Int) := aA.grA bL (fun _ _ h => by cases h) (fun k hk hs => ⟨(fun e => by have := dL.ge _ e; omega), (fun e => by have := dM.ge _ e; omega), hs.1, hs.2.1, hs.2.2.1, hs.2.2.2.1, hs.2.2.2.2⟩)
   replace aB : OwnR fC (Sx (aI.heap.size) [obk (cT), obk (cU), some (aO.heap.size), obk (dK), some (aH.heap.size), obk (aC)]) aD aM 3 (r.ro : List Int) := aB.grA bL (fun _ _ h => by cases h) (fun k hk hs => ⟨(fun e => by have := dL.ge _ e; omega), (fun e => by have := dM.ge _ e; omega), hs.1, hs.2.1, hs.2.2.1, hs.2.2.2.1, hs.2.2.2.2⟩)
   replace aG := aG.gn bL
   replace eM : OwnR fC (Sx (aJ.heap.size) [obk (cT), obk (cU), obk (aC), obk (aD), some (aO.heap.size)]) dK jO 3 (ls ++ ls : List Int) := eM.grA bL (fun _ _ h => by cases h) (fun k hk hs => ⟨(fun e => by have := dL.ge _ e; omega), (fun e => by have := dM.ge _ e; omega), hs.1, hs.2.1, hs.2.2.1, hs.2.2.2⟩)
   replace cZ := cZ.gn bL
   replace dL : OwnR fC (Sx (fP.heap.size) [obk (aC), obk (aD), obk (dK), obk (cU)]) cT eN 3 (q.ah : List Int) := dL.imp (fun g _ hs => ⟨(fun e => by have := hC _ e; have := Sx_base hs; omega), (fun e => by have := hD _ e; have := Sx_base hs; omega), (fun e => by have := hE _ e; have := Sx_base hs; omega), hs⟩)
   replace dM : OwnR fC (Sx (fP.heap.size) [obk (aC), obk (aD), obk (dK), obk (cT)]) cU eO 3 (q.ro : List Int) := dM.imp (fun g _ hs => ⟨(fun e => by have := hC _ e; have := Sx_base hs; omega), (fun e => by have := hD _ e; have := Sx_base hs; omega), (fun e => by have := hE _ e; have := Sx_base hs; omega), hs⟩)
   clear hC hD hE; clear bL he
   refine ⟨fD, ?_⟩
   refine AtH.rd (by kernel_rfl) (fun d v c a w h => by cases d <;> exact h) fD [10] [[]] [(31, .tuple #[.agg #[.slice cT q.ah.length eN, .slice cU q.ro.length eO, .int .i64 (q.win)], .int .i64 (q.err)])] #[true, true, true, true, true, true, true, true, true, true, true, false, false, true, false, false] [] 4 jR (by kernel_rfl) trivial (fun nW jS => ?_)
   clear jR
   refine AtH.rd (by kernel_rfl) (fun d v c a w h => by cases d <;> exact h) fD [11] [[]] [(42, .agg #[.slice cT q.ah.length eN, .slice cU q.ro.length eO, .int .i64 (q.win)])] #[true, true, true, true, true, true, true, true, true, true, true, true, false, true, false, false] [] 3 jS (by kernel_rfl) trivial (fun nX jT => ?_)
   clear jS
   refine AtH.rd (by kernel_rfl) (fun d v c a w h => by cases d <;> exact h) fD [12] [[]] [(43, .int .i64 (q.err))] #[true, true, true, true, true, true, true, true, true, true, true, true, true, true, false, false] [] 2 jT (by kernel_rfl) trivial (fun nY jU => ?_)
   clear jT
   refine AtH.all [14] 1 (by kernel_rfl) (by simp) ⟨?_, trivial⟩
   refine OneH.store jU (t := 29) (b := aO.heap.size) (off := 0) (v := .agg #[.slice cT q.ah.length eN, .slice cU q.ro.length eO, .int .i64 (q.win)]) #[true, true, true, true, true, true, true, true, true, true, true, true, true, true, true, false] (by kernel_rfl) (by kernel_rfl) cZ (by kernel_rfl) (fun nZ lQ bE hF jV => ?_)
   clear jU; replace hF : Bx lQ (aO.heap.size) [.slice cT q.ah.length eN, .slice cU q.ro.length eO, .int .i64 (q.win)] 29 := hF; have hG := fD.gr' bE (by rw [aT]; exact ⟨(by simp only [add_block]; omega), (by simp only [add_block]; omega), (by simp only [add_block]; omega), trivial⟩); have := bE.size; replace e0 := e0.gr bE (fun k h => by injection h; omega); replace r8 := r8.gb bE (by omega)
   replace r9 := r9.gb bE (by omega); replace aE := aE.gb bE (by omega); replace aF := aF.gb bE (by omega); replace aA := aA.gr bE (fun k hk => hk.2.2.1); replace aB := aB.gr bE (fun k hk => hk.2.2.1); replace aG := aG.gb bE (by omega); replace eM := eM.gr bE (fun k hk => hk.2.2.2.2.1); replace dL := dL.gr bE (fun k hk e => by have := Sx_base hk; injection e; omega)
   replace dM := dM.gr bE (fun k hk e => by have := Sx_base hk; injection e; omega); clear cZ bE
   refine ⟨hG, ?_⟩
   refine AtH.rd (by kernel_rfl) (fun d v c a w h => by cases d <;> exact h) hG [15] [[]] [(15, .int .i64 (q.err))] #[true, true, true, true, true, true, true, true, true, true, true, true, true, true, true, true] [] 0 jV (by kernel_rfl) trivial (fun oA lR => ?_)
   clear jV
   refine AtH.done (by kernel_rfl) ?_
   clear hG
   refine t_n ?_
   have lS := lR.sub (r := [(15, .int .i64 (q.err)), (14, .pointer (some ⟨aO.heap.size, 0, none⟩)), (13, .int .i64 (r.err)), (12, .pointer (some ⟨aH.heap.size, 0, none⟩)), (11, .bool true), (10, .bool false)]) ⟨rfl, rfl, rfl, rfl, rfl, rfl, trivial⟩
   exact ⟨q, aO.heap.size, cT, cU, eN, eO, lS, e0, r8, r9, aE, aF, (aA.imp (fun g _ hs => ⟨hs.2.2.2.2.1, hs.2.2.2.2.2.1, hs.1, hs.2.1, hs.2.2.1, (by have := Sx_base hs; show aI.heap.size ≤ g; omega)⟩)), (aB.imp (fun g _ hs => ⟨hs.2.2.2.2.1, hs.2.2.2.2.2.1, hs.1, hs.2.1, hs.2.2.1, (by have := Sx_base hs; show aI.heap.size ≤ g; omega)⟩)), aG, (dL.imp (fun g _ hs => ⟨hs.1, hs.2.1, hs.2.2.2.1, (fun e => by have := Sx_base hs; injection e; omega), (by have := Sx_base hs; show aP.heap.size ≤ g; omega)⟩)), (dM.imp (fun g _ hs => ⟨hs.1, hs.2.1, hs.2.2.2.1, (fun e => by have := Sx_base hs; injection e; omega), (by have := Sx_base hs; show aP.heap.size ≤ g; omega)⟩)), hF, (by omega), (by omega), hq⟩
  refine OneH.seq fI [[]] [(14, .pointer (some ⟨aJ.heap.size, 0, none⟩))] (aJ.alloc (.cells #[.slice none 0 0, .slice none 0 0, .int .i64 (0)] 29 (0, 0))) [] #[true, true, true, true, false, true, false, true, false, false, false, false, false, true, false, false] (by kernel_rfl) (by kernel_rfl) (by kernel_rfl) trivial (fun oB bZ hH jW => ?_)
  clear fI; have cJ := gr_alloc hH; have jX := fZ.gr cJ; have := cJ.size; replace e0 := e0.gn cJ; replace r8 := r8.gn cJ; replace r9 := r9.gn cJ; replace aE := aE.gn cJ; replace aF := aF.gn cJ; replace aA := aA.grN cJ; replace aB := aB.grN cJ; replace aG := aG.gn cJ; have cK : Bx bZ (aJ.heap.size) [.slice none 0 0, .slice none 0 0, .int .i64 (0)] 29 := Bx.new hH; have := cK.lt; clear cJ hH
  refine ⟨jX, ?_⟩
  refine AtH.all [4] 8 (by kernel_rfl) (by simp) ⟨?_, trivial⟩
  refine OneH.seq jW [[]] [(36, .slice (some ⟨bZ.heap.size, 0, none⟩) 0 0)] (bZ.alloc (.cells #[] 3 (0, 0))) [] #[true, true, true, true, true, true, false, true, false, false, false, false, false, true, false, false] (by kernel_rfl) (by kernel_rfl) (by kernel_rfl) trivial (fun oC hI hJ jY => ?_)
  clear jW; have cA := gr_alloc hJ; have jZ := jX.gr cA
  refine ⟨jZ, ?_⟩
  have := cA.size; replace e0 := e0.gn cA; replace r8 := r8.gn cA; replace r9 := r9.gn cA; replace aE := aE.gn cA; replace aF := aF.gn cA; replace aA := aA.grN cA; replace aB := aB.grN cA; replace aG := aG.gn cA; replace cK := cK.gn cA; have hK : Bx hI (bZ.heap.size) [] 3 := Bx.new hJ; have := hK.lt; clear cA hJ
  refine AtH.all [6] 7 (by kernel_rfl) (by simp) ⟨?_, trivial⟩
  have cB : OwnR hI (Sx (bZ.heap.size) [obk (aC), obk (aD)]) (some ⟨bZ.heap.size, 0, none⟩) 0 3 ([] : List Int) := Bx.own0 hK ⟨(aA.neb (fun g hs => hs.1)), (aB.neb (fun g hs => hs.1)), (Nat.le_refl _)⟩
  clear hK; have lT : (([] : List Int) ++ ls).length = (([] : List Int)).length + (ls : List Int).length := List.length_append
  simp only [List.length_cons, List.length_nil] at lT
  refine OneH.act jY #[true, true, true, true, true, true, true, true, false, false, false, false, false, true, false, false] (by kernel_rfl) (appendR (α := Int) (t := 22) (d := 38) (n := 0) (m := ls.length) (cc := cs) (xs := []) (ys := ls) (bytes := 8) (by first | rfl | omega | (simp; done) | (simp; omega)) (by first | rfl | omega | (simp; done) | (simp; omega)) (by kernel_rfl) rfl (by kernel_rfl) cB aE.srcR (by simp only [List.length_cons, List.length_nil]; omega) (by simp only [List.length_cons, List.length_nil]; omega)) ?_
  rintro d_ v_ fQ ⟨rfl, hL, lU, eP⟩
  obtain rfl := eP.val
  have cC := eP.gr
  have kA := jZ.grO cC (by rw [aT]; exact ⟨(fun e => by have := cB.ge _ e; simp only [add_block] at this; omega), (fun e => by have := cB.ge _ e; simp only [add_block] at this; omega), (fun e => by have := cB.ge _ e; simp only [add_block] at this; omega), trivial⟩)
  refine ⟨_, rfl, fun oD kB => ⟨kA, ?_⟩⟩
  clear jY
  have bF := eP.own (Sx (bZ.heap.size) [obk (aC), obk (aD)]) (fun g _ hs => ⟨hs.1, hs.2.1, hs.2.2⟩) ⟨aA.ne_new, aB.ne_new, (show bZ.heap.size ≤ hI.heap.size by omega)⟩
  have := cC.size; replace e0 := e0.gr cC (fun k hk => by have := cB.ge k hk; omega); replace r8 := r8.gr cC (fun k hk => by have := cB.ge k hk; omega); replace r9 := r9.gr cC (fun k hk => by have := cB.ge k hk; omega); replace aE := aE.gr cC (fun k hk => by have := cB.ge k hk; omega); replace aF := aF.gr cC (fun e => by have := cB.ge _ e; omega)
  replace aA : OwnR fQ (Sx (aI.heap.size) [obk (hL), some (aJ.heap.size), some (aH.heap.size), obk (aD)]) aC aL 3 (r.ah : List Int) := aA.grA cC (fun k hk => hk.1) (fun k hk hs => ⟨own_repl eP.at_ hs.1 hk, hs.2.1, hs.2.2.1, hs.2.2.2.1, hs.2.2.2.2⟩)
  replace aB : OwnR fQ (Sx (aI.heap.size) [obk (hL), some (aJ.heap.size), some (aH.heap.size), obk (aC)]) aD aM 3 (r.ro : List Int) := aB.grA cC (fun k hk => hk.1) (fun k hk hs => ⟨own_repl eP.at_ hs.1 hk, hs.2.1, hs.2.2.1, hs.2.2.2.1, hs.2.2.2.2⟩)
  replace aG := aG.gr cC (fun e => by have := cB.ge _ e; omega); replace cK := cK.gr cC (fun e => by have := cB.ge _ e; omega); clear cB cC eP; replace bF : OwnR fQ (Sx (bZ.heap.size) [obk (aC), obk (aD)]) hL lU 3 (ls : List Int) := bF
  refine AtH.all [8] 6 (by kernel_rfl) (by simp) ⟨?_, trivial⟩
  have oE : (ls ++ ls).length = (ls).length + (ls : List Int).length := List.length_append
  refine OneH.act kB #[true, true, true, true, true, true, true, true, true, false, false, false, false, true, false, false] (by kernel_rfl) (appendR (α := Int) (t := 22) (d := 40) (n := (([] : List Int) ++ ls).length) (m := ls.length) (cc := cs) (xs := ls) (ys := ls) (bytes := 8) (by first | rfl | omega | (simp; done) | (simp; omega)) (by first | rfl | omega | (simp; done) | (simp; omega)) (by kernel_rfl) rfl (by kernel_rfl) bF aE.srcR (by omega) (by omega)) ?_
  rintro d_ v_ fR ⟨rfl, dN, kC, eQ⟩
  obtain rfl := eQ.val
  have cD := eQ.gr
  have kD := kA.grO cD (by rw [aT]; exact ⟨(fun e => by have := bF.ge _ e; simp only [add_block] at this; omega), (fun e => by have := bF.ge _ e; simp only [add_block] at this; omega), (fun e => by have := bF.ge _ e; simp only [add_block] at this; omega), trivial⟩)
  refine ⟨_, rfl, fun oF kE => ⟨kD, ?_⟩⟩
  clear kB
  have eR := eQ.own (Sx (bZ.heap.size) [obk (aC), obk (aD)]) (fun g _ hs => ⟨hs.1, hs.2.1, hs.2.2⟩) ⟨aA.ne_new, aB.ne_new, (show bZ.heap.size ≤ fQ.heap.size by omega)⟩
  have := cD.size; replace e0 := e0.gr cD (fun k hk => by have := bF.ge k hk; omega); replace r8 := r8.gr cD (fun k hk => by have := bF.ge k hk; omega); replace r9 := r9.gr cD (fun k hk => by have := bF.ge k hk; omega); replace aE := aE.gr cD (fun k hk => by have := bF.ge k hk; omega); replace aF := aF.gr cD (fun e => by have := bF.ge _ e; omega)
  replace aA : OwnR fR (Sx (aI.heap.size) [obk (dN), some (aJ.heap.size), some (aH.heap.size), obk (aD)]) aC aL 3 (r.ah : List Int) := aA.grA cD (fun k hk => hk.1) (fun k hk hs => ⟨own_repl eQ.at_ hs.1 hk, hs.2.1, hs.2.2.1, hs.2.2.2.1, hs.2.2.2.2⟩)
  replace aB : OwnR fR (Sx (aI.heap.size) [obk (dN), some (aJ.heap.size), some (aH.heap.size), obk (aC)]) aD aM 3 (r.ro : List Int) := aB.grA cD (fun k hk => hk.1) (fun k hk hs => ⟨own_repl eQ.at_ hs.1 hk, hs.2.1, hs.2.2.1, hs.2.2.2.1, hs.2.2.2.2⟩)
  replace aG := aG.gr cD (fun e => by have := bF.ge _ e; omega); replace cK := cK.gr cD (fun e => by have := bF.ge _ e; omega); clear bF cD eQ
  refine AtH.all [9] 5 (by kernel_rfl) (by simp) ⟨?_, trivial⟩
  refine OneH.call kE 17 #[.agg #[.slice Ag0 g.ow.length cg0, .slice Ag1 g.pr.length cg1, .slice Ag2 g.mv.length cg2], .int .i64 (i), .int .i64 (p), .slice Am lm.length cm, .slice dN ((ls ++ ls).length) kC] (some 41) #[true, true, true, true, true, true, true, true, true, true, false, false, false, true, false, false] (by kernel_rfl) (by kernel_rfl) (runM_any (g := g) (i := i) (p := p) (lm := lm) (ls := ls ++ ls) (r8.wide (Nat.zero_le _) (by omega)) (r9.wide (Nat.zero_le _) (by omega)) (eR.rdI0 (by first | omega | (simp only [List.length_cons, List.length_nil]; omega) | (simp; done) | (simp; omega)))) ?_
  rintro e_ fE ⟨q, hq, cV, eS, cW, eT, rfl, he, dO, dP⟩
  have hlq := run_len hq
  refine ⟨_, rfl, _, rfl, fun oG kF => ?_⟩
  clear kE; have bM := gr_ext he; have fF := kD.gr bM; have hM := aA.lt; have hN := aB.lt; have hO := eR.lt; have := bM.size; replace e0 := e0.gn bM; replace r8 := r8.gn bM; replace r9 := r9.gn bM; replace aE := aE.gn bM; replace aF := aF.gn bM
  replace aA : OwnR fE (Sx (aI.heap.size) [obk (cV), obk (cW), obk (dN), some (aJ.heap.size), some (aH.heap.size), obk (aD)]) aC aL 3 (r.ah : List Int) := aA.grA bM (fun _ _ h => by cases h) (fun k hk hs => ⟨(fun e => by have := dO.ge _ e; omega), (fun e => by have := dP.ge _ e; omega), hs.1, hs.2.1, hs.2.2.1, hs.2.2.2.1, hs.2.2.2.2⟩)
  replace aB : OwnR fE (Sx (aI.heap.size) [obk (cV), obk (cW), obk (dN), some (aJ.heap.size), some (aH.heap.size), obk (aC)]) aD aM 3 (r.ro : List Int) := aB.grA bM (fun _ _ h => by cases h) (fun k hk hs => ⟨(fun e => by have := dO.ge _ e; omega), (fun e => by have := dP.ge _ e; omega), hs.1, hs.2.1, hs.2.2.1, hs.2.2.2.1, hs.2.2.2.2⟩)
  replace aG := aG.gn bM; replace cK := cK.gn bM
  replace eR : OwnR fE (Sx (bZ.heap.size) [obk (cV), obk (cW), obk (aC), obk (aD)]) dN kC 3 (ls ++ ls : List Int) := eR.grA bM (fun _ _ h => by cases h) (fun k hk hs => ⟨(fun e => by have := dO.ge _ e; omega), (fun e => by have := dP.ge _ e; omega), hs.1, hs.2.1, hs.2.2⟩)
  replace dO : OwnR fE (Sx (fR.heap.size) [obk (aC), obk (aD), obk (dN), obk (cW)]) cV eS 3 (q.ah : List Int) := dO.imp (fun g _ hs => ⟨(fun e => by have := hM _ e; have := Sx_base hs; omega), (fun e => by have := hN _ e; have := Sx_base hs; omega), (fun e => by have := hO _ e; have := Sx_base hs; omega), hs⟩)
  replace dP : OwnR fE (Sx (fR.heap.size) [obk (aC), obk (aD), obk (dN), obk (cV)]) cW eT 3 (q.ro : List Int) := dP.imp (fun g _ hs => ⟨(fun e => by have := hM _ e; have := Sx_base hs; omega), (fun e => by have := hN _ e; have := Sx_base hs; omega), (fun e => by have := hO _ e; have := Sx_base hs; omega), hs⟩)
  clear hM hN hO; clear bM he
  refine ⟨fF, ?_⟩
  refine AtH.rd (by kernel_rfl) (fun d v c a w h => by cases d <;> exact h) fF [10] [[]] [(31, .tuple #[.agg #[.slice cV q.ah.length eS, .slice cW q.ro.length eT, .int .i64 (q.win)], .int .i64 (q.err)])] #[true, true, true, true, true, true, true, true, true, true, true, false, false, true, false, false] [] 4 kF (by kernel_rfl) trivial (fun oH kG => ?_)
  clear kF
  refine AtH.rd (by kernel_rfl) (fun d v c a w h => by cases d <;> exact h) fF [11] [[]] [(42, .agg #[.slice cV q.ah.length eS, .slice cW q.ro.length eT, .int .i64 (q.win)])] #[true, true, true, true, true, true, true, true, true, true, true, true, false, true, false, false] [] 3 kG (by kernel_rfl) trivial (fun oI kH => ?_)
  clear kG
  refine AtH.rd (by kernel_rfl) (fun d v c a w h => by cases d <;> exact h) fF [12] [[]] [(43, .int .i64 (q.err))] #[true, true, true, true, true, true, true, true, true, true, true, true, true, true, false, false] [] 2 kH (by kernel_rfl) trivial (fun oJ kI => ?_)
  clear kH
  refine AtH.all [14] 1 (by kernel_rfl) (by simp) ⟨?_, trivial⟩
  refine OneH.store kI (t := 29) (b := aJ.heap.size) (off := 0) (v := .agg #[.slice cV q.ah.length eS, .slice cW q.ro.length eT, .int .i64 (q.win)]) #[true, true, true, true, true, true, true, true, true, true, true, true, true, true, true, false] (by kernel_rfl) (by kernel_rfl) cK (by kernel_rfl) (fun oK lV bG hP kJ => ?_)
  clear kI; replace hP : Bx lV (aJ.heap.size) [.slice cV q.ah.length eS, .slice cW q.ro.length eT, .int .i64 (q.win)] 29 := hP; have hQ := fF.gr' bG (by rw [aT]; exact ⟨(by simp only [add_block]; omega), (by simp only [add_block]; omega), (by simp only [add_block]; omega), trivial⟩); have := bG.size; replace e0 := e0.gr bG (fun k h => by injection h; omega); replace r8 := r8.gb bG (by omega)
  replace r9 := r9.gb bG (by omega); replace aE := aE.gb bG (by omega); replace aF := aF.gb bG (by omega); replace aA := aA.gr bG (fun k hk => hk.2.2.2.1); replace aB := aB.gr bG (fun k hk => hk.2.2.2.1); replace aG := aG.gb bG (by omega); replace eR := eR.gr bG (fun k hk e => by have := Sx_base hk; injection e; omega); replace dO := dO.gr bG (fun k hk e => by have := Sx_base hk; injection e; omega)
  replace dP := dP.gr bG (fun k hk e => by have := Sx_base hk; injection e; omega); clear cK bG
  refine ⟨hQ, ?_⟩
  refine AtH.rd (by kernel_rfl) (fun d v c a w h => by cases d <;> exact h) hQ [15] [[]] [(15, .int .i64 (q.err))] #[true, true, true, true, true, true, true, true, true, true, true, true, true, true, true, true] [] 0 kJ (by kernel_rfl) trivial (fun oL lW => ?_)
  clear kJ
  refine AtH.done (by kernel_rfl) ?_
  clear hQ
  refine t_n ?_
  have lX := lW.sub (r := [(15, .int .i64 (q.err)), (14, .pointer (some ⟨aJ.heap.size, 0, none⟩)), (13, .int .i64 (r.err)), (12, .pointer (some ⟨aH.heap.size, 0, none⟩)), (11, .bool true), (10, .bool false)]) ⟨rfl, rfl, rfl, rfl, rfl, rfl, trivial⟩
  exact ⟨q, aJ.heap.size, cV, cW, eS, eT, lX, e0, r8, r9, aE, aF, (aA.imp (fun g _ hs => ⟨hs.2.2.2.2.1, hs.2.2.2.2.2.1, hs.1, hs.2.1, hs.2.2.2.1, (by have := Sx_base hs; show aI.heap.size ≤ g; omega)⟩)), (aB.imp (fun g _ hs => ⟨hs.2.2.2.2.1, hs.2.2.2.2.2.1, hs.1, hs.2.1, hs.2.2.2.1, (by have := Sx_base hs; show aI.heap.size ≤ g; omega)⟩)), aG, (dO.imp (fun g _ hs => ⟨hs.1, hs.2.1, hs.2.2.2.1, (fun e => by have := Sx_base hs; injection e; omega), (by have := Sx_base hs; show aP.heap.size ≤ g; omega)⟩)), (dP.imp (fun g _ hs => ⟨hs.1, hs.2.1, hs.2.2.2.1, (fun e => by have := Sx_base hs; injection e; omega), (by have := Sx_base hs; show aP.heap.size ≤ g; omega)⟩)), hP, (by omega), (by omega), hq⟩
 clear r8; clear r9; clear aE; clear aF; clear aA; clear aB; clear aG; clear fY e0
 intro oM oN ⟨q, aK, aQ, aR, bH, bI, kK, fS, kL, kM, kN, kO, hR, hS, fT, hU, hV, fU, oO, oP, hq⟩
 have := fS.size; have hlq := run_len hq; have := kO.lt; have := fT.lt; have := fU.lt
 refine wp_seq ?_
 refine wp_seq ?_
 have hT := run_twice (by omega) hr hq
 refine At.start ?_
 refine At.rd kK 7 [[], [], [], [], [], [.as_ (.bool false)], []] [(50, .bool false), (49, .bool false), (48, .int .i64 (q.err)), (47, .int .i64 (r.err)), (46, .bool false), (45, .bool false), (44, .bool true)] [((.bool ((r.err : Int) != q.err) : Value) = .bool false)] (by kernel_rfl) ⟨(congrArg Value.bool (pneF hT.1)), trivial⟩ (fun oQ hW => ?_)
 clear kK
 refine At.done rfl ?_
 refine t_n ?_
 clear kO
 refine cond_F hW rfl ?_
 refine wp_skip ?_
 refine t_n ?_
 refine wp_seq ?_
 refine wp_seq ?_
 refine At.start ?_
 refine At.rd hW 2 [[], []] [(52, .bool ((r.err : Int) != 0)), (51, .int .i64 (r.err))] [] (by kernel_rfl) trivial (fun oR fG => ?_)
 clear hW
 refine At.done rfl ?_
 refine t_n ?_
 refine cond_S fG (t := (r.err : Int) != 0) rfl (fun hX => ?_) (fun hX => ?_)
 ·have oS := bne_iff_ne.1 hX
  refine wp_seq ?_
  refine At.start ?_
  refine At.rd fG 1 [[]] [(10, .bool true)] [] (by kernel_rfl) trivial (fun oT lY => ?_)
  clear fG
  refine At.done rfl ?_
  refine t_n ?_
  clear hR; clear hS; clear fT; clear hU; clear hV; clear fU
  refine wp_ret ?_
  refine t_r ?_
  refine ret_ lY [] [.bool true] [] (by kernel_rfl) trivial ?_
  exact ⟨rfl, fS⟩
 have oU := bne_eq_false_iff_eq.1 hX
 refine wp_skip ?_
 refine t_n ?_
 refine wp_seq ?_
 refine wp_seq ?_
 obtain ⟨hn1, hn2, hst, hwn⟩ := hT.2 (by omega)
 refine At.start ?_
 refine At.rd fG 1 [[]] [(16, .int .i64 (0))] [] (by kernel_rfl) trivial (fun oV kP => ?_)
 clear fG
 refine At.done rfl ?_
 refine t_n ?_
 refine wp_block ?_
 have kQ := kP.sub (r := [(16, .int .i64 (0)), (14, .pointer (some ⟨aK, 0, none⟩)), (12, .pointer (some ⟨aH.heap.size, 0, none⟩))]) ⟨rfl, rfl, rfl, trivial⟩
 refine loop_g (fun (m_ : Nat) a_ w_ => ∃ (j : Int), m_ = (((r.ah.length : Int) + 2 * r.ro.length + q.ah.length + 2 * q.ro.length) - j).toNat ∧ (Frm 86 a_ [(16, .int .i64 (j)), (14, .pointer (some ⟨aK, 0, none⟩)), (12, .pointer (some ⟨aH.heap.size, 0, none⟩))]) ∧ (Ext w w_) ∧ (RdG w_ 0 w.heap.size Ag0 Ag1 Ag2 cg0 cg1 cg2 g) ∧ (RdI w_ 0 w.heap.size Am lm) ∧ (RdI w_ 0 w.heap.size As ls) ∧ (OwnR w_ (Sx (aI.heap.size) [some (aH.heap.size), obk (aD), obk (aQ), obk (aR), some (aK)]) aC aL 3 (r.ah : List Int)) ∧ (OwnR w_ (Sx (aI.heap.size) [some (aH.heap.size), obk (aC), obk (aQ), obk (aR), some (aK)]) aD aM 3 (r.ro : List Int)) ∧ (Bx w_ (aH.heap.size) [.slice aC r.ah.length aL, .slice aD r.ro.length aM, .int .i64 (r.win)] 29) ∧ (OwnR w_ (Sx (aP.heap.size) [obk (aC), obk (aD), obk (aR), some (aK)]) aQ bH 3 (q.ah : List Int)) ∧ (OwnR w_ (Sx (aP.heap.size) [obk (aC), obk (aD), obk (aQ), some (aK)]) aR bI 3 (q.ro : List Int)) ∧ (Bx w_ (aK) [.slice aQ q.ah.length bH, .slice aR q.ro.length bI, .int .i64 (q.win)] 29) ∧ (0 ≤ j) ∧ (aI.heap.size ≤ w_.heap.size) ∧ (aP.heap.size ≤ w_.heap.size)) _ ⟨0, rfl, kQ, fS, kL, kM, kN, hR, hS, fT, hU, hV, fU, (by omega), (by omega), (by omega)⟩ ?_
 clear kQ kP; clear kL; clear kM; clear kN; clear hR; clear hS; clear fT; clear hU; clear hV; clear fU; clear fS
 intro m_ oW dV ⟨j, hm671, kR, dA, dW, dX, dY, dB, dC, aV, dD, dE, aW, i682, i683, i684⟩
 have := dA.size; have := aV.lt; have := aW.lt
 refine wp_seq ?_
 refine wp_seq ?_
 refine At.start ?_
 refine At.rd kR 19 [[], [], [.ld (.slice aC r.ah.length aL)], [], [], [.ld (.slice aD r.ro.length aM)], [], [.as_ (.int .i64 (2 * ((r.ro.length : Nat) : Int)))], [.as_ (.int .i64 (((r.ah.length : Nat) : Int) + (2 * ((r.ro.length : Nat) : Int))))], [], [.ld (.slice aQ q.ah.length bH)], [], [.as_ (.int .i64 ((((r.ah.length : Nat) : Int) + (2 * ((r.ro.length : Nat) : Int))) + ((q.ah.length : Nat) : Int)))], [], [.ld (.slice aR q.ro.length bI)], [], [.as_ (.int .i64 (2 * ((q.ro.length : Nat) : Int)))], [.as_ (.int .i64 (((((r.ah.length : Nat) : Int) + (2 * ((r.ro.length : Nat) : Int))) + ((q.ah.length : Nat) : Int)) + (2 * ((q.ro.length : Nat) : Int))))], []] [(71, .bool (decide ((j : Int) < (((((r.ah.length : Nat) : Int) + (2 * ((r.ro.length : Nat) : Int))) + ((q.ah.length : Nat) : Int)) + (2 * ((q.ro.length : Nat) : Int)))))), (70, .int .i64 (((((r.ah.length : Nat) : Int) + (2 * ((r.ro.length : Nat) : Int))) + ((q.ah.length : Nat) : Int)) + (2 * ((q.ro.length : Nat) : Int)))), (69, .int .i64 (2 * ((q.ro.length : Nat) : Int))), (68, .int .i64 (((q.ro.length : Nat) : Int))), (67, .slice aR q.ro.length bI), (66, .pointer (some ⟨aK, 1, none⟩)), (65, .int .i64 ((((r.ah.length : Nat) : Int) + (2 * ((r.ro.length : Nat) : Int))) + ((q.ah.length : Nat) : Int))), (64, .int .i64 (((q.ah.length : Nat) : Int))), (63, .slice aQ q.ah.length bH), (62, .pointer (some ⟨aK, 0, none⟩)), (61, .int .i64 (((r.ah.length : Nat) : Int) + (2 * ((r.ro.length : Nat) : Int)))), (60, .int .i64 (2 * ((r.ro.length : Nat) : Int))), (59, .int .i64 (((r.ro.length : Nat) : Int))), (58, .slice aD r.ro.length aM), (57, .pointer (some ⟨aH.heap.size, 1, none⟩)), (56, .int .i64 (((r.ah.length : Nat) : Int))), (55, .slice aC r.ah.length aL), (54, .pointer (some ⟨aH.heap.size, 0, none⟩)), (53, .int .i64 (j))] [(dV.cell? ⟨aH.heap.size, 0, none⟩ = some (.slice aC r.ah.length aL)), (dV.cell? ⟨aH.heap.size, 1, none⟩ = some (.slice aD r.ro.length aM)), ((.int .i64 (IntKind.i64.wrap (2 * ((r.ro.length : Nat) : Int))) : Value) = .int .i64 (2 * ((r.ro.length : Nat) : Int))), ((.int .i64 (IntKind.i64.wrap (((r.ah.length : Nat) : Int) + (2 * ((r.ro.length : Nat) : Int)))) : Value) = .int .i64 (((r.ah.length : Nat) : Int) + (2 * ((r.ro.length : Nat) : Int)))), (dV.cell? ⟨aK, 0, none⟩ = some (.slice aQ q.ah.length bH)), ((.int .i64 (IntKind.i64.wrap ((((r.ah.length : Nat) : Int) + (2 * ((r.ro.length : Nat) : Int))) + ((q.ah.length : Nat) : Int))) : Value) = .int .i64 ((((r.ah.length : Nat) : Int) + (2 * ((r.ro.length : Nat) : Int))) + ((q.ah.length : Nat) : Int))), (dV.cell? ⟨aK, 1, none⟩ = some (.slice aR q.ro.length bI)), ((.int .i64 (IntKind.i64.wrap (2 * ((q.ro.length : Nat) : Int))) : Value) = .int .i64 (2 * ((q.ro.length : Nat) : Int))), ((.int .i64 (IntKind.i64.wrap (((((r.ah.length : Nat) : Int) + (2 * ((r.ro.length : Nat) : Int))) + ((q.ah.length : Nat) : Int)) + (2 * ((q.ro.length : Nat) : Int)))) : Value) = .int .i64 (((((r.ah.length : Nat) : Int) + (2 * ((r.ro.length : Nat) : Int))) + ((q.ah.length : Nat) : Int)) + (2 * ((q.ro.length : Nat) : Int))))] (by kernel_rfl) ⟨(aV.cell (i := 0) rfl), (aV.cell (i := 1) rfl), (w64 (by omega) (by omega)), (w64 (by omega) (by omega)), (aW.cell (i := 0) rfl), (w64 (by omega) (by omega)), (aW.cell (i := 1) rfl), (w64 (by omega) (by omega)), (w64 (by omega) (by omega)), trivial⟩ (fun oX kS => ?_)
 clear kR
 refine At.done rfl ?_
 refine t_n ?_
 have fH := kS.sub (r := [(71, .bool (decide ((j : Int) < (((((r.ah.length : Nat) : Int) + (2 * ((r.ro.length : Nat) : Int))) + ((q.ah.length : Nat) : Int)) + (2 * ((q.ro.length : Nat) : Int)))))), (16, .int .i64 (j)), (14, .pointer (some ⟨aK, 0, none⟩)), (12, .pointer (some ⟨aH.heap.size, 0, none⟩))]) ⟨rfl, rfl, rfl, rfl, trivial⟩
 clear kS
 refine cond_S fH (t := decide ((j : Int) < (((((r.ah.length : Nat) : Int) + (2 * ((r.ro.length : Nat) : Int))) + ((q.ah.length : Nat) : Int)) + (2 * ((q.ro.length : Nat) : Int))))) rfl (fun hY => ?_) (fun hY => ?_)
 ·have oY := of_decide_eq_true hY
  refine wp_skip ?_
  refine t_n ?_
  refine wp_seq ?_
  refine wp_block ?_
  refine wp_seq ?_
  obtain ⟨dQ, dZ⟩ : ∃ c : List (Addr × Value), c = [(⟨aH.heap.size, 0, none⟩, (.slice aC r.ah.length aL)), (⟨aH.heap.size, 1, none⟩, (.slice aD r.ro.length aM)), (⟨aH.heap.size, 2, none⟩, (.int .i64 (r.win))), (⟨aK, 0, none⟩, (.slice aQ q.ah.length bH)), (⟨aK, 1, none⟩, (.slice aR q.ro.length bI)), (⟨aK, 2, none⟩, (.int .i64 (q.win)))] := ⟨_, rfl⟩
  have kT : HoldsC dQ dV := by rw [dZ]; exact ⟨(aV.cell (i := 0) rfl), (aV.cell (i := 1) rfl), (aV.cell (i := 2) rfl), (aW.cell (i := 0) rfl), (aW.cell (i := 1) rfl), (aW.cell (i := 2) rfl), trivial⟩
  refine AtH.start dQ 7 #[false, false, false, false, false, false, false] (by kernel_rfl) rfl rfl (fun oZ kU => ?_)
  have bN := gr_drew kU; have kV := kT.gr bN; have := bN.size; replace dA := dA.gn bN; replace dW := dW.gn bN; replace dX := dX.gn bN; replace dY := dY.gn bN; replace dB := dB.gn bN; replace dC := dC.gn bN; replace aV := aV.gn bN; replace dD := dD.gn bN; replace dE := dE.gn bN; replace aW := aW.gn bN; clear bN kU kT
  refine AtH.rd (by kernel_rfl) (fun d v c a w h => by cases d <;> exact h) kV [0, 1, 3, 4] [[.ld (.slice aC r.ah.length aL), .ld (.slice aD r.ro.length aM), .ld (.int .i64 (r.win))], [], [.ld (.slice aQ q.ah.length bH), .ld (.slice aR q.ro.length bI), .ld (.int .i64 (q.win))], []] [(78, .int .i64 (j)), (77, .agg #[.slice aQ q.ah.length bH, .slice aR q.ro.length bI, .int .i64 (q.win)]), (75, .int .i64 (j)), (74, .agg #[.slice aC r.ah.length aL, .slice aD r.ro.length aM, .int .i64 (r.win)])] #[true, true, false, true, true, false, false] [(∃ j_ : Nat, dQ[j_]? = some (⟨aH.heap.size, 0, none⟩, (.slice aC r.ah.length aL))), (∃ j_ : Nat, dQ[j_]? = some (⟨aH.heap.size, 1, none⟩, (.slice aD r.ro.length aM))), (∃ j_ : Nat, dQ[j_]? = some (⟨aH.heap.size, 2, none⟩, (.int .i64 (r.win)))), (∃ j_ : Nat, dQ[j_]? = some (⟨aK, 0, none⟩, (.slice aQ q.ah.length bH))), (∃ j_ : Nat, dQ[j_]? = some (⟨aK, 1, none⟩, (.slice aR q.ro.length bI))), (∃ j_ : Nat, dQ[j_]? = some (⟨aK, 2, none⟩, (.int .i64 (q.win))))] 3 fH (by kernel_rfl) ⟨⟨0, by rw [dZ]; rfl⟩, ⟨1, by rw [dZ]; rfl⟩, ⟨2, by rw [dZ]; rfl⟩, ⟨3, by rw [dZ]; rfl⟩, ⟨4, by rw [dZ]; rfl⟩, ⟨5, by rw [dZ]; rfl⟩, trivial⟩ (fun pA kW => ?_)
  clear fH
  refine AtH.all [2] 2 (by kernel_rfl) (by simp) ⟨?_, trivial⟩
  refine OneH.call kW 21 #[.agg #[.slice aC r.ah.length aL, .slice aD r.ro.length aM, .int .i64 (r.win)], .int .i64 (j)] (some 76) #[true, true, true, true, true, false, false] (by kernel_rfl) (by kernel_rfl) (step17_any (la := r.ah) (lb := r.ro) (v := r.win) (j := j) (dB.rdI0 (by first | omega | (simp only [List.length_cons, List.length_nil]; omega) | (simp; done) | (simp; omega))) (dC.rdI0 (by first | omega | (simp only [List.length_cons, List.length_nil]; omega) | (simp; done) | (simp; omega))) (by omega) (by omega) (by omega)) ?_
  rintro e_ pB ⟨rfl, he⟩
  refine ⟨_, rfl, _, rfl, fun pC kX => ?_⟩
  clear kW; have bO := gr_ext he; have kY := kV.gr bO; have := bO.size; replace dA := dA.gn bO; replace dW := dW.gn bO; replace dX := dX.gn bO; replace dY := dY.gn bO; replace dB := dB.gn bO; replace dC := dC.gn bO; replace aV := aV.gn bO; replace dD := dD.gn bO; replace dE := dE.gn bO; replace aW := aW.gn bO; clear bO he
  refine ⟨kY, ?_⟩
  refine AtH.all [5] 1 (by kernel_rfl) (by simp) ⟨?_, trivial⟩
  refine OneH.call kX 21 #[.agg #[.slice aQ q.ah.length bH, .slice aR q.ro.length bI, .int .i64 (q.win)], .int .i64 (j)] (some 79) #[true, true, true, true, true, true, false] (by kernel_rfl) (by kernel_rfl) (step17_any (la := q.ah) (lb := q.ro) (v := q.win) (j := j) (dD.rdI0 (by first | omega | (simp only [List.length_cons, List.length_nil]; omega) | (simp; done) | (simp; omega))) (dE.rdI0 (by first | omega | (simp only [List.length_cons, List.length_nil]; omega) | (simp; done) | (simp; omega))) (by omega) (by omega) (by omega)) ?_
  rintro e_ pD ⟨rfl, he⟩
  refine ⟨_, rfl, _, rfl, fun pE kZ => ?_⟩
  clear kX; have bP := gr_ext he; have hZ := kY.gr bP; have := bP.size; replace dA := dA.gn bP; replace dW := dW.gn bP; replace dX := dX.gn bP; replace dY := dY.gn bP; replace dB := dB.gn bP; replace dC := dC.gn bP; replace aV := aV.gn bP; replace dD := dD.gn bP; replace dE := dE.gn bP; replace aW := aW.gn bP; clear bP he
  refine ⟨hZ, ?_⟩
  refine AtH.rd (by kernel_rfl) (fun d v c a w h => by cases d <;> exact h) hZ [6] [[.as_ (.bool false)]] [(80, .bool false)] #[true, true, true, true, true, true, true] [((.bool ((stepI r.ah r.ro j : Int) != (stepI q.ah q.ro j)) : Value) = .bool false)] 0 kZ (by kernel_rfl) ⟨(congrArg Value.bool (pneF (stepI_eq hst (by omega)))), trivial⟩ (fun pF iA => ?_)
  clear kZ
  refine AtH.done (by kernel_rfl) ?_
  clear hZ
  refine t_n ?_
  refine cond_F iA rfl ?_
  refine wp_skip ?_
  refine b_n ?_
  refine t_n ?_
  refine At.start ?_
  refine At.rd iA 3 [[], [.as_ (.int .i64 (j + 1))], []] [(16, .int .i64 (j + 1)), (73, .int .i64 (j + 1)), (72, .int .i64 (j))] [((.int .i64 (IntKind.i64.wrap (j + 1)) : Value) = .int .i64 (j + 1))] (by kernel_rfl) ⟨(w64 (by omega) (by omega)), trivial⟩ (fun pG lZ => ?_)
  clear iA
  refine At.done rfl ?_
  refine t_n ?_
  have mA := lZ.sub (r := [(16, .int .i64 (j + 1)), (14, .pointer (some ⟨aK, 0, none⟩)), (12, .pointer (some ⟨aH.heap.size, 0, none⟩))]) ⟨rfl, rfl, rfl, trivial⟩
  exact ⟨_, (by omega), (j + 1), rfl, mA, dA, dW, dX, dY, dB, dC, aV, dD, dE, aW, (by omega), (by omega), (by omega)⟩
 have pH := of_decide_eq_false hY
 refine wp_exit ?_
 refine t_e ?_
 refine t_e ?_
 refine b_e ?_
 refine t_n ?_
 refine wp_seq ?_
 refine At.start ?_
 refine At.rd fH 6 [[], [.ld (.int .i64 (r.win))], [], [.ld (.int .i64 (q.win))], [.as_ (.bool true)], []] [(10, .bool true), (85, .bool true), (84, .int .i64 (q.win)), (83, .pointer (some ⟨aK, 2, none⟩)), (82, .int .i64 (r.win)), (81, .pointer (some ⟨aH.heap.size, 2, none⟩))] [(dV.cell? ⟨aH.heap.size, 2, none⟩ = some (.int .i64 (r.win))), (dV.cell? ⟨aK, 2, none⟩ = some (.int .i64 (q.win))), ((.bool ((r.win : Int) == q.win) : Value) = .bool true)] (by kernel_rfl) ⟨(aV.cell (i := 2) rfl), (aW.cell (i := 2) rfl), (congrArg Value.bool (peqT hwn)), trivial⟩ (fun pI mB => ?_)
 clear fH
 refine At.done rfl ?_
 refine t_n ?_
 clear dB; clear dC; clear aV; clear dD; clear dE; clear aW
 refine wp_ret ?_
 refine ret_ mB [] [.bool true] [] (by kernel_rfl) trivial ?_
 exact ⟨rfl, dA⟩

end Go.Proofs.Ytklbpajmoklheaa
