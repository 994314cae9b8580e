/-
  A walk of a Go function, printed by a program of this repo. Conditions: what the theorems name.
-/
import Derived.Test.YtplpgfcjjnaigaaDoorWShown13
import Derived.Test.YtplpgfcjjnaigaaDoorWAlike
import Derived.Test.YtplpgfcjjnaigaaDoorWCopyM
import Derived.Test.YtplpgfcjjnaigaaDoorPureLaw13H
set_option linter.unusedVariables false
set_option linter.unusedSimpArgs false
namespace Go.Proofs.YtplpgfcjjnaigaaDoor
open Go Go.RowKit

attribute [local irreducible] ofZ fromW wordsD ofD ofW lsD lenW lenN fullW withW lessW hasW hasD inW inD leastD putD onI tzI orS andS minusS orD andD minusD fullD emptyD
set_option maxHeartbeats 4000000 in
theorem higher13_any {Ag0 Ag1 Ag2 : Option Addr} {cg0 cg1 cg2 : Nat} {g : GameL} {w : World} (rg : RdG w 0 w.heap.size Ag0 Ag1 Ag2 cg0 cg1 cg2 g) (rT : RdT w 0 w.heap.size) :
    Calls Tryd.prog 5 #[.agg #[.slice Ag0 g.ow.length cg0, .slice Ag1 g.pr.length cg1, .slice Ag2 g.mv.length cg2]] w fun e w' => e = .returned (.bool true) ∧ Ext w w' := by
 have hlg0 := rg.ow.len; have hlg1 := rg.pr.len; have hlg2 := rg.mv.len; have hkg0 := rg.k0; have hkg1 := rg.k1; have hkg2 := rg.k2
 refine enter_ (args := [.agg #[.slice Ag0 g.ow.length cg0, .slice Ag1 g.pr.length cg1, .slice Ag2 g.mv.length cg2]]) Tryd.func5 rfl Tryd.ntmps5 (Nat.le_of_ble_eq_true rfl) (fun act0 f0 => ?_)
 have e0 : Ext w w := Ext.refl w
 refine wp_seq ?_
 refine At.start ?_
 refine At.seq f0 1 [[]] [(1, .pointer (some ⟨w.heap.size, 0, none⟩))] (w.alloc (.cells #[.slice Ag0 g.ow.length cg0, .slice Ag1 g.pr.length cg1, .slice Ag2 g.mv.length cg2] 25 (0, 0))) [] (by kernel_rfl) trivial (fun act4 w1 hw2 f3 => ?_)
 clear f0; have g5 := gr_alloc hw2; have := g5.size; replace e0 := e0.gn g5; have r8 := rg.gn g5; clear rg; have r9 := rT.gn g5; clear rT; have aN : Bx w1 (w.heap.size) [.slice Ag0 g.ow.length cg0, .slice Ag1 g.pr.length cg1, .slice Ag2 g.mv.length cg2] 25 := Bx.new hw2; have := aN.lt; clear g5 hw2
 refine At.rd f3 1 [[]] [(2, .bool false)] [] (by kernel_rfl) trivial (fun mH hK => ?_)
 clear f3
 refine At.done rfl ?_
 refine t_n ?_
 refine wp_seq ?_
 refine At.start ?_
 refine At.call hK 12 #[] (some 20) (by kernel_rfl) (shown13_any (r9.wide (Nat.zero_le _) (by omega))) ?_
 rintro e_ gH ⟨rfl, he⟩
 refine ⟨_, rfl, _, rfl, fun mI hL => ?_⟩
 clear hK; have dS := gr_ext he; have := dS.size; replace e0 := e0.gn dS; replace r8 := r8.gn dS; replace r9 := r9.gn dS; replace aN := aN.gn dS; clear dS he
 refine At.rd hL 1 [[]] [(3, .bool true)] [] (by kernel_rfl) trivial (fun mJ hM => ?_)
 clear hL
 refine At.done rfl ?_
 refine t_n ?_
 refine wp_seq ?_
 refine At.start ?_
 refine At.rd hM 1 [[.ld (.slice Ag0 g.ow.length cg0), .ld (.slice Ag1 g.pr.length cg1), .ld (.slice Ag2 g.mv.length cg2)]] [(22, .agg #[.slice Ag0 g.ow.length cg0, .slice Ag1 g.pr.length cg1, .slice Ag2 g.mv.length cg2])] [(gH.cell? ⟨w.heap.size, 0, none⟩ = some (.slice Ag0 g.ow.length cg0)), (gH.cell? ⟨w.heap.size, 1, none⟩ = some (.slice Ag1 g.pr.length cg1)), (gH.cell? ⟨w.heap.size, 2, none⟩ = some (.slice Ag2 g.mv.length cg2))] (by kernel_rfl) ⟨(aN.cell (i := 0) rfl), (aN.cell (i := 1) rfl), (aN.cell (i := 2) rfl), trivial⟩ (fun mK hN => ?_)
 clear hM
 refine At.call hN 21 #[.agg #[.slice Ag0 g.ow.length cg0, .slice Ag1 g.pr.length cg1, .slice Ag2 g.mv.length cg2]] (some 23) (by kernel_rfl) (right_any (r8.wide (Nat.zero_le _) (by omega))) ?_
 rintro e_ aZ ⟨rfl, he⟩
 refine ⟨_, rfl, _, rfl, fun mL hO => ?_⟩
 clear hN; have dT := gr_ext he; have := dT.size; replace e0 := e0.gn dT; replace r8 := r8.gn dT; replace r9 := r9.gn dT; replace aN := aN.gn dT; clear dT he
 refine At.rd hO 5 [[], [], [], [], []] [(5, .int .i64 ((rightP g).2)), (4, .int .i64 ((rightP g).1)), (25, .int .i64 ((rightP g).2)), (24, .int .i64 ((rightP g).1)), (21, .tuple #[.int .i64 ((rightP g).1), .int .i64 ((rightP g).2)])] [] (by kernel_rfl) trivial (fun mM hP => ?_)
 clear hO
 refine At.done rfl ?_
 refine t_n ?_
 refine wp_seq ?_
 refine wp_seq ?_
 refine At.start ?_
 refine At.rd hP 6 [[], [], [], [], [], []] [(31, .bool (((rightP g).2 : Int) != 0)), (30, .bool (((rightP g).2 : Int) != 0)), (29, .int .i64 ((rightP g).2)), (28, .bool false), (27, .bool false), (26, .bool true)] [] (by kernel_rfl) trivial (fun mN eG => ?_)
 clear hP
 refine At.done rfl ?_
 refine t_n ?_
 refine cond_S eG (t := ((rightP g).2 : Int) != 0) rfl (fun gJ => ?_) (fun gJ => ?_)
 ·have mO := bne_iff_ne.1 gJ
  refine wp_seq ?_
  refine At.start ?_
  refine At.rd eG 2 [[], []] [(2, .bool true), (32, .bool true)] [] (by kernel_rfl) trivial (fun mP kR => ?_)
  clear eG
  refine At.done rfl ?_
  refine t_n ?_
  clear aN
  refine wp_ret ?_
  refine t_r ?_
  refine ret_ kR [] [.bool true] [] (by kernel_rfl) trivial ?_
  exact ⟨rfl, e0⟩
 have mQ := bne_eq_false_iff_eq.1 gJ
 refine wp_skip ?_
 refine t_n ?_
 refine wp_seq ?_
 have hR : isR g = true := right_of2 (by omega); have hG := isR_ok hR; have hn1 := hG.n1; have hn0 := hG.n0; have hpl := hG.pl; have hml := hG.ml
 refine At.start ?_
 refine At.rd eG 1 [[.ld (.slice Ag0 g.ow.length cg0), .ld (.slice Ag1 g.pr.length cg1), .ld (.slice Ag2 g.mv.length cg2)]] [(33, .agg #[.slice Ag0 g.ow.length cg0, .slice Ag1 g.pr.length cg1, .slice Ag2 g.mv.length cg2])] [(aZ.cell? ⟨w.heap.size, 0, none⟩ = some (.slice Ag0 g.ow.length cg0)), (aZ.cell? ⟨w.heap.size, 1, none⟩ = some (.slice Ag1 g.pr.length cg1)), (aZ.cell? ⟨w.heap.size, 2, none⟩ = some (.slice Ag2 g.mv.length cg2))] (by kernel_rfl) ⟨(aN.cell (i := 0) rfl), (aN.cell (i := 1) rfl), (aN.cell (i := 2) rfl), trivial⟩ (fun mR hQ => ?_)
 clear eG
 refine At.call hQ 24 #[.agg #[.slice Ag0 g.ow.length cg0, .slice Ag1 g.pr.length cg1, .slice Ag2 g.mv.length cg2]] (some 34) (by kernel_rfl) (copyM_any (g := g) (r8.wide (Nat.zero_le _) (by omega))) ?_
 rintro e_ aB ⟨aD, bP, cR, fI, aE, bQ, rfl, he, cB, cC, cD⟩
 have hip56 := inner_len (RdG.mv (r8.wide (Nat.zero_le _) (by omega)))
 refine ⟨_, rfl, _, rfl, fun mS hS => ?_⟩
 clear hQ; have dU := gr_ext he; have := dU.size; replace e0 := e0.gn dU; replace r8 := r8.gn dU; replace r9 := r9.gn dU; replace aN := aN.gn dU; clear dU he
 refine At.seq hS 1 [[]] [(6, .pointer (some ⟨aB.heap.size, 0, none⟩))] (aB.alloc (.cells #[.slice none 0 0, .slice none 0 0, .slice none 0 0] 25 (0, 0))) [] (by kernel_rfl) trivial (fun mT kS gK hT => ?_)
 clear hS; have cS := gr_alloc gK; have := cS.size; replace e0 := e0.gn cS; replace r8 := r8.gn cS; replace r9 := r9.gn cS; replace aN := aN.gn cS; replace cB := cB.grN cS; replace cC := cC.grN cS; replace cD := cD.grN cS; have gL : Bx kS (aB.heap.size) [.slice none 0 0, .slice none 0 0, .slice none 0 0] 25 := Bx.new gK; have := gL.lt; clear cS gK
 refine At.store hT (t := 25) (b := aB.heap.size) (off := 0) (v := .agg #[.slice aD g.ow.length bP, .slice cR g.pr.length fI, .slice aE g.mv.length bQ]) (by kernel_rfl) gL (by kernel_rfl) (fun mU aS cT cP hU => ?_)
 clear hT; replace cP : Bx aS (aB.heap.size) [.slice aD g.ow.length bP, .slice cR g.pr.length fI, .slice aE g.mv.length bQ] 25 := cP; have := cT.size; replace e0 := e0.gr cT (fun k h => by injection h; omega); replace r8 := r8.gb cT (by omega); replace r9 := r9.gb cT (by omega); replace aN := aN.gb cT (by omega); replace cB := cB.gr cT (fun k hk => hk.1); replace cC := cC.gr cT (fun k hk => hk.1)
 replace cD := cD.gr cT (fun k hk => hk.1); clear gL cT
 refine At.done rfl ?_
 refine t_n ?_
 refine wp_seq ?_
 refine At.start ?_
 refine At.rd hU 1 [[.ld (.slice Ag0 g.ow.length cg0), .ld (.slice Ag1 g.pr.length cg1), .ld (.slice Ag2 g.mv.length cg2)]] [(35, .agg #[.slice Ag0 g.ow.length cg0, .slice Ag1 g.pr.length cg1, .slice Ag2 g.mv.length cg2])] [(aS.cell? ⟨w.heap.size, 0, none⟩ = some (.slice Ag0 g.ow.length cg0)), (aS.cell? ⟨w.heap.size, 1, none⟩ = some (.slice Ag1 g.pr.length cg1)), (aS.cell? ⟨w.heap.size, 2, none⟩ = some (.slice Ag2 g.mv.length cg2))] (by kernel_rfl) ⟨(aN.cell (i := 0) rfl), (aN.cell (i := 1) rfl), (aN.cell (i := 2) rfl), trivial⟩ (fun mV hV => ?_)
 clear hU
 refine At.call hV 24 #[.agg #[.slice Ag0 g.ow.length cg0, .slice Ag1 g.pr.length cg1, .slice Ag2 g.mv.length cg2]] (some 36) (by kernel_rfl) (copyM_any (g := g) (r8.wide (Nat.zero_le _) (by omega))) ?_
 rintro e_ aA ⟨aF, bR, cU, fJ, aG, bS, rfl, he, cM, cN, cO⟩
 have hip105 := inner_len (RdG.mv (r8.wide (Nat.zero_le _) (by omega)))
 refine ⟨_, rfl, _, rfl, fun mW hW => ?_⟩
 clear hV; have cQ := gr_ext he; have fK := cB.lt; have fL := cC.lt; have fM := cD.lt; have := cQ.size; replace e0 := e0.gn cQ; replace r8 := r8.gn cQ; replace r9 := r9.gn cQ; replace aN := aN.gn cQ
 replace cB : OwnR aA (Sx (aZ.heap.size) [obk (aF), obk (cU), obk (aG), some (aB.heap.size), obk (cR), obk (aE)]) aD bP 3 (g.ow : List Int) := cB.grA cQ (fun _ _ h => by cases h) (fun k hk hs => ⟨(fun e => by have := cM.ge _ e; omega), (fun e => by have := cN.ge _ e; omega), (fun e => by have := cO.ge _ e; omega), hs.1, hs.2.1, hs.2.2.1, hs.2.2.2⟩)
 replace cC : OwnR aA (Sx (aZ.heap.size) [obk (aF), obk (cU), obk (aG), some (aB.heap.size), obk (aD), obk (aE)]) cR fI 3 (g.pr : List Int) := cC.grA cQ (fun _ _ h => by cases h) (fun k hk hs => ⟨(fun e => by have := cM.ge _ e; omega), (fun e => by have := cN.ge _ e; omega), (fun e => by have := cO.ge _ e; omega), hs.1, hs.2.1, hs.2.2.1, hs.2.2.2⟩)
 replace cD : OwnLL aA (aZ.heap.size) [obk (aF), obk (cU), obk (aG), some (aB.heap.size), obk (aD), obk (cR)] aE bQ 22 3 (g.mv : List (List Int)) := cD.grA cQ (fun _ _ h => by cases h) (fun k hk hs => ⟨(fun e => by have := cM.ge _ e; omega), (fun e => by have := cN.ge _ e; omega), (fun e => by have := cO.ge _ e; omega), hs.1, hs.2.1, hs.2.2.1, hs.2.2.2⟩)
 replace cP := cP.gn cQ
 replace cM : OwnR aA (Sx (aS.heap.size) [obk (aD), obk (cR), obk (aE), obk (cU), obk (aG)]) aF bR 3 (g.ow : List Int) := cM.imp (fun g _ hs => ⟨(fun e => by have := fK _ e; have := Sx_base hs; omega), (fun e => by have := fL _ e; have := Sx_base hs; omega), (fun e => by have := fM _ e; have := Sx_base hs; omega), hs⟩)
 replace cN : OwnR aA (Sx (aS.heap.size) [obk (aD), obk (cR), obk (aE), obk (aF), obk (aG)]) cU fJ 3 (g.pr : List Int) := cN.imp (fun g _ hs => ⟨(fun e => by have := fK _ e; have := Sx_base hs; omega), (fun e => by have := fL _ e; have := Sx_base hs; omega), (fun e => by have := fM _ e; have := Sx_base hs; omega), hs⟩)
 replace cO : OwnLL aA (aS.heap.size) [obk (aD), obk (cR), obk (aE), obk (aF), obk (cU)] aG bS 22 3 (g.mv : List (List Int)) := cO.imp (fun g _ hs => ⟨(fun e => by have := fK _ e; have := Sx_base hs; omega), (fun e => by have := fL _ e; have := Sx_base hs; omega), (fun e => by have := fM _ e; have := Sx_base hs; omega), hs⟩)
 clear fK fL fM; clear cQ he
 refine At.seq hW 1 [[]] [(7, .pointer (some ⟨aA.heap.size, 0, none⟩))] (aA.alloc (.cells #[.slice none 0 0, .slice none 0 0, .slice none 0 0] 25 (0, 0))) [] (by kernel_rfl) trivial (fun mX kT gM hX => ?_)
 clear hW; have cE := gr_alloc gM; have := cE.size; replace e0 := e0.gn cE; replace r8 := r8.gn cE; replace r9 := r9.gn cE; replace aN := aN.gn cE; replace cB := cB.grN cE; replace cC := cC.grN cE; replace cD := cD.grN cE; replace cP := cP.gn cE; replace cM := cM.grN cE; replace cN := cN.grN cE; replace cO := cO.grN cE
 have gN : Bx kT (aA.heap.size) [.slice none 0 0, .slice none 0 0, .slice none 0 0] 25 := Bx.new gM; have := gN.lt; clear cE gM
 refine At.store hX (t := 25) (b := aA.heap.size) (off := 0) (v := .agg #[.slice aF g.ow.length bR, .slice cU g.pr.length fJ, .slice aG g.mv.length bS]) (by kernel_rfl) gN (by kernel_rfl) (fun mY kU cF fN hY => ?_)
 clear hX; replace fN : Bx kU (aA.heap.size) [.slice aF g.ow.length bR, .slice cU g.pr.length fJ, .slice aG g.mv.length bS] 25 := fN; have := cF.size; replace e0 := e0.gr cF (fun k h => by injection h; omega); replace r8 := r8.gb cF (by omega); replace r9 := r9.gb cF (by omega); replace aN := aN.gb cF (by omega); replace cB := cB.gr cF (fun k hk => hk.1); replace cC := cC.gr cF (fun k hk => hk.1)
 replace cD := cD.gr cF (fun k hk => hk.1); replace cP := cP.gb cF (by omega); replace cM := cM.gr cF (fun k hk => hk.1); replace cN := cN.gr cF (fun k hk => hk.1); replace cO := cO.gr cF (fun k hk => hk.1); clear gN cF
 refine At.done rfl ?_
 refine t_n ?_
 refine wp_seq ?_
 refine At.start ?_
 refine At.rd hY 1 [[]] [(8, .int .i64 (0))] [] (by kernel_rfl) trivial (fun mZ hZ => ?_)
 clear hY
 refine At.done rfl ?_
 refine t_n ?_
 refine wp_seq ?_
 refine wp_seq ?_
 refine At.start ?_
 refine At.rd hZ 1 [[]] [(9, .int .i64 (0))] [] (by kernel_rfl) trivial (fun nA iA => ?_)
 clear hZ
 refine At.done rfl ?_
 refine t_n ?_
 refine wp_block ?_
 have iB := iA.sub (r := [(9, .int .i64 (0)), (8, .int .i64 (0)), (7, .pointer (some ⟨aA.heap.size, 0, none⟩)), (6, .pointer (some ⟨aB.heap.size, 0, none⟩)), (2, .bool false), (1, .pointer (some ⟨w.heap.size, 0, none⟩))]) ⟨rfl, rfl, rfl, rfl, rfl, rfl, trivial⟩
 refine loop_g (fun (m_ : Nat) a_ w_ => ∃ (i : Int) (hh : Int) (xh : List Int) (aC : Option Addr) (aP : Nat) (xk : List Int) (aH : Option Addr) (bD : Nat), m_ = ((g.ow.length : Int) - i).toNat ∧ (Frm 146 a_ [(9, .int .i64 (i)), (8, .int .i64 (hh)), (7, .pointer (some ⟨aA.heap.size, 0, none⟩)), (6, .pointer (some ⟨aB.heap.size, 0, none⟩)), (2, .bool false), (1, .pointer (some ⟨w.heap.size, 0, none⟩))]) ∧ (Ext w w_) ∧ (RdG w_ 0 w.heap.size Ag0 Ag1 Ag2 cg0 cg1 cg2 g) ∧ (RdT w_ 0 w.heap.size) ∧ (Bx w_ (w.heap.size) [.slice Ag0 g.ow.length cg0, .slice Ag1 g.pr.length cg1, .slice Ag2 g.mv.length cg2] 25) ∧ (OwnR w_ (Sx (aZ.heap.size) [some (aA.heap.size), obk (aF), obk (aH), obk (aG), some (aB.heap.size), obk (aC), obk (aE)]) aD bP 3 (g.ow : List Int)) ∧ (OwnR w_ (Sx (aZ.heap.size) [some (aA.heap.size), obk (aF), obk (aH), obk (aG), some (aB.heap.size), obk (aD), obk (aE)]) aC aP 3 (xh : List Int)) ∧ (OwnLL w_ (aZ.heap.size) [some (aA.heap.size), obk (aF), obk (aH), obk (aG), some (aB.heap.size), obk (aD), obk (aC)] aE bQ 22 3 (g.mv : List (List Int))) ∧ (Bx w_ (aB.heap.size) [.slice aD g.ow.length bP, .slice aC xh.length aP, .slice aE g.mv.length bQ] 25) ∧ (OwnR w_ (Sx (aS.heap.size) [some (aA.heap.size), obk (aD), obk (aC), obk (aE), obk (aH), obk (aG)]) aF bR 3 (g.ow : List Int)) ∧ (OwnR w_ (Sx (aS.heap.size) [some (aA.heap.size), obk (aD), obk (aC), obk (aE), obk (aF), obk (aG)]) aH bD 3 (xk : List Int)) ∧ (OwnLL w_ (aS.heap.size) [some (aA.heap.size), obk (aD), obk (aC), obk (aE), obk (aF), obk (aH)] aG bS 22 3 (g.mv : List (List Int))) ∧ (Bx w_ (aA.heap.size) [.slice aF g.ow.length bR, .slice aH xk.length bD, .slice aG g.mv.length bS] 25) ∧ (0 ≤ i) ∧ (i ≤ (g.ow.length : Int)) ∧ (MapT g.pr xh (fun z => z + 2) i) ∧ (MapT g.pr xk (rankP g.pr) i) ∧ (HighT g hh i) ∧ (xh.length = g.pr.length) ∧ (xk.length = g.pr.length) ∧ (aZ.heap.size ≤ w_.heap.size) ∧ (aS.heap.size ≤ w_.heap.size)) _ ⟨0, 0, (g.pr : List Int), cR, fI, (g.pr : List Int), cU, fJ, rfl, iB, e0, r8, r9, aN, cB, cC, cD, (cP.as (by first | rfl | (simp only [List.cons.injEq, Value.slice.injEq, true_and, and_true]; omega))), cM, cN, cO, (fN.as (by first | rfl | (simp only [List.cons.injEq, Value.slice.injEq, true_and, and_true]; omega))), (by omega), (by omega), map_0, map_0, high_0, rfl, rfl, (by omega), (by omega)⟩ ?_
 clear iB iA; clear r8; clear r9; clear aN; clear cB; clear cC; clear cD; clear cP; clear cM; clear cN; clear cO; clear fN; clear e0
 intro m_ nB cV ⟨i, hh, xh, aC, aP, xk, aH, bD, hm170, iC, aK, aM, aL, bH, aO, aI, fO, aJ, bA, bB, fP, aR, i183, i184, hxh, hxk, hhi, i185, i186, i187, i188⟩
 have := aK.size; have := bH.lt; have := aJ.lt; have := aR.lt; have hhb_ := hhi.1; have hhc_ := hhi.2.1
 refine wp_seq ?_
 refine wp_seq ?_
 refine At.start ?_
 refine At.rd iC 5 [[], [], [.ld (.slice Ag0 g.ow.length cg0)], [], []] [(41, .bool (decide ((i : Int) < ((g.ow.length : Nat) : Int)))), (40, .int .i64 (((g.ow.length : Nat) : Int))), (39, .slice Ag0 g.ow.length cg0), (38, .pointer (some ⟨w.heap.size, 0, none⟩)), (37, .int .i64 (i))] [(cV.cell? ⟨w.heap.size, 0, none⟩ = some (.slice Ag0 g.ow.length cg0))] (by kernel_rfl) ⟨(bH.cell (i := 0) rfl), trivial⟩ (fun nC eH => ?_)
 clear iC
 refine At.done rfl ?_
 refine t_n ?_
 refine cond_S eH (t := decide ((i : Int) < ((g.ow.length : Nat) : Int))) rfl (fun gO => ?_) (fun gO => ?_)
 ·have nD := of_decide_eq_true gO
  refine wp_skip ?_
  refine t_n ?_
  refine wp_seq ?_
  refine wp_block ?_
  have hgp_ := hG.pr i (by omega) (by omega)
  refine wp_seq ?_
  obtain ⟨eI, kV, _, _, kW⟩ := RdI.get aM.pr (i) (by omega) (by omega)
  obtain ⟨fQ, iD, nE, nF, nG⟩ := aI.get (i) (by omega) (by omega) (sz := 1) rfl
  obtain ⟨eJ, eK⟩ : ∃ c : List (Addr × Value), c = [(⟨aB.heap.size, 1, none⟩, (.slice aC xh.length aP)), (⟨w.heap.size, 1, none⟩, (.slice Ag1 g.pr.length cg1)), ((eI.add ((i : Int).toNat * 1)), (.int .i64 (gI g.pr (i))))] := ⟨_, rfl⟩
  have iE : HoldsC eJ cV := by rw [eK]; exact ⟨(aJ.cell (i := 1) rfl), (bH.cell (i := 1) rfl), kW, trivial⟩
  refine AtH.start eJ 11 #[false, false, false, false, false, false, false, false, false, false, false] (by kernel_rfl) rfl rfl (fun nH iF => ?_)
  have bU := gr_drew iF; have iG := iE.gr bU; have := bU.size; replace aK := aK.gn bU; replace aM := aM.gn bU; replace aL := aL.gn bU; replace bH := bH.gn bU; replace aO := aO.gn bU; replace aI := aI.gn bU; have fR := fO.gn bU; clear fO; replace aJ := aJ.gn bU; replace bA := bA.gn bU; replace bB := bB.gn bU; have fS := fP.gn bU; clear fP; replace aR := aR.gn bU; clear bU iF iE
  refine AtH.rd (by kernel_rfl) (fun d v c a w h => by cases d <;> exact h) iG [0, 1, 2, 3, 4, 5, 6, 7, 8, 9] [[], [.ld (.slice aC xh.length aP)], [], [], [.ld (.slice Ag1 g.pr.length cg1)], [], [.ad eI], [.ld (.int .i64 (gI g.pr (i)))], [.as_ (.int .i64 ((gI g.pr (i)) + 2))], [.ad fQ]] [(53, .pointer (some (fQ.add ((i : Int).toNat * 1)))), (52, .int .i64 ((gI g.pr (i)) + 2)), (51, .int .i64 (gI g.pr (i))), (50, .pointer (some (eI.add ((i : Int).toNat * 1)))), (49, .int .i64 (i)), (48, .slice Ag1 g.pr.length cg1), (47, .pointer (some ⟨w.heap.size, 1, none⟩)), (46, .int .i64 (i)), (45, .slice aC xh.length aP), (44, .pointer (some ⟨aB.heap.size, 1, none⟩))] #[true, true, true, true, true, true, true, true, true, true, false] [(∃ j_ : Nat, eJ[j_]? = some (⟨aB.heap.size, 1, none⟩, (.slice aC xh.length aP))), (∃ j_ : Nat, eJ[j_]? = some (⟨w.heap.size, 1, none⟩, (.slice Ag1 g.pr.length cg1))), (Ag1 = some eI), (0 ≤ (i : Int)), ((i : Int) < (g.pr.length : Nat)), (∃ j_ : Nat, eJ[j_]? = some ((eI.add ((i : Int).toNat * 1)), (.int .i64 (gI g.pr (i))))), ((.int .i64 (IntKind.i64.wrap ((gI g.pr (i)) + 2)) : Value) = .int .i64 ((gI g.pr (i)) + 2)), (aC = some fQ), (0 ≤ (i : Int)), ((i : Int) < (xh.length : Nat))] 1 eH (by kernel_rfl) ⟨⟨0, by rw [eK]; rfl⟩, ⟨1, by rw [eK]; rfl⟩, kV, (by omega), (by omega), ⟨2, by rw [eK]; rfl⟩, (w64 (by omega) (by omega)), iD, (by omega), (by omega), trivial⟩ (fun nI iH => ?_)
  clear eH
  refine AtH.all [10] 0 (by kernel_rfl) (by simp) ⟨?_, trivial⟩
  refine OneH.act iH #[true, true, true, true, true, true, true, true, true, true, true] (by kernel_rfl) (storeR (α := Int) (t := 3) (i := i) (ad := fQ) (v := .int .i64 ((gI g.pr (i)) + 2)) ((gI g.pr (i)) + 2) (by kernel_rfl) rfl rfl (by kernel_rfl) iD aI (by omega) (by omega)) ?_
  rintro d_ v_ gP ⟨rfl, bX, gQ⟩
  have iI := iG.grO bX (by rw [eK]; exact ⟨(aI.neb (fun g hs => hs.2.2.2.2.1)), (fun e => by have := aI.ge _ e; simp only [add_block] at this; omega), (fun e => by have := aI.ge _ e; simp only [add_block] at this; omega), trivial⟩)
  refine ⟨_, rfl, fun nJ iJ => ⟨iI, ?_⟩⟩
  clear iH; have nK : ((xh).set (i : Int).toNat ((gI g.pr (i)) + 2)).length = (xh).length := List.length_set; have := bX.size; replace aK := aK.gr bX (fun k hk => by have := aI.ge k hk; omega); replace aM := aM.gr bX (fun k hk => by have := aI.ge k hk; omega); replace aL := aL.gr bX (fun k hk => by have := aI.ge k hk; omega); replace bH := bH.gr bX (fun e => by have := aI.ge _ e; omega)
  replace aO := aO.gr bX (fun k hk => hk.2.2.2.2.2.1); replace fR := fR.gr bX (fun k hk => hk.2.2.2.2.2.2.1); replace aJ := aJ.gr bX (aI.neb (fun g hs => hs.2.2.2.2.1)); replace bA := bA.gr bX (fun k hk => hk.2.2.1); replace bB := bB.gr bX (fun k hk => hk.2.2.1); replace fS := fS.gr bX (fun k hk => hk.2.2.1); replace aR := aR.gr bX (aI.neb (fun g hs => hs.1)); clear aI bX
  have iK := iJ.as 45 (.slice aC xh.length aP) (.slice aC (((xh).set (i : Int).toNat ((gI g.pr (i)) + 2) : List Int).length) aP) rfl (slice_len (by first | rfl | omega | (simp; done) | (simp; omega)))
  clear iJ
  replace aJ : Bx gP (aB.heap.size) [.slice aD g.ow.length bP, .slice aC (((xh).set (i : Int).toNat ((gI g.pr (i)) + 2)).length) aP, .slice aE g.mv.length bQ] 25 := aJ.as (by first | rfl | (simp only [List.length_set]; done))
  refine AtH.done (by kernel_rfl) ?_
  clear iI
  refine t_n ?_
  refine wp_seq ?_
  have hgs_ : gI (xh.set (i : Int).toNat (gI g.pr i + 2)) i = gI g.pr i + 2 := by rw [gI_setD (by omega) (by omega) (by omega), if_pos rfl]
  refine At.start ?_
  obtain ⟨fT, kX, nL, kY, nM⟩ := gQ.get (i) (by omega) (by omega) (sz := 1) rfl
  refine At.rd iK 8 [[], [], [.ld (.slice aC (((xh).set (i : Int).toNat ((gI g.pr (i)) + 2)).length) aP)], [], [.ad fT], [.ld (.int .i64 (gI ((xh).set (i : Int).toNat ((gI g.pr (i)) + 2)) i))], [.as_ (.int .i64 (max hh (gI g.pr i + 2)))], []] [(8, .int .i64 (max hh (gI g.pr i + 2))), (60, .int .i64 (max hh (gI g.pr i + 2))), (59, .int .i64 (gI ((xh).set (i : Int).toNat ((gI g.pr (i)) + 2)) i)), (58, .pointer (some (fT.add ((i : Int).toNat * 1)))), (57, .int .i64 (i)), (56, .slice aC (((xh).set (i : Int).toNat ((gI g.pr (i)) + 2)).length) aP), (55, .pointer (some ⟨aB.heap.size, 1, none⟩)), (54, .int .i64 (hh))] [(gP.cell? ⟨aB.heap.size, 1, none⟩ = some (.slice aC (((xh).set (i : Int).toNat ((gI g.pr (i)) + 2)).length) aP)), (aC = some fT), (0 ≤ (i : Int)), ((i : Int) < (((xh).set (i : Int).toNat ((gI g.pr (i)) + 2)).length : Nat)), (gP.cell? (fT.add ((i : Int).toNat * 1)) = some (.int .i64 (gI ((xh).set (i : Int).toNat ((gI g.pr (i)) + 2)) i))), ((.int .i64 (if (gI ((xh).set (i : Int).toNat ((gI g.pr (i)) + 2)) i) > hh then (gI ((xh).set (i : Int).toNat ((gI g.pr (i)) + 2)) i) else hh) : Value) = .int .i64 (max hh (gI g.pr i + 2)))] (by kernel_rfl) ⟨(aJ.cell (i := 1) rfl), kX, (by omega), (by omega), kY, (Eq.trans (b := (.int .i64 (max hh (gI ((xh).set (i : Int).toNat ((gI g.pr (i)) + 2)) i)) : Value)) (congrArg (Value.int .i64) (max_if _ _)) (congrArg (Value.int .i64) (by rw [hgs_]))), trivial⟩ (fun nN iL => ?_)
  clear iK
  refine At.done rfl ?_
  refine t_n ?_
  have iM := iL.sub (r := [(8, .int .i64 (max hh (gI g.pr i + 2))), (9, .int .i64 (i)), (7, .pointer (some ⟨aA.heap.size, 0, none⟩)), (6, .pointer (some ⟨aB.heap.size, 0, none⟩)), (2, .bool false), (1, .pointer (some ⟨w.heap.size, 0, none⟩))]) ⟨rfl, rfl, rfl, rfl, rfl, rfl, trivial⟩
  clear iL
  refine wp_seq ?_
  refine At.start ?_
  refine At.rd iM 1 [[]] [(10, .int .i64 (0))] [] (by kernel_rfl) trivial (fun nO iN => ?_)
  clear iM
  refine At.done rfl ?_
  refine t_n ?_
  refine wp_seq ?_
  refine wp_seq ?_
  refine At.start ?_
  refine At.rd iN 1 [[]] [(11, .int .i64 (0))] [] (by kernel_rfl) trivial (fun nP iO => ?_)
  clear iN
  refine At.done rfl ?_
  refine t_n ?_
  refine wp_block ?_
  have iP := iO.sub (r := [(11, .int .i64 (0)), (10, .int .i64 (0)), (8, .int .i64 (max hh (gI g.pr i + 2))), (9, .int .i64 (i)), (7, .pointer (some ⟨aA.heap.size, 0, none⟩)), (6, .pointer (some ⟨aB.heap.size, 0, none⟩)), (2, .bool false), (1, .pointer (some ⟨w.heap.size, 0, none⟩))]) ⟨rfl, rfl, rfl, rfl, rfl, rfl, rfl, rfl, trivial⟩
  refine loop_g (fun (m_ : Nat) a_ w_ => ∃ (q : Int) (lst : Int), m_ = (gI g.pr i - q).toNat ∧ (Frm 146 a_ [(11, .int .i64 (q)), (10, .int .i64 (lst)), (8, .int .i64 (max hh (gI g.pr i + 2))), (9, .int .i64 (i)), (7, .pointer (some ⟨aA.heap.size, 0, none⟩)), (6, .pointer (some ⟨aB.heap.size, 0, none⟩)), (2, .bool false), (1, .pointer (some ⟨w.heap.size, 0, none⟩))]) ∧ (Ext w w_) ∧ (RdG w_ 0 w.heap.size Ag0 Ag1 Ag2 cg0 cg1 cg2 g) ∧ (RdT w_ 0 w.heap.size) ∧ (Bx w_ (w.heap.size) [.slice Ag0 g.ow.length cg0, .slice Ag1 g.pr.length cg1, .slice Ag2 g.mv.length cg2] 25) ∧ (OwnR w_ (Sx (aZ.heap.size) [some (aA.heap.size), obk (aF), obk (aH), obk (aG), some (aB.heap.size), obk (aC), obk (aE)]) aD bP 3 (g.ow : List Int)) ∧ (OwnR w_ (Sx (aZ.heap.size) [some (aA.heap.size), obk (aF), obk (aH), obk (aG), some (aB.heap.size), obk (aD), obk (aE)]) aC aP 3 ((xh).set (i : Int).toNat ((gI g.pr (i)) + 2) : List Int)) ∧ (OwnLL w_ (aZ.heap.size) [some (aA.heap.size), obk (aF), obk (aH), obk (aG), some (aB.heap.size), obk (aD), obk (aC)] aE bQ 22 3 (g.mv : List (List Int))) ∧ (Bx w_ (aB.heap.size) [.slice aD g.ow.length bP, .slice aC (((xh).set (i : Int).toNat ((gI g.pr (i)) + 2)).length) aP, .slice aE g.mv.length bQ] 25) ∧ (OwnR w_ (Sx (aS.heap.size) [some (aA.heap.size), obk (aD), obk (aC), obk (aE), obk (aH), obk (aG)]) aF bR 3 (g.ow : List Int)) ∧ (OwnR w_ (Sx (aS.heap.size) [some (aA.heap.size), obk (aD), obk (aC), obk (aE), obk (aF), obk (aG)]) aH bD 3 (xk : List Int)) ∧ (OwnLL w_ (aS.heap.size) [some (aA.heap.size), obk (aD), obk (aC), obk (aE), obk (aF), obk (aH)] aG bS 22 3 (g.mv : List (List Int))) ∧ (Bx w_ (aA.heap.size) [.slice aF g.ow.length bR, .slice aH xk.length bD, .slice aG g.mv.length bS] 25) ∧ (0 ≤ q) ∧ (q ≤ gI g.pr i) ∧ (lst = leastF g.pr q.toNat) ∧ (0 ≤ lst) ∧ (lst ≤ q) ∧ (aZ.heap.size ≤ w_.heap.size) ∧ (aS.heap.size ≤ w_.heap.size)) _ ⟨0, 0, rfl, iP, aK, aM, aL, bH, aO, gQ, fR, aJ, bA, bB, fS, aR, (by omega), (by omega), rfl, (by omega), (by omega), (by omega), (by omega)⟩ ?_
  clear iP iO; clear aM; clear aL; clear bH; clear aO; clear gQ; clear fR; clear aJ; clear bA; clear bB; clear fS; clear aR; clear aK
  intro m_ nQ eL ⟨q, lst, hm258, iQ, dV, dL, eM, dD, eN, eO, eP, dW, eQ, eR, eS, dX, i271, i272, hlf, i273, i274, i275, i276⟩
  have := dV.size; have := dD.lt; have := dW.lt; have := dX.lt
  refine wp_seq ?_
  refine wp_seq ?_
  refine At.start ?_
  obtain ⟨fU, kZ, _, _, lA⟩ := RdI.get dL.pr (i) (by omega) (by omega)
  refine At.rd iQ 7 [[], [], [.ld (.slice Ag1 g.pr.length cg1)], [], [.ad fU], [.ld (.int .i64 (gI g.pr (i)))], []] [(67, .bool (decide ((q : Int) < (gI g.pr (i))))), (66, .int .i64 (gI g.pr (i))), (65, .pointer (some (fU.add ((i : Int).toNat * 1)))), (64, .int .i64 (i)), (63, .slice Ag1 g.pr.length cg1), (62, .pointer (some ⟨w.heap.size, 1, none⟩)), (61, .int .i64 (q))] [(eL.cell? ⟨w.heap.size, 1, none⟩ = some (.slice Ag1 g.pr.length cg1)), (Ag1 = some fU), (0 ≤ (i : Int)), ((i : Int) < (g.pr.length : Nat)), (eL.cell? (fU.add ((i : Int).toNat * 1)) = some (.int .i64 (gI g.pr (i))))] (by kernel_rfl) ⟨(dD.cell (i := 1) rfl), kZ, (by omega), (by omega), lA, trivial⟩ (fun nR dY => ?_)
  clear iQ
  refine At.done rfl ?_
  refine t_n ?_
  refine cond_S dY (t := decide ((q : Int) < (gI g.pr (i)))) rfl (fun gR => ?_) (fun gR => ?_)
  ·have nS := of_decide_eq_true gR
   refine wp_skip ?_
   refine t_n ?_
   refine wp_seq ?_
   refine wp_block ?_
   refine wp_seq ?_
   refine At.start ?_
   refine At.rd dY 1 [[]] [(12, .bool false)] [] (by kernel_rfl) trivial (fun nT iR => ?_)
   clear dY
   refine At.done rfl ?_
   refine t_n ?_
   refine wp_seq ?_
   refine wp_seq ?_
   refine At.start ?_
   refine At.rd iR 1 [[]] [(13, .int .i64 (0))] [] (by kernel_rfl) trivial (fun nU iS => ?_)
   clear iR
   refine At.done rfl ?_
   refine t_n ?_
   refine wp_block ?_
   have iT := iS.sub (r := [(13, .int .i64 (0)), (12, .bool false), (11, .int .i64 (q)), (10, .int .i64 (lst)), (8, .int .i64 (max hh (gI g.pr i + 2))), (9, .int .i64 (i)), (7, .pointer (some ⟨aA.heap.size, 0, none⟩)), (6, .pointer (some ⟨aB.heap.size, 0, none⟩)), (2, .bool false), (1, .pointer (some ⟨w.heap.size, 0, none⟩))]) ⟨rfl, rfl, rfl, rfl, rfl, rfl, rfl, rfl, rfl, rfl, trivial⟩
   refine loop_g (fun (m_ : Nat) a_ w_ => ∃ (m : Int) (inn : Bool), m_ = ((g.pr.length : Int) - m).toNat ∧ (Frm 146 a_ [(13, .int .i64 (m)), (12, .bool (inn)), (11, .int .i64 (q)), (10, .int .i64 (lst)), (8, .int .i64 (max hh (gI g.pr i + 2))), (9, .int .i64 (i)), (7, .pointer (some ⟨aA.heap.size, 0, none⟩)), (6, .pointer (some ⟨aB.heap.size, 0, none⟩)), (2, .bool false), (1, .pointer (some ⟨w.heap.size, 0, none⟩))]) ∧ (Ext w w_) ∧ (RdG w_ 0 w.heap.size Ag0 Ag1 Ag2 cg0 cg1 cg2 g) ∧ (RdT w_ 0 w.heap.size) ∧ (Bx w_ (w.heap.size) [.slice Ag0 g.ow.length cg0, .slice Ag1 g.pr.length cg1, .slice Ag2 g.mv.length cg2] 25) ∧ (OwnR w_ (Sx (aZ.heap.size) [some (aA.heap.size), obk (aF), obk (aH), obk (aG), some (aB.heap.size), obk (aC), obk (aE)]) aD bP 3 (g.ow : List Int)) ∧ (OwnR w_ (Sx (aZ.heap.size) [some (aA.heap.size), obk (aF), obk (aH), obk (aG), some (aB.heap.size), obk (aD), obk (aE)]) aC aP 3 ((xh).set (i : Int).toNat ((gI g.pr (i)) + 2) : List Int)) ∧ (OwnLL w_ (aZ.heap.size) [some (aA.heap.size), obk (aF), obk (aH), obk (aG), some (aB.heap.size), obk (aD), obk (aC)] aE bQ 22 3 (g.mv : List (List Int))) ∧ (Bx w_ (aB.heap.size) [.slice aD g.ow.length bP, .slice aC (((xh).set (i : Int).toNat ((gI g.pr (i)) + 2)).length) aP, .slice aE g.mv.length bQ] 25) ∧ (OwnR w_ (Sx (aS.heap.size) [some (aA.heap.size), obk (aD), obk (aC), obk (aE), obk (aH), obk (aG)]) aF bR 3 (g.ow : List Int)) ∧ (OwnR w_ (Sx (aS.heap.size) [some (aA.heap.size), obk (aD), obk (aC), obk (aE), obk (aF), obk (aG)]) aH bD 3 (xk : List Int)) ∧ (OwnLL w_ (aS.heap.size) [some (aA.heap.size), obk (aD), obk (aC), obk (aE), obk (aF), obk (aH)] aG bS 22 3 (g.mv : List (List Int))) ∧ (Bx w_ (aA.heap.size) [.slice aF g.ow.length bR, .slice aH xk.length bD, .slice aG g.mv.length bS] 25) ∧ (0 ≤ m) ∧ (m ≤ (g.pr.length : Int)) ∧ (inn = decide (q ∈ g.pr.take m.toNat)) ∧ (aZ.heap.size ≤ w_.heap.size) ∧ (aS.heap.size ≤ w_.heap.size)) _ ⟨0, false, rfl, iT, dV, dL, eM, dD, eN, eO, eP, dW, eQ, eR, eS, dX, (by omega), (by omega), (by simp), (by omega), (by omega)⟩ ?_
   clear iT iS; clear dL; clear eM; clear dD; clear eN; clear eO; clear eP; clear dW; clear eQ; clear eR; clear eS; clear dX; clear dV
   intro m_ nV gS ⟨m, inn, hm292, iU, dZ, eA, eT, dE, eU, eV, eW, eB, eX, eY, eZ, eC, i305, i306, hinn, i307, i308⟩
   have := dZ.size; have := dE.lt; have := eB.lt; have := eC.lt
   refine wp_seq ?_
   refine wp_seq ?_
   refine At.start ?_
   refine At.rd iU 5 [[], [], [.ld (.slice Ag1 g.pr.length cg1)], [], []] [(74, .bool (decide ((m : Int) < ((g.pr.length : Nat) : Int)))), (73, .int .i64 (((g.pr.length : Nat) : Int))), (72, .slice Ag1 g.pr.length cg1), (71, .pointer (some ⟨w.heap.size, 1, none⟩)), (70, .int .i64 (m))] [(gS.cell? ⟨w.heap.size, 1, none⟩ = some (.slice Ag1 g.pr.length cg1))] (by kernel_rfl) ⟨(dE.cell (i := 1) rfl), trivial⟩ (fun nW cW => ?_)
   clear iU
   refine At.done rfl ?_
   refine t_n ?_
   refine cond_S cW (t := decide ((m : Int) < ((g.pr.length : Nat) : Int))) rfl (fun gT => ?_) (fun gT => ?_)
   ·have nX := of_decide_eq_true gT
    refine wp_skip ?_
    refine t_n ?_
    refine wp_seq ?_
    refine wp_block ?_
    refine At.start ?_
    rcases Bool.eq_false_or_eq_true (inn) with gU | gU
    ·refine At.rd cW 11 [[], [.as_ (.bool true)], [], [], [], [], [], [], [], [], []] [(12, .bool true), (86, .bool true), (85, undef), (84, undef), (83, undef), (82, undef), (81, undef), (80, undef), (79, undef), (78, .bool true), (77, .bool (inn))] [((.bool (inn) : Value) = .bool true)] (by kernel_rfl) ⟨(congrArg Value.bool gU), trivial⟩ (fun nY iV => ?_)
     clear cW
     refine At.done rfl ?_
     refine b_n ?_
     refine t_n ?_
     refine At.start ?_
     refine At.rd iV 3 [[], [.as_ (.int .i64 (m + 1))], []] [(13, .int .i64 (m + 1)), (76, .int .i64 (m + 1)), (75, .int .i64 (m))] [((.int .i64 (IntKind.i64.wrap (m + 1)) : Value) = .int .i64 (m + 1))] (by kernel_rfl) ⟨(w64 (by omega) (by omega)), trivial⟩ (fun nZ lB => ?_)
     clear iV
     refine At.done rfl ?_
     refine t_n ?_
     have lC := lB.sub (r := [(13, .int .i64 (m + 1)), (12, .bool true), (11, .int .i64 (q)), (10, .int .i64 (lst)), (8, .int .i64 (max hh (gI g.pr i + 2))), (9, .int .i64 (i)), (7, .pointer (some ⟨aA.heap.size, 0, none⟩)), (6, .pointer (some ⟨aB.heap.size, 0, none⟩)), (2, .bool false), (1, .pointer (some ⟨w.heap.size, 0, none⟩))]) ⟨rfl, rfl, rfl, rfl, rfl, rfl, rfl, rfl, rfl, rfl, trivial⟩
     exact ⟨_, (by omega), (m + 1), true, rfl, lC, dZ, eA, eT, dE, eU, eV, eW, eB, eX, eY, eZ, eC, (by omega), (by omega), (in_step hinn (by omega) (by omega) (by simp_all)), (by omega), (by omega)⟩
    obtain ⟨fV, lD, _, _, lE⟩ := RdI.get eA.pr (m) (by omega) (by omega)
    refine At.rd cW 11 [[], [.as_ (.bool false)], [], [.ld (.slice Ag1 g.pr.length cg1)], [], [.ad fV], [.ld (.int .i64 (gI g.pr (m)))], [], [], [], []] [(12, .bool ((gI g.pr (m) : Int) == q)), (86, .bool ((gI g.pr (m) : Int) == q)), (85, .bool ((gI g.pr (m) : Int) == q)), (84, .int .i64 (q)), (83, .int .i64 (gI g.pr (m))), (82, .pointer (some (fV.add ((m : Int).toNat * 1)))), (81, .int .i64 (m)), (80, .slice Ag1 g.pr.length cg1), (79, .pointer (some ⟨w.heap.size, 1, none⟩)), (78, .bool false), (77, .bool (inn))] [((.bool (inn) : Value) = .bool false), (gS.cell? ⟨w.heap.size, 1, none⟩ = some (.slice Ag1 g.pr.length cg1)), (Ag1 = some fV), (0 ≤ (m : Int)), ((m : Int) < (g.pr.length : Nat)), (gS.cell? (fV.add ((m : Int).toNat * 1)) = some (.int .i64 (gI g.pr (m))))] (by kernel_rfl) ⟨(congrArg Value.bool gU), (dE.cell (i := 1) rfl), lD, (by omega), (by omega), lE, trivial⟩ (fun oA iW => ?_)
    clear cW
    refine At.done rfl ?_
    refine b_n ?_
    refine t_n ?_
    refine At.start ?_
    refine At.rd iW 3 [[], [.as_ (.int .i64 (m + 1))], []] [(13, .int .i64 (m + 1)), (76, .int .i64 (m + 1)), (75, .int .i64 (m))] [((.int .i64 (IntKind.i64.wrap (m + 1)) : Value) = .int .i64 (m + 1))] (by kernel_rfl) ⟨(w64 (by omega) (by omega)), trivial⟩ (fun oB lF => ?_)
    clear iW
    refine At.done rfl ?_
    refine t_n ?_
    have lG := lF.sub (r := [(13, .int .i64 (m + 1)), (12, .bool ((gI g.pr (m) : Int) == q)), (11, .int .i64 (q)), (10, .int .i64 (lst)), (8, .int .i64 (max hh (gI g.pr i + 2))), (9, .int .i64 (i)), (7, .pointer (some ⟨aA.heap.size, 0, none⟩)), (6, .pointer (some ⟨aB.heap.size, 0, none⟩)), (2, .bool false), (1, .pointer (some ⟨w.heap.size, 0, none⟩))]) ⟨rfl, rfl, rfl, rfl, rfl, rfl, rfl, rfl, rfl, rfl, trivial⟩
    exact ⟨_, (by omega), (m + 1), ((gI g.pr (m) : Int) == q), rfl, lG, dZ, eA, eT, dE, eU, eV, eW, eB, eX, eY, eZ, eC, (by omega), (by omega), (in_step hinn (by omega) (by omega) (by simp_all)), (by omega), (by omega)⟩
   have oC := of_decide_eq_false gT
   refine wp_exit ?_
   refine t_e ?_
   refine t_e ?_
   refine b_e ?_
   refine t_n ?_
   refine wp_seq ?_
   have hin_ := in_end hinn (by omega); have hst_ := least_step hlf (by omega) hin_
   refine At.start ?_
   rcases Bool.eq_false_or_eq_true (inn) with gV | gV
   ·refine At.rd cW 8 [[], [.as_ (.bool true)], [], [.as_ (.int .i64 ((lst : Int) % 2))], [], [.as_ (.int .i64 ((q : Int) % 2))], [], []] [(94, .bool (((lst : Int) % 2 : Int) != ((q : Int) % 2))), (93, .bool (((lst : Int) % 2 : Int) != ((q : Int) % 2))), (92, .int .i64 ((q : Int) % 2)), (91, .int .i64 (q)), (90, .int .i64 ((lst : Int) % 2)), (89, .int .i64 (lst)), (88, .bool true), (87, .bool (inn))] [((.bool (inn) : Value) = .bool true), ((2 : Int) ≠ 0), ((.int .i64 ((lst : Int).tmod 2) : Value) = .int .i64 ((lst : Int) % 2)), ((2 : Int) ≠ 0), ((.int .i64 ((q : Int).tmod 2) : Value) = .int .i64 ((q : Int) % 2))] (by kernel_rfl) ⟨(congrArg Value.bool gV), (by omega), (congrArg (Value.int .i64) (tmodE (by omega) _)), (by omega), (congrArg (Value.int .i64) (tmodE (by omega) _)), trivial⟩ (fun oD fA => ?_)
    clear cW
    refine At.done rfl ?_
    refine t_n ?_
    refine cond_S fA (t := ((lst : Int) % 2 : Int) != ((q : Int) % 2)) rfl (fun gW => ?_) (fun gW => ?_)
    ·have oE := bne_iff_ne.1 gW
     refine At.start ?_
     refine At.rd fA 3 [[], [.as_ (.int .i64 (lst + 1))], []] [(10, .int .i64 (lst + 1)), (96, .int .i64 (lst + 1)), (95, .int .i64 (lst))] [((.int .i64 (IntKind.i64.wrap (lst + 1)) : Value) = .int .i64 (lst + 1))] (by kernel_rfl) ⟨(w64 (by omega) (by omega)), trivial⟩ (fun oF iX => ?_)
     clear fA
     refine At.done rfl ?_
     refine b_n ?_
     refine t_n ?_
     refine At.start ?_
     refine At.rd iX 3 [[], [.as_ (.int .i64 (q + 1))], []] [(11, .int .i64 (q + 1)), (69, .int .i64 (q + 1)), (68, .int .i64 (q))] [((.int .i64 (IntKind.i64.wrap (q + 1)) : Value) = .int .i64 (q + 1))] (by kernel_rfl) ⟨(w64 (by omega) (by omega)), trivial⟩ (fun oG lH => ?_)
     clear iX
     refine At.done rfl ?_
     refine t_n ?_
     have lI := lH.sub (r := [(11, .int .i64 (q + 1)), (10, .int .i64 (lst + 1)), (8, .int .i64 (max hh (gI g.pr i + 2))), (9, .int .i64 (i)), (7, .pointer (some ⟨aA.heap.size, 0, none⟩)), (6, .pointer (some ⟨aB.heap.size, 0, none⟩)), (2, .bool false), (1, .pointer (some ⟨w.heap.size, 0, none⟩))]) ⟨rfl, rfl, rfl, rfl, rfl, rfl, rfl, rfl, trivial⟩
     exact ⟨_, (by omega), (q + 1), lst + 1, rfl, lI, dZ, eA, eT, dE, eU, eV, eW, eB, eX, eY, eZ, eC, (by omega), (by omega), (hst_.1 (by assumption) (by omega)), (by omega), (by omega), (by omega), (by omega)⟩
    have oH := bne_eq_false_iff_eq.1 gW
    refine wp_skip ?_
    refine b_n ?_
    refine t_n ?_
    refine At.start ?_
    refine At.rd fA 3 [[], [.as_ (.int .i64 (q + 1))], []] [(11, .int .i64 (q + 1)), (69, .int .i64 (q + 1)), (68, .int .i64 (q))] [((.int .i64 (IntKind.i64.wrap (q + 1)) : Value) = .int .i64 (q + 1))] (by kernel_rfl) ⟨(w64 (by omega) (by omega)), trivial⟩ (fun oI lJ => ?_)
    clear fA
    refine At.done rfl ?_
    refine t_n ?_
    have lK := lJ.sub (r := [(11, .int .i64 (q + 1)), (10, .int .i64 (lst)), (8, .int .i64 (max hh (gI g.pr i + 2))), (9, .int .i64 (i)), (7, .pointer (some ⟨aA.heap.size, 0, none⟩)), (6, .pointer (some ⟨aB.heap.size, 0, none⟩)), (2, .bool false), (1, .pointer (some ⟨w.heap.size, 0, none⟩))]) ⟨rfl, rfl, rfl, rfl, rfl, rfl, rfl, rfl, trivial⟩
    exact ⟨_, (by omega), (q + 1), lst, rfl, lK, dZ, eA, eT, dE, eU, eV, eW, eB, eX, eY, eZ, eC, (by omega), (by omega), (hst_.2 (by first | exact .inl (by assumption) | exact .inr (by omega))), (by omega), (by omega), (by omega), (by omega)⟩
   refine At.rd cW 8 [[], [.as_ (.bool false)], [], [], [], [], [], []] [(94, .bool false), (93, undef), (92, undef), (91, undef), (90, undef), (89, undef), (88, .bool false), (87, .bool (inn))] [((.bool (inn) : Value) = .bool false)] (by kernel_rfl) ⟨(congrArg Value.bool gV), trivial⟩ (fun oJ gX => ?_)
   clear cW
   refine At.done rfl ?_
   refine t_n ?_
   refine cond_F gX rfl ?_
   refine wp_skip ?_
   refine b_n ?_
   refine t_n ?_
   refine At.start ?_
   refine At.rd gX 3 [[], [.as_ (.int .i64 (q + 1))], []] [(11, .int .i64 (q + 1)), (69, .int .i64 (q + 1)), (68, .int .i64 (q))] [((.int .i64 (IntKind.i64.wrap (q + 1)) : Value) = .int .i64 (q + 1))] (by kernel_rfl) ⟨(w64 (by omega) (by omega)), trivial⟩ (fun oK lL => ?_)
   clear gX
   refine At.done rfl ?_
   refine t_n ?_
   have lM := lL.sub (r := [(11, .int .i64 (q + 1)), (10, .int .i64 (lst)), (8, .int .i64 (max hh (gI g.pr i + 2))), (9, .int .i64 (i)), (7, .pointer (some ⟨aA.heap.size, 0, none⟩)), (6, .pointer (some ⟨aB.heap.size, 0, none⟩)), (2, .bool false), (1, .pointer (some ⟨w.heap.size, 0, none⟩))]) ⟨rfl, rfl, rfl, rfl, rfl, rfl, rfl, rfl, trivial⟩
   exact ⟨_, (by omega), (q + 1), lst, rfl, lM, dZ, eA, eT, dE, eU, eV, eW, eB, eX, eY, eZ, eC, (by omega), (by omega), (hst_.2 (by first | exact .inl (by assumption) | exact .inr (by omega))), (by omega), (by omega), (by omega), (by omega)⟩
  have oL := of_decide_eq_false gR
  refine wp_exit ?_
  refine t_e ?_
  refine t_e ?_
  refine b_e ?_
  refine t_n ?_
  refine wp_seq (cut (fun a_ w_ => ∃ (rr : Int), (Frm 146 a_ [(10, .int .i64 (rr)), (8, .int .i64 (max hh (gI g.pr i + 2))), (9, .int .i64 (i)), (7, .pointer (some ⟨aA.heap.size, 0, none⟩)), (6, .pointer (some ⟨aB.heap.size, 0, none⟩)), (2, .bool false), (1, .pointer (some ⟨w.heap.size, 0, none⟩))]) ∧ (Ext w w_) ∧ (RdG w_ 0 w.heap.size Ag0 Ag1 Ag2 cg0 cg1 cg2 g) ∧ (RdT w_ 0 w.heap.size) ∧ (Bx w_ (w.heap.size) [.slice Ag0 g.ow.length cg0, .slice Ag1 g.pr.length cg1, .slice Ag2 g.mv.length cg2] 25) ∧ (OwnR w_ (Sx (aZ.heap.size) [some (aA.heap.size), obk (aF), obk (aH), obk (aG), some (aB.heap.size), obk (aC), obk (aE)]) aD bP 3 (g.ow : List Int)) ∧ (OwnR w_ (Sx (aZ.heap.size) [some (aA.heap.size), obk (aF), obk (aH), obk (aG), some (aB.heap.size), obk (aD), obk (aE)]) aC aP 3 ((xh).set (i : Int).toNat ((gI g.pr (i)) + 2) : List Int)) ∧ (OwnLL w_ (aZ.heap.size) [some (aA.heap.size), obk (aF), obk (aH), obk (aG), some (aB.heap.size), obk (aD), obk (aC)] aE bQ 22 3 (g.mv : List (List Int))) ∧ (Bx w_ (aB.heap.size) [.slice aD g.ow.length bP, .slice aC (((xh).set (i : Int).toNat ((gI g.pr (i)) + 2)).length) aP, .slice aE g.mv.length bQ] 25) ∧ (OwnR w_ (Sx (aS.heap.size) [some (aA.heap.size), obk (aD), obk (aC), obk (aE), obk (aH), obk (aG)]) aF bR 3 (g.ow : List Int)) ∧ (OwnR w_ (Sx (aS.heap.size) [some (aA.heap.size), obk (aD), obk (aC), obk (aE), obk (aF), obk (aG)]) aH bD 3 (xk : List Int)) ∧ (OwnLL w_ (aS.heap.size) [some (aA.heap.size), obk (aD), obk (aC), obk (aE), obk (aF), obk (aH)] aG bS 22 3 (g.mv : List (List Int))) ∧ (Bx w_ (aA.heap.size) [.slice aF g.ow.length bR, .slice aH xk.length bD, .slice aG g.mv.length bS] 25) ∧ (rr = rankP g.pr (gI g.pr i)) ∧ (0 ≤ rr) ∧ (rr ≤ 8) ∧ (eL.heap.size ≤ w_.heap.size)) ?_ ?_)
  ·refine wp_seq ?_
   have hqp : q = gI g.pr i := by omega
   refine At.start ?_
   obtain ⟨fW, lN, _, _, lO⟩ := RdI.get dL.pr (i) (by omega) (by omega)
   refine At.rd dY 9 [[], [.as_ (.int .i64 ((lst : Int) % 2))], [], [.ld (.slice Ag1 g.pr.length cg1)], [], [.ad fW], [.ld (.int .i64 (gI g.pr (i)))], [.as_ (.int .i64 ((gI g.pr (i) : Int) % 2))], []] [(105, .bool (((lst : Int) % 2 : Int) != ((gI g.pr (i) : Int) % 2))), (104, .int .i64 ((gI g.pr (i) : Int) % 2)), (103, .int .i64 (gI g.pr (i))), (102, .pointer (some (fW.add ((i : Int).toNat * 1)))), (101, .int .i64 (i)), (100, .slice Ag1 g.pr.length cg1), (99, .pointer (some ⟨w.heap.size, 1, none⟩)), (98, .int .i64 ((lst : Int) % 2)), (97, .int .i64 (lst))] [((2 : Int) ≠ 0), ((.int .i64 ((lst : Int).tmod 2) : Value) = .int .i64 ((lst : Int) % 2)), (eL.cell? ⟨w.heap.size, 1, none⟩ = some (.slice Ag1 g.pr.length cg1)), (Ag1 = some fW), (0 ≤ (i : Int)), ((i : Int) < (g.pr.length : Nat)), (eL.cell? (fW.add ((i : Int).toNat * 1)) = some (.int .i64 (gI g.pr (i)))), ((2 : Int) ≠ 0), ((.int .i64 ((gI g.pr (i) : Int).tmod 2) : Value) = .int .i64 ((gI g.pr (i) : Int) % 2))] (by kernel_rfl) ⟨(by omega), (congrArg (Value.int .i64) (tmodE (by omega) _)), (dD.cell (i := 1) rfl), lN, (by omega), (by omega), lO, (by omega), (congrArg (Value.int .i64) (tmodE (by omega) _)), trivial⟩ (fun oM fX => ?_)
   clear dY
   refine At.done rfl ?_
   refine t_n ?_
   refine cond_S fX (t := ((lst : Int) % 2 : Int) != ((gI g.pr (i) : Int) % 2)) rfl (fun gY => ?_) (fun gY => ?_)
   ·have oN := bne_iff_ne.1 gY
    refine At.start ?_
    refine At.rd fX 3 [[], [.as_ (.int .i64 (lst + 1))], []] [(10, .int .i64 (lst + 1)), (107, .int .i64 (lst + 1)), (106, .int .i64 (lst))] [((.int .i64 (IntKind.i64.wrap (lst + 1)) : Value) = .int .i64 (lst + 1))] (by kernel_rfl) ⟨(w64 (by omega) (by omega)), trivial⟩ (fun oO lP => ?_)
    clear fX
    refine At.done rfl ?_
    refine t_n ?_
    have lQ := lP.sub (r := [(10, .int .i64 (lst + 1)), (8, .int .i64 (max hh (gI g.pr i + 2))), (9, .int .i64 (i)), (7, .pointer (some ⟨aA.heap.size, 0, none⟩)), (6, .pointer (some ⟨aB.heap.size, 0, none⟩)), (2, .bool false), (1, .pointer (some ⟨w.heap.size, 0, none⟩))]) ⟨rfl, rfl, rfl, rfl, rfl, rfl, rfl, trivial⟩
    exact ⟨lst + 1, lQ, dV, dL, eM, dD, eN, eO, eP, dW, eQ, eR, eS, dX, (by rw [← hqp, rankP, ← hlf]; first | (rw [if_pos (by omega)]; done) | (rw [if_neg (by omega)])), (by omega), (by omega), (by omega)⟩
   have oP := bne_eq_false_iff_eq.1 gY
   refine wp_skip ?_
   refine t_n ?_
   have lR := fX.sub (r := [(10, .int .i64 (lst)), (8, .int .i64 (max hh (gI g.pr i + 2))), (9, .int .i64 (i)), (7, .pointer (some ⟨aA.heap.size, 0, none⟩)), (6, .pointer (some ⟨aB.heap.size, 0, none⟩)), (2, .bool false), (1, .pointer (some ⟨w.heap.size, 0, none⟩))]) ⟨rfl, rfl, rfl, rfl, rfl, rfl, rfl, trivial⟩
   exact ⟨lst, lR, dV, dL, eM, dD, eN, eO, eP, dW, eQ, eR, eS, dX, (by rw [← hqp, rankP, ← hlf]; first | (rw [if_pos (by omega)]; done) | (rw [if_neg (by omega)])), (by omega), (by omega), (by omega)⟩
  clear dL; clear eM; clear dD; clear eN; clear eO; clear eP; clear dW; clear eQ; clear eR; clear eS; clear dX; clear dY dV
  intro oQ lS ⟨rr, iY, fY, gZ, hA, fZ, iZ, jA, jB, gA, jC, cX, jD, dM, hrr, i379, i380, i381⟩
  have := fY.size; have := fZ.lt; have := gA.lt; have := dM.lt
  refine At.start ?_
  obtain ⟨gB, jE, oR, oS, oT⟩ := cX.get (i) (by omega) (by omega) (sz := 1) rfl
  refine At.rd iY 5 [[], [.ld (.slice aH xk.length bD)], [], [], [.ad gB]] [(112, .pointer (some (gB.add ((i : Int).toNat * 1)))), (111, .int .i64 (rr)), (110, .int .i64 (i)), (109, .slice aH xk.length bD), (108, .pointer (some ⟨aA.heap.size, 1, none⟩))] [(lS.cell? ⟨aA.heap.size, 1, none⟩ = some (.slice aH xk.length bD)), (aH = some gB), (0 ≤ (i : Int)), ((i : Int) < (xk.length : Nat))] (by kernel_rfl) ⟨(dM.cell (i := 1) rfl), jE, (by omega), (by omega), trivial⟩ (fun oU jF => ?_)
  clear iY
  refine At.act jF (storeR (α := Int) (t := 3) (i := i) (ad := gB) (v := .int .i64 (rr)) (rr) (by kernel_rfl) rfl rfl (by kernel_rfl) jE cX (by omega) (by omega)) ?_
  rintro d_ v_ lT ⟨rfl, cG, lU⟩
  refine ⟨_, rfl, fun oV jG => ?_⟩
  clear jF; have oW : ((xk).set (i : Int).toNat rr).length = (xk).length := List.length_set; have := cG.size; replace fY := fY.gr cG (fun k hk => by have := cX.ge k hk; omega); replace gZ := gZ.gr cG (fun k hk => by have := cX.ge k hk; omega); replace hA := hA.gr cG (fun k hk => by have := cX.ge k hk; omega); replace fZ := fZ.gr cG (fun e => by have := cX.ge _ e; omega)
  have lV := iZ.gr cG (fun k hk => hk.2.2.1); clear iZ; have lW := jA.gr cG (fun k hk => hk.2.2.1); clear jA; have lX := jB.gr cG (fun k hk => hk.2.2.1); clear jB; replace gA := gA.gr cG (fun e => by have := cX.ge _ e; omega); have lY := jC.gr cG (fun k hk => hk.2.2.2.2.1); clear jC; have lZ := jD.gr cG (fun k hk => hk.2.2.2.2.2.1); clear jD; replace dM := dM.gr cG (cX.neb (fun g hs => hs.1))
  clear cX cG
  have jH := jG.as 109 (.slice aH xk.length bD) (.slice aH (((xk).set (i : Int).toNat rr : List Int).length) bD) rfl (slice_len (by first | rfl | omega | (simp; done) | (simp; omega)))
  clear jG
  replace dM : Bx lT (aA.heap.size) [.slice aF g.ow.length bR, .slice aH (((xk).set (i : Int).toNat rr).length) bD, .slice aG g.mv.length bS] 25 := dM.as (by first | rfl | (simp only [List.length_set]; done))
  refine At.done rfl ?_
  refine b_n ?_
  refine t_n ?_
  refine At.start ?_
  refine At.rd jH 3 [[], [.as_ (.int .i64 (i + 1))], []] [(9, .int .i64 (i + 1)), (43, .int .i64 (i + 1)), (42, .int .i64 (i))] [((.int .i64 (IntKind.i64.wrap (i + 1)) : Value) = .int .i64 (i + 1))] (by kernel_rfl) ⟨(w64 (by omega) (by omega)), trivial⟩ (fun oX mA => ?_)
  clear jH
  refine At.done rfl ?_
  refine t_n ?_
  have mB := mA.sub (r := [(9, .int .i64 (i + 1)), (8, .int .i64 (max hh (gI g.pr i + 2))), (7, .pointer (some ⟨aA.heap.size, 0, none⟩)), (6, .pointer (some ⟨aB.heap.size, 0, none⟩)), (2, .bool false), (1, .pointer (some ⟨w.heap.size, 0, none⟩))]) ⟨rfl, rfl, rfl, rfl, rfl, rfl, trivial⟩
  exact ⟨_, (by omega), (i + 1), max hh (gI g.pr i + 2), ((xh).set (i : Int).toNat ((gI g.pr (i)) + 2) : List Int), aC, aP, ((xk).set (i : Int).toNat rr : List Int), aH, bD, rfl, mB, fY, gZ, hA, fZ, lV, lW, lX, gA, lY, lU, lZ, dM, (by omega), (by omega), (map_next hxh (by omega) (by omega) rfl), (map_next hxk (by omega) (by omega) hrr), (high_next hG hhi (by omega) (by omega)), (by rw [List.length_set]; assumption), (by rw [List.length_set]; assumption), (by omega), (by omega)⟩
 have oY := of_decide_eq_false gO
 refine wp_exit ?_
 refine t_e ?_
 refine t_e ?_
 refine b_e ?_
 refine t_n ?_
 refine wp_seq ?_
 have hgk_ := hxk.1; have hgh_ := hxh.1
 refine At.start ?_
 refine At.rd eH 1 [[.ld (.slice Ag0 g.ow.length cg0), .ld (.slice Ag1 g.pr.length cg1), .ld (.slice Ag2 g.mv.length cg2)]] [(114, .agg #[.slice Ag0 g.ow.length cg0, .slice Ag1 g.pr.length cg1, .slice Ag2 g.mv.length cg2])] [(cV.cell? ⟨w.heap.size, 0, none⟩ = some (.slice Ag0 g.ow.length cg0)), (cV.cell? ⟨w.heap.size, 1, none⟩ = some (.slice Ag1 g.pr.length cg1)), (cV.cell? ⟨w.heap.size, 2, none⟩ = some (.slice Ag2 g.mv.length cg2))] (by kernel_rfl) ⟨(bH.cell (i := 0) rfl), (bH.cell (i := 1) rfl), (bH.cell (i := 2) rfl), trivial⟩ (fun oZ jI => ?_)
 clear eH
 refine At.call jI 16 #[.agg #[.slice Ag0 g.ow.length cg0, .slice Ag1 g.pr.length cg1, .slice Ag2 g.mv.length cg2]] (some 115) (by kernel_rfl) (solve_any (g := g) (aM.wide (Nat.zero_le _) (by omega)) (aL.wide (Nat.zero_le _) (by omega))) ?_
 rintro e_ bE ⟨cH, cK, cI, cL, fB, gC, fC, gD, la, lb, ma, mb, da, rfl, he, jJ, jK, jL, jM, hsA⟩
 have hln_hsA := solve_lens hsA; have aT : RdI bE (cV.heap.size) bE.heap.size cH la := (OwnR.rdR jJ (by show _ * 8 ≤ _; omega)).rdI; clear jJ; have aU : RdI bE (cV.heap.size) bE.heap.size cI lb := (OwnR.rdR jK (by show _ * 8 ≤ _; omega)).rdI; clear jK; have bF : RdI bE (cV.heap.size) bE.heap.size fB ma := (OwnR.rdR jL (by show _ * 8 ≤ _; omega)).rdI; clear jL
 have bG : RdI bE (cV.heap.size) bE.heap.size fC mb := (OwnR.rdR jM (by show _ * 8 ≤ _; omega)).rdI; clear jM
 refine ⟨_, rfl, _, rfl, fun pA jN => ?_⟩
 clear jI; have bY := gr_ext he; have := bY.size; replace aK := aK.gn bY; replace aM := aM.gn bY; replace aL := aL.gn bY; replace bH := bH.gn bY; replace aO := aO.gn bY; replace aI := aI.gn bY; have bC := fO.gn bY; clear fO; replace aJ := aJ.gn bY; replace bA := bA.gn bY; replace bB := bB.gn bY; have cJ := fP.gn bY; clear fP; replace aR := aR.gn bY; clear bY he
 refine At.rd jN 3 [[], [], []] [(117, .int .i64 (da)), (116, .agg #[.slice cH la.length cK, .slice cI lb.length cL, .slice fB ma.length gC, .slice fC mb.length gD]), (113, .tuple #[.agg #[.slice cH la.length cK, .slice cI lb.length cL, .slice fB ma.length gC, .slice fC mb.length gD], .int .i64 (da)])] [] (by kernel_rfl) trivial (fun pB jO => ?_)
 clear jN
 refine At.seq jO 1 [[]] [(14, .pointer (some ⟨bE.heap.size, 0, none⟩))] (bE.alloc (.cells #[.slice none 0 0, .slice none 0 0, .slice none 0 0, .slice none 0 0] 32 (0, 0))) [] (by kernel_rfl) trivial (fun pC mC hB jP => ?_)
 clear jO; have bL := gr_alloc hB; have := bL.size; replace aK := aK.gn bL; replace aM := aM.gn bL; replace aL := aL.gn bL; replace bH := bH.gn bL; replace aO := aO.grN bL; replace aI := aI.grN bL; replace bC := bC.grN bL; replace aJ := aJ.gn bL; replace bA := bA.grN bL; replace bB := bB.grN bL; replace cJ := cJ.grN bL; replace aR := aR.gn bL; replace aT := aT.gn bL; replace aU := aU.gn bL
 replace bF := bF.gn bL; replace bG := bG.gn bL; have hC : Bx mC (bE.heap.size) [.slice none 0 0, .slice none 0 0, .slice none 0 0, .slice none 0 0] 32 := Bx.new hB; have := hC.lt; clear bL hB
 refine At.store jP (t := 32) (b := bE.heap.size) (off := 0) (v := .agg #[.slice cH la.length cK, .slice cI lb.length cL, .slice fB ma.length gC, .slice fC mb.length gD]) (by kernel_rfl) hC (by kernel_rfl) (fun pD dF bM aQ jQ => ?_)
 clear jP; replace aQ : Bx dF (bE.heap.size) [.slice cH la.length cK, .slice cI lb.length cL, .slice fB ma.length gC, .slice fC mb.length gD] 32 := aQ; have := bM.size; replace aK := aK.gr bM (fun k h => by injection h; omega); replace aM := aM.gb bM (by omega); replace aL := aL.gb bM (by omega); replace bH := bH.gb bM (by omega); replace aO := aO.gr bM (fun k hk => hk.1)
 replace aI := aI.gr bM (fun k hk => hk.1); replace bC := bC.gr bM (fun k hk => hk.1); replace aJ := aJ.gb bM (by omega); replace bA := bA.gr bM (fun k hk => hk.1); replace bB := bB.gr bM (fun k hk => hk.1); replace cJ := cJ.gr bM (fun k hk => hk.1); replace aR := aR.gb bM (by omega); replace aT := aT.gb bM (by omega); replace aU := aU.gb bM (by omega); replace bF := bF.gb bM (by omega)
 replace bG := bG.gb bM (by omega); clear hC bM
 refine At.rd jQ 1 [[]] [(15, .int .i64 (da))] [] (by kernel_rfl) trivial (fun pE jR => ?_)
 clear jQ
 refine At.done rfl ?_
 refine t_n ?_
 clear bH
 refine wp_seq ?_
 refine At.start ?_
 refine At.rd jR 1 [[.ld (.slice aF g.ow.length bR), .ld (.slice aH xk.length bD), .ld (.slice aG g.mv.length bS)]] [(119, .agg #[.slice aF g.ow.length bR, .slice aH xk.length bD, .slice aG g.mv.length bS])] [(dF.cell? ⟨aA.heap.size, 0, none⟩ = some (.slice aF g.ow.length bR)), (dF.cell? ⟨aA.heap.size, 1, none⟩ = some (.slice aH xk.length bD)), (dF.cell? ⟨aA.heap.size, 2, none⟩ = some (.slice aG g.mv.length bS))] (by kernel_rfl) ⟨(aR.cell (i := 0) rfl), (aR.cell (i := 1) rfl), (aR.cell (i := 2) rfl), trivial⟩ (fun pF jS => ?_)
 clear jR
 refine At.call jS 16 #[.agg #[.slice aF g.ow.length bR, .slice aH xk.length bD, .slice aG g.mv.length bS]] (some 120) (by kernel_rfl) (solve_any (g := (⟨g.ow, xk, g.mv⟩ : GameL)) (RdG.mk (G := (⟨g.ow, xk, g.mv⟩ : GameL)) (bA.rdI0 (by first | omega | (simp only [List.length_cons, List.length_nil]; omega) | (simp; done) | (simp; omega))) (bB.rdI0 (by first | omega | (simp only [List.length_cons, List.length_nil]; omega) | (simp; done) | (simp; omega))) (cJ.rdII0 (by first | omega | (simp only [List.length_cons, List.length_nil]; omega) | (simp; done) | (simp; omega)) hip105) bA.cap bB.cap cJ.cap) (aL.wide (Nat.zero_le _) (by omega))) ?_
 rintro e_ bT ⟨cY, dG, cZ, dH, fD, gE, fE, gF, lc, ld, mc, md, db, rfl, he, jT, jU, jV, jW, hsB⟩
 have hln_hsB := solve_lens hsB; have bV : RdI bT (dF.heap.size) bT.heap.size cY lc := (OwnR.rdR jT (by show _ * 8 ≤ _; omega)).rdI; clear jT; have bW : RdI bT (dF.heap.size) bT.heap.size cZ ld := (OwnR.rdR jU (by show _ * 8 ≤ _; omega)).rdI; clear jU; have bZ : RdI bT (dF.heap.size) bT.heap.size fD mc := (OwnR.rdR jV (by show _ * 8 ≤ _; omega)).rdI; clear jV
 have cA : RdI bT (dF.heap.size) bT.heap.size fE md := (OwnR.rdR jW (by show _ * 8 ≤ _; omega)).rdI; clear jW
 refine ⟨_, rfl, _, rfl, fun pG jX => ?_⟩
 clear jS; have bN := gr_ext he; have := bN.size; replace aK := aK.gn bN; replace aM := aM.gn bN; replace aL := aL.gn bN; replace aO := aO.gn bN; replace aI := aI.gn bN; replace bC := bC.gn bN; replace aJ := aJ.gn bN; replace bA := bA.gn bN; replace bB := bB.gn bN; replace cJ := cJ.gn bN; replace aR := aR.gn bN; replace aT := aT.gn bN; replace aU := aU.gn bN; replace bF := bF.gn bN
 replace bG := bG.gn bN; replace aQ := aQ.gn bN; clear bN he
 refine At.rd jX 3 [[], [], []] [(122, .int .i64 (db)), (121, .agg #[.slice cY lc.length dG, .slice cZ ld.length dH, .slice fD mc.length gE, .slice fE md.length gF]), (118, .tuple #[.agg #[.slice cY lc.length dG, .slice cZ ld.length dH, .slice fD mc.length gE, .slice fE md.length gF], .int .i64 (db)])] [] (by kernel_rfl) trivial (fun pH jY => ?_)
 clear jX
 refine At.seq jY 1 [[]] [(16, .pointer (some ⟨bT.heap.size, 0, none⟩))] (bT.alloc (.cells #[.slice none 0 0, .slice none 0 0, .slice none 0 0, .slice none 0 0] 32 (0, 0))) [] (by kernel_rfl) trivial (fun pI mD hD jZ => ?_)
 clear jY; have aV := gr_alloc hD; have := aV.size; replace aK := aK.gn aV; replace aM := aM.gn aV; replace aL := aL.gn aV; replace aO := aO.grN aV; replace aI := aI.grN aV; replace bC := bC.grN aV; replace aJ := aJ.gn aV; replace bA := bA.grN aV; replace bB := bB.grN aV; replace cJ := cJ.grN aV; replace aR := aR.gn aV; replace aT := aT.gn aV; replace aU := aU.gn aV; replace bF := bF.gn aV
 replace bG := bG.gn aV; replace aQ := aQ.gn aV; replace bV := bV.gn aV; replace bW := bW.gn aV; replace bZ := bZ.gn aV; replace cA := cA.gn aV; have hE : Bx mD (bT.heap.size) [.slice none 0 0, .slice none 0 0, .slice none 0 0, .slice none 0 0] 32 := Bx.new hD; have := hE.lt; clear aV hD
 refine At.store jZ (t := 32) (b := bT.heap.size) (off := 0) (v := .agg #[.slice cY lc.length dG, .slice cZ ld.length dH, .slice fD mc.length gE, .slice fE md.length gF]) (by kernel_rfl) hE (by kernel_rfl) (fun pJ fF aW dN kA => ?_)
 clear jZ; replace dN : Bx fF (bT.heap.size) [.slice cY lc.length dG, .slice cZ ld.length dH, .slice fD mc.length gE, .slice fE md.length gF] 32 := dN; have := aW.size; replace aK := aK.gr aW (fun k h => by injection h; omega); replace aM := aM.gb aW (by omega); replace aL := aL.gb aW (by omega); replace aO := aO.gr aW (fun k hk => hk.1); replace aI := aI.gr aW (fun k hk => hk.1)
 replace bC := bC.gr aW (fun k hk => hk.1); replace aJ := aJ.gb aW (by omega); replace bA := bA.gr aW (fun k hk => hk.1); replace bB := bB.gr aW (fun k hk => hk.1); replace cJ := cJ.gr aW (fun k hk => hk.1); replace aR := aR.gb aW (by omega); replace aT := aT.gb aW (by omega); replace aU := aU.gb aW (by omega); replace bF := bF.gb aW (by omega); replace bG := bG.gb aW (by omega)
 replace aQ := aQ.gb aW (by omega); replace bV := bV.gb aW (by omega); replace bW := bW.gb aW (by omega); replace bZ := bZ.gb aW (by omega); replace cA := cA.gb aW (by omega); clear hE aW
 refine At.rd kA 1 [[]] [(17, .int .i64 (db))] [] (by kernel_rfl) trivial (fun pK kB => ?_)
 clear kA
 refine At.done rfl ?_
 refine t_n ?_
 clear bA; clear bB; clear cJ; clear aR
 refine wp_seq ?_
 refine wp_seq ?_
 refine At.start ?_
 refine At.rd kB 4 [[], [.ld (.slice cH la.length cK), .ld (.slice cI lb.length cL)], [], [.ld (.slice cY lc.length dG), .ld (.slice cZ ld.length dH)]] [(126, .agg #[.slice cY lc.length dG, .slice cZ ld.length dH]), (125, .pointer (some ⟨bT.heap.size, 0, none⟩)), (124, .agg #[.slice cH la.length cK, .slice cI lb.length cL]), (123, .pointer (some ⟨bE.heap.size, 0, none⟩))] [(fF.cell? ⟨bE.heap.size, 0, none⟩ = some (.slice cH la.length cK)), (fF.cell? ⟨bE.heap.size, 1, none⟩ = some (.slice cI lb.length cL)), (fF.cell? ⟨bT.heap.size, 0, none⟩ = some (.slice cY lc.length dG)), (fF.cell? ⟨bT.heap.size, 1, none⟩ = some (.slice cZ ld.length dH))] (by kernel_rfl) ⟨(aQ.cell (i := 0) rfl), (aQ.cell (i := 1) rfl), (dN.cell (i := 0) rfl), (dN.cell (i := 1) rfl), trivial⟩ (fun pL kC => ?_)
 clear kB
 refine At.call kC 17 #[.agg #[.slice cH la.length cK, .slice cI lb.length cL], .agg #[.slice cY lc.length dG, .slice cZ ld.length dH]] (some 127) (by kernel_rfl) ((alike_any (la := la) (lb := lb) (lc := lc) (ld := ld) (aT.wide (Nat.zero_le _) (by omega)) (aU.wide (Nat.zero_le _) (by omega)) (bV.wide (Nat.zero_le _) (by omega)) (bW.wide (Nat.zero_le _) (by omega))).mono (R' := fun e w' => e = .returned (.bool true) ∧ Ext _ w') (fun e_ w_ h_ => by rw [show (decide (la = lc) && decide (lb = ld) : Bool) = true from by have h_ := higher_k hR hxk (by omega) hsA hsB; rw [decide_eq_true h_.1, decide_eq_true h_.2]; rfl] at h_; exact h_)) ?_
 rintro e_ dO ⟨rfl, he⟩
 refine ⟨_, rfl, _, rfl, fun pM kD => ?_⟩
 clear kC; have bI := gr_ext he; have := bI.size; replace aK := aK.gn bI; replace aM := aM.gn bI; replace aL := aL.gn bI; replace aO := aO.gn bI; replace aI := aI.gn bI; replace bC := bC.gn bI; replace aJ := aJ.gn bI; replace aT := aT.gn bI; replace aU := aU.gn bI; replace bF := bF.gn bI; replace bG := bG.gn bI; replace aQ := aQ.gn bI; replace bV := bV.gn bI; replace bW := bW.gn bI
 replace bZ := bZ.gn bI; replace cA := cA.gn bI; replace dN := dN.gn bI; clear bI he
 refine At.rd kD 1 [[]] [(128, .bool false)] [] (by kernel_rfl) trivial (fun pN kE => ?_)
 clear kD
 refine At.done rfl ?_
 refine t_n ?_
 clear dN
 have hF := kE.sub (r := [(128, .bool false), (14, .pointer (some ⟨bE.heap.size, 0, none⟩)), (8, .int .i64 (hh)), (6, .pointer (some ⟨aB.heap.size, 0, none⟩))]) ⟨rfl, rfl, rfl, rfl, trivial⟩
 clear kE
 refine cond_F hF rfl ?_
 refine wp_skip ?_
 refine t_n ?_
 refine wp_seq ?_
 refine At.start ?_
 refine At.rd hF 1 [[.ld (.slice aD g.ow.length bP), .ld (.slice aC xh.length aP), .ld (.slice aE g.mv.length bQ)]] [(130, .agg #[.slice aD g.ow.length bP, .slice aC xh.length aP, .slice aE g.mv.length bQ])] [(dO.cell? ⟨aB.heap.size, 0, none⟩ = some (.slice aD g.ow.length bP)), (dO.cell? ⟨aB.heap.size, 1, none⟩ = some (.slice aC xh.length aP)), (dO.cell? ⟨aB.heap.size, 2, none⟩ = some (.slice aE g.mv.length bQ))] (by kernel_rfl) ⟨(aJ.cell (i := 0) rfl), (aJ.cell (i := 1) rfl), (aJ.cell (i := 2) rfl), trivial⟩ (fun pO kF => ?_)
 clear hF
 refine At.call kF 16 #[.agg #[.slice aD g.ow.length bP, .slice aC xh.length aP, .slice aE g.mv.length bQ]] (some 131) (by kernel_rfl) (solve_any (g := (⟨g.ow, xh, g.mv⟩ : GameL)) (RdG.mk (G := (⟨g.ow, xh, g.mv⟩ : GameL)) (aO.rdI0 (by first | omega | (simp only [List.length_cons, List.length_nil]; omega) | (simp; done) | (simp; omega))) (aI.rdI0 (by first | omega | (simp only [List.length_cons, List.length_nil]; omega) | (simp; done) | (simp; omega))) (bC.rdII0 (by first | omega | (simp only [List.length_cons, List.length_nil]; omega) | (simp; done) | (simp; omega)) hip56) aO.cap aI.cap bC.cap) (aL.wide (Nat.zero_le _) (by omega))) ?_
 rintro e_ bJ ⟨dA, dI, dB, dJ, dK, dP, fG, gG, le, lf, me, mf, dc, rfl, he, kG, kH, kI, kJ, hsC⟩
 have hln_hsC := solve_lens hsC; have dQ : RdI bJ (dO.heap.size) bJ.heap.size dA le := (OwnR.rdR kG (by show _ * 8 ≤ _; omega)).rdI; clear kG; have dR : RdI bJ (dO.heap.size) bJ.heap.size dB lf := (OwnR.rdR kH (by show _ * 8 ≤ _; omega)).rdI; clear kH; have eD : RdI bJ (dO.heap.size) bJ.heap.size dK me := (OwnR.rdR kI (by show _ * 8 ≤ _; omega)).rdI; clear kI
 have eE : RdI bJ (dO.heap.size) bJ.heap.size fG mf := (OwnR.rdR kJ (by show _ * 8 ≤ _; omega)).rdI; clear kJ
 refine ⟨_, rfl, _, rfl, fun pP kK => ?_⟩
 clear kF; have bO := gr_ext he; have := bO.size; replace aK := aK.gn bO; replace aM := aM.gn bO; replace aL := aL.gn bO; replace aO := aO.gn bO; replace aI := aI.gn bO; replace bC := bC.gn bO; replace aJ := aJ.gn bO; replace aT := aT.gn bO; replace aU := aU.gn bO; replace bF := bF.gn bO; replace bG := bG.gn bO; replace aQ := aQ.gn bO; replace bV := bV.gn bO; replace bW := bW.gn bO
 replace bZ := bZ.gn bO; replace cA := cA.gn bO; clear bO he
 refine At.rd kK 3 [[], [], []] [(133, .int .i64 (dc)), (132, .agg #[.slice dA le.length dI, .slice dB lf.length dJ, .slice dK me.length dP, .slice fG mf.length gG]), (129, .tuple #[.agg #[.slice dA le.length dI, .slice dB lf.length dJ, .slice dK me.length dP, .slice fG mf.length gG], .int .i64 (dc)])] [] (by kernel_rfl) trivial (fun pQ kL => ?_)
 clear kK
 refine At.seq kL 1 [[]] [(18, .pointer (some ⟨bJ.heap.size, 0, none⟩))] (bJ.alloc (.cells #[.slice none 0 0, .slice none 0 0, .slice none 0 0, .slice none 0 0] 32 (0, 0))) [] (by kernel_rfl) trivial (fun pR mE hH kM => ?_)
 clear kL; have aX := gr_alloc hH; have := aX.size; replace aK := aK.gn aX; replace aM := aM.gn aX; replace aL := aL.gn aX; replace aO := aO.grN aX; replace aI := aI.grN aX; replace bC := bC.grN aX; replace aJ := aJ.gn aX; replace aT := aT.gn aX; replace aU := aU.gn aX; replace bF := bF.gn aX; replace bG := bG.gn aX; replace aQ := aQ.gn aX; replace bV := bV.gn aX; replace bW := bW.gn aX
 replace bZ := bZ.gn aX; replace cA := cA.gn aX; replace dQ := dQ.gn aX; replace dR := dR.gn aX; replace eD := eD.gn aX; replace eE := eE.gn aX; have hI : Bx mE (bJ.heap.size) [.slice none 0 0, .slice none 0 0, .slice none 0 0, .slice none 0 0] 32 := Bx.new hH; have := hI.lt; clear aX hH
 refine At.store kM (t := 32) (b := bJ.heap.size) (off := 0) (v := .agg #[.slice dA le.length dI, .slice dB lf.length dJ, .slice dK me.length dP, .slice fG mf.length gG]) (by kernel_rfl) hI (by kernel_rfl) (fun pS eF aY dC kN => ?_)
 clear kM; replace dC : Bx eF (bJ.heap.size) [.slice dA le.length dI, .slice dB lf.length dJ, .slice dK me.length dP, .slice fG mf.length gG] 32 := dC; have := aY.size; replace aK := aK.gr aY (fun k h => by injection h; omega); replace aM := aM.gb aY (by omega); replace aL := aL.gb aY (by omega); replace aO := aO.gr aY (fun k hk => hk.1); replace aI := aI.gr aY (fun k hk => hk.1)
 replace bC := bC.gr aY (fun k hk => hk.1); replace aJ := aJ.gb aY (by omega); replace aT := aT.gb aY (by omega); replace aU := aU.gb aY (by omega); replace bF := bF.gb aY (by omega); replace bG := bG.gb aY (by omega); replace aQ := aQ.gb aY (by omega); replace bV := bV.gb aY (by omega); replace bW := bW.gb aY (by omega); replace bZ := bZ.gb aY (by omega); replace cA := cA.gb aY (by omega)
 replace dQ := dQ.gb aY (by omega); replace dR := dR.gb aY (by omega); replace eD := eD.gb aY (by omega); replace eE := eE.gb aY (by omega); clear hI aY
 refine At.rd kN 1 [[]] [(19, .int .i64 (dc))] [] (by kernel_rfl) trivial (fun pT kO => ?_)
 clear kN
 refine At.done rfl ?_
 refine t_n ?_
 clear aO; clear aI; clear bC; clear aJ
 refine wp_seq ?_
 refine wp_seq ?_
 refine At.start ?_
 refine At.rd kO 2 [[], []] [(135, .bool (decide ((hh : Int) > 7))), (134, .int .i64 (hh))] [] (by kernel_rfl) trivial (fun pU fH => ?_)
 clear kO
 refine At.done rfl ?_
 refine t_n ?_
 refine cond_S fH (t := decide ((hh : Int) > 7)) rfl (fun hJ => ?_) (fun hJ => ?_)
 ·have pV := of_decide_eq_true hJ
  refine wp_seq ?_
  refine At.start ?_
  refine At.rd fH 6 [[], [], [.ld (.slice dK me.length dP)], [], [.as_ (.bool true)], []] [(2, .bool true), (140, .bool true), (139, .int .i64 (((me.length : Nat) : Int))), (138, .slice dK me.length dP), (137, .pointer (some ⟨bJ.heap.size, 2, none⟩)), (136, .pointer (some ⟨bJ.heap.size, 2, none⟩))] [(0 ≤ (0 : Int)), ((0 : Int) < (2 : Nat)), (eF.cell? ⟨bJ.heap.size, 2, none⟩ = some (.slice dK me.length dP)), ((.bool ((((me.length : Nat) : Int) : Int) == 0) : Value) = .bool true)] (by kernel_rfl) ⟨(by decide), (by decide), (dC.cell (i := 2) rfl), (congrArg Value.bool (beqT (by have h_ := higher_no hR hxh (by omega) hhi (by omega) hsC; omega))), trivial⟩ (fun pW mF => ?_)
  clear fH
  refine At.done rfl ?_
  refine t_n ?_
  clear aQ; clear dC
  refine wp_ret ?_
  refine t_r ?_
  refine ret_ mF [] [.bool true] [] (by kernel_rfl) trivial ?_
  exact ⟨rfl, aK⟩
 have pX := of_decide_eq_false hJ
 refine wp_skip ?_
 refine t_n ?_
 refine wp_seq ?_
 refine At.start ?_
 refine At.rd fH 4 [[], [.ld (.slice cH la.length cK), .ld (.slice cI lb.length cL)], [], [.ld (.slice dA le.length dI), .ld (.slice dB lf.length dJ)]] [(144, .agg #[.slice dA le.length dI, .slice dB lf.length dJ]), (143, .pointer (some ⟨bJ.heap.size, 0, none⟩)), (142, .agg #[.slice cH la.length cK, .slice cI lb.length cL]), (141, .pointer (some ⟨bE.heap.size, 0, none⟩))] [(eF.cell? ⟨bE.heap.size, 0, none⟩ = some (.slice cH la.length cK)), (eF.cell? ⟨bE.heap.size, 1, none⟩ = some (.slice cI lb.length cL)), (eF.cell? ⟨bJ.heap.size, 0, none⟩ = some (.slice dA le.length dI)), (eF.cell? ⟨bJ.heap.size, 1, none⟩ = some (.slice dB lf.length dJ))] (by kernel_rfl) ⟨(aQ.cell (i := 0) rfl), (aQ.cell (i := 1) rfl), (dC.cell (i := 0) rfl), (dC.cell (i := 1) rfl), trivial⟩ (fun pY kP => ?_)
 clear fH
 refine At.call kP 17 #[.agg #[.slice cH la.length cK, .slice cI lb.length cL], .agg #[.slice dA le.length dI, .slice dB lf.length dJ]] (some 145) (by kernel_rfl) ((alike_any (la := la) (lb := lb) (lc := le) (ld := lf) (aT.wide (Nat.zero_le _) (by omega)) (aU.wide (Nat.zero_le _) (by omega)) (dQ.wide (Nat.zero_le _) (by omega)) (dR.wide (Nat.zero_le _) (by omega))).mono (R' := fun e w' => e = .returned (.bool true) ∧ Ext _ w') (fun e_ w_ h_ => by rw [show (decide (la = le) && decide (lb = lf) : Bool) = true from by have h_ := higher_h hR hxh (by omega) hhi (by omega) hsA hsC; rw [decide_eq_true h_.1, decide_eq_true h_.2]; rfl] at h_; exact h_)) ?_
 rintro e_ pZ ⟨rfl, he⟩
 refine ⟨_, rfl, _, rfl, fun qA kQ => ?_⟩
 clear kP; have bK := gr_ext he; have := bK.size; replace aK := aK.gn bK; replace aM := aM.gn bK; replace aL := aL.gn bK; replace aT := aT.gn bK; replace aU := aU.gn bK; replace bF := bF.gn bK; replace bG := bG.gn bK; replace aQ := aQ.gn bK; replace bV := bV.gn bK; replace bW := bW.gn bK; replace bZ := bZ.gn bK; replace cA := cA.gn bK; replace dQ := dQ.gn bK; replace dR := dR.gn bK
 replace eD := eD.gn bK; replace eE := eE.gn bK; replace dC := dC.gn bK; clear bK he
 refine At.rd kQ 1 [[]] [(2, .bool true)] [] (by kernel_rfl) trivial (fun qB mG => ?_)
 clear kQ
 refine At.done rfl ?_
 refine t_n ?_
 clear aQ; clear dC
 refine wp_ret ?_
 refine ret_ mG [] [.bool true] [] (by kernel_rfl) trivial ?_
 exact ⟨rfl, aK⟩

end Go.Proofs.YtplpgfcjjnaigaaDoor
