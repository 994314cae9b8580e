/-
  A walk of a Go function, printed by a program of this repo. Conditions: what the theorems name.
-/
import Derived.Test.YtklbpajmoklheaaPureMWL
import Derived.Test.YtklbpajmoklheaaPureBounds
import Derived.Test.YtklbpajmoklheaaWShown
import Derived.Test.YtklbpajmoklheaaWHeavy
import Derived.Test.YtklbpajmoklheaaWIsR
import Derived.Test.YtklbpajmoklheaaWSame
import Derived.Test.YtklbpajmoklheaaWDoc13
import Derived.Test.YtklbpajmoklheaaWWins13
set_option linter.unusedVariables false
set_option linter.unusedSimpArgs false
namespace Go.Proofs.Ytklbpajmoklheaa
open Go Go.RowKit

set_option maxHeartbeats 4000000 in
theorem wins14_any {Ag0 Ag1 Ag2 : Option Addr} {cg0 cg1 cg2 : Nat} {g : GameL} {w : World} (rg : RdG w 0 w.heap.size Ag0 Ag1 Ag2 cg0 cg1 cg2 g) :
    Calls Try.prog 9 #[.agg #[.slice Ag0 g.ow.length cg0, .slice Ag1 g.pr.length cg1, .slice Ag2 g.mv.length cg2]] w fun e w' => e = .returned (.bool true) ∧ Ext w w' := by
 have hlg0 := rg.ow.len; have hlg1 := rg.pr.len; have hlg2 := rg.mv.len; have hkg0 := rg.k0; have hkg1 := rg.k1; have hkg2 := rg.k2
 refine enter_ (args := [.agg #[.slice Ag0 g.ow.length cg0, .slice Ag1 g.pr.length cg1, .slice Ag2 g.mv.length cg2]]) Try.func9 rfl Try.ntmps9 (Nat.le_of_ble_eq_true rfl) (fun act0 f0 => ?_)
 have e0 : Ext w w := Ext.refl w
 refine wp_seq ?_
 refine At.start ?_
 refine At.seq f0 1 [[]] [(1, .pointer (some ⟨w.heap.size, 0, none⟩))] (w.alloc (.cells #[.slice Ag0 g.ow.length cg0, .slice Ag1 g.pr.length cg1, .slice Ag2 g.mv.length cg2] 25 (0, 0))) [] (by kernel_rfl) trivial (fun act4 w1 hw2 f3 => ?_)
 clear f0; have g5 := gr_alloc hw2; have szw1 := g5.size; replace e0 := e0.gn g5; have r8 := rg.gn g5; clear rg; have bx9 : Bx w1 (w.heap.size) [.slice Ag0 g.ow.length cg0, .slice Ag1 g.pr.length cg1, .slice Ag2 g.mv.length cg2] 25 := Bx.new hw2; have := bx9.lt; clear g5 hw2
 refine At.rd f3 1 [[]] [(2, .bool false)] [] (by kernel_rfl) trivial (fun eU cM => ?_)
 clear f3
 refine At.done rfl ?_
 refine t_n ?_
 refine wp_seq ?_
 refine At.start ?_
 refine At.call cM 22 #[] (some 12) (by kernel_rfl) (shown_any) ?_
 rintro e_ cA ⟨rfl, he⟩
 refine ⟨_, rfl, _, rfl, fun eV cN => ?_⟩
 clear cM; have bK := gr_ext he; have szw12 := bK.size; replace e0 := e0.gn bK; replace r8 := r8.gn bK; replace bx9 := bx9.gn bK; clear bK he
 refine At.rd cN 1 [[]] [(3, .bool true)] [] (by kernel_rfl) trivial (fun eW cO => ?_)
 clear cN
 refine At.done rfl ?_
 refine t_n ?_
 refine wp_seq ?_
 refine At.start ?_
 refine At.rd cO 1 [[.ld (.slice Ag0 g.ow.length cg0), .ld (.slice Ag1 g.pr.length cg1), .ld (.slice Ag2 g.mv.length cg2)]] [(13, .agg #[.slice Ag0 g.ow.length cg0, .slice Ag1 g.pr.length cg1, .slice Ag2 g.mv.length cg2])] [(cA.cell? ⟨w.heap.size, 0, none⟩ = some (.slice Ag0 g.ow.length cg0)), (cA.cell? ⟨w.heap.size, 1, none⟩ = some (.slice Ag1 g.pr.length cg1)), (cA.cell? ⟨w.heap.size, 2, none⟩ = some (.slice Ag2 g.mv.length cg2))] (by kernel_rfl) ⟨(bx9.cell (i := 0) rfl), (bx9.cell (i := 1) rfl), (bx9.cell (i := 2) rfl), trivial⟩ (fun eX cP => ?_)
 clear cO
 refine At.call cP 32 #[.agg #[.slice Ag0 g.ow.length cg0, .slice Ag1 g.pr.length cg1, .slice Ag2 g.mv.length cg2]] (some 14) (by kernel_rfl) (isR_any (r8.wide (Nat.zero_le _) (by omega))) ?_
 rintro e_ cB ⟨rfl, he⟩
 refine ⟨_, rfl, _, rfl, fun eY cQ => ?_⟩
 clear cP; have bL := gr_ext he; have szw23 := bL.size; replace e0 := e0.gn bL; replace r8 := r8.gn bL; replace bx9 := bx9.gn bL; clear bL he
 refine At.rd cQ 1 [[]] [(4, .bool (isR g))] [] (by kernel_rfl) trivial (fun eZ cR => ?_)
 clear cQ
 refine At.done rfl ?_
 refine t_n ?_
 refine wp_seq ?_
 refine At.start ?_
 refine At.rd cR 1 [[.ld (.slice Ag0 g.ow.length cg0), .ld (.slice Ag1 g.pr.length cg1), .ld (.slice Ag2 g.mv.length cg2)]] [(15, .agg #[.slice Ag0 g.ow.length cg0, .slice Ag1 g.pr.length cg1, .slice Ag2 g.mv.length cg2])] [(cB.cell? ⟨w.heap.size, 0, none⟩ = some (.slice Ag0 g.ow.length cg0)), (cB.cell? ⟨w.heap.size, 1, none⟩ = some (.slice Ag1 g.pr.length cg1)), (cB.cell? ⟨w.heap.size, 2, none⟩ = some (.slice Ag2 g.mv.length cg2))] (by kernel_rfl) ⟨(bx9.cell (i := 0) rfl), (bx9.cell (i := 1) rfl), (bx9.cell (i := 2) rfl), trivial⟩ (fun fA cS => ?_)
 clear cR
 refine At.call cS 25 #[.agg #[.slice Ag0 g.ow.length cg0, .slice Ag1 g.pr.length cg1, .slice Ag2 g.mv.length cg2]] (some 16) (by kernel_rfl) (heavy_any (g := g) (r8.wide (Nat.zero_le _) (by omega))) ?_
 rintro e_ eC ⟨b34, rfl, he⟩
 refine ⟨_, rfl, _, rfl, fun fB cT => ?_⟩
 clear cS; have bM := gr_ext he; have szw35 := bM.size; replace e0 := e0.gn bM; replace r8 := r8.gn bM; replace bx9 := bx9.gn bM; clear bM he
 refine At.rd cT 1 [[]] [(5, .bool (b34))] [] (by kernel_rfl) trivial (fun fC bV => ?_)
 clear cT
 refine At.done rfl ?_
 refine t_n ?_
 refine wp_seq ?_
 refine wp_seq ?_
 refine At.start ?_
 rcases Bool.eq_false_or_eq_true (!(isR g)) with aR | aR
 ·have fD : (isR g) = false := by first | exact Eq.mp (Bool.not_eq_true' _) aR | exact Eq.mp (Bool.not_eq_false' _) aR | simpa using aR
  refine At.rd bV 9 [[], [], [], [], [], [], [.as_ (.bool true)], [], []] [(25, .bool true), (24, undef), (23, .bool true), (22, .bool (!(isR g))), (21, .bool (!(isR g))), (20, .bool (isR g)), (19, .bool false), (18, .bool false), (17, .bool true)] [((.bool (!(isR g)) : Value) = .bool true)] (by kernel_rfl) ⟨(congrArg Value.bool aR), trivial⟩ (fun fE cU => ?_)
  clear bV
  refine At.done rfl ?_
  refine t_n ?_
  have cC := cU.sub (r := [(25, .bool true), (3, .bool true), (2, .bool false), (1, .pointer (some ⟨w.heap.size, 0, none⟩))]) ⟨rfl, rfl, rfl, rfl, trivial⟩; clear cU
  refine cond_T cC rfl ?_
  refine wp_seq ?_
  refine At.start ?_
  refine At.rd cC 2 [[], []] [(2, .bool true), (26, .bool true)] [] (by kernel_rfl) trivial (fun fF eD => ?_)
  clear cC
  refine At.done rfl ?_
  refine t_n ?_
  clear bx9
  refine wp_ret ?_
  refine t_r ?_
  refine ret_ eD [] [.bool true] [] (by kernel_rfl) trivial ?_
  exact ⟨rfl, e0⟩
 have fG : (isR g) = true := by first | exact Eq.mp (Bool.not_eq_true' _) aR | exact Eq.mp (Bool.not_eq_false' _) aR | simpa using aR
 refine At.rd bV 9 [[], [], [], [], [], [], [.as_ (.bool false)], [], []] [(25, .bool (b34)), (24, .bool (b34)), (23, .bool false), (22, .bool (!(isR g))), (21, .bool (!(isR g))), (20, .bool (isR g)), (19, .bool false), (18, .bool false), (17, .bool true)] [((.bool (!(isR g)) : Value) = .bool false)] (by kernel_rfl) ⟨(congrArg Value.bool aR), trivial⟩ (fun fH cV => ?_)
 clear bV
 refine At.done rfl ?_
 refine t_n ?_
 have bN := cV.sub (r := [(25, .bool (b34)), (3, .bool true), (2, .bool false), (1, .pointer (some ⟨w.heap.size, 0, none⟩))]) ⟨rfl, rfl, rfl, rfl, trivial⟩; clear cV
 refine cond_S bN (t := b34) rfl (fun eE => ?_) (fun eE => ?_)
 ·refine wp_seq ?_
  refine At.start ?_
  refine At.rd bN 2 [[], []] [(2, .bool true), (26, .bool true)] [] (by kernel_rfl) trivial (fun fI eF => ?_)
  clear bN
  refine At.done rfl ?_
  refine t_n ?_
  clear bx9
  refine wp_ret ?_
  refine t_r ?_
  refine ret_ eF [] [.bool true] [] (by kernel_rfl) trivial ?_
  exact ⟨rfl, e0⟩
 refine wp_skip ?_
 refine t_n ?_
 have hR : isR g = true := by simp_all
 have hG := isR_ok hR; have hn1 := hG.n1; have hpl := hG.pl; have hml := hG.ml
 refine wp_seq ?_
 obtain ⟨aV, aZ⟩ : ∃ c : List (Addr × Value), c = [(⟨w.heap.size, 0, none⟩, (.slice Ag0 g.ow.length cg0)), (⟨w.heap.size, 1, none⟩, (.slice Ag1 g.pr.length cg1)), (⟨w.heap.size, 2, none⟩, (.slice Ag2 g.mv.length cg2)), (⟨w.heap.size, 0, none⟩, (.slice Ag0 g.ow.length cg0)), (⟨w.heap.size, 1, none⟩, (.slice Ag1 g.pr.length cg1)), (⟨w.heap.size, 2, none⟩, (.slice Ag2 g.mv.length cg2))] := ⟨_, rfl⟩
 have cW : HoldsC aV eC := by rw [aZ]; exact ⟨(bx9.cell (i := 0) rfl), (bx9.cell (i := 1) rfl), (bx9.cell (i := 2) rfl), (bx9.cell (i := 0) rfl), (bx9.cell (i := 1) rfl), (bx9.cell (i := 2) rfl), trivial⟩
 refine AtH.start aV 9 #[false, false, false, false, false, false, false, false, false] (by kernel_rfl) rfl rfl (fun eG cX => ?_)
 have bG := gr_drew cX; have cY := cW.gr bG; have szw66 := bG.size; replace e0 := e0.gn bG; replace r8 := r8.gn bG; replace bx9 := bx9.gn bG; clear bG cX cW
 refine AtH.rd (by kernel_rfl) (fun d v c a w h => by cases d <;> exact h) cY [0, 1] [[.ld (.slice Ag0 g.ow.length cg0), .ld (.slice Ag1 g.pr.length cg1), .ld (.slice Ag2 g.mv.length cg2)], [.ld (.slice Ag0 g.ow.length cg0), .ld (.slice Ag1 g.pr.length cg1), .ld (.slice Ag2 g.mv.length cg2)]] [(29, .agg #[.slice Ag0 g.ow.length cg0, .slice Ag1 g.pr.length cg1, .slice Ag2 g.mv.length cg2]), (28, .agg #[.slice Ag0 g.ow.length cg0, .slice Ag1 g.pr.length cg1, .slice Ag2 g.mv.length cg2])] #[true, true, false, false, false, false, false, false, false] [(∃ j_ : Nat, aV[j_]? = some (⟨w.heap.size, 0, none⟩, (.slice Ag0 g.ow.length cg0))), (∃ j_ : Nat, aV[j_]? = some (⟨w.heap.size, 1, none⟩, (.slice Ag1 g.pr.length cg1))), (∃ j_ : Nat, aV[j_]? = some (⟨w.heap.size, 2, none⟩, (.slice Ag2 g.mv.length cg2))), (∃ j_ : Nat, aV[j_]? = some (⟨w.heap.size, 0, none⟩, (.slice Ag0 g.ow.length cg0))), (∃ j_ : Nat, aV[j_]? = some (⟨w.heap.size, 1, none⟩, (.slice Ag1 g.pr.length cg1))), (∃ j_ : Nat, aV[j_]? = some (⟨w.heap.size, 2, none⟩, (.slice Ag2 g.mv.length cg2)))] 7 bN (by kernel_rfl) ⟨⟨0, by rw [aZ]; rfl⟩, ⟨1, by rw [aZ]; rfl⟩, ⟨2, by rw [aZ]; rfl⟩, ⟨3, by rw [aZ]; rfl⟩, ⟨4, by rw [aZ]; rfl⟩, ⟨5, by rw [aZ]; rfl⟩, trivial⟩ (fun fJ cZ => ?_)
 clear bN
 refine AtH.all [2] 6 (by kernel_rfl) (by simp) ⟨?_, trivial⟩
 refine OneH.call cZ 28 #[.agg #[.slice Ag0 g.ow.length cg0, .slice Ag1 g.pr.length cg1, .slice Ag2 g.mv.length cg2]] (some 30) #[true, true, true, false, false, false, false, false, false] (by kernel_rfl) (by kernel_rfl) (solveM_any (g := g) (r8.wide (Nat.zero_le _) (by omega)) (by first | omega | assumption | decide)) ?_
 rintro e_ aS ⟨bH, dA, sl, rfl, he, bO, hsv79⟩
 have hsv_Msl := hsv79; have := solved_len hsv79
 refine ⟨_, rfl, _, rfl, fun fK dB => ?_⟩
 clear cZ; have bI := gr_ext he; have dC := cY.gr bI; have szw81 := bI.size; replace e0 := e0.gn bI; replace r8 := r8.gn bI; replace bx9 := bx9.gn bI; clear bI he
 refine ⟨dC, ?_⟩
 refine AtH.all [3] 5 (by kernel_rfl) (by simp) ⟨?_, trivial⟩
 refine OneH.call dB 30 #[.agg #[.slice Ag0 g.ow.length cg0, .slice Ag1 g.pr.length cg1, .slice Ag2 g.mv.length cg2], .slice bH sl.length dA] (some 31) #[true, true, true, true, false, false, false, false, false] (by kernel_rfl) (by kernel_rfl) (evenM_any (g := g) (ls := sl) (r8.wide (Nat.zero_le _) (by omega)) ((bO.rdR (by simp only [Enc.bytes]; omega)).wide (Nat.zero_le _) (by omega)) (solved_ok hsv_Msl)) ?_
 rintro e_ aI ⟨aC, aF, aA, aD, ea, eb, rfl, he, aG, aH, hev99⟩
 have hEv_Mea := hev99
 refine ⟨_, rfl, _, rfl, fun fL dD => ?_⟩
 clear dB; have bA := gr_ext he; have bB := dC.gr bA; have cD := bO.lt; have szw100 := bA.size; replace e0 := e0.gn bA; replace r8 := r8.gn bA; replace bx9 := bx9.gn bA
 replace bO : OwnR aI (Sx (eG.heap.size) [obk (aC), obk (aA)]) bH dA 41 (sl : List Tup) := bO.grA bA (fun _ _ h => by cases h) (fun k hk hs => ⟨(fun e => by have := aG.ge _ e; omega), (fun e => by have := aH.ge _ e; omega), hs⟩)
 replace aG : OwnR aI (Sx (aS.heap.size) [obk (bH), obk (aA)]) aC aF 3 (ea : List Int) := aG.imp (fun g _ hs => ⟨(fun e => by have := cD _ e; have := Sx_base hs; omega), hs⟩)
 replace aH : OwnR aI (Sx (aS.heap.size) [obk (bH), obk (aC)]) aA aD 3 (eb : List Int) := aH.imp (fun g _ hs => ⟨(fun e => by have := cD _ e; have := Sx_base hs; omega), hs⟩)
 clear cD; clear bA he
 refine ⟨bB, ?_⟩
 refine AtH.rd (by kernel_rfl) (fun d v c a w h => by cases d <;> exact h) bB [4] [[]] [(27, .tuple #[.slice aC ea.length aF, .slice aA eb.length aD])] #[true, true, true, true, true, false, false, false, false] [] 4 dD (by kernel_rfl) trivial (fun fM dE => ?_)
 clear dD
 refine AtH.rd (by kernel_rfl) (fun d v c a w h => by cases d <;> exact h) bB [5] [[]] [(32, .slice aC ea.length aF)] #[true, true, true, true, true, true, false, false, false] [] 3 dE (by kernel_rfl) trivial (fun fN dF => ?_)
 clear dE
 refine AtH.rd (by kernel_rfl) (fun d v c a w h => by cases d <;> exact h) bB [6] [[]] [(33, .slice aA eb.length aD)] #[true, true, true, true, true, true, true, false, false] [] 2 dF (by kernel_rfl) trivial (fun fO dG => ?_)
 clear dF
 refine AtH.rd (by kernel_rfl) (fun d v c a w h => by cases d <;> exact h) bB [7] [[]] [(6, .slice aC ea.length aF)] #[true, true, true, true, true, true, true, true, false] [] 1 dG (by kernel_rfl) trivial (fun fP dH => ?_)
 clear dG
 refine AtH.rd (by kernel_rfl) (fun d v c a w h => by cases d <;> exact h) bB [8] [[]] [(7, .slice aA eb.length aD)] #[true, true, true, true, true, true, true, true, true] [] 0 dH (by kernel_rfl) trivial (fun fQ dI => ?_)
 clear dH
 refine AtH.done (by kernel_rfl) ?_
 clear bB
 refine t_n ?_
 clear bO
 refine wp_seq ?_
 refine At.start ?_
 refine At.rd dI 1 [[.ld (.slice Ag0 g.ow.length cg0), .ld (.slice Ag1 g.pr.length cg1), .ld (.slice Ag2 g.mv.length cg2)]] [(34, .agg #[.slice Ag0 g.ow.length cg0, .slice Ag1 g.pr.length cg1, .slice Ag2 g.mv.length cg2])] [(aI.cell? ⟨w.heap.size, 0, none⟩ = some (.slice Ag0 g.ow.length cg0)), (aI.cell? ⟨w.heap.size, 1, none⟩ = some (.slice Ag1 g.pr.length cg1)), (aI.cell? ⟨w.heap.size, 2, none⟩ = some (.slice Ag2 g.mv.length cg2))] (by kernel_rfl) ⟨(bx9.cell (i := 0) rfl), (bx9.cell (i := 1) rfl), (bx9.cell (i := 2) rfl), trivial⟩ (fun fR dJ => ?_)
 clear dI
 refine At.call dJ 33 #[.agg #[.slice Ag0 g.ow.length cg0, .slice Ag1 g.pr.length cg1, .slice Ag2 g.mv.length cg2]] (some 35) (by kernel_rfl) (solve13_any (g := g) (r8.wide (Nat.zero_le _) (by omega))) ?_
 rintro e_ aB ⟨aE, aJ, aN, bP, wa, wb, rfl, he, aK, aL, hwa⟩
 have hlwa := doc_len hwa
 refine ⟨_, rfl, _, rfl, fun fS dK => ?_⟩
 clear dJ; have bC := gr_ext he; have cE := aG.lt; have cF := aH.lt; have szw131 := bC.size; replace e0 := e0.gn bC; replace r8 := r8.gn bC; replace bx9 := bx9.gn bC
 replace aG : OwnR aB (Sx (aS.heap.size) [obk (aE), obk (aN), obk (bH), obk (aA)]) aC aF 3 (ea : List Int) := aG.grA bC (fun _ _ h => by cases h) (fun k hk hs => ⟨(fun e => by have := aK.ge _ e; omega), (fun e => by have := aL.ge _ e; omega), hs.1, hs.2.1, hs.2.2⟩)
 replace aH : OwnR aB (Sx (aS.heap.size) [obk (aE), obk (aN), obk (bH), obk (aC)]) aA aD 3 (eb : List Int) := aH.grA bC (fun _ _ h => by cases h) (fun k hk hs => ⟨(fun e => by have := aK.ge _ e; omega), (fun e => by have := aL.ge _ e; omega), hs.1, hs.2.1, hs.2.2⟩)
 replace aK : OwnR aB (Sx (aI.heap.size) [obk (aC), obk (aA), obk (aN)]) aE aJ 3 (wa : List Int) := aK.imp (fun g _ hs => ⟨(fun e => by have := cE _ e; have := Sx_base hs; omega), (fun e => by have := cF _ e; have := Sx_base hs; omega), hs⟩)
 replace aL : OwnR aB (Sx (aI.heap.size) [obk (aC), obk (aA), obk (aE)]) aN bP 3 (wb : List Int) := aL.imp (fun g _ hs => ⟨(fun e => by have := cE _ e; have := Sx_base hs; omega), (fun e => by have := cF _ e; have := Sx_base hs; omega), hs⟩)
 clear cE cF; clear bC he
 refine At.seq dK 1 [[]] [(8, .pointer (some ⟨aB.heap.size, 0, none⟩))] (aB.alloc (.cells #[.slice none 0 0, .slice none 0 0] 56 (0, 0))) [] (by kernel_rfl) trivial (fun fT eH cG dL => ?_)
 clear dK; have aT := gr_alloc cG; have szw144 := aT.size; replace e0 := e0.gn aT; replace r8 := r8.gn aT; replace bx9 := bx9.gn aT; replace aG := aG.grN aT; replace aH := aH.grN aT; replace aK := aK.grN aT; replace aL := aL.grN aT; have cH : Bx eH (aB.heap.size) [.slice none 0 0, .slice none 0 0] 56 := Bx.new cG; have := cH.lt; clear aT cG
 refine At.store dL (t := 56) (b := aB.heap.size) (off := 0) (v := .agg #[.slice aE wa.length aJ, .slice aN wb.length bP]) (by kernel_rfl) cH (by kernel_rfl) (fun fU dM aU bD dN => ?_)
 clear dL; replace bD : Bx dM (aB.heap.size) [.slice aE wa.length aJ, .slice aN wb.length bP] 56 := bD; have szw158 := aU.size; replace e0 := e0.gr aU (fun k h => by injection h; omega); replace r8 := r8.gb aU (by omega); replace bx9 := bx9.gb aU (by omega); replace aG := aG.gr aU (fun k hk => hk.1); replace aH := aH.gr aU (fun k hk => hk.1); replace aK := aK.gr aU (fun k hk => hk.1)
 replace aL := aL.gr aU (fun k hk => hk.1); clear cH aU
 refine At.done rfl ?_
 refine t_n ?_
 refine wp_seq ?_
 have hMW := mw_all hR hsv_Msl hEv_Mea hwa; have hbl := hMW.len; have hwl_ := hlwa.1
 have hea_ : ea.length ≤ 200 := by rw [hMW.same]; exact hwl_
 refine At.start ?_
 refine At.rd dN 3 [[], [], [.ld (.slice aE wa.length aJ)]] [(38, .slice aE wa.length aJ), (37, .pointer (some ⟨aB.heap.size, 0, none⟩)), (36, .slice aC ea.length aF)] [(0 ≤ (0 : Int)), ((0 : Int) < (2 : Nat)), (dM.cell? ⟨aB.heap.size, 0, none⟩ = some (.slice aE wa.length aJ))] (by kernel_rfl) ⟨(by decide), (by decide), (bD.cell (i := 0) rfl), trivial⟩ (fun fV dO => ?_)
 clear dN
 refine At.call dO 20 #[.slice aC ea.length aF, .slice aE wa.length aJ] (some 39) (by kernel_rfl) ((sameInts_any (la := ea) (lb := wa) (aG.rdI0 (by first | omega | (simp only [List.length_cons, List.length_nil]; omega) | (simp; done) | (simp; omega))) (aK.rdI0 (by first | omega | (simp only [List.length_cons, List.length_nil]; omega) | (simp; done) | (simp; omega)))).mono (R' := fun e w' => e = .returned (.bool true) ∧ Ext _ w') (fun e_ w_ h_ => by rw [show (decide (ea = wa) : Bool) = true from decide_eq_true hMW.same] at h_; exact h_)) ?_
 rintro e_ eI ⟨rfl, he⟩
 refine ⟨_, rfl, _, rfl, fun fW dP => ?_⟩
 clear dO; have aO := gr_ext he; have szw172 := aO.size; replace e0 := e0.gn aO; replace r8 := r8.gn aO; replace bx9 := bx9.gn aO; replace aG := aG.gn aO; replace aH := aH.gn aO; replace aK := aK.gn aO; replace aL := aL.gn aO; replace bD := bD.gn aO; clear aO he
 refine At.rd dP 1 [[]] [(9, .bool true)] [] (by kernel_rfl) trivial (fun fX dQ => ?_)
 clear dP
 refine At.done rfl ?_
 refine t_n ?_
 refine wp_seq ?_
 refine wp_seq ?_
 refine At.start ?_
 refine At.rd dQ 10 [[], [], [], [], [], [], [.ld (.slice Ag0 g.ow.length cg0)], [], [.as_ (.bool false)], []] [(49, .bool false), (48, .bool false), (47, .int .i64 (((g.ow.length : Nat) : Int))), (46, .slice Ag0 g.ow.length cg0), (45, .pointer (some ⟨w.heap.size, 0, none⟩)), (44, .int .i64 (((eb.length : Nat) : Int))), (43, .slice aA eb.length aD), (42, .bool false), (41, .bool false), (40, .bool true)] [(eI.cell? ⟨w.heap.size, 0, none⟩ = some (.slice Ag0 g.ow.length cg0)), ((.bool ((((eb.length : Nat) : Int) : Int) != ((g.ow.length : Nat) : Int)) : Value) = .bool false)] (by kernel_rfl) ⟨(bx9.cell (i := 0) rfl), (congrArg Value.bool (mneF (by omega))), trivial⟩ (fun fY dR => ?_)
 clear dQ
 refine At.done rfl ?_
 refine t_n ?_
 have cI := dR.sub (r := [(49, .bool false), (8, .pointer (some ⟨aB.heap.size, 0, none⟩)), (7, .slice aA eb.length aD), (6, .slice aC ea.length aF), (2, .bool false), (1, .pointer (some ⟨w.heap.size, 0, none⟩))]) ⟨rfl, rfl, rfl, rfl, rfl, rfl, trivial⟩
 clear dR
 refine cond_F cI rfl ?_
 refine wp_skip ?_
 refine t_n ?_
 refine wp_seq ?_
 refine wp_seq ?_
 refine At.start ?_
 refine At.rd cI 1 [[]] [(10, .int .i64 (0))] [] (by kernel_rfl) trivial (fun fZ dS => ?_)
 clear cI
 refine At.done rfl ?_
 refine t_n ?_
 refine wp_block ?_
 have dT := dS.sub (r := [(10, .int .i64 (0)), (8, .pointer (some ⟨aB.heap.size, 0, none⟩)), (7, .slice aA eb.length aD), (6, .slice aC ea.length aF), (1, .pointer (some ⟨w.heap.size, 0, none⟩))]) ⟨rfl, rfl, rfl, rfl, rfl, trivial⟩
 refine loop_g (fun (m_ : Nat) a_ w_ => ∃ (i : Int), m_ = ((eb.length : Int) - i).toNat ∧ (Frm 80 a_ [(10, .int .i64 (i)), (8, .pointer (some ⟨aB.heap.size, 0, none⟩)), (7, .slice aA eb.length aD), (6, .slice aC ea.length aF), (1, .pointer (some ⟨w.heap.size, 0, none⟩))]) ∧ (Ext w w_) ∧ (RdG w_ 0 w.heap.size Ag0 Ag1 Ag2 cg0 cg1 cg2 g) ∧ (Bx w_ (w.heap.size) [.slice Ag0 g.ow.length cg0, .slice Ag1 g.pr.length cg1, .slice Ag2 g.mv.length cg2] 25) ∧ (OwnR w_ (Sx (aS.heap.size) [some (aB.heap.size), obk (aE), obk (aN), obk (aA)]) aC aF 3 (ea : List Int)) ∧ (OwnR w_ (Sx (aS.heap.size) [some (aB.heap.size), obk (aE), obk (aN), obk (aC)]) aA aD 3 (eb : List Int)) ∧ (OwnR w_ (Sx (aI.heap.size) [some (aB.heap.size), obk (aC), obk (aA), obk (aN)]) aE aJ 3 (wa : List Int)) ∧ (OwnR w_ (Sx (aI.heap.size) [some (aB.heap.size), obk (aC), obk (aA), obk (aE)]) aN bP 3 (wb : List Int)) ∧ (Bx w_ (aB.heap.size) [.slice aE wa.length aJ, .slice aN wb.length bP] 56) ∧ (0 ≤ i) ∧ (i ≤ (eb.length : Int)) ∧ (aS.heap.size ≤ w_.heap.size) ∧ (aI.heap.size ≤ w_.heap.size)) _ ⟨0, rfl, dT, e0, r8, bx9, (aG.imp (fun g _ hs => ⟨hs.1, hs.2.1, hs.2.2.1, hs.2.2.2.2.1, hs.2.2.2.2.2⟩)), (aH.imp (fun g _ hs => ⟨hs.1, hs.2.1, hs.2.2.1, hs.2.2.2.2.1, hs.2.2.2.2.2⟩)), aK, aL, bD, (by omega), (Int.natCast_nonneg _), (by omega), (by omega)⟩ ?_
 clear dT dS; clear r8; clear bx9; clear aG; clear aH; clear aK; clear aL; clear bD; clear e0
 intro m_ gA bQ ⟨i, hm195, dU, aW, aX, aM, aY, aP, bJ, bR, bE, i204, i205, i206, i207⟩
 have szw193 := aW.size; have := aM.lt; have := bE.lt
 have szc208 : w.heap.size < aS.heap.size := by omega
 have szc209 : aS.heap.size ≤ aI.heap.size := by omega
 have szc210 : aI.heap.size ≤ aB.heap.size := by omega
 have szc211 : aB.heap.size < bQ.heap.size := by omega
 clear szw1 szw12 szw23 szw35 szw66 szw81 szw100 szw131 szw144 szw158 szw172 szw193
 refine wp_seq ?_
 refine wp_seq ?_
 refine At.start ?_
 refine At.rd dU 4 [[], [], [], []] [(53, .bool (decide ((i : Int) < ((eb.length : Nat) : Int)))), (52, .int .i64 (((eb.length : Nat) : Int))), (51, .slice aA eb.length aD), (50, .int .i64 (i))] [] (by kernel_rfl) trivial (fun gB bS => ?_)
 clear dU
 refine At.done rfl ?_
 refine t_n ?_
 refine cond_S bS (t := decide ((i : Int) < ((eb.length : Nat) : Int))) rfl (fun cJ => ?_) (fun cJ => ?_)
 ·have gC := of_decide_eq_true cJ
  refine wp_skip ?_
  refine t_n ?_
  refine wp_seq ?_
  refine wp_block ?_
  refine wp_seq ?_
  refine At.start ?_
  refine At.rd bS 3 [[], [.ld (.slice aE wa.length aJ)], []] [(58, .int .i64 (i)), (57, .slice aE wa.length aJ), (56, .pointer (some ⟨aB.heap.size, 0, none⟩))] [(0 ≤ (0 : Int)), ((0 : Int) < (2 : Nat)), (bQ.cell? ⟨aB.heap.size, 0, none⟩ = some (.slice aE wa.length aJ))] (by kernel_rfl) ⟨(by decide), (by decide), (bE.cell (i := 0) rfl), trivial⟩ (fun gD dV => ?_)
  clear bS
  refine At.call dV 34 #[.slice aE wa.length aJ, .int .i64 (i)] (some 59) (by kernel_rfl) (count_any (la := wa) (v := i) (bJ.rdI0 (by first | omega | (simp only [List.length_cons, List.length_nil]; omega) | (simp; done) | (simp; omega)))) ?_
  rintro e_ bW ⟨rfl, he⟩
  refine ⟨_, rfl, _, rfl, fun gE bX => ?_⟩
  clear dV; have aQ := gr_ext he; have := aQ.size; replace aW := aW.gn aQ; replace aX := aX.gn aQ; replace aM := aM.gn aQ; replace aY := aY.gn aQ; replace aP := aP.gn aQ; replace bJ := bJ.gn aQ; replace bR := bR.gn aQ; replace bE := bE.gn aQ; clear aQ he
  rcases Bool.eq_false_or_eq_true (decide (((wa.count i : Int) : Int) > 0)) with bT | bT
  ·have gF := of_decide_eq_true bT
   obtain ⟨bU, eJ, _, _, eK⟩ := RdI.get aX.ow (i) (by omega) (by omega)
   refine At.rd bX 10 [[], [.as_ (.bool true)], [], [.ld (.slice Ag0 g.ow.length cg0)], [], [.ad bU], [.ld (.int .i64 (gI g.ow (i)))], [], [], []] [(11, .bool ((gI g.ow (i) : Int) == 0)), (68, .bool ((gI g.ow (i) : Int) == 0)), (67, .bool ((gI g.ow (i) : Int) == 0)), (66, .int .i64 (gI g.ow (i))), (65, .pointer (some (bU.add ((i : Int).toNat * 1)))), (64, .int .i64 (i)), (63, .slice Ag0 g.ow.length cg0), (62, .pointer (some ⟨w.heap.size, 0, none⟩)), (61, .bool true), (60, .bool (decide (((wa.count i : Int) : Int) > 0)))] [((.bool (decide (((wa.count i : Int) : Int) > 0)) : Value) = .bool true), (bW.cell? ⟨w.heap.size, 0, none⟩ = some (.slice Ag0 g.ow.length cg0)), (Ag0 = some bU), (0 ≤ (i : Int)), ((i : Int) < (g.ow.length : Nat)), (bW.cell? (bU.add ((i : Int).toNat * 1)) = some (.int .i64 (gI g.ow (i))))] (by kernel_rfl) ⟨(congrArg Value.bool bT), (aM.cell (i := 0) rfl), eJ, (by omega), (by omega), eK, trivial⟩ (fun gG dW => ?_)
   clear bX
   refine At.done rfl ?_
   refine t_n ?_
   refine wp_seq ?_
   have hown := hMW.own i (by omega) (by omega)
   refine At.start ?_
   obtain ⟨bY, eL, gH, eM, gJ⟩ := aP.get (i) (by omega) (by omega) (sz := 1) rfl
   refine At.rd dW 7 [[], [], [], [.ad bY], [.ld (.int .i64 (gI eb i))], [], [.as_ (.bool false)]] [(75, .bool false), (74, .bool (decide ((gI eb i : Int) ≥ 0))), (73, .int .i64 (gI eb i)), (72, .pointer (some (bY.add ((i : Int).toNat * 1)))), (71, .int .i64 (i)), (70, .slice aA eb.length aD), (69, .bool ((gI g.ow (i) : Int) == 0))] [(aA = some bY), (0 ≤ (i : Int)), ((i : Int) < (eb.length : Nat)), (bW.cell? (bY.add ((i : Int).toNat * 1)) = some (.int .i64 (gI eb i))), ((.bool (!(((gI g.ow (i) : Int) == 0) == (decide ((gI eb i : Int) ≥ 0)))) : Value) = .bool false)] (by kernel_rfl) ⟨eL, (by omega), (by omega), eM, (congrArg Value.bool (nxbF (by first | (rw [Bool.eq_iff_iff]; simp only [beq_iff_eq, decide_eq_true_eq]; omega) | (rw [eq_comm]; refine decide_eq_false ?_; omega) | (rw [eq_comm, decide_eq_false_iff_not]; omega)))), trivial⟩ (fun gK dX => ?_)
   clear dW
   refine At.done rfl ?_
   refine t_n ?_
   have cK := dX.sub (r := [(75, .bool false), (67, .bool ((gI g.ow (i) : Int) == 0)), (66, .int .i64 (gI g.ow (i))), (65, .pointer (some (bU.add ((i : Int).toNat * 1)))), (64, .int .i64 (i)), (63, .slice Ag0 g.ow.length cg0), (62, .pointer (some ⟨w.heap.size, 0, none⟩)), (10, .int .i64 (i)), (8, .pointer (some ⟨aB.heap.size, 0, none⟩)), (7, .slice aA eb.length aD), (6, .slice aC ea.length aF), (1, .pointer (some ⟨w.heap.size, 0, none⟩))]) ⟨rfl, rfl, rfl, rfl, rfl, rfl, rfl, rfl, rfl, rfl, rfl, rfl, trivial⟩
   clear dX
   refine cond_F cK rfl ?_
   refine wp_skip ?_
   refine b_n ?_
   refine t_n ?_
   refine At.start ?_
   refine At.rd cK 3 [[], [.as_ (.int .i64 (i + 1))], []] [(10, .int .i64 (i + 1)), (55, .int .i64 (i + 1)), (54, .int .i64 (i))] [((.int .i64 (IntKind.i64.wrap (i + 1)) : Value) = .int .i64 (i + 1))] (by kernel_rfl) ⟨(w64 (by omega) (by omega)), trivial⟩ (fun gL eN => ?_)
   clear cK
   refine At.done rfl ?_
   refine t_n ?_
   have eO := eN.sub (r := [(10, .int .i64 (i + 1)), (8, .pointer (some ⟨aB.heap.size, 0, none⟩)), (7, .slice aA eb.length aD), (6, .slice aC ea.length aF), (1, .pointer (some ⟨w.heap.size, 0, none⟩))]) ⟨rfl, rfl, rfl, rfl, rfl, trivial⟩
   exact ⟨_, (by omega), (i + 1), rfl, eO, aW, aX, aM, aY, aP, bJ, bR, bE, (by omega), (by omega), (by omega), (by omega)⟩
  have gM := of_decide_eq_false bT
  refine At.rd bX 10 [[], [.as_ (.bool false)], [], [], [], [], [], [], [], []] [(11, .bool false), (68, .bool false), (67, undef), (66, undef), (65, undef), (64, undef), (63, undef), (62, undef), (61, .bool false), (60, .bool (decide (((wa.count i : Int) : Int) > 0)))] [((.bool (decide (((wa.count i : Int) : Int) > 0)) : Value) = .bool false)] (by kernel_rfl) ⟨(congrArg Value.bool bT), trivial⟩ (fun gN dY => ?_)
  clear bX
  refine At.done rfl ?_
  refine t_n ?_
  have dZ := dY.sub (r := [(11, .bool false), (10, .int .i64 (i)), (8, .pointer (some ⟨aB.heap.size, 0, none⟩)), (7, .slice aA eb.length aD), (6, .slice aC ea.length aF), (1, .pointer (some ⟨w.heap.size, 0, none⟩))]) ⟨rfl, rfl, rfl, rfl, rfl, rfl, trivial⟩
  clear dY
  refine wp_seq ?_
  have hown := hMW.own i (by omega) (by omega)
  refine At.start ?_
  obtain ⟨bZ, eP, gO, eQ, gP⟩ := aP.get (i) (by omega) (by omega) (sz := 1) rfl
  refine At.rd dZ 7 [[], [], [], [.ad bZ], [.ld (.int .i64 (gI eb i))], [], [.as_ (.bool false)]] [(75, .bool false), (74, .bool (decide ((gI eb i : Int) ≥ 0))), (73, .int .i64 (gI eb i)), (72, .pointer (some (bZ.add ((i : Int).toNat * 1)))), (71, .int .i64 (i)), (70, .slice aA eb.length aD), (69, .bool false)] [(aA = some bZ), (0 ≤ (i : Int)), ((i : Int) < (eb.length : Nat)), (bW.cell? (bZ.add ((i : Int).toNat * 1)) = some (.int .i64 (gI eb i))), ((.bool (!(false == (decide ((gI eb i : Int) ≥ 0)))) : Value) = .bool false)] (by kernel_rfl) ⟨eP, (by omega), (by omega), eQ, (congrArg Value.bool (nxbF (by first | (rw [Bool.eq_iff_iff]; simp only [beq_iff_eq, decide_eq_true_eq]; omega) | (rw [eq_comm]; refine decide_eq_false ?_; omega) | (rw [eq_comm, decide_eq_false_iff_not]; omega)))), trivial⟩ (fun gQ cL => ?_)
  clear dZ
  refine At.done rfl ?_
  refine t_n ?_
  refine cond_F cL rfl ?_
  refine wp_skip ?_
  refine b_n ?_
  refine t_n ?_
  refine At.start ?_
  refine At.rd cL 3 [[], [.as_ (.int .i64 (i + 1))], []] [(10, .int .i64 (i + 1)), (55, .int .i64 (i + 1)), (54, .int .i64 (i))] [((.int .i64 (IntKind.i64.wrap (i + 1)) : Value) = .int .i64 (i + 1))] (by kernel_rfl) ⟨(w64 (by omega) (by omega)), trivial⟩ (fun gR eR => ?_)
  clear cL
  refine At.done rfl ?_
  refine t_n ?_
  have eS := eR.sub (r := [(10, .int .i64 (i + 1)), (8, .pointer (some ⟨aB.heap.size, 0, none⟩)), (7, .slice aA eb.length aD), (6, .slice aC ea.length aF), (1, .pointer (some ⟨w.heap.size, 0, none⟩))]) ⟨rfl, rfl, rfl, rfl, rfl, trivial⟩
  exact ⟨_, (by omega), (i + 1), rfl, eS, aW, aX, aM, aY, aP, bJ, bR, bE, (by omega), (by omega), (by omega), (by omega)⟩
 have gS := of_decide_eq_false cJ
 refine wp_exit ?_
 refine t_e ?_
 clear hm195
 refine t_e ?_
 refine b_e ?_
 refine t_n ?_
 clear bJ; clear bR; clear bE
 refine wp_seq ?_
 refine At.start ?_
 refine At.rd bS 3 [[.ld (.slice Ag0 g.ow.length cg0), .ld (.slice Ag1 g.pr.length cg1), .ld (.slice Ag2 g.mv.length cg2)], [], []] [(78, .slice aA eb.length aD), (77, .slice aC ea.length aF), (76, .agg #[.slice Ag0 g.ow.length cg0, .slice Ag1 g.pr.length cg1, .slice Ag2 g.mv.length cg2])] [(bQ.cell? ⟨w.heap.size, 0, none⟩ = some (.slice Ag0 g.ow.length cg0)), (bQ.cell? ⟨w.heap.size, 1, none⟩ = some (.slice Ag1 g.pr.length cg1)), (bQ.cell? ⟨w.heap.size, 2, none⟩ = some (.slice Ag2 g.mv.length cg2))] (by kernel_rfl) ⟨(aM.cell (i := 0) rfl), (aM.cell (i := 1) rfl), (aM.cell (i := 2) rfl), trivial⟩ (fun gT eA => ?_)
 clear bS
 refine At.call eA 35 #[.agg #[.slice Ag0 g.ow.length cg0, .slice Ag1 g.pr.length cg1, .slice Ag2 g.mv.length cg2], .slice aC ea.length aF, .slice aA eb.length aD, .int .i64 (0)] (some 79) (by kernel_rfl) (wins_any (g := g) (lr := ea) (lm := eb) (p := 0) (aX.wide (Nat.zero_le _) (by omega)) (aY.rdI0 (by first | omega | (simp only [List.length_cons, List.length_nil]; omega) | (simp; done) | (simp; omega))) (aP.rdI0 (by first | omega | (simp only [List.length_cons, List.length_nil]; omega) | (simp; done) | (simp; omega))) hR hMW.wins) ?_
 rintro e_ gU ⟨rfl, he⟩
 refine ⟨_, rfl, _, rfl, fun gV eB => ?_⟩
 clear eA; have bF := gr_ext he; have := bF.size; replace aW := aW.gn bF; replace aX := aX.gn bF; replace aM := aM.gn bF; replace aY := aY.gn bF; replace aP := aP.gn bF; clear bF he
 refine At.rd eB 1 [[]] [(2, .bool true)] [] (by kernel_rfl) trivial (fun gW eT => ?_)
 clear eB
 refine At.done rfl ?_
 refine t_n ?_
 clear aM; clear aY; clear aP
 refine wp_ret ?_
 refine ret_ eT [] [.bool true] [] (by kernel_rfl) trivial ?_
 exact ⟨rfl, aW⟩

end Go.Proofs.Ytklbpajmoklheaa
