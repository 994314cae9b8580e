/-
  A walk of a Go function, printed by a program of this repo. Conditions: what the theorems name.
-/
import Derived.Test.YtplpgfcjjnaigaaDoorPureDecW
import Derived.Test.YtplpgfcjjnaigaaDoorWSetsP
import Derived.Test.YtplpgfcjjnaigaaDoorWRight2
import Derived.Test.YtplpgfcjjnaigaaDoorWAttract
set_option linter.unusedVariables false
set_option linter.unusedSimpArgs false
namespace Go.Proofs.YtplpgfcjjnaigaaDoor
open Go Go.RowKit

attribute [local irreducible] ofZ fromW wordsD ofD ofW lsD lenW lenN fullW withW lessW hasW hasD inW inD leastD putD onI tzI orS andS minusS orD andD minusD fullD emptyD
set_option maxHeartbeats 4000000 in
theorem top_any {Ag0 Ag1 Ag2 : Option Addr} {cg0 cg1 cg2 : Nat} {g : GameL} {s : List Int} {w : World} (rg : RdG w 0 w.heap.size Ag0 Ag1 Ag2 cg0 cg1 cg2 g) (hs : OkW s) (rT : RdT w 0 w.heap.size) (hR : isR g = true) (hlt : ∀ i, inP s i → i < (g.ow.length : Int)) (hne : ∃ i, inP s i) :
    Calls Tryd.prog 39 #[.agg #[.slice Ag0 g.ow.length cg0, .slice Ag1 g.pr.length cg1, .slice Ag2 g.mv.length cg2], .agg ((s : List Int).map wV).toArray] w fun e w' => ∃ ts hh, e = .returned (.agg ((ts : List Int).map wV).toArray) ∧ Ext w w' ∧ TopT g s ts hh := by
 have hlg0 := rg.ow.len; have hlg1 := rg.pr.len; have hlg2 := rg.mv.len; have hkg0 := rg.k0; have hkg1 := rg.k1; have hkg2 := rg.k2; have hls := hs.1; have hG := isR_ok hR; have hn1 := hG.n1; have hpl := hG.pl; have hOl := ls_len (fromW s) 256
 refine enter_ (args := [.agg #[.slice Ag0 g.ow.length cg0, .slice Ag1 g.pr.length cg1, .slice Ag2 g.mv.length cg2], .agg ((s : List Int).map wV).toArray]) Tryd.func39 rfl Tryd.ntmps39 (Nat.le_of_ble_eq_true rfl) (fun act0 f0 => ?_)
 have e0 : Ext w w := Ext.refl w
 refine wp_seq ?_
 refine At.start ?_
 refine At.seq f0 1 [[]] [(2, .pointer (some ⟨w.heap.size, 0, none⟩))] (w.alloc (.cells #[.slice Ag0 g.ow.length cg0, .slice Ag1 g.pr.length cg1, .slice Ag2 g.mv.length cg2] 25 (0, 0))) [] (by kernel_rfl) trivial (fun act4 w1 hw2 f3 => ?_)
 clear f0; have g5 := gr_alloc hw2; have := g5.size; replace e0 := e0.gn g5; have r8 := rg.gn g5; clear rg; have r9 := rT.gn g5; clear rT; have aK : Bx w1 (w.heap.size) [.slice Ag0 g.ow.length cg0, .slice Ag1 g.pr.length cg1, .slice Ag2 g.mv.length cg2] 25 := Bx.new hw2; have := aK.lt; clear g5 hw2
 refine At.seq f3 1 [[]] [(3, .pointer (some ⟨w1.heap.size, 0, none⟩))] (w1.alloc (.cells ((s : List Int).map wV).toArray 44 (0, 0))) [] (by kernel_rfl) trivial (fun dB aJ bI bP => ?_)
 clear f3; have aZ := gr_alloc bI; have := aZ.size; replace e0 := e0.gn aZ; replace r8 := r8.gn aZ; replace r9 := r9.gn aZ; replace aK := aK.gn aZ; have aM : Bx aJ (w1.heap.size) ((s : List Int).map wV) 44 := Bx.new bI; have := aM.lt; clear aZ bI
 refine At.seq bP 1 [[]] [(4, .pointer (some ⟨aJ.heap.size, 0, none⟩))] (aJ.alloc (.cells ((List.replicate 4 (0 : Int) : List Int).map wV).toArray 44 (0, 0))) [] (by kernel_rfl) trivial (fun dC aC bJ bQ => ?_)
 clear bP; have aX := gr_alloc bJ; have := aX.size; replace e0 := e0.gn aX; replace r8 := r8.gn aX; replace r9 := r9.gn aX; replace aK := aK.gn aX; replace aM := aM.gn aX; have aY : Bx aC (aJ.heap.size) ((List.replicate 4 (0 : Int) : List Int).map wV) 44 := Bx.new bJ; have := aY.lt; clear aX bJ
 refine At.done rfl ?_
 refine t_n ?_
 refine wp_seq ?_
 refine At.start ?_
 refine At.rd bQ 1 [[]] [(5, .int .i64 (-1))] [] (by kernel_rfl) trivial (fun dD bR => ?_)
 clear bQ
 refine At.done rfl ?_
 refine t_n ?_
 refine wp_seq ?_
 refine At.start ?_
 refine At.seq bR 1 [[]] [(6, .pointer (some ⟨aC.heap.size, 0, none⟩))] (aC.alloc (.cells ((List.replicate 4 (0 : Int) : List Int).map wV).toArray 44 (0, 0))) [] (by kernel_rfl) trivial (fun dE bF bK bS => ?_)
 clear bR; have aV := gr_alloc bK; have := aV.size; replace e0 := e0.gn aV; replace r8 := r8.gn aV; replace r9 := r9.gn aV; replace aK := aK.gn aV; replace aM := aM.gn aV; replace aY := aY.gn aV; have bB : Bx bF (aC.heap.size) ((List.replicate 4 (0 : Int) : List Int).map wV) 44 := Bx.new bK; have := bB.lt; clear aV bK
 refine At.done rfl ?_
 refine t_n ?_
 refine wp_seq ?_
 refine wp_seq ?_
 refine At.start ?_
 refine At.rd bS 1 [[.cs ((s : List Int).map wV)]] [(10, .agg ((s : List Int).map wV).toArray)] [(((s : List Int).map wV).length = 4), (∀ (j : Nat) (v : Value), ((s : List Int).map wV)[j]? = some v → bF.cell? ((⟨w1.heap.size, 0, none⟩ : Addr).add j) = some v)] (by kernel_rfl) ⟨((List.length_map _).trans (by assumption)), aM.whole, trivial⟩ (fun dF bT => ?_)
 clear bS
 refine At.call bT 43 #[.agg ((s : List Int).map wV).toArray] (some 11) (by kernel_rfl) (list_any (s := s) (by assumption) (r9.wide (Nat.zero_le _) (by omega))) ?_
 rintro e_ dG ⟨aQ, aW, rfl, he, bU⟩
 have := ls_len (fromW s) 256
 refine ⟨_, rfl, _, rfl, fun dH bV => ?_⟩
 clear bT; have aR := gr_ext he; have := aR.size; replace e0 := e0.gn aR; replace r8 := r8.gn aR; replace r9 := r9.gn aR; replace aK := aK.gn aR; replace aM := aM.gn aR; replace aY := aY.gn aR; replace bB := bB.gn aR; clear aR he
 refine At.rd bV 2 [[], []] [(13, .int .i64 (0)), (12, .int .i64 ((((lsD (fromW s) 256).length : Nat) : Int)))] [] (by kernel_rfl) trivial (fun dI bW => ?_)
 clear bV
 refine At.done rfl ?_
 refine t_n ?_
 refine wp_block ?_
 have bX := bW.sub (r := [(13, .int .i64 (0)), (5, .int .i64 (-1)), (12, .int .i64 ((((lsD (fromW s) 256).length : Nat) : Int))), (11, .slice aQ ((lsD (fromW s) 256).length) aW), (6, .pointer (some ⟨aC.heap.size, 0, none⟩)), (4, .pointer (some ⟨aJ.heap.size, 0, none⟩)), (2, .pointer (some ⟨w.heap.size, 0, none⟩))]) ⟨rfl, rfl, rfl, rfl, rfl, rfl, rfl, trivial⟩
 refine loop_g (fun (m_ : Nat) a_ w_ => ∃ (k : Int) (ts : List Int) (hh : Int), m_ = (((lsD (fromW s) 256).length : Int) - k).toNat ∧ (Frm 39 a_ [(13, .int .i64 (k)), (5, .int .i64 (hh)), (12, .int .i64 ((((lsD (fromW s) 256).length : Nat) : Int))), (11, .slice aQ ((lsD (fromW s) 256).length) aW), (6, .pointer (some ⟨aC.heap.size, 0, none⟩)), (4, .pointer (some ⟨aJ.heap.size, 0, none⟩)), (2, .pointer (some ⟨w.heap.size, 0, none⟩))]) ∧ (Ext w w_) ∧ (RdG w_ 0 w.heap.size Ag0 Ag1 Ag2 cg0 cg1 cg2 g) ∧ (RdT w_ 0 w.heap.size) ∧ (Bx w_ (w.heap.size) [.slice Ag0 g.ow.length cg0, .slice Ag1 g.pr.length cg1, .slice Ag2 g.mv.length cg2] 25) ∧ (Bx w_ (w1.heap.size) ((s : List Int).map wV) 44) ∧ (Bx w_ (aJ.heap.size) ((List.replicate 4 (0 : Int) : List Int).map wV) 44) ∧ (Bx w_ (aC.heap.size) ((ts : List Int).map wV) 44) ∧ (OwnR w_ (Sx (bF.heap.size) []) aQ aW 3 ((lsD (fromW s) 256) : List Int)) ∧ (0 ≤ k) ∧ (k ≤ ((lsD (fromW s) 256).length : Int)) ∧ (TopK g s ts hh k) ∧ (ts.length = 4) ∧ (bF.heap.size ≤ w_.heap.size)) _ ⟨0, List.replicate 4 (0 : Int), -1, rfl, bX, e0, r8, r9, aK, aM, aY, bB, bU, (by omega), (by omega), topK_0, rfl, (by omega)⟩ ?_
 clear bX bW; clear r8; clear r9; clear aK; clear aM; clear aY; clear bB; clear bU; clear e0
 intro m_ dJ aS ⟨k, ts, hh, hm72, bY, aA, aD, aI, aB, aE, aF, aG, aH, i81, i82, htk, i83, i84⟩
 have := aA.size; have := aB.lt; have := aE.lt; have := aF.lt; have := aG.lt; have hok_ := htk.ok
 refine wp_seq ?_
 refine At.start ?_
 refine At.rd bY 1 [[]] [(14, .bool (decide ((k : Int) < (((lsD (fromW s) 256).length : Nat) : Int))))] [] (by kernel_rfl) trivial (fun dK bC => ?_)
 clear bY
 refine At.done rfl ?_
 refine t_n ?_
 refine wp_seq ?_
 refine cond_S bC (t := decide ((k : Int) < (((lsD (fromW s) 256).length : Nat) : Int))) rfl (fun bL => ?_) (fun bL => ?_)
 ·have dL := of_decide_eq_true bL
  refine wp_skip ?_
  refine t_n ?_
  refine wp_seq ?_
  refine wp_block ?_
  refine wp_seq ?_
  have hir := ls_rg (l := fromW s) (k := k) (by omega) (by omega); have hi1 := hir.1; have hi2 := hlt _ hir
  refine At.start ?_
  obtain ⟨bG, cM, dM, cN, dN⟩ := aH.get (k) (by omega) (by omega) (sz := 1) rfl
  refine At.rd bC 3 [[.ad bG], [.ld (.int .i64 (gI (lsD (fromW s) 256) k))], []] [(8, .int .i64 (gI (lsD (fromW s) 256) k)), (16, .int .i64 (gI (lsD (fromW s) 256) k)), (15, .pointer (some (bG.add ((k : Int).toNat * 1))))] [(aQ = some bG), (0 ≤ (k : Int)), ((k : Int) < ((lsD (fromW s) 256).length : Nat)), (aS.cell? (bG.add ((k : Int).toNat * 1)) = some (.int .i64 (gI (lsD (fromW s) 256) k)))] (by kernel_rfl) ⟨cM, (by omega), (by omega), cN, trivial⟩ (fun dO bZ => ?_)
  clear bC
  refine At.done rfl ?_
  refine t_n ?_
  refine wp_seq ?_
  refine At.start ?_
  obtain ⟨bH, cO, _, _, cP⟩ := RdI.get aD.pr (gI (lsD (fromW s) 256) k) (by omega) (by omega)
  refine At.rd bZ 6 [[], [.ld (.slice Ag1 g.pr.length cg1)], [], [.ad bH], [.ld (.int .i64 (gI g.pr (gI (lsD (fromW s) 256) k)))], []] [(9, .int .i64 (gI g.pr (gI (lsD (fromW s) 256) k))), (21, .int .i64 (gI g.pr (gI (lsD (fromW s) 256) k))), (20, .pointer (some (bH.add ((gI (lsD (fromW s) 256) k : Int).toNat * 1)))), (19, .int .i64 (gI (lsD (fromW s) 256) k)), (18, .slice Ag1 g.pr.length cg1), (17, .pointer (some ⟨w.heap.size, 1, none⟩))] [(aS.cell? ⟨w.heap.size, 1, none⟩ = some (.slice Ag1 g.pr.length cg1)), (Ag1 = some bH), (0 ≤ (gI (lsD (fromW s) 256) k : Int)), ((gI (lsD (fromW s) 256) k : Int) < (g.pr.length : Nat)), (aS.cell? (bH.add ((gI (lsD (fromW s) 256) k : Int).toNat * 1)) = some (.int .i64 (gI g.pr (gI (lsD (fromW s) 256) k))))] (by kernel_rfl) ⟨(aB.cell (i := 1) rfl), cO, (by omega), (by omega), cP, trivial⟩ (fun dP cA => ?_)
  clear bZ
  refine At.done rfl ?_
  refine t_n ?_
  refine wp_block ?_
  refine wp_seq ?_
  refine At.start ?_
  refine At.rd cA 4 [[], [], [], []] [(22, .bool (decide ((gI g.pr (gI (lsD (fromW s) 256) k) : Int) > hh))), (25, .bool (decide ((gI g.pr (gI (lsD (fromW s) 256) k) : Int) > hh))), (24, .int .i64 (hh)), (23, .int .i64 (gI g.pr (gI (lsD (fromW s) 256) k)))] [] (by kernel_rfl) trivial (fun dQ bD => ?_)
  clear cA
  refine At.done rfl ?_
  refine t_n ?_
  refine cond_S bD (t := decide ((gI g.pr (gI (lsD (fromW s) 256) k) : Int) > hh)) rfl (fun bM => ?_) (fun bM => ?_)
  ·have dR := of_decide_eq_true bM
   refine At.start ?_
   refine At.rd bD 2 [[], []] [(27, .int .i64 (gI (lsD (fromW s) 256) k)), (26, .int .i64 (gI g.pr (gI (lsD (fromW s) 256) k)))] [] (by kernel_rfl) trivial (fun dS cB => ?_)
   clear bD
   refine At.seq cB 1 [[]] [(28, .slice (some ⟨aS.heap.size, 0, none⟩) 1 1)] (aS.alloc (.cells #[.int .i64 (gI (lsD (fromW s) 256) k)] 3 (0, 0))) [] (by kernel_rfl) trivial (fun dT cQ bN cC => ?_)
   clear cB; have aN := gr_alloc bN; have := aN.size; replace aA := aA.gn aN; replace aD := aD.gn aN; replace aI := aI.gn aN; replace aB := aB.gn aN; replace aE := aE.gn aN; replace aF := aF.gn aN; replace aG := aG.gn aN; replace aH := aH.grN aN; have bA : Bx cQ (aS.heap.size) [.int .i64 (gI (lsD (fromW s) 256) k)] 3 := Bx.new bN; have := bA.lt; clear aN bN
   refine At.call cC 22 #[.slice (some ⟨aS.heap.size, 0, none⟩) 1 1] (some 29) (by kernel_rfl) (of_any (la := ([gI (lsD (fromW s) 256) k] : List Int)) (Bx.rdI (l := ([gI (lsD (fromW s) 256) k] : List Int)) bA rfl (by first | decide | exact Nat.le_of_ble_eq_true rfl))) ?_
   rintro e_ dU ⟨rfl, he⟩
   refine ⟨_, rfl, _, rfl, fun dV cD => ?_⟩
   clear cC; have aL := gr_ext he; have := aL.size; replace aA := aA.gn aL; replace aD := aD.gn aL; replace aI := aI.gn aL; replace aB := aB.gn aL; replace aE := aE.gn aL; replace aF := aF.gn aL; replace aG := aG.gn aL; replace aH := aH.gn aL; replace bA := bA.gn aL; clear aL he
   refine At.rd cD 1 [[]] [(5, .int .i64 (gI g.pr (gI (lsD (fromW s) 256) k)))] [] (by kernel_rfl) trivial (fun dW cE => ?_)
   clear cD
   refine At.act cE (storeBlk (t := 44) (b := aC.heap.size) (n := 4) (cs' := ((ofW ([gI (lsD (fromW s) 256) k] : List Int) : List Int).map wV)) (by kernel_rfl) (by kernel_rfl) ((List.length_map _).trans (okLen (ofW_ok _))) oneW_ ((show ((ofW ([gI (lsD (fromW s) 256) k] : List Int) : List Int).map wV).length = 4 from ((List.length_map _).trans (okLen (ofW_ok _)))).trans (show ((ts : List Int).map wV).length = 4 from ((List.length_map _).trans (by assumption))).symm) aG) ?_
   rintro d_ v_ dX ⟨rfl, aO, cR⟩
   refine ⟨_, rfl, fun dY cF => ?_⟩
   clear cE; have := aO.size; replace aA := aA.gr aO (fun k h => by injection h; omega); replace aD := aD.gb aO (by omega); replace aI := aI.gb aO (by omega); replace aB := aB.gb aO (by omega); replace aE := aE.gb aO (by omega); replace aF := aF.gb aO (by omega); replace aH := aH.gr aO (fun k hk e => by have := Sx_base hk; injection e; omega); replace bA := bA.gb aO (by omega); clear aG aO
   refine At.done rfl ?_
   refine b_n ?_
   refine b_n ?_
   refine t_n ?_
   have cG := cF.sub (r := [(5, .int .i64 (gI g.pr (gI (lsD (fromW s) 256) k))), (13, .int .i64 (k)), (12, .int .i64 ((((lsD (fromW s) 256).length : Nat) : Int))), (11, .slice aQ ((lsD (fromW s) 256).length) aW), (6, .pointer (some ⟨aC.heap.size, 0, none⟩)), (4, .pointer (some ⟨aJ.heap.size, 0, none⟩)), (2, .pointer (some ⟨w.heap.size, 0, none⟩))]) ⟨rfl, rfl, rfl, rfl, rfl, rfl, rfl, trivial⟩
   clear cF
   refine At.start ?_
   refine At.rd cG 2 [[.as_ (.int .i64 (k + 1))], []] [(13, .int .i64 (k + 1)), (37, .int .i64 (k + 1))] [((.int .i64 (IntKind.i64.wrap (k + 1)) : Value) = .int .i64 (k + 1))] (by kernel_rfl) ⟨(w64 (by omega) (by omega)), trivial⟩ (fun dZ cS => ?_)
   clear cG
   refine At.done rfl ?_
   refine t_n ?_
   have cT := cS.sub (r := [(13, .int .i64 (k + 1)), (5, .int .i64 (gI g.pr (gI (lsD (fromW s) 256) k))), (12, .int .i64 ((((lsD (fromW s) 256).length : Nat) : Int))), (11, .slice aQ ((lsD (fromW s) 256).length) aW), (6, .pointer (some ⟨aC.heap.size, 0, none⟩)), (4, .pointer (some ⟨aJ.heap.size, 0, none⟩)), (2, .pointer (some ⟨w.heap.size, 0, none⟩))]) ⟨rfl, rfl, rfl, rfl, rfl, rfl, rfl, trivial⟩
   exact ⟨_, (by omega), (k + 1), ofW ([gI (lsD (fromW s) 256) k] : List Int), gI g.pr (gI (lsD (fromW s) 256) k), rfl, cT, aA, aD, aI, aB, aE, aF, cR, (aH.imp (fun g _ hs => hs.2)), (by omega), (by omega), (topK_new htk (by omega) (by omega) (by omega)), (ofW_ok _).1, (by omega)⟩
  have eA := of_decide_eq_false bM
  refine wp_seq ?_
  refine At.start ?_
  refine At.rd bD 4 [[], [], [], []] [(30, .bool ((gI g.pr (gI (lsD (fromW s) 256) k) : Int) == hh)), (33, .bool ((gI g.pr (gI (lsD (fromW s) 256) k) : Int) == hh)), (32, .int .i64 (hh)), (31, .int .i64 (gI g.pr (gI (lsD (fromW s) 256) k)))] [] (by kernel_rfl) trivial (fun eB cH => ?_)
  clear bD
  refine At.done rfl ?_
  refine t_n ?_
  have bE := cH.sub (r := [(30, .bool ((gI g.pr (gI (lsD (fromW s) 256) k) : Int) == hh)), (8, .int .i64 (gI (lsD (fromW s) 256) k)), (13, .int .i64 (k)), (5, .int .i64 (hh)), (12, .int .i64 ((((lsD (fromW s) 256).length : Nat) : Int))), (11, .slice aQ ((lsD (fromW s) 256).length) aW), (6, .pointer (some ⟨aC.heap.size, 0, none⟩)), (4, .pointer (some ⟨aJ.heap.size, 0, none⟩)), (2, .pointer (some ⟨w.heap.size, 0, none⟩))]) ⟨rfl, rfl, rfl, rfl, rfl, rfl, rfl, rfl, rfl, trivial⟩
  clear cH
  refine cond_S bE (t := (gI g.pr (gI (lsD (fromW s) 256) k) : Int) == hh) rfl (fun bO => ?_) (fun bO => ?_)
  ·have eC := eq_of_beq bO
   refine At.start ?_
   refine At.rd bE 2 [[.cs ((ts : List Int).map wV)], []] [(35, .int .i64 (gI (lsD (fromW s) 256) k)), (34, .agg ((ts : List Int).map wV).toArray)] [(((ts : List Int).map wV).length = 4), (∀ (j : Nat) (v : Value), ((ts : List Int).map wV)[j]? = some v → aS.cell? ((⟨aC.heap.size, 0, none⟩ : Addr).add j) = some v)] (by kernel_rfl) ⟨((List.length_map _).trans (by assumption)), aG.whole, trivial⟩ (fun eD cI => ?_)
   clear bE
   refine At.call cI 25 #[.agg ((ts : List Int).map wV).toArray, .int .i64 (gI (lsD (fromW s) 256) k)] (some 36) (by kernel_rfl) (with_any (s := ts) (n := gI (lsD (fromW s) 256) k) (by assumption)) ?_
   rintro e_ eE ⟨rfl, he⟩
   refine ⟨_, rfl, _, rfl, fun eF cJ => ?_⟩
   clear cI; have aP := gr_ext he; have := aP.size; replace aA := aA.gn aP; replace aD := aD.gn aP; replace aI := aI.gn aP; replace aB := aB.gn aP; replace aE := aE.gn aP; replace aF := aF.gn aP; replace aG := aG.gn aP; replace aH := aH.gn aP; clear aP he
   refine At.act cJ (storeBlk (t := 44) (b := aC.heap.size) (n := 4) (cs' := ((withW ts (gI (lsD (fromW s) 256) k) : List Int).map wV)) (by kernel_rfl) (by kernel_rfl) ((List.length_map _).trans (okLen (okW_with (by assumption)))) oneW_ ((show ((withW ts (gI (lsD (fromW s) 256) k) : List Int).map wV).length = 4 from ((List.length_map _).trans (okLen (okW_with (by assumption))))).trans (show ((ts : List Int).map wV).length = 4 from ((List.length_map _).trans (by assumption))).symm) aG) ?_
   rintro d_ v_ eG ⟨rfl, aT, cU⟩
   refine ⟨_, rfl, fun eH cK => ?_⟩
   clear cJ; have := aT.size; replace aA := aA.gr aT (fun k h => by injection h; omega); replace aD := aD.gb aT (by omega); replace aI := aI.gb aT (by omega); replace aB := aB.gb aT (by omega); replace aE := aE.gb aT (by omega); replace aF := aF.gb aT (by omega); replace aH := aH.gr aT (fun k hk e => by have := Sx_base hk; injection e; omega); clear aG aT
   refine At.done rfl ?_
   refine b_n ?_
   refine b_n ?_
   refine t_n ?_
   refine At.start ?_
   refine At.rd cK 2 [[.as_ (.int .i64 (k + 1))], []] [(13, .int .i64 (k + 1)), (37, .int .i64 (k + 1))] [((.int .i64 (IntKind.i64.wrap (k + 1)) : Value) = .int .i64 (k + 1))] (by kernel_rfl) ⟨(w64 (by omega) (by omega)), trivial⟩ (fun eI cV => ?_)
   clear cK
   refine At.done rfl ?_
   refine t_n ?_
   have cW := cV.sub (r := [(13, .int .i64 (k + 1)), (5, .int .i64 (hh)), (12, .int .i64 ((((lsD (fromW s) 256).length : Nat) : Int))), (11, .slice aQ ((lsD (fromW s) 256).length) aW), (6, .pointer (some ⟨aC.heap.size, 0, none⟩)), (4, .pointer (some ⟨aJ.heap.size, 0, none⟩)), (2, .pointer (some ⟨w.heap.size, 0, none⟩))]) ⟨rfl, rfl, rfl, rfl, rfl, rfl, rfl, trivial⟩
   exact ⟨_, (by omega), (k + 1), withW ts (gI (lsD (fromW s) 256) k), hh, rfl, cW, aA, aD, aI, aB, aE, aF, cU, aH, (by omega), (by omega), (topK_more htk (by omega) (by omega) (by omega)), (okW_with htk.ok).1, (by omega)⟩
  have eJ := ne_of_beq_false bO
  refine wp_skip ?_
  refine b_n ?_
  refine b_n ?_
  refine t_n ?_
  refine At.start ?_
  refine At.rd bE 2 [[.as_ (.int .i64 (k + 1))], []] [(13, .int .i64 (k + 1)), (37, .int .i64 (k + 1))] [((.int .i64 (IntKind.i64.wrap (k + 1)) : Value) = .int .i64 (k + 1))] (by kernel_rfl) ⟨(w64 (by omega) (by omega)), trivial⟩ (fun eK cX => ?_)
  clear bE
  refine At.done rfl ?_
  refine t_n ?_
  have cY := cX.sub (r := [(13, .int .i64 (k + 1)), (5, .int .i64 (hh)), (12, .int .i64 ((((lsD (fromW s) 256).length : Nat) : Int))), (11, .slice aQ ((lsD (fromW s) 256).length) aW), (6, .pointer (some ⟨aC.heap.size, 0, none⟩)), (4, .pointer (some ⟨aJ.heap.size, 0, none⟩)), (2, .pointer (some ⟨w.heap.size, 0, none⟩))]) ⟨rfl, rfl, rfl, rfl, rfl, rfl, rfl, trivial⟩
  exact ⟨_, (by omega), (k + 1), ts, hh, rfl, cY, aA, aD, aI, aB, aE, aF, aG, aH, (by omega), (by omega), (topK_skip hG hlt htk (by omega) (by omega) (by omega) (by omega)), htk.ok.1, (by omega)⟩
 have eL := of_decide_eq_false bL
 refine wp_exit ?_
 refine t_e ?_
 refine t_e ?_
 refine b_e ?_
 refine t_n ?_
 refine wp_seq ?_
 refine At.start ?_
 refine At.rd bC 1 [[.cs ((ts : List Int).map wV)]] [(38, .agg ((ts : List Int).map wV).toArray)] [(((ts : List Int).map wV).length = 4), (∀ (j : Nat) (v : Value), ((ts : List Int).map wV)[j]? = some v → aS.cell? ((⟨aC.heap.size, 0, none⟩ : Addr).add j) = some v)] (by kernel_rfl) ⟨((List.length_map _).trans (by assumption)), aG.whole, trivial⟩ (fun eM cL => ?_)
 clear bC
 refine At.act cL (storeBlk (t := 44) (b := aJ.heap.size) (n := 4) (cs' := ((ts : List Int).map wV)) (by kernel_rfl) (by kernel_rfl) ((List.length_map _).trans (by assumption)) oneW_ ((show ((ts : List Int).map wV).length = 4 from ((List.length_map _).trans (by assumption))).trans (show ((List.replicate 4 (0 : Int) : List Int).map wV).length = 4 from (by simp only [List.length_map, List.length_set, List.length_replicate, List.length_cons, List.length_nil]; first | done | assumption | exact from_len _ | exact of_len _ | exact ofZ_len _ | exact (ofW_ok _).1 | exact (fullW_W _).1 | exact (okW_with (by assumption)).1 | exact (okW_less (by assumption)).1 | exact put_len (from_len _) | exact orD_len _ _ | exact andD_len _ _ | exact minusD_len _ _ | exact fullD_len _ | (refine okLen ?_; (repeat (first | assumption | exact ofW_ok _ | exact fullW_W _ | apply okW_with | apply okW_less | refine okW_orS ?_ ?_ | refine okW_andS ?_ ?_ | refine okW_minusS ?_ ?_)); done) | omega | rfl)).symm) aF) ?_
 rintro d_ v_ eN ⟨rfl, aU, cZ⟩
 refine ⟨_, rfl, fun eO dA => ?_⟩
 clear cL; have := aU.size; replace aA := aA.gr aU (fun k h => by injection h; omega); replace aD := aD.gb aU (by omega); replace aI := aI.gb aU (by omega); replace aB := aB.gb aU (by omega); replace aE := aE.gb aU (by omega); replace aG := aG.gb aU (by omega); replace aH := aH.gr aU (fun k hk e => by have := Sx_base hk; injection e; omega); clear aF aU
 refine At.done rfl ?_
 refine t_n ?_
 refine wp_ret ?_
 refine retB_ dA (sl := 4) (cs := ((ts : List Int).map wV)) (m := 4) rfl (by kernel_rfl) (by kernel_rfl) ((List.length_map _).trans (by assumption)) cZ ?_
 exact ⟨_, hh, rfl, aA, top_end htk (by omega) hne⟩

set_option maxHeartbeats 4000000 in
theorem keep0_any {M N A : Option Addr} {c c2 cl nn n2 bm lo : Nat} {la mm : List Int} {w : World} (rl : RdI w lo w.heap.size A la) (hbm : Bx w bm [.slice M nn c, .slice N n2 c2] 29) (hm : OwnR w (SxP (fun k => obk M = some k) [some bm]) M c 3 mm) (hlo : ∀ k, obk M = some k → k < lo) (hnn : nn = mm.length) (hll : la.length ≤ mm.length) :
    Calls Tryd.prog 37 #[.int .i64 (0), .slice A la.length cl, .pointer (some ⟨bm, 0, none⟩)] w fun e w' => e = .returned (.tuple #[]) ∧ Tch (fun k => obk M = some k) w w' ∧ ∃ m' : List Int, OwnR w' (fun _ => True) M c 3 m' ∧ KeepT la mm m' := by
 have q0 := hm.toP (n := w.heap.size) (os := [some bm]) (fun _ _ hs => hs); have hla := rl.len; have hbl := hbm.lt
 refine enter_ (args := [.int .i64 (0), .slice A la.length cl, .pointer (some ⟨bm, 0, none⟩)]) Tryd.func37 rfl Tryd.ntmps37 (Nat.le_of_ble_eq_true rfl) (fun act0 f0 => ?_)
 have e0 : Tch (fun k => obk M = some k) w w := Tch.refl w
 refine wp_seq ?_
 refine At.start ?_
 refine At.rd f0 3 [[], [], []] [(9, .int .i64 (0)), (8, .int .i64 (((la.length : Nat) : Int))), (7, .slice A la.length cl)] [] (by kernel_rfl) trivial (fun act2 f1 => ?_)
 clear f0
 refine At.done rfl ?_
 refine t_n ?_
 refine wp_block ?_
 have f3 := f1.sub (r := [(9, .int .i64 (0)), (8, .int .i64 (((la.length : Nat) : Int))), (7, .slice A la.length cl), (0, .int .i64 (0)), (2, .pointer (some ⟨bm, 0, none⟩))]) ⟨rfl, rfl, rfl, rfl, rfl, trivial⟩
 refine loop_g (fun (m_ : Nat) a_ w_ => ∃ (k : Int) (xs : List Int), m_ = ((la.length : Int) - k).toNat ∧ (Frm 23 a_ [(9, .int .i64 (k)), (8, .int .i64 (((la.length : Nat) : Int))), (7, .slice A la.length cl), (0, .int .i64 (0)), (2, .pointer (some ⟨bm, 0, none⟩))]) ∧ (Tch (fun k => obk M = some k) w w_) ∧ (RdI w_ lo w.heap.size A la) ∧ (Bx w_ (bm) [.slice M xs.length c, .slice N n2 c2] 29) ∧ (OwnR w_ (SxP (orN (fun k => obk M = some k) w.heap.size) [some bm]) M c 3 (xs : List Int)) ∧ (0 ≤ k) ∧ (k ≤ (la.length : Int)) ∧ (KeepK la mm xs k) ∧ (xs.length = mm.length)) _ ⟨0, (mm : List Int), rfl, f3, e0, rl, (hbm.as (by first | rfl | (simp only [List.cons.injEq, Value.slice.injEq, true_and, and_true]; omega))), q0, (by omega), (by omega), keepK_0, rfl⟩ ?_
 clear f3 f1; clear rl; clear hbm; clear q0; clear e0
 intro m_ act4 w5 ⟨k, xs, hm7, f8, e6, r9, aB, aA, i12, i13, hkk, i14⟩
 have := e6.size; have := aB.lt
 refine wp_seq ?_
 refine At.start ?_
 refine At.rd f8 1 [[]] [(10, .bool (decide ((k : Int) < ((la.length : Nat) : Int))))] [] (by kernel_rfl) trivial (fun aU aE => ?_)
 clear f8
 refine At.done rfl ?_
 refine t_n ?_
 refine wp_seq ?_
 refine cond_S aE (t := decide ((k : Int) < ((la.length : Nat) : Int))) rfl (fun aH => ?_) (fun aH => ?_)
 ·have aV := of_decide_eq_true aH
  refine wp_skip ?_
  refine t_n ?_
  refine wp_seq ?_
  refine wp_block ?_
  refine wp_seq ?_
  refine At.start ?_
  obtain ⟨aF, aN, _, _, aO⟩ := RdI.get r9 (k) (by omega) (by omega)
  refine At.rd aE 5 [[], [.ad aF], [.ld (.int .i64 (gI la (k)))], [], []] [(6, .int .i64 (gI la (k))), (5, .int .i64 (k)), (13, .int .i64 (gI la (k))), (12, .pointer (some (aF.add ((k : Int).toNat * 1)))), (11, .int .i64 (k))] [(A = some aF), (0 ≤ (k : Int)), ((k : Int) < (la.length : Nat)), (w5.cell? (aF.add ((k : Int).toNat * 1)) = some (.int .i64 (gI la (k))))] (by kernel_rfl) ⟨aN, (by omega), (by omega), aO, trivial⟩ (fun aW aJ => ?_)
  clear aE
  refine At.done rfl ?_
  refine t_n ?_
  refine wp_seq ?_
  refine At.start ?_
  refine At.rd aJ 2 [[], []] [(15, .bool (decide ((gI la (k) : Int) ≥ 0))), (14, .int .i64 (gI la (k)))] [] (by kernel_rfl) trivial (fun aX aC => ?_)
  clear aJ
  refine At.done rfl ?_
  refine t_n ?_
  refine cond_S aC (t := decide ((gI la (k) : Int) ≥ 0)) rfl (fun aI => ?_) (fun aI => ?_)
  ·have aY := of_decide_eq_true aI
   refine At.start ?_
   obtain ⟨aG, aK, aZ, bA, bB⟩ := aA.get (k) (by omega) (by omega) (sz := 1) rfl
   refine At.rd aC 6 [[], [], [.ld (.slice M xs.length c)], [], [], [.ad aG]] [(21, .pointer (some (aG.add ((k : Int).toNat * 1)))), (20, .int .i64 (gI la (k))), (19, .int .i64 (k)), (18, .slice M xs.length c), (17, .pointer (some ⟨bm, 0, none⟩)), (16, .int .i64 (0))] [(0 ≤ (0 : Int)), ((0 : Int) < (2 : Nat)), (w5.cell? ⟨bm, 0, none⟩ = some (.slice M xs.length c)), (M = some aG), (0 ≤ (k : Int)), ((k : Int) < (xs.length : Nat))] (by kernel_rfl) ⟨(by decide), (by decide), (aB.cell (i := 0) rfl), aK, (by omega), (by omega), trivial⟩ (fun bC aL => ?_)
   clear aC
   refine At.act aL (storeR (α := Int) (t := 3) (i := k) (ad := aG) (v := .int .i64 (gI la (k))) (gI la (k)) (by kernel_rfl) rfl rfl (by kernel_rfl) aK aA (by omega) (by omega)) ?_
   rintro d_ v_ bD ⟨rfl, aD, aP⟩
   refine ⟨_, rfl, fun bE aM => ?_⟩
   clear aL; have bF : ((xs).set (k : Int).toNat (gI la (k))).length = (xs).length := List.length_set; have := aD.size; replace e6 := e6.gr aD (fun k hk => (aA.inS k hk).2); replace r9 := r9.gr aD (fun k hk => .inl (hlo k hk)); replace aB := aB.gr aD (aA.neb (fun g hs => hs.1)); clear aA aD
   refine At.done rfl ?_
   refine b_n ?_
   refine t_n ?_
   refine At.start ?_
   refine At.rd aM 2 [[.as_ (.int .i64 (k + 1))], []] [(9, .int .i64 (k + 1)), (22, .int .i64 (k + 1))] [((.int .i64 (IntKind.i64.wrap (k + 1)) : Value) = .int .i64 (k + 1))] (by kernel_rfl) ⟨(w64 (by omega) (by omega)), trivial⟩ (fun bG aQ => ?_)
   clear aM
   refine At.done rfl ?_
   refine t_n ?_
   have aR := aQ.sub (r := [(9, .int .i64 (k + 1)), (8, .int .i64 (((la.length : Nat) : Int))), (7, .slice A la.length cl), (0, .int .i64 (0)), (2, .pointer (some ⟨bm, 0, none⟩))]) ⟨rfl, rfl, rfl, rfl, rfl, trivial⟩
   exact ⟨_, (by omega), (k + 1), ((xs).set (k : Int).toNat (gI la (k)) : List Int), rfl, aR, e6, r9, (aB.as (by first | rfl | (simp only [List.length_set]; done) | (simp; done) | (simp only [List.cons.injEq, Value.slice.injEq, true_and, and_true]; omega))), aP, (by omega), (by omega), (keepK_yes hkk (by omega) (by omega) (by omega)), (by rw [List.length_set]; exact hkk.1)⟩
  have bH := of_decide_eq_false aI
  refine wp_skip ?_
  refine b_n ?_
  refine t_n ?_
  refine At.start ?_
  refine At.rd aC 2 [[.as_ (.int .i64 (k + 1))], []] [(9, .int .i64 (k + 1)), (22, .int .i64 (k + 1))] [((.int .i64 (IntKind.i64.wrap (k + 1)) : Value) = .int .i64 (k + 1))] (by kernel_rfl) ⟨(w64 (by omega) (by omega)), trivial⟩ (fun bI aS => ?_)
  clear aC
  refine At.done rfl ?_
  refine t_n ?_
  have aT := aS.sub (r := [(9, .int .i64 (k + 1)), (8, .int .i64 (((la.length : Nat) : Int))), (7, .slice A la.length cl), (0, .int .i64 (0)), (2, .pointer (some ⟨bm, 0, none⟩))]) ⟨rfl, rfl, rfl, rfl, rfl, trivial⟩
  exact ⟨_, (by omega), (k + 1), (xs : List Int), rfl, aT, e6, r9, aB, aA, (by omega), (by omega), (keepK_no hkk (by omega)), hkk.1⟩
 have bJ := of_decide_eq_false aH
 refine wp_exit ?_
 refine t_e ?_
 refine t_e ?_
 refine b_e ?_
 refine end_ aE [] [] [] (by kernel_rfl) trivial ?_
 exact ⟨rfl, e6, _, aA.imp (fun _ _ _ => trivial), keepK_end hkk (by omega)⟩

set_option maxHeartbeats 4000000 in
theorem keep1_any {M N A : Option Addr} {c c2 cl nn n2 bm lo : Nat} {la mm : List Int} {w : World} (rl : RdI w lo w.heap.size A la) (hbm : Bx w bm [.slice N n2 c2, .slice M nn c] 29) (hm : OwnR w (SxP (fun k => obk M = some k) [some bm]) M c 3 mm) (hlo : ∀ k, obk M = some k → k < lo) (hnn : nn = mm.length) (hll : la.length ≤ mm.length) :
    Calls Tryd.prog 37 #[.int .i64 (1), .slice A la.length cl, .pointer (some ⟨bm, 0, none⟩)] w fun e w' => e = .returned (.tuple #[]) ∧ Tch (fun k => obk M = some k) w w' ∧ ∃ m' : List Int, OwnR w' (fun _ => True) M c 3 m' ∧ KeepT la mm m' := by
 have q0 := hm.toP (n := w.heap.size) (os := [some bm]) (fun _ _ hs => hs); have hla := rl.len; have hbl := hbm.lt
 refine enter_ (args := [.int .i64 (1), .slice A la.length cl, .pointer (some ⟨bm, 0, none⟩)]) Tryd.func37 rfl Tryd.ntmps37 (Nat.le_of_ble_eq_true rfl) (fun act0 f0 => ?_)
 have e0 : Tch (fun k => obk M = some k) w w := Tch.refl w
 refine wp_seq ?_
 refine At.start ?_
 refine At.rd f0 3 [[], [], []] [(9, .int .i64 (0)), (8, .int .i64 (((la.length : Nat) : Int))), (7, .slice A la.length cl)] [] (by kernel_rfl) trivial (fun act2 f1 => ?_)
 clear f0
 refine At.done rfl ?_
 refine t_n ?_
 refine wp_block ?_
 have f3 := f1.sub (r := [(9, .int .i64 (0)), (8, .int .i64 (((la.length : Nat) : Int))), (7, .slice A la.length cl), (0, .int .i64 (1)), (2, .pointer (some ⟨bm, 0, none⟩))]) ⟨rfl, rfl, rfl, rfl, rfl, trivial⟩
 refine loop_g (fun (m_ : Nat) a_ w_ => ∃ (k : Int) (xs : List Int), m_ = ((la.length : Int) - k).toNat ∧ (Frm 23 a_ [(9, .int .i64 (k)), (8, .int .i64 (((la.length : Nat) : Int))), (7, .slice A la.length cl), (0, .int .i64 (1)), (2, .pointer (some ⟨bm, 0, none⟩))]) ∧ (Tch (fun k => obk M = some k) w w_) ∧ (RdI w_ lo w.heap.size A la) ∧ (Bx w_ (bm) [.slice N n2 c2, .slice M xs.length c] 29) ∧ (OwnR w_ (SxP (orN (fun k => obk M = some k) w.heap.size) [some bm]) M c 3 (xs : List Int)) ∧ (0 ≤ k) ∧ (k ≤ (la.length : Int)) ∧ (KeepK la mm xs k) ∧ (xs.length = mm.length)) _ ⟨0, (mm : List Int), rfl, f3, e0, rl, (hbm.as (by first | rfl | (simp only [List.cons.injEq, Value.slice.injEq, true_and, and_true]; omega))), q0, (by omega), (by omega), keepK_0, rfl⟩ ?_
 clear f3 f1; clear rl; clear hbm; clear q0; clear e0
 intro m_ act4 w5 ⟨k, xs, hm7, f8, e6, r9, aB, aA, i12, i13, hkk, i14⟩
 have := e6.size; have := aB.lt
 refine wp_seq ?_
 refine At.start ?_
 refine At.rd f8 1 [[]] [(10, .bool (decide ((k : Int) < ((la.length : Nat) : Int))))] [] (by kernel_rfl) trivial (fun aU aE => ?_)
 clear f8
 refine At.done rfl ?_
 refine t_n ?_
 refine wp_seq ?_
 refine cond_S aE (t := decide ((k : Int) < ((la.length : Nat) : Int))) rfl (fun aH => ?_) (fun aH => ?_)
 ·have aV := of_decide_eq_true aH
  refine wp_skip ?_
  refine t_n ?_
  refine wp_seq ?_
  refine wp_block ?_
  refine wp_seq ?_
  refine At.start ?_
  obtain ⟨aF, aN, _, _, aO⟩ := RdI.get r9 (k) (by omega) (by omega)
  refine At.rd aE 5 [[], [.ad aF], [.ld (.int .i64 (gI la (k)))], [], []] [(6, .int .i64 (gI la (k))), (5, .int .i64 (k)), (13, .int .i64 (gI la (k))), (12, .pointer (some (aF.add ((k : Int).toNat * 1)))), (11, .int .i64 (k))] [(A = some aF), (0 ≤ (k : Int)), ((k : Int) < (la.length : Nat)), (w5.cell? (aF.add ((k : Int).toNat * 1)) = some (.int .i64 (gI la (k))))] (by kernel_rfl) ⟨aN, (by omega), (by omega), aO, trivial⟩ (fun aW aJ => ?_)
  clear aE
  refine At.done rfl ?_
  refine t_n ?_
  refine wp_seq ?_
  refine At.start ?_
  refine At.rd aJ 2 [[], []] [(15, .bool (decide ((gI la (k) : Int) ≥ 0))), (14, .int .i64 (gI la (k)))] [] (by kernel_rfl) trivial (fun aX aC => ?_)
  clear aJ
  refine At.done rfl ?_
  refine t_n ?_
  refine cond_S aC (t := decide ((gI la (k) : Int) ≥ 0)) rfl (fun aI => ?_) (fun aI => ?_)
  ·have aY := of_decide_eq_true aI
   refine At.start ?_
   obtain ⟨aG, aK, aZ, bA, bB⟩ := aA.get (k) (by omega) (by omega) (sz := 1) rfl
   refine At.rd aC 6 [[], [], [.ld (.slice M xs.length c)], [], [], [.ad aG]] [(21, .pointer (some (aG.add ((k : Int).toNat * 1)))), (20, .int .i64 (gI la (k))), (19, .int .i64 (k)), (18, .slice M xs.length c), (17, .pointer (some ⟨bm, 1, none⟩)), (16, .int .i64 (1))] [(0 ≤ (1 : Int)), ((1 : Int) < (2 : Nat)), (w5.cell? ⟨bm, 1, none⟩ = some (.slice M xs.length c)), (M = some aG), (0 ≤ (k : Int)), ((k : Int) < (xs.length : Nat))] (by kernel_rfl) ⟨(by decide), (by decide), (aB.cell (i := 1) rfl), aK, (by omega), (by omega), trivial⟩ (fun bC aL => ?_)
   clear aC
   refine At.act aL (storeR (α := Int) (t := 3) (i := k) (ad := aG) (v := .int .i64 (gI la (k))) (gI la (k)) (by kernel_rfl) rfl rfl (by kernel_rfl) aK aA (by omega) (by omega)) ?_
   rintro d_ v_ bD ⟨rfl, aD, aP⟩
   refine ⟨_, rfl, fun bE aM => ?_⟩
   clear aL; have bF : ((xs).set (k : Int).toNat (gI la (k))).length = (xs).length := List.length_set; have := aD.size; replace e6 := e6.gr aD (fun k hk => (aA.inS k hk).2); replace r9 := r9.gr aD (fun k hk => .inl (hlo k hk)); replace aB := aB.gr aD (aA.neb (fun g hs => hs.1)); clear aA aD
   refine At.done rfl ?_
   refine b_n ?_
   refine t_n ?_
   refine At.start ?_
   refine At.rd aM 2 [[.as_ (.int .i64 (k + 1))], []] [(9, .int .i64 (k + 1)), (22, .int .i64 (k + 1))] [((.int .i64 (IntKind.i64.wrap (k + 1)) : Value) = .int .i64 (k + 1))] (by kernel_rfl) ⟨(w64 (by omega) (by omega)), trivial⟩ (fun bG aQ => ?_)
   clear aM
   refine At.done rfl ?_
   refine t_n ?_
   have aR := aQ.sub (r := [(9, .int .i64 (k + 1)), (8, .int .i64 (((la.length : Nat) : Int))), (7, .slice A la.length cl), (0, .int .i64 (1)), (2, .pointer (some ⟨bm, 0, none⟩))]) ⟨rfl, rfl, rfl, rfl, rfl, trivial⟩
   exact ⟨_, (by omega), (k + 1), ((xs).set (k : Int).toNat (gI la (k)) : List Int), rfl, aR, e6, r9, (aB.as (by first | rfl | (simp only [List.length_set]; done) | (simp; done) | (simp only [List.cons.injEq, Value.slice.injEq, true_and, and_true]; omega))), aP, (by omega), (by omega), (keepK_yes hkk (by omega) (by omega) (by omega)), (by rw [List.length_set]; exact hkk.1)⟩
  have bH := of_decide_eq_false aI
  refine wp_skip ?_
  refine b_n ?_
  refine t_n ?_
  refine At.start ?_
  refine At.rd aC 2 [[.as_ (.int .i64 (k + 1))], []] [(9, .int .i64 (k + 1)), (22, .int .i64 (k + 1))] [((.int .i64 (IntKind.i64.wrap (k + 1)) : Value) = .int .i64 (k + 1))] (by kernel_rfl) ⟨(w64 (by omega) (by omega)), trivial⟩ (fun bI aS => ?_)
  clear aC
  refine At.done rfl ?_
  refine t_n ?_
  have aT := aS.sub (r := [(9, .int .i64 (k + 1)), (8, .int .i64 (((la.length : Nat) : Int))), (7, .slice A la.length cl), (0, .int .i64 (1)), (2, .pointer (some ⟨bm, 0, none⟩))]) ⟨rfl, rfl, rfl, rfl, rfl, trivial⟩
  exact ⟨_, (by omega), (k + 1), (xs : List Int), rfl, aT, e6, r9, aB, aA, (by omega), (by omega), (keepK_no hkk (by omega)), hkk.1⟩
 have bJ := of_decide_eq_false aH
 refine wp_exit ?_
 refine t_e ?_
 refine t_e ?_
 refine b_e ?_
 refine end_ aE [] [] [] (by kernel_rfl) trivial ?_
 exact ⟨rfl, e6, _, aA.imp (fun _ _ _ => trivial), keepK_end hkk (by omega)⟩

end Go.Proofs.YtplpgfcjjnaigaaDoor
