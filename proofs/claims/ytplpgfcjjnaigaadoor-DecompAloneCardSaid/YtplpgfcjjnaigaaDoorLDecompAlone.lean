/-
  A walk of a Go function, printed by a program of this repo. Conditions: what the theorems name.
-/
import Derived.Test.YtplpgfcjjnaigaaDoorWShown13
import Derived.Test.YtplpgfcjjnaigaaDoorWCopyM
import Derived.Test.YtplpgfcjjnaigaaDoorPureLaw13A
set_option linter.unusedVariables false
set_option linter.unusedSimpArgs false
namespace Go.Proofs.YtplpgfcjjnaigaaDoor
open Go Go.RowKit

attribute [local irreducible] ofZ fromW wordsD ofD ofW lsD lenW lenN fullW withW lessW hasW hasD inW inD leastD putD onI tzI orS andS minusS orD andD minusD fullD emptyD
set_option maxHeartbeats 4000000 in
theorem alone13_any {Ag0 Ag1 Ag2 : Option Addr} {cg0 cg1 cg2 : Nat} {g : GameL} {p : Int} {w : World} (rg : RdG w 0 w.heap.size Ag0 Ag1 Ag2 cg0 cg1 cg2 g) (rT : RdT w 0 w.heap.size) :
    Calls Tryd.prog 7 #[.agg #[.slice Ag0 g.ow.length cg0, .slice Ag1 g.pr.length cg1, .slice Ag2 g.mv.length cg2], .int .i64 (p)] w fun e w' => e = .returned (.bool true) ∧ Ext w w' := by
 have hlg0 := rg.ow.len; have hlg1 := rg.pr.len; have hlg2 := rg.mv.len; have hkg0 := rg.k0; have hkg1 := rg.k1; have hkg2 := rg.k2
 refine enter_ (args := [.agg #[.slice Ag0 g.ow.length cg0, .slice Ag1 g.pr.length cg1, .slice Ag2 g.mv.length cg2], .int .i64 (p)]) Tryd.func7 rfl Tryd.ntmps7 (Nat.le_of_ble_eq_true rfl) (fun act0 f0 => ?_)
 have e0 : Ext w w := Ext.refl w
 refine wp_seq ?_
 refine At.start ?_
 refine At.seq f0 1 [[]] [(2, .pointer (some ⟨w.heap.size, 0, none⟩))] (w.alloc (.cells #[.slice Ag0 g.ow.length cg0, .slice Ag1 g.pr.length cg1, .slice Ag2 g.mv.length cg2] 25 (0, 0))) [] (by kernel_rfl) trivial (fun act4 w1 hw2 f3 => ?_)
 clear f0; have g5 := gr_alloc hw2; have := g5.size; replace e0 := e0.gn g5; have r8 := rg.gn g5; clear rg; have r9 := rT.gn g5; clear rT; have bV : Bx w1 (w.heap.size) [.slice Ag0 g.ow.length cg0, .slice Ag1 g.pr.length cg1, .slice Ag2 g.mv.length cg2] 25 := Bx.new hw2; have := bV.lt; clear g5 hw2
 refine At.rd f3 1 [[]] [(4, .bool false)] [] (by kernel_rfl) trivial (fun oY iK => ?_)
 clear f3
 refine At.done rfl ?_
 refine t_n ?_
 refine wp_seq ?_
 refine At.start ?_
 refine At.call iK 12 #[] (some 21) (by kernel_rfl) (shown13_any (r9.wide (Nat.zero_le _) (by omega))) ?_
 rintro e_ gZ ⟨rfl, he⟩
 refine ⟨_, rfl, _, rfl, fun oZ iL => ?_⟩
 clear iK; have eP := gr_ext he; have := eP.size; replace e0 := e0.gn eP; replace r8 := r8.gn eP; replace r9 := r9.gn eP; replace bV := bV.gn eP; clear eP he
 refine At.rd iL 1 [[]] [(5, .bool true)] [] (by kernel_rfl) trivial (fun pA iM => ?_)
 clear iL
 refine At.done rfl ?_
 refine t_n ?_
 refine wp_seq ?_
 refine At.start ?_
 refine At.rd iM 1 [[.ld (.slice Ag0 g.ow.length cg0), .ld (.slice Ag1 g.pr.length cg1), .ld (.slice Ag2 g.mv.length cg2)]] [(23, .agg #[.slice Ag0 g.ow.length cg0, .slice Ag1 g.pr.length cg1, .slice Ag2 g.mv.length cg2])] [(gZ.cell? ⟨w.heap.size, 0, none⟩ = some (.slice Ag0 g.ow.length cg0)), (gZ.cell? ⟨w.heap.size, 1, none⟩ = some (.slice Ag1 g.pr.length cg1)), (gZ.cell? ⟨w.heap.size, 2, none⟩ = some (.slice Ag2 g.mv.length cg2))] (by kernel_rfl) ⟨(bV.cell (i := 0) rfl), (bV.cell (i := 1) rfl), (bV.cell (i := 2) rfl), trivial⟩ (fun pB iN => ?_)
 clear iM
 refine At.call iN 21 #[.agg #[.slice Ag0 g.ow.length cg0, .slice Ag1 g.pr.length cg1, .slice Ag2 g.mv.length cg2]] (some 24) (by kernel_rfl) (right_any (r8.wide (Nat.zero_le _) (by omega))) ?_
 rintro e_ hA ⟨rfl, he⟩
 refine ⟨_, rfl, _, rfl, fun pC iO => ?_⟩
 clear iN; have eQ := gr_ext he; have := eQ.size; replace e0 := e0.gn eQ; replace r8 := r8.gn eQ; replace r9 := r9.gn eQ; replace bV := bV.gn eQ; clear eQ he
 refine At.rd iO 5 [[], [], [], [], []] [(7, .int .i64 ((rightP g).2)), (6, .int .i64 ((rightP g).1)), (26, .int .i64 ((rightP g).2)), (25, .int .i64 ((rightP g).1)), (22, .tuple #[.int .i64 ((rightP g).1), .int .i64 ((rightP g).2)])] [] (by kernel_rfl) trivial (fun pD dW => ?_)
 clear iO
 refine At.done rfl ?_
 refine t_n ?_
 refine wp_seq (cut (fun a_ w_ => (Frm 170 a_ [(2, .pointer (some ⟨w.heap.size, 0, none⟩)), (1, .int .i64 (p))]) ∧ (Ext w w_) ∧ (RdG w_ 0 w.heap.size Ag0 Ag1 Ag2 cg0 cg1 cg2 g) ∧ (RdT w_ 0 w.heap.size) ∧ (Bx w_ (w.heap.size) [.slice Ag0 g.ow.length cg0, .slice Ag1 g.pr.length cg1, .slice Ag2 g.mv.length cg2] 25) ∧ ((rightP g).2 = 0) ∧ (p = 0 ∨ p = 1) ∧ (g.ow.length ≤ 40) ∧ (hA.heap.size ≤ w_.heap.size)) ?_ ?_)
 ·refine wp_seq ?_
  refine At.start ?_
  rcases Bool.eq_false_or_eq_true (((rightP g).2 : Int) != 0) with eH | eH
  ·have pE := bne_iff_ne.1 eH
   refine At.rd dW 20 [[], [], [], [], [], [], [.as_ (.bool true)], [], [], [], [], [], [], [], [], [], [], [], [], []] [(46, .bool true), (45, undef), (44, undef), (43, undef), (42, undef), (41, .bool true), (40, .bool true), (39, undef), (38, undef), (37, undef), (36, undef), (35, undef), (34, undef), (33, .bool true), (32, .bool (((rightP g).2 : Int) != 0)), (31, .bool (((rightP g).2 : Int) != 0)), (30, .int .i64 ((rightP g).2)), (29, .bool false), (28, .bool false), (27, .bool true)] [((.bool (((rightP g).2 : Int) != 0) : Value) = .bool true)] (by kernel_rfl) ⟨(congrArg Value.bool eH), trivial⟩ (fun pF hB => ?_)
   clear dW
   refine At.done rfl ?_
   refine t_n ?_
   refine cond_T hB rfl ?_
   refine wp_seq ?_
   refine At.start ?_
   refine At.rd hB 2 [[], []] [(4, .bool true), (47, .bool true)] [] (by kernel_rfl) trivial (fun pG mI => ?_)
   clear hB
   refine At.done rfl ?_
   refine t_n ?_
   refine wp_ret ?_
   refine t_r ?_
   refine ret_ mI [] [.bool true] [] (by kernel_rfl) trivial ?_
   exact ⟨rfl, e0⟩
  have pH := bne_eq_false_iff_eq.1 eH
  rcases Bool.eq_false_or_eq_true ((p : Int) != 0) with eR | eR
  ·have pI := bne_iff_ne.1 eR
   rcases Bool.eq_false_or_eq_true ((p : Int) != 1) with fF | fF
   ·have pJ := bne_iff_ne.1 fF
    refine At.rd dW 20 [[], [], [], [], [], [], [.as_ (.bool false)], [], [], [.as_ (.bool true)], [], [], [], [], [.as_ (.bool true)], [], [], [], [], []] [(46, .bool true), (45, undef), (44, undef), (43, undef), (42, undef), (41, .bool true), (40, .bool ((p : Int) != 1)), (39, .bool ((p : Int) != 1)), (38, .bool ((p : Int) != 1)), (37, .int .i64 (p)), (36, .bool true), (35, .bool ((p : Int) != 0)), (34, .int .i64 (p)), (33, .bool false), (32, .bool (((rightP g).2 : Int) != 0)), (31, .bool (((rightP g).2 : Int) != 0)), (30, .int .i64 ((rightP g).2)), (29, .bool false), (28, .bool false), (27, .bool true)] [((.bool (((rightP g).2 : Int) != 0) : Value) = .bool false), ((.bool ((p : Int) != 0) : Value) = .bool true), ((.bool ((p : Int) != 1) : Value) = .bool true)] (by kernel_rfl) ⟨(congrArg Value.bool eH), (congrArg Value.bool eR), (congrArg Value.bool fF), trivial⟩ (fun pK hC => ?_)
    clear dW
    refine At.done rfl ?_
    refine t_n ?_
    refine cond_T hC rfl ?_
    refine wp_seq ?_
    refine At.start ?_
    refine At.rd hC 2 [[], []] [(4, .bool true), (47, .bool true)] [] (by kernel_rfl) trivial (fun pL mJ => ?_)
    clear hC
    refine At.done rfl ?_
    refine t_n ?_
    refine wp_ret ?_
    refine t_r ?_
    refine ret_ mJ [] [.bool true] [] (by kernel_rfl) trivial ?_
    exact ⟨rfl, e0⟩
   have pM := bne_eq_false_iff_eq.1 fF
   refine At.rd dW 20 [[], [], [], [], [], [], [.as_ (.bool false)], [], [], [.as_ (.bool true)], [], [], [], [], [.as_ (.bool false)], [], [.ld (.slice Ag0 g.ow.length cg0)], [], [], []] [(46, .bool (decide ((((g.ow.length : Nat) : Int) : Int) > 40))), (45, .bool (decide ((((g.ow.length : Nat) : Int) : Int) > 40))), (44, .int .i64 (((g.ow.length : Nat) : Int))), (43, .slice Ag0 g.ow.length cg0), (42, .pointer (some ⟨w.heap.size, 0, none⟩)), (41, .bool false), (40, .bool ((p : Int) != 1)), (39, .bool ((p : Int) != 1)), (38, .bool ((p : Int) != 1)), (37, .int .i64 (p)), (36, .bool true), (35, .bool ((p : Int) != 0)), (34, .int .i64 (p)), (33, .bool false), (32, .bool (((rightP g).2 : Int) != 0)), (31, .bool (((rightP g).2 : Int) != 0)), (30, .int .i64 ((rightP g).2)), (29, .bool false), (28, .bool false), (27, .bool true)] [((.bool (((rightP g).2 : Int) != 0) : Value) = .bool false), ((.bool ((p : Int) != 0) : Value) = .bool true), ((.bool ((p : Int) != 1) : Value) = .bool false), (hA.cell? ⟨w.heap.size, 0, none⟩ = some (.slice Ag0 g.ow.length cg0))] (by kernel_rfl) ⟨(congrArg Value.bool eH), (congrArg Value.bool eR), (congrArg Value.bool fF), (bV.cell (i := 0) rfl), trivial⟩ (fun pN gE => ?_)
   clear dW
   refine At.done rfl ?_
   refine t_n ?_
   refine cond_S gE (t := decide ((((g.ow.length : Nat) : Int) : Int) > 40)) rfl (fun hD => ?_) (fun hD => ?_)
   ·have pO := of_decide_eq_true hD
    refine wp_seq ?_
    refine At.start ?_
    refine At.rd gE 2 [[], []] [(4, .bool true), (47, .bool true)] [] (by kernel_rfl) trivial (fun pP mK => ?_)
    clear gE
    refine At.done rfl ?_
    refine t_n ?_
    refine wp_ret ?_
    refine t_r ?_
    refine ret_ mK [] [.bool true] [] (by kernel_rfl) trivial ?_
    exact ⟨rfl, e0⟩
   have pQ := of_decide_eq_false hD
   refine wp_skip ?_
   refine t_n ?_
   have mL := gE.sub (r := [(2, .pointer (some ⟨w.heap.size, 0, none⟩)), (1, .int .i64 (p))]) ⟨rfl, rfl, trivial⟩
   exact ⟨mL, e0, r8, r9, bV, (by omega), (by omega), (by omega), (by omega)⟩
  have pR := bne_eq_false_iff_eq.1 eR
  refine At.rd dW 20 [[], [], [], [], [], [], [.as_ (.bool false)], [], [], [.as_ (.bool false)], [], [], [], [], [], [], [.ld (.slice Ag0 g.ow.length cg0)], [], [], []] [(46, .bool (decide ((((g.ow.length : Nat) : Int) : Int) > 40))), (45, .bool (decide ((((g.ow.length : Nat) : Int) : Int) > 40))), (44, .int .i64 (((g.ow.length : Nat) : Int))), (43, .slice Ag0 g.ow.length cg0), (42, .pointer (some ⟨w.heap.size, 0, none⟩)), (41, .bool false), (40, .bool false), (39, .bool false), (38, undef), (37, undef), (36, .bool false), (35, .bool ((p : Int) != 0)), (34, .int .i64 (p)), (33, .bool false), (32, .bool (((rightP g).2 : Int) != 0)), (31, .bool (((rightP g).2 : Int) != 0)), (30, .int .i64 ((rightP g).2)), (29, .bool false), (28, .bool false), (27, .bool true)] [((.bool (((rightP g).2 : Int) != 0) : Value) = .bool false), ((.bool ((p : Int) != 0) : Value) = .bool false), (hA.cell? ⟨w.heap.size, 0, none⟩ = some (.slice Ag0 g.ow.length cg0))] (by kernel_rfl) ⟨(congrArg Value.bool eH), (congrArg Value.bool eR), (bV.cell (i := 0) rfl), trivial⟩ (fun pS gF => ?_)
  clear dW
  refine At.done rfl ?_
  refine t_n ?_
  refine cond_S gF (t := decide ((((g.ow.length : Nat) : Int) : Int) > 40)) rfl (fun hE => ?_) (fun hE => ?_)
  ·have q63 := of_decide_eq_true hE
   refine wp_seq ?_
   refine At.start ?_
   refine At.rd gF 2 [[], []] [(4, .bool true), (47, .bool true)] [] (by kernel_rfl) trivial (fun pT mM => ?_)
   clear gF
   refine At.done rfl ?_
   refine t_n ?_
   refine wp_ret ?_
   refine t_r ?_
   refine ret_ mM [] [.bool true] [] (by kernel_rfl) trivial ?_
   exact ⟨rfl, e0⟩
  have pU := of_decide_eq_false hE
  refine wp_skip ?_
  refine t_n ?_
  have mN := gF.sub (r := [(2, .pointer (some ⟨w.heap.size, 0, none⟩)), (1, .int .i64 (p))]) ⟨rfl, rfl, trivial⟩
  exact ⟨mN, e0, r8, r9, bV, (by omega), (by omega), (by omega), (by omega)⟩
 clear r8; clear r9; clear bV; clear dW e0
 intro pV aH ⟨iP, cW, cJ, dL, bF, i75, i76, i77, i78⟩
 have := cW.size; have := bF.lt
 refine wp_seq ?_
 have hR : isR g = true := right_of2 (by omega); have hG := isR_ok hR; have hn1 := hG.n1; have hn0 := hG.n0; have hpl := hG.pl; have hml := hG.ml
 have hp : p = 0 ∨ p = 1 := by omega
 refine At.start ?_
 refine At.rd iP 4 [[], [.ld (.slice Ag0 g.ow.length cg0)], [], []] [(8, .int .i64 (((g.ow.length : Nat) : Int))), (50, .int .i64 (((g.ow.length : Nat) : Int))), (49, .slice Ag0 g.ow.length cg0), (48, .pointer (some ⟨w.heap.size, 0, none⟩))] [(aH.cell? ⟨w.heap.size, 0, none⟩ = some (.slice Ag0 g.ow.length cg0))] (by kernel_rfl) ⟨(bF.cell (i := 0) rfl), trivial⟩ (fun pW iQ => ?_)
 clear iP
 refine At.done rfl ?_
 refine t_n ?_
 refine wp_seq ?_
 refine At.start ?_
 refine At.rd iQ 1 [[.ld (.slice Ag0 g.ow.length cg0), .ld (.slice Ag1 g.pr.length cg1), .ld (.slice Ag2 g.mv.length cg2)]] [(51, .agg #[.slice Ag0 g.ow.length cg0, .slice Ag1 g.pr.length cg1, .slice Ag2 g.mv.length cg2])] [(aH.cell? ⟨w.heap.size, 0, none⟩ = some (.slice Ag0 g.ow.length cg0)), (aH.cell? ⟨w.heap.size, 1, none⟩ = some (.slice Ag1 g.pr.length cg1)), (aH.cell? ⟨w.heap.size, 2, none⟩ = some (.slice Ag2 g.mv.length cg2))] (by kernel_rfl) ⟨(bF.cell (i := 0) rfl), (bF.cell (i := 1) rfl), (bF.cell (i := 2) rfl), trivial⟩ (fun pX iR => ?_)
 clear iQ
 refine At.call iR 24 #[.agg #[.slice Ag0 g.ow.length cg0, .slice Ag1 g.pr.length cg1, .slice Ag2 g.mv.length cg2]] (some 52) (by kernel_rfl) (copyM_any (g := g) (cJ.wide (Nat.zero_le _) (by omega))) ?_
 rintro e_ aB ⟨hF, hH, aD, aW, aE, aX, rfl, he, eA, eB, eC⟩
 have hip95 := inner_len (RdG.mv (cJ.wide (Nat.zero_le _) (by omega)))
 refine ⟨_, rfl, _, rfl, fun pY iS => ?_⟩
 clear iR; have eS := gr_ext he; have := eS.size; replace cW := cW.gn eS; replace cJ := cJ.gn eS; replace dL := dL.gn eS; replace bF := bF.gn eS; clear eS he
 refine At.seq iS 1 [[]] [(9, .pointer (some ⟨aB.heap.size, 0, none⟩))] (aB.alloc (.cells #[.slice none 0 0, .slice none 0 0, .slice none 0 0] 25 (0, 0))) [] (by kernel_rfl) trivial (fun pZ mO hI iT => ?_)
 clear iS; have dX := gr_alloc hI; have := dX.size; replace cW := cW.gn dX; replace cJ := cJ.gn dX; replace dL := dL.gn dX; replace bF := bF.gn dX; replace eA := eA.grN dX; replace eB := eB.grN dX; replace eC := eC.grN dX; have hJ : Bx mO (aB.heap.size) [.slice none 0 0, .slice none 0 0, .slice none 0 0] 25 := Bx.new hI; have := hJ.lt; clear dX hI
 refine At.store iT (t := 25) (b := aB.heap.size) (off := 0) (v := .agg #[.slice hF g.ow.length hH, .slice aD g.pr.length aW, .slice aE g.mv.length aX]) (by kernel_rfl) hJ (by kernel_rfl) (fun qA aA dY eT iU => ?_)
 clear iT; replace eT : Bx aA (aB.heap.size) [.slice hF g.ow.length hH, .slice aD g.pr.length aW, .slice aE g.mv.length aX] 25 := eT; have := dY.size; replace cW := cW.gr dY (fun k h => by injection h; omega); replace cJ := cJ.gb dY (by omega); replace dL := dL.gb dY (by omega); replace bF := bF.gb dY (by omega); replace eA := eA.gr dY (fun k hk => hk.1); replace eB := eB.gr dY (fun k hk => hk.1)
 replace eC := eC.gr dY (fun k hk => hk.1); clear hJ dY
 refine At.done rfl ?_
 refine t_n ?_
 refine wp_seq ?_
 refine At.start ?_
 refine At.seq iU 1 [[]] [(10, .pointer (some ⟨aA.heap.size, 0, none⟩))] (aA.alloc (.cells ((List.replicate 4 (0 : Int) : List Int).map wV).toArray 44 (0, 0))) [] (by kernel_rfl) trivial (fun qB mP hK iV => ?_)
 clear iU; have dM := gr_alloc hK; have := dM.size; replace cW := cW.gn dM; replace cJ := cJ.gn dM; replace dL := dL.gn dM; replace bF := bF.gn dM; replace eA := eA.grN dM; replace eB := eB.grN dM; replace eC := eC.grN dM; replace eT := eT.gn dM; have hL : Bx mP (aA.heap.size) ((List.replicate 4 (0 : Int) : List Int).map wV) 44 := Bx.new hK; have := hL.lt; clear dM hK
 refine At.done rfl ?_
 refine t_n ?_
 refine wp_seq ?_
 refine wp_seq ?_
 refine At.start ?_
 refine At.rd iV 1 [[]] [(11, .int .i64 (0))] [] (by kernel_rfl) trivial (fun qC iW => ?_)
 clear iV
 refine At.done rfl ?_
 refine t_n ?_
 refine wp_block ?_
 have iX := iW.sub (r := [(11, .int .i64 (0)), (10, .pointer (some ⟨aA.heap.size, 0, none⟩)), (9, .pointer (some ⟨aB.heap.size, 0, none⟩)), (8, .int .i64 (((g.ow.length : Nat) : Int))), (2, .pointer (some ⟨w.heap.size, 0, none⟩)), (1, .int .i64 (p))]) ⟨rfl, rfl, rfl, rfl, rfl, rfl, trivial⟩
 refine loop_g (fun (m_ : Nat) a_ w_ => ∃ (i : Int) (ws : List Int) (xo : List Int) (aC : Option Addr) (aI : Nat), m_ = ((g.ow.length : Int) - i).toNat ∧ (Frm 170 a_ [(11, .int .i64 (i)), (10, .pointer (some ⟨aA.heap.size, 0, none⟩)), (9, .pointer (some ⟨aB.heap.size, 0, none⟩)), (8, .int .i64 (((g.ow.length : Nat) : Int))), (2, .pointer (some ⟨w.heap.size, 0, none⟩)), (1, .int .i64 (p))]) ∧ (Ext w w_) ∧ (RdG w_ 0 w.heap.size Ag0 Ag1 Ag2 cg0 cg1 cg2 g) ∧ (RdT w_ 0 w.heap.size) ∧ (Bx w_ (w.heap.size) [.slice Ag0 g.ow.length cg0, .slice Ag1 g.pr.length cg1, .slice Ag2 g.mv.length cg2] 25) ∧ (OwnR w_ (Sx (aH.heap.size) [some (aA.heap.size), some (aB.heap.size), obk (aD), obk (aE)]) aC aI 3 (xo : List Int)) ∧ (OwnR w_ (Sx (aH.heap.size) [some (aA.heap.size), some (aB.heap.size), obk (aC), obk (aE)]) aD aW 3 (g.pr : List Int)) ∧ (OwnLL w_ (aH.heap.size) [some (aA.heap.size), some (aB.heap.size), obk (aC), obk (aD)] aE aX 22 3 (g.mv : List (List Int))) ∧ (Bx w_ (aB.heap.size) [.slice aC xo.length aI, .slice aD g.pr.length aW, .slice aE g.mv.length aX] 25) ∧ (Bx w_ (aA.heap.size) ((ws : List Int).map wV) 44) ∧ (0 ≤ i) ∧ (i ≤ (g.ow.length : Int)) ∧ (OneP g xo p i) ∧ (WonK g p ws i) ∧ (ws.length = 4) ∧ (xo.length = g.ow.length) ∧ (aH.heap.size ≤ w_.heap.size)) _ ⟨0, List.replicate 4 (0 : Int), (g.ow : List Int), hF, hH, rfl, iX, cW, cJ, dL, bF, eA, eB, eC, (eT.as (by first | rfl | (simp only [List.cons.injEq, Value.slice.injEq, true_and, and_true]; omega))), hL, (by omega), (by omega), oneP_0, wonK_0, rfl, rfl, (by omega)⟩ ?_
 clear iX iW; clear cJ; clear dL; clear bF; clear eA; clear eB; clear eC; clear eT; clear hL; clear cW
 intro m_ qD mQ ⟨i, ws, xo, aC, aI, hm153, iY, cK, cL, cX, bW, cY, cM, gG, bG, cN, i163, i164, hxo, hwk, i165, i166, i167⟩
 have := cK.size; have := bW.lt; have := bG.lt; have := cN.lt; have hok_ := hwk.ok
 refine wp_seq ?_
 refine wp_seq ?_
 refine At.start ?_
 refine At.rd iY 3 [[], [], []] [(55, .bool (decide ((i : Int) < ((g.ow.length : Nat) : Int)))), (54, .int .i64 (((g.ow.length : Nat) : Int))), (53, .int .i64 (i))] [] (by kernel_rfl) trivial (fun qE fG => ?_)
 clear iY
 refine At.done rfl ?_
 refine t_n ?_
 refine cond_S fG (t := decide ((i : Int) < ((g.ow.length : Nat) : Int))) rfl (fun hM => ?_) (fun hM => ?_)
 ·have qF := of_decide_eq_true hM
  refine wp_skip ?_
  refine t_n ?_
  refine wp_seq ?_
  refine wp_block ?_
  refine wp_seq ?_
  refine At.start ?_
  obtain ⟨gH, iZ, qG, qH, qI⟩ := cY.get (i) (by omega) (by omega) (sz := 1) rfl
  refine At.rd fG 5 [[], [.ld (.slice aC xo.length aI)], [], [], [.ad gH]] [(62, .pointer (some (gH.add ((i : Int).toNat * 1)))), (61, .int .i64 (p)), (60, .int .i64 (i)), (59, .slice aC xo.length aI), (58, .pointer (some ⟨aB.heap.size, 0, none⟩))] [(mQ.cell? ⟨aB.heap.size, 0, none⟩ = some (.slice aC xo.length aI)), (aC = some gH), (0 ≤ (i : Int)), ((i : Int) < (xo.length : Nat))] (by kernel_rfl) ⟨(bG.cell (i := 0) rfl), iZ, (by omega), (by omega), trivial⟩ (fun qJ jA => ?_)
  clear fG
  refine At.act jA (storeR (α := Int) (t := 3) (i := i) (ad := gH) (v := .int .i64 (p)) (p) (by kernel_rfl) rfl rfl (by kernel_rfl) iZ cY (by omega) (by omega)) ?_
  rintro d_ v_ aF ⟨rfl, dN, eD⟩
  refine ⟨_, rfl, fun qK jB => ?_⟩
  clear jA; have qL : ((xo).set (i : Int).toNat p).length = (xo).length := List.length_set; have := dN.size; replace cK := cK.gr dN (fun k hk => by have := cY.ge k hk; omega); replace cL := cL.gr dN (fun k hk => by have := cY.ge k hk; omega); replace cX := cX.gr dN (fun k hk => by have := cY.ge k hk; omega); replace bW := bW.gr dN (fun e => by have := cY.ge _ e; omega)
  replace cM := cM.gr dN (fun k hk => hk.2.2.1); have eE := gG.gr dN (fun k hk => hk.2.2.1); clear gG; replace bG := bG.gr dN (cY.neb (fun g hs => hs.2.1)); replace cN := cN.gr dN (cY.neb (fun g hs => hs.1)); clear cY dN
  have jC := jB.as 59 (.slice aC xo.length aI) (.slice aC (((xo).set (i : Int).toNat p : List Int).length) aI) rfl (slice_len (by first | rfl | omega | (simp; done) | (simp; omega)))
  clear jB
  replace bG : Bx aF (aB.heap.size) [.slice aC (((xo).set (i : Int).toNat p).length) aI, .slice aD g.pr.length aW, .slice aE g.mv.length aX] 25 := bG.as (by first | rfl | (simp only [List.length_set]; done))
  refine At.done rfl ?_
  refine t_n ?_
  refine wp_seq ?_
  refine wp_seq ?_
  have hgp_ := hG.pr i (by omega) (by omega)
  refine At.start ?_
  obtain ⟨gJ, mR, _, _, mS⟩ := RdI.get cL.pr (i) (by omega) (by omega)
  refine At.rd jC 8 [[], [.ld (.slice Ag1 g.pr.length cg1)], [], [.ad gJ], [.ld (.int .i64 (gI g.pr (i)))], [.as_ (.int .i64 ((gI g.pr (i) : Int) % 2))], [], []] [(70, .bool (((gI g.pr (i) : Int) % 2 : Int) != p)), (69, .int .i64 (p)), (68, .int .i64 ((gI g.pr (i) : Int) % 2)), (67, .int .i64 (gI g.pr (i))), (66, .pointer (some (gJ.add ((i : Int).toNat * 1)))), (65, .int .i64 (i)), (64, .slice Ag1 g.pr.length cg1), (63, .pointer (some ⟨w.heap.size, 1, none⟩))] [(aF.cell? ⟨w.heap.size, 1, none⟩ = some (.slice Ag1 g.pr.length cg1)), (Ag1 = some gJ), (0 ≤ (i : Int)), ((i : Int) < (g.pr.length : Nat)), (aF.cell? (gJ.add ((i : Int).toNat * 1)) = some (.int .i64 (gI g.pr (i)))), ((2 : Int) ≠ 0), ((.int .i64 ((gI g.pr (i) : Int).tmod 2) : Value) = .int .i64 ((gI g.pr (i) : Int) % 2))] (by kernel_rfl) ⟨(bW.cell (i := 1) rfl), mR, (by omega), (by omega), mS, (by omega), (congrArg (Value.int .i64) (tmodE (by omega) _)), trivial⟩ (fun qM fH => ?_)
  clear jC
  refine At.done rfl ?_
  refine t_n ?_
  refine cond_S fH (t := ((gI g.pr (i) : Int) % 2 : Int) != p) rfl (fun hN => ?_) (fun hN => ?_)
  ·have qN := bne_iff_ne.1 hN
   refine wp_exit ?_
   refine t_e ?_
   refine b_e ?_
   refine t_n ?_
   refine At.start ?_
   refine At.rd fH 3 [[], [.as_ (.int .i64 (i + 1))], []] [(11, .int .i64 (i + 1)), (57, .int .i64 (i + 1)), (56, .int .i64 (i))] [((.int .i64 (IntKind.i64.wrap (i + 1)) : Value) = .int .i64 (i + 1))] (by kernel_rfl) ⟨(w64 (by omega) (by omega)), trivial⟩ (fun qO mT => ?_)
   clear fH
   refine At.done rfl ?_
   refine t_n ?_
   have mU := mT.sub (r := [(11, .int .i64 (i + 1)), (10, .pointer (some ⟨aA.heap.size, 0, none⟩)), (9, .pointer (some ⟨aB.heap.size, 0, none⟩)), (8, .int .i64 (((g.ow.length : Nat) : Int))), (2, .pointer (some ⟨w.heap.size, 0, none⟩)), (1, .int .i64 (p))]) ⟨rfl, rfl, rfl, rfl, rfl, rfl, trivial⟩
   exact ⟨_, (by omega), (i + 1), ws, ((xo).set (i : Int).toNat p : List Int), aC, aI, rfl, mU, cK, cL, cX, bW, eD, cM, eE, bG, cN, (by omega), (by omega), (oneP_next hxo (by omega) (by omega)), (wonK_no hwk (fun h_ => by first | (have h2_ := h_.2.2.1; omega) | exact absurd ((reach_fin hrT (by omega) i).2 h_.2.2.2) (has_nP (by assumption)))), hwk.ok.1, (by rw [List.length_set]; assumption), (by omega)⟩
  have qP := bne_eq_false_iff_eq.1 hN
  refine wp_skip ?_
  refine t_n ?_
  refine wp_seq ?_
  refine At.start ?_
  refine At.seq fH 1 [[]] [(12, .pointer (some ⟨aF.heap.size, 0, none⟩))] (aF.alloc (.cells ((List.replicate 4 (0 : Int) : List Int).map wV).toArray 44 (0, 0))) [] (by kernel_rfl) trivial (fun qQ bA hO jD => ?_)
  clear fH; have cZ := gr_alloc hO; have := cZ.size; replace cK := cK.gn cZ; replace cL := cL.gn cZ; replace cX := cX.gn cZ; replace bW := bW.gn cZ; replace eD := eD.grN cZ; replace cM := cM.grN cZ; replace eE := eE.grN cZ; replace bG := bG.gn cZ; replace cN := cN.gn cZ; have fI : Bx bA (aF.heap.size) ((List.replicate 4 (0 : Int) : List Int).map wV) 44 := Bx.new hO; have := fI.lt; clear cZ hO
  refine At.done rfl ?_
  refine t_n ?_
  refine wp_seq ?_
  refine At.start ?_
  refine At.rd jD 1 [[]] [(71, .int .i64 (i))] [] (by kernel_rfl) trivial (fun qR jE => ?_)
  clear jD
  refine At.seq jE 1 [[]] [(72, .slice (some ⟨bA.heap.size, 0, none⟩) 1 1)] (bA.alloc (.cells #[.int .i64 (i)] 3 (0, 0))) [] (by kernel_rfl) trivial (fun qS jF hP jG => ?_)
  clear jE; have cO := gr_alloc hP; have := cO.size; replace cK := cK.gn cO; replace cL := cL.gn cO; replace cX := cX.gn cO; replace bW := bW.gn cO; replace eD := eD.grN cO; replace cM := cM.grN cO; replace eE := eE.grN cO; replace bG := bG.gn cO; replace cN := cN.gn cO; replace fI := fI.gn cO; have hQ : Bx jF (bA.heap.size) [.int .i64 (i)] 3 := Bx.new hP; have := hQ.lt; clear cO hP
  refine At.rd jG 1 [[]] [(13, .slice (some ⟨bA.heap.size, 0, none⟩) 1 1)] [] (by kernel_rfl) trivial (fun qT jH => ?_)
  clear jG
  refine At.done rfl ?_
  refine t_n ?_
  refine wp_seq ?_
  refine wp_block ?_
  have jI : OwnR jF (Sx (bA.heap.size) [obk (aC), obk (aD), obk (aE)]) (some ⟨bA.heap.size, 0, none⟩) 1 3 ([i] : List Int) := Bx.ownR (n := 0) (l := ([i] : List Int)) hQ rfl ⟨(eD.neb (fun g hs => hs.1)), (cM.neb (fun g hs => hs.1)), (eE.neb (fun g hs => hs.1)), (Nat.le_refl _)⟩ (show 1 ≤ maxLen by decide)
  clear hQ
  have jJ := jH.as 13 (.slice (some ⟨bA.heap.size, 0, none⟩) 1 1) (.slice (some ⟨bA.heap.size, 0, none⟩) (([i] : List Int).length) 1) rfl (slice_len (by first | rfl | omega | (simp; done) | (simp; omega)))
  clear jH
  have jK := jJ.sub (r := [(13, .slice (some ⟨bA.heap.size, 0, none⟩) (([i] : List Int).length) 1), (12, .pointer (some ⟨aF.heap.size, 0, none⟩)), (11, .int .i64 (i)), (10, .pointer (some ⟨aA.heap.size, 0, none⟩)), (9, .pointer (some ⟨aB.heap.size, 0, none⟩)), (8, .int .i64 (((g.ow.length : Nat) : Int))), (2, .pointer (some ⟨w.heap.size, 0, none⟩)), (1, .int .i64 (p))]) ⟨rfl, rfl, rfl, rfl, rfl, rfl, rfl, rfl, trivial⟩
  refine loop_g (fun (m_ : Nat) a_ w_ => ∃ (rs : List Int) (op : List Int) (aY : Option Addr) (bH : Nat), m_ = (256 - lenW rs + (op.length : Int)).toNat ∧ (Frm 170 a_ [(13, .slice aY op.length bH), (12, .pointer (some ⟨aF.heap.size, 0, none⟩)), (11, .int .i64 (i)), (10, .pointer (some ⟨aA.heap.size, 0, none⟩)), (9, .pointer (some ⟨aB.heap.size, 0, none⟩)), (8, .int .i64 (((g.ow.length : Nat) : Int))), (2, .pointer (some ⟨w.heap.size, 0, none⟩)), (1, .int .i64 (p))]) ∧ (Ext w w_) ∧ (RdG w_ 0 w.heap.size Ag0 Ag1 Ag2 cg0 cg1 cg2 g) ∧ (RdT w_ 0 w.heap.size) ∧ (Bx w_ (w.heap.size) [.slice Ag0 g.ow.length cg0, .slice Ag1 g.pr.length cg1, .slice Ag2 g.mv.length cg2] 25) ∧ (OwnR w_ (Sx (aH.heap.size) [obk (aY), some (aF.heap.size), some (aA.heap.size), some (aB.heap.size), obk (aD), obk (aE)]) aC aI 3 ((xo).set (i : Int).toNat p : List Int)) ∧ (OwnR w_ (Sx (aH.heap.size) [obk (aY), some (aF.heap.size), some (aA.heap.size), some (aB.heap.size), obk (aC), obk (aE)]) aD aW 3 (g.pr : List Int)) ∧ (OwnLL w_ (aH.heap.size) [obk (aY), some (aF.heap.size), some (aA.heap.size), some (aB.heap.size), obk (aC), obk (aD)] aE aX 22 3 (g.mv : List (List Int))) ∧ (Bx w_ (aB.heap.size) [.slice aC (((xo).set (i : Int).toNat p).length) aI, .slice aD g.pr.length aW, .slice aE g.mv.length aX] 25) ∧ (Bx w_ (aA.heap.size) ((ws : List Int).map wV) 44) ∧ (Bx w_ (aF.heap.size) ((rs : List Int).map wV) 44) ∧ (OwnR w_ (Sx (bA.heap.size) [obk (aC), obk (aD), obk (aE)]) aY bH 3 (op : List Int)) ∧ (rs.length = 4) ∧ (ReachT g i rs op) ∧ ((op.length : Int) ≤ 1 + lenW rs) ∧ (aH.heap.size ≤ w_.heap.size) ∧ (bA.heap.size ≤ w_.heap.size)) _ ⟨List.replicate 4 (0 : Int), ([i] : List Int), some ⟨bA.heap.size, 0, none⟩, 1, rfl, jK, cK, cL, cX, bW, eD, cM, eE, bG, cN, fI, jI, rfl, reach_0, (by have h_ := lenW_le (List.replicate 4 (0 : Int)); simp only [List.length_cons, List.length_nil]; omega), (by omega), (by omega)⟩ ?_
  clear jK jJ; clear cL; clear cX; clear bW; clear eD; clear cM; clear eE; clear bG; clear cN; clear fI; clear jI; clear cK
  intro m_ qU jL ⟨rs, op, aY, bH, hm250, jM, dA, dO, dP, dB, dQ, dR, gK, dC, dD, eI, fJ, i262, hrT, hol, i263, i264⟩
  have := dA.size; have := dB.lt; have := dC.lt; have := dD.lt; have := eI.lt; have hok2_ := hrT.ok; have hlw_ := lenW_le rs
  refine wp_seq ?_
  refine wp_seq ?_
  refine At.start ?_
  refine At.rd jM 3 [[], [], []] [(75, .bool (decide ((((op.length : Nat) : Int) : Int) > 0))), (74, .int .i64 (((op.length : Nat) : Int))), (73, .slice aY op.length bH)] [] (by kernel_rfl) trivial (fun qV fK => ?_)
  clear jM
  refine At.done rfl ?_
  refine t_n ?_
  refine cond_S fK (t := decide ((((op.length : Nat) : Int) : Int) > 0)) rfl (fun hS => ?_) (fun hS => ?_)
  ·have qW := of_decide_eq_true hS
   refine wp_skip ?_
   refine t_n ?_
   refine wp_block ?_
   refine wp_seq ?_
   obtain ⟨x, hx⟩ : ∃ x : Int, x = gI op (((op.length : Nat) : Int) - 1) := ⟨_, rfl⟩
   have hxr := hrT.rng hR (by omega) (by omega) (x := x) (by rw [hx]; exact mem_of_gI (by omega) (by omega)); have hrl_ := row_len hG (i := x) (by omega) (by omega)
   refine At.start ?_
   obtain ⟨gM, mV, qX, mW, qY⟩ := fJ.get (((op.length : Nat) : Int) - 1) (by omega) (by omega) (sz := 1) rfl
   refine At.rd fK 7 [[], [], [], [.as_ (.int .i64 (((op.length : Nat) : Int) - 1))], [.ad gM], [.ld (.int .i64 (gI op (((op.length : Nat) : Int) - 1))), .as_ (.int .i64 (x))], []] [(14, .int .i64 (x)), (81, .int .i64 (x)), (80, .pointer (some (gM.add ((((op.length : Nat) : Int) - 1 : Int).toNat * 1)))), (79, .int .i64 (((op.length : Nat) : Int) - 1)), (78, .int .i64 (((op.length : Nat) : Int))), (77, .slice aY op.length bH), (76, .slice aY op.length bH)] [((.int .i64 (IntKind.i64.wrap (((op.length : Nat) : Int) - 1)) : Value) = .int .i64 (((op.length : Nat) : Int) - 1)), (aY = some gM), (0 ≤ (((op.length : Nat) : Int) - 1 : Int)), ((((op.length : Nat) : Int) - 1 : Int) < (op.length : Nat)), (jL.cell? (gM.add ((((op.length : Nat) : Int) - 1 : Int).toNat * 1)) = some (.int .i64 (gI op (((op.length : Nat) : Int) - 1)))), ((.int .i64 (gI op (((op.length : Nat) : Int) - 1)) : Value) = .int .i64 (x))] (by kernel_rfl) ⟨(w64 (by omega) (by omega)), mV, (by omega), (by omega), mW, (congrArg (Value.int .i64) hx.symm), trivial⟩ (fun qZ jN => ?_)
   clear fK
   refine At.done rfl ?_
   refine t_n ?_
   refine wp_seq ?_
   refine At.start ?_
   have := fJ.cap; have jO := fJ.take ((((op.length : Nat) : Int) - 1 : Int).toNat) (by omega)
   have : ((op).take (((op.length : Nat) : Int) - 1 : Int).toNat).length = (((op.length : Nat) : Int) - 1 : Int).toNat := by rw [List.length_take]; omega
   clear fJ
   refine At.rd jN 6 [[], [], [], [.as_ (.int .i64 (((op.length : Nat) : Int) - 1))], [], []] [(13, .slice aY ((((op.length : Nat) : Int) - 1 : Int).toNat) bH), (86, .slice aY ((((op.length : Nat) : Int) - 1 : Int).toNat) bH), (85, .int .i64 (((op.length : Nat) : Int) - 1)), (84, .int .i64 (((op.length : Nat) : Int))), (83, .slice aY op.length bH), (82, .slice aY op.length bH)] [((.int .i64 (IntKind.i64.wrap (((op.length : Nat) : Int) - 1)) : Value) = .int .i64 (((op.length : Nat) : Int) - 1)), (0 ≤ (((op.length : Nat) : Int) - 1 : Int)), ((((op.length : Nat) : Int) - 1 : Int) ≤ (bH : Nat))] (by kernel_rfl) ⟨(w64 (by omega) (by omega)), (by omega), (by omega), trivial⟩ (fun rA jP => ?_)
   clear jN
   refine At.done rfl ?_
   refine t_n ?_
   refine wp_seq ?_
   refine At.start ?_
   refine At.rd jP 1 [[]] [(15, .int .i64 (0))] [] (by kernel_rfl) trivial (fun rB jQ => ?_)
   clear jP
   refine At.done rfl ?_
   refine t_n ?_
   refine wp_block ?_
   have jR := jQ.as 13 (.slice aY ((((op.length : Nat) : Int) - 1 : Int).toNat) bH) (.slice aY (((op).take (((op.length : Nat) : Int) - 1 : Int).toNat : List Int).length) bH) rfl (slice_len (by first | rfl | omega | (simp; done) | (simp; omega)))
   clear jQ
   have jS := jR.sub (r := [(13, .slice aY (((op).take (((op.length : Nat) : Int) - 1 : Int).toNat : List Int).length) bH), (15, .int .i64 (0)), (14, .int .i64 (x)), (12, .pointer (some ⟨aF.heap.size, 0, none⟩)), (11, .int .i64 (i)), (10, .pointer (some ⟨aA.heap.size, 0, none⟩)), (9, .pointer (some ⟨aB.heap.size, 0, none⟩)), (8, .int .i64 (((g.ow.length : Nat) : Int))), (2, .pointer (some ⟨w.heap.size, 0, none⟩)), (1, .int .i64 (p))]) ⟨rfl, rfl, rfl, rfl, rfl, rfl, rfl, rfl, rfl, rfl, trivial⟩
   refine loop_g (fun (m_ : Nat) a_ w_ => ∃ (q : Int) (rs2 : List Int) (op2 : List Int) (aP : Option Addr) (bB : Nat), m_ = (((gL g.mv x).length : Int) - q).toNat ∧ (Frm 170 a_ [(13, .slice aP op2.length bB), (15, .int .i64 (q)), (14, .int .i64 (x)), (12, .pointer (some ⟨aF.heap.size, 0, none⟩)), (11, .int .i64 (i)), (10, .pointer (some ⟨aA.heap.size, 0, none⟩)), (9, .pointer (some ⟨aB.heap.size, 0, none⟩)), (8, .int .i64 (((g.ow.length : Nat) : Int))), (2, .pointer (some ⟨w.heap.size, 0, none⟩)), (1, .int .i64 (p))]) ∧ (Ext w w_) ∧ (RdG w_ 0 w.heap.size Ag0 Ag1 Ag2 cg0 cg1 cg2 g) ∧ (RdT w_ 0 w.heap.size) ∧ (Bx w_ (w.heap.size) [.slice Ag0 g.ow.length cg0, .slice Ag1 g.pr.length cg1, .slice Ag2 g.mv.length cg2] 25) ∧ (OwnR w_ (Sx (aH.heap.size) [obk (aP), some (aF.heap.size), some (aA.heap.size), some (aB.heap.size), obk (aD), obk (aE)]) aC aI 3 ((xo).set (i : Int).toNat p : List Int)) ∧ (OwnR w_ (Sx (aH.heap.size) [obk (aP), some (aF.heap.size), some (aA.heap.size), some (aB.heap.size), obk (aC), obk (aE)]) aD aW 3 (g.pr : List Int)) ∧ (OwnLL w_ (aH.heap.size) [obk (aP), some (aF.heap.size), some (aA.heap.size), some (aB.heap.size), obk (aC), obk (aD)] aE aX 22 3 (g.mv : List (List Int))) ∧ (Bx w_ (aB.heap.size) [.slice aC (((xo).set (i : Int).toNat p).length) aI, .slice aD g.pr.length aW, .slice aE g.mv.length aX] 25) ∧ (Bx w_ (aA.heap.size) ((ws : List Int).map wV) 44) ∧ (Bx w_ (aF.heap.size) ((rs2 : List Int).map wV) 44) ∧ (OwnR w_ (Sx (bA.heap.size) [obk (aC), obk (aD), obk (aE)]) aP bB 3 (op2 : List Int)) ∧ (0 ≤ q) ∧ (q ≤ ((gL g.mv x).length : Int)) ∧ (ReachK g i rs2 op2 x q) ∧ ((op2.length : Int) - lenW rs2 = (op.length : Int) - 1 - lenW rs) ∧ (rs2.length = 4) ∧ (aH.heap.size ≤ w_.heap.size) ∧ (bA.heap.size ≤ w_.heap.size)) _ ⟨0, rs, ((op).take (((op.length : Nat) : Int) - 1 : Int).toNat : List Int), aY, bH, rfl, jS, dA, dO, dP, dB, dQ, dR, gK, dC, dD, eI, jO, (by omega), (by omega), (reach_pop hrT (by omega) hx (by congr 1; omega)), (by rw [List.length_take]; omega), hrT.ok.1, (by omega), (by omega)⟩ ?_
   clear jS jR; clear dO; clear dP; clear dB; clear dQ; clear dR; clear gK; clear dC; clear dD; clear eI; clear jO; clear dA
   intro m_ rC eF ⟨q, rs2, op2, aP, bB, hm288, jT, aQ, aK, aZ, aJ, aR, aS, fL, aT, aU, bC, aL, i300, i301, hrk, hme, i302, i303, i304⟩
   have := aQ.size; have := aJ.lt; have := aT.lt; have := aU.lt; have := bC.lt; have hok3_ := hrk.ok; have hlw2_ := lenW_le rs2
   refine wp_seq ?_
   refine wp_seq ?_
   refine At.start ?_
   obtain ⟨gN, hT, hU, mX, _, _, mY, rD, jU⟩ := RdII.get aK.mv (x) (by omega) (by omega)
   have rE := jU.len
   refine At.rd jT 8 [[], [], [.ld (.slice Ag2 g.mv.length cg2)], [], [.ad gN], [.ld (.slice hT ((gL g.mv (x)).length) hU)], [], []] [(94, .bool (decide ((q : Int) < (((gL g.mv (x)).length : Nat) : Int)))), (93, .int .i64 ((((gL g.mv (x)).length : Nat) : Int))), (92, .slice hT ((gL g.mv (x)).length) hU), (91, .pointer (some (gN.add ((x : Int).toNat * 1)))), (90, .int .i64 (x)), (89, .slice Ag2 g.mv.length cg2), (88, .pointer (some ⟨w.heap.size, 2, none⟩)), (87, .int .i64 (q))] [(eF.cell? ⟨w.heap.size, 2, none⟩ = some (.slice Ag2 g.mv.length cg2)), (Ag2 = some gN), (0 ≤ (x : Int)), ((x : Int) < (g.mv.length : Nat)), (eF.cell? (gN.add ((x : Int).toNat * 1)) = some (.slice hT ((gL g.mv (x)).length) hU))] (by kernel_rfl) ⟨(aJ.cell (i := 2) rfl), mX, (by omega), (by omega), mY, trivial⟩ (fun rF fM => ?_)
   clear jT
   refine At.done rfl ?_
   refine t_n ?_
   clear jU
   refine cond_S fM (t := decide ((q : Int) < (((gL g.mv (x)).length : Nat) : Int))) rfl (fun hV => ?_) (fun hV => ?_)
   ·have rG := of_decide_eq_true hV
    refine wp_skip ?_
    refine t_n ?_
    refine wp_seq ?_
    refine wp_block ?_
    refine wp_seq ?_
    have hmk := hG.mv x (by omega) (by omega) q (by omega) (by omega)
    refine At.start ?_
    obtain ⟨gO, gP, hW, mZ, _, _, nA, rH, hX⟩ := RdII.get aK.mv (x) (by omega) (by omega)
    have rI := hX.len
    obtain ⟨gQ, nB, _, _, nC⟩ := RdI.get hX (q) (by omega) (by omega)
    refine At.rd fM 9 [[], [.ld (.slice Ag2 g.mv.length cg2)], [], [.ad gO], [.ld (.slice gP ((gL g.mv (x)).length) hW)], [], [.ad gQ], [.ld (.int .i64 (gI (gL g.mv (x)) (q)))], []] [(16, .int .i64 (gI (gL g.mv (x)) (q))), (104, .int .i64 (gI (gL g.mv (x)) (q))), (103, .pointer (some (gQ.add ((q : Int).toNat * 1)))), (102, .int .i64 (q)), (101, .slice gP ((gL g.mv (x)).length) hW), (100, .pointer (some (gO.add ((x : Int).toNat * 1)))), (99, .int .i64 (x)), (98, .slice Ag2 g.mv.length cg2), (97, .pointer (some ⟨w.heap.size, 2, none⟩))] [(eF.cell? ⟨w.heap.size, 2, none⟩ = some (.slice Ag2 g.mv.length cg2)), (Ag2 = some gO), (0 ≤ (x : Int)), ((x : Int) < (g.mv.length : Nat)), (eF.cell? (gO.add ((x : Int).toNat * 1)) = some (.slice gP ((gL g.mv (x)).length) hW)), (gP = some gQ), (0 ≤ (q : Int)), ((q : Int) < ((gL g.mv (x)).length : Nat)), (eF.cell? (gQ.add ((q : Int).toNat * 1)) = some (.int .i64 (gI (gL g.mv (x)) (q))))] (by kernel_rfl) ⟨(aJ.cell (i := 2) rfl), mZ, (by omega), (by omega), nA, nB, (by omega), (by omega), nC, trivial⟩ (fun rJ gR => ?_)
    clear fM
    refine At.done rfl ?_
    refine t_n ?_
    clear hX
    refine wp_seq ?_
    rcases Bool.eq_false_or_eq_true (decide ((gI g.pr (gI (gL g.mv (x)) (q)) : Int) ≤ (gI g.pr (i)))) with fN | fN
    ·have rK := of_decide_eq_true fN
     obtain ⟨eU, nD, _, _, nE⟩ := RdI.get aK.pr (gI (gL g.mv (x)) (q)) (by omega) (by omega)
     obtain ⟨eV, nF, _, _, nG⟩ := RdI.get aK.pr (i) (by omega) (by omega)
     obtain ⟨eJ, eW⟩ : ∃ c : List (Addr × Value), c = ([(⟨w.heap.size, 1, none⟩, (.slice Ag1 g.pr.length cg1)), ((eU.add ((gI (gL g.mv (x)) (q) : Int).toNat * 1)), (.int .i64 (gI g.pr (gI (gL g.mv (x)) (q))))), (⟨w.heap.size, 1, none⟩, (.slice Ag1 g.pr.length cg1)), ((eV.add ((i : Int).toNat * 1)), (.int .i64 (gI g.pr (i))))] : List (Addr × Value)) ++ blkC (aF.heap.size) ((rs2 : List Int).map wV) := ⟨_, rfl⟩
     have jV : HoldsC eJ eF := by rw [eW]; exact (holdsA (show HoldsC [(⟨w.heap.size, 1, none⟩, (.slice Ag1 g.pr.length cg1)), ((eU.add ((gI (gL g.mv (x)) (q) : Int).toNat * 1)), (.int .i64 (gI g.pr (gI (gL g.mv (x)) (q))))), (⟨w.heap.size, 1, none⟩, (.slice Ag1 g.pr.length cg1)), ((eV.add ((i : Int).toNat * 1)), (.int .i64 (gI g.pr (i))))] eF from ⟨(aJ.cell (i := 1) rfl), nE, (aJ.cell (i := 1) rfl), nG, trivial⟩) (holds_blk bC))
     refine AtH.start eJ 17 #[false, false, false, false, false, false, false, false, false, false, false, false, false, false, false, false, false] (by kernel_rfl) rfl rfl (fun rL jW => ?_)
     have bN := gr_drew jW; have jX := jV.gr bN; have := bN.size; replace aQ := aQ.gn bN; replace aK := aK.gn bN; replace aZ := aZ.gn bN; replace aJ := aJ.gn bN; replace aR := aR.gn bN; replace aS := aS.gn bN; have bX := fL.gn bN; clear fL; replace aT := aT.gn bN; replace aU := aU.gn bN; replace bC := bC.gn bN; replace aL := aL.gn bN; clear bN jW jV
     refine AtH.rd (by kernel_rfl) (fun d v c a w h => by cases d <;> exact h) jX [0, 1, 2, 3, 4, 5, 6, 7, 8, 9, 10, 11, 12, 13] [[], [.ld (.slice Ag1 g.pr.length cg1)], [], [.ad eU], [.ld (.int .i64 (gI g.pr (gI (gL g.mv (x)) (q))))], [], [.ld (.slice Ag1 g.pr.length cg1)], [], [.ad eV], [.ld (.int .i64 (gI g.pr (i)))], [], [.as_ (.bool true)], [.cs ((rs2 : List Int).map wV)], []] [(118, .int .i64 (gI (gL g.mv (x)) (q))), (117, .agg ((rs2 : List Int).map wV).toArray), (116, .bool true), (115, .bool (decide ((gI g.pr (gI (gL g.mv (x)) (q)) : Int) ≤ (gI g.pr (i))))), (114, .int .i64 (gI g.pr (i))), (113, .pointer (some (eV.add ((i : Int).toNat * 1)))), (112, .int .i64 (i)), (111, .slice Ag1 g.pr.length cg1), (110, .pointer (some ⟨w.heap.size, 1, none⟩)), (109, .int .i64 (gI g.pr (gI (gL g.mv (x)) (q)))), (108, .pointer (some (eU.add ((gI (gL g.mv (x)) (q) : Int).toNat * 1)))), (107, .int .i64 (gI (gL g.mv (x)) (q))), (106, .slice Ag1 g.pr.length cg1), (105, .pointer (some ⟨w.heap.size, 1, none⟩))] #[true, true, true, true, true, true, true, true, true, true, true, true, true, true, false, false, false] [(∃ j_ : Nat, eJ[j_]? = some (⟨w.heap.size, 1, none⟩, (.slice Ag1 g.pr.length cg1))), (Ag1 = some eU), (0 ≤ (gI (gL g.mv (x)) (q) : Int)), ((gI (gL g.mv (x)) (q) : Int) < (g.pr.length : Nat)), (∃ j_ : Nat, eJ[j_]? = some ((eU.add ((gI (gL g.mv (x)) (q) : Int).toNat * 1)), (.int .i64 (gI g.pr (gI (gL g.mv (x)) (q)))))), (∃ j_ : Nat, eJ[j_]? = some (⟨w.heap.size, 1, none⟩, (.slice Ag1 g.pr.length cg1))), (Ag1 = some eV), (0 ≤ (i : Int)), ((i : Int) < (g.pr.length : Nat)), (∃ j_ : Nat, eJ[j_]? = some ((eV.add ((i : Int).toNat * 1)), (.int .i64 (gI g.pr (i))))), ((.bool (decide ((gI g.pr (gI (gL g.mv (x)) (q)) : Int) ≤ (gI g.pr (i)))) : Value) = .bool true), (((rs2 : List Int).map wV).length = 4), (∀ (j : Nat) (v : Value), ((rs2 : List Int).map wV)[j]? = some v → ∃ j_ : Nat, eJ[j_]? = some (((⟨aF.heap.size, 0, none⟩ : Addr).add j), v))] 3 gR (by kernel_rfl) ⟨⟨0, by rw [eW]; rfl⟩, nD, (by omega), (by omega), ⟨1, by rw [eW]; rfl⟩, ⟨2, by rw [eW]; rfl⟩, nF, (by omega), (by omega), ⟨3, by rw [eW]; rfl⟩, (congrArg Value.bool fN), ((List.length_map _).trans (by assumption)), (fun j v hv => List.getElem?_of_mem (by rw [eW]; exact List.mem_append.2 (.inr (blkC_in hv)))), trivial⟩ (fun rM jY => ?_)
     clear gR
     refine AtH.all [14] 2 (by kernel_rfl) (by simp) ⟨?_, trivial⟩
     refine OneH.call jY 23 #[.agg ((rs2 : List Int).map wV).toArray, .int .i64 (gI (gL g.mv (x)) (q))] (some 119) #[true, true, true, true, true, true, true, true, true, true, true, true, true, true, true, false, false] (by kernel_rfl) (by kernel_rfl) (has_any (s := rs2) (n := gI (gL g.mv (x)) (q)) (by assumption)) ?_
     rintro e_ nH ⟨rfl, he⟩
     refine ⟨_, rfl, _, rfl, fun rN jZ => ?_⟩
     clear jY; have bO := gr_ext he; have gS := jX.gr bO; have := bO.size; replace aQ := aQ.gn bO; replace aK := aK.gn bO; replace aZ := aZ.gn bO; replace aJ := aJ.gn bO; replace aR := aR.gn bO; replace aS := aS.gn bO; replace bX := bX.gn bO; replace aT := aT.gn bO; replace aU := aU.gn bO; replace bC := bC.gn bO; replace aL := aL.gn bO; clear bO he
     refine ⟨gS, ?_⟩
     refine AtH.rd (by kernel_rfl) (fun d v c a w h => by cases d <;> exact h) gS [15] [[]] [(120, .bool (!(hasW rs2 (gI (gL g.mv (x)) (q)))))] #[true, true, true, true, true, true, true, true, true, true, true, true, true, true, true, true, false] [] 1 jZ (by kernel_rfl) trivial (fun rO kA => ?_)
     clear jZ
     refine AtH.rd (by kernel_rfl) (fun d v c a w h => by cases d <;> exact h) gS [16] [[]] [(121, .bool (!(hasW rs2 (gI (gL g.mv (x)) (q)))))] #[true, true, true, true, true, true, true, true, true, true, true, true, true, true, true, true, true] [] 0 kA (by kernel_rfl) trivial (fun rP fO => ?_)
     clear kA
     refine AtH.done (by kernel_rfl) ?_
     clear gS
     refine t_n ?_
     refine cond_S fO (t := !(hasW rs2 (gI (gL g.mv (x)) (q)))) rfl (fun eK => ?_) (fun eK => ?_)
     ·have rQ : (hasW rs2 (gI (gL g.mv (x)) (q))) = false := by first | exact Eq.mp (Bool.not_eq_true' _) eK | exact Eq.mp (Bool.not_eq_false' _) eK | simpa using eK
      refine wp_seq ?_
      refine At.start ?_
      refine At.rd fO 2 [[.cs ((rs2 : List Int).map wV)], []] [(123, .int .i64 (gI (gL g.mv (x)) (q))), (122, .agg ((rs2 : List Int).map wV).toArray)] [(((rs2 : List Int).map wV).length = 4), (∀ (j : Nat) (v : Value), ((rs2 : List Int).map wV)[j]? = some v → nH.cell? ((⟨aF.heap.size, 0, none⟩ : Addr).add j) = some v)] (by kernel_rfl) ⟨((List.length_map _).trans (by assumption)), bC.whole, trivial⟩ (fun rR kB => ?_)
      clear fO
      refine At.call kB 25 #[.agg ((rs2 : List Int).map wV).toArray, .int .i64 (gI (gL g.mv (x)) (q))] (some 124) (by kernel_rfl) (with_any (s := rs2) (n := gI (gL g.mv (x)) (q)) (by assumption)) ?_
      rintro e_ rS ⟨rfl, he⟩
      refine ⟨_, rfl, _, rfl, fun rU kC => ?_⟩
      clear kB; have bY := gr_ext he; have := bY.size; replace aQ := aQ.gn bY; replace aK := aK.gn bY; replace aZ := aZ.gn bY; replace aJ := aJ.gn bY; replace aR := aR.gn bY; replace aS := aS.gn bY; replace bX := bX.gn bY; replace aT := aT.gn bY; replace aU := aU.gn bY; replace bC := bC.gn bY; replace aL := aL.gn bY; clear bY he
      refine At.act kC (storeBlk (t := 44) (b := aF.heap.size) (n := 4) (cs' := ((withW rs2 (gI (gL g.mv (x)) (q)) : List Int).map wV)) (by kernel_rfl) (by kernel_rfl) ((List.length_map _).trans (okLen (okW_with (by assumption)))) oneW_ ((show ((withW rs2 (gI (gL g.mv (x)) (q)) : List Int).map wV).length = 4 from ((List.length_map _).trans (okLen (okW_with (by assumption))))).trans (show ((rs2 : List Int).map wV).length = 4 from ((List.length_map _).trans (by assumption))).symm) bC) ?_
      rintro d_ v_ eX ⟨rfl, cP, fP⟩
      refine ⟨_, rfl, fun rV kD => ?_⟩
      clear kC; have := cP.size; replace aQ := aQ.gr cP (fun k h => by injection h; omega); replace aK := aK.gb cP (by omega); replace aZ := aZ.gb cP (by omega); replace aJ := aJ.gb cP (by omega); replace aR := aR.gr cP (fun k hk => hk.2.1); replace aS := aS.gr cP (fun k hk => hk.2.1); replace bX := bX.gr cP (fun k hk => hk.2.1); replace aT := aT.gb cP (by omega); replace aU := aU.gb cP (by omega)
      replace aL := aL.gr cP (fun k hk e => by have := Sx_base hk; injection e; omega); clear bC cP
      refine At.done rfl ?_
      refine t_n ?_
      refine At.start ?_
      refine At.rd kD 2 [[], []] [(126, .int .i64 (gI (gL g.mv (x)) (q))), (125, .slice aP op2.length bB)] [] (by kernel_rfl) trivial (fun rW kE => ?_)
      clear kD
      refine At.seq kE 1 [[]] [(127, .slice (some ⟨eX.heap.size, 0, none⟩) 1 1)] (eX.alloc (.cells #[.int .i64 (gI (gL g.mv (x)) (q))] 3 (0, 0))) [] (by kernel_rfl) trivial (fun rX kF hY kG => ?_)
      clear kE; have bZ := gr_alloc hY; have := bZ.size; replace aQ := aQ.gn bZ; replace aK := aK.gn bZ; replace aZ := aZ.gn bZ; replace aJ := aJ.gn bZ; replace aR := aR.grN bZ; replace aS := aS.grN bZ; replace bX := bX.grN bZ; replace aT := aT.gn bZ; replace aU := aU.gn bZ; replace fP := fP.gn bZ; replace aL := aL.grN bZ; have hZ : Bx kF (eX.heap.size) [.int .i64 (gI (gL g.mv (x)) (q))] 3 := Bx.new hY
      have := hZ.lt; clear bZ hY; have nI : (op2 ++ ([gI (gL g.mv (x)) (q)])).length = (op2).length + ([gI (gL g.mv (x)) (q)] : List Int).length := List.length_append
      simp only [List.length_cons, List.length_nil] at nI
      refine At.act kG (appendR (α := Int) (t := 22) (d := 128) (n := op2.length) (m := 1) (cc := 1) (xs := op2) (ys := [gI (gL g.mv (x)) (q)]) (bytes := 8) (by first | rfl | omega | (simp; done) | (simp; omega)) (by first | rfl | omega | (simp; done) | (simp; omega)) (by kernel_rfl) rfl (by kernel_rfl) aL (Bx.srcR (l := ([gI (gL g.mv (x)) (q)] : List Int)) hZ rfl) (by simp only [List.length_cons, List.length_nil]; omega) (by simp only [List.length_cons, List.length_nil]; omega)) ?_
      rintro d_ v_ iA ⟨rfl, eG, fQ, eL⟩
      obtain rfl := eL.val
      have cQ := eL.gr
      refine ⟨_, rfl, fun rY kH => ?_⟩
      clear kG; clear hZ
      have nJ := eL.own (Sx (bA.heap.size) [obk (aC), obk (aD), obk (aE)]) (fun g _ hs => ⟨hs.2.1, hs.2.2.1, hs.2.2.2.1, hs.2.2.2.2⟩) ⟨aR.ne_new, aS.ne_new, bX.ne_new, (show bA.heap.size ≤ kF.heap.size by omega)⟩
      have := cQ.size; replace aQ := aQ.gr cQ (fun k hk => by have := aL.ge k hk; omega); replace aK := aK.gr cQ (fun k hk => by have := aL.ge k hk; omega); replace aZ := aZ.gr cQ (fun k hk => by have := aL.ge k hk; omega); replace aJ := aJ.gr cQ (fun e => by have := aL.ge _ e; omega)
      replace aR : OwnR iA (Sx (aH.heap.size) [some (eX.heap.size), obk (eG), some (aF.heap.size), some (aA.heap.size), some (aB.heap.size), obk (aD), obk (aE)]) aC aI 3 ((xo).set (i : Int).toNat p : List Int) := aR.grA cQ (fun k hk => hk.2.1) (fun k hk hs => ⟨hs.1, own_repl eL.at_ hs.2.1 hk, hs.2.2.1, hs.2.2.2.1, hs.2.2.2.2.1, hs.2.2.2.2.2.1, hs.2.2.2.2.2.2.1, hs.2.2.2.2.2.2.2⟩)
      replace aS : OwnR iA (Sx (aH.heap.size) [some (eX.heap.size), obk (eG), some (aF.heap.size), some (aA.heap.size), some (aB.heap.size), obk (aC), obk (aE)]) aD aW 3 (g.pr : List Int) := aS.grA cQ (fun k hk => hk.2.1) (fun k hk hs => ⟨hs.1, own_repl eL.at_ hs.2.1 hk, hs.2.2.1, hs.2.2.2.1, hs.2.2.2.2.1, hs.2.2.2.2.2.1, hs.2.2.2.2.2.2.1, hs.2.2.2.2.2.2.2⟩)
      replace bX : OwnLL iA (aH.heap.size) [some (eX.heap.size), obk (eG), some (aF.heap.size), some (aA.heap.size), some (aB.heap.size), obk (aC), obk (aD)] aE aX 22 3 (g.mv : List (List Int)) := bX.grA cQ (fun k hk => hk.2.1) (fun k hk hs => ⟨hs.1, own_repl eL.at_ hs.2.1 hk, hs.2.2.1, hs.2.2.2.1, hs.2.2.2.2.1, hs.2.2.2.2.2.1, hs.2.2.2.2.2.2.1, hs.2.2.2.2.2.2.2⟩)
      replace aT := aT.gr cQ (fun e => by have := aL.ge _ e; omega); replace aU := aU.gr cQ (fun e => by have := aL.ge _ e; omega); replace fP := fP.gr cQ (fun e => by have := aL.ge _ e; omega); clear aL cQ eL
      refine At.rd kH 1 [[]] [(13, .slice eG ((op2 ++ ([gI (gL g.mv (x)) (q)])).length) fQ)] [] (by kernel_rfl) trivial (fun rZ kI => ?_)
      clear kH
      refine At.done rfl ?_
      refine b_n ?_
      refine t_n ?_
      refine At.start ?_
      refine At.rd kI 3 [[], [.as_ (.int .i64 (q + 1))], []] [(15, .int .i64 (q + 1)), (96, .int .i64 (q + 1)), (95, .int .i64 (q))] [((.int .i64 (IntKind.i64.wrap (q + 1)) : Value) = .int .i64 (q + 1))] (by kernel_rfl) ⟨(w64 (by omega) (by omega)), trivial⟩ (fun sA kJ => ?_)
      clear kI
      refine At.done rfl ?_
      refine t_n ?_
      have nK := kJ.as 13 (.slice eG ((op2 ++ ([gI (gL g.mv (x)) (q)])).length) fQ) (.slice eG ((op2 ++ ([gI (gL g.mv (x)) (q)]) : List Int).length) fQ) rfl (slice_len (by first | rfl | omega | (simp; done) | (simp; omega)))
      clear kJ
      have nL := nK.sub (r := [(13, .slice eG ((op2 ++ ([gI (gL g.mv (x)) (q)]) : List Int).length) fQ), (15, .int .i64 (q + 1)), (14, .int .i64 (x)), (12, .pointer (some ⟨aF.heap.size, 0, none⟩)), (11, .int .i64 (i)), (10, .pointer (some ⟨aA.heap.size, 0, none⟩)), (9, .pointer (some ⟨aB.heap.size, 0, none⟩)), (8, .int .i64 (((g.ow.length : Nat) : Int))), (2, .pointer (some ⟨w.heap.size, 0, none⟩)), (1, .int .i64 (p))]) ⟨rfl, rfl, rfl, rfl, rfl, rfl, rfl, rfl, rfl, rfl, trivial⟩
      exact ⟨_, (by omega), (q + 1), withW rs2 (gI (gL g.mv (x)) (q)), (op2 ++ ([gI (gL g.mv (x)) (q)]) : List Int), eG, fQ, rfl, nL, aQ, aK, aZ, aJ, (aR.imp (fun g _ hs => ⟨hs.2.1, hs.2.2.1, hs.2.2.2.1, hs.2.2.2.2.1, hs.2.2.2.2.2.1, hs.2.2.2.2.2.2.1, hs.2.2.2.2.2.2.2⟩)), (aS.imp (fun g _ hs => ⟨hs.2.1, hs.2.2.1, hs.2.2.2.1, hs.2.2.2.2.1, hs.2.2.2.2.2.1, hs.2.2.2.2.2.2.1, hs.2.2.2.2.2.2.2⟩)), (bX.imp (fun g _ hs => ⟨hs.2.1, hs.2.2.1, hs.2.2.2.1, hs.2.2.2.2.1, hs.2.2.2.2.2.1, hs.2.2.2.2.2.2.1, hs.2.2.2.2.2.2.2⟩)), aT, aU, fP, nJ, (by omega), (by omega), (reach_yes hR hrk rfl (by omega) (by omega) (by omega) (by omega) (by omega)), (by rw [List.length_append, len_with hrk.ok (m := 1) (by rw [if_pos ⟨by omega, by omega, by assumption⟩])]; simp only [List.length_cons, List.length_nil]; omega), (okW_with hrk.ok).1, (by omega), (by omega)⟩
     have sB : (hasW rs2 (gI (gL g.mv (x)) (q))) = true := by first | exact Eq.mp (Bool.not_eq_true' _) eK | exact Eq.mp (Bool.not_eq_false' _) eK | simpa using eK
     refine wp_skip ?_
     refine b_n ?_
     refine t_n ?_
     refine At.start ?_
     refine At.rd fO 3 [[], [.as_ (.int .i64 (q + 1))], []] [(15, .int .i64 (q + 1)), (96, .int .i64 (q + 1)), (95, .int .i64 (q))] [((.int .i64 (IntKind.i64.wrap (q + 1)) : Value) = .int .i64 (q + 1))] (by kernel_rfl) ⟨(w64 (by omega) (by omega)), trivial⟩ (fun sC kK => ?_)
     clear fO
     refine At.done rfl ?_
     refine t_n ?_
     have nM := kK.as 13 (.slice aP op2.length bB) (.slice aP ((op2 : List Int).length) bB) rfl (slice_len (by first | rfl | omega | (simp; done) | (simp; omega)))
     clear kK
     have nN := nM.sub (r := [(13, .slice aP ((op2 : List Int).length) bB), (15, .int .i64 (q + 1)), (14, .int .i64 (x)), (12, .pointer (some ⟨aF.heap.size, 0, none⟩)), (11, .int .i64 (i)), (10, .pointer (some ⟨aA.heap.size, 0, none⟩)), (9, .pointer (some ⟨aB.heap.size, 0, none⟩)), (8, .int .i64 (((g.ow.length : Nat) : Int))), (2, .pointer (some ⟨w.heap.size, 0, none⟩)), (1, .int .i64 (p))]) ⟨rfl, rfl, rfl, rfl, rfl, rfl, rfl, rfl, rfl, rfl, trivial⟩
     exact ⟨_, (by omega), (q + 1), rs2, (op2 : List Int), aP, bB, rfl, nN, aQ, aK, aZ, aJ, aR, aS, bX, aT, aU, bC, aL, (by omega), (by omega), (reach_no hrk (fun h_ => by first | assumption | (exfalso; omega))), (by omega), (by omega), (by omega), (by omega)⟩
    have sD := of_decide_eq_false fN
    obtain ⟨fR, nO, _, _, nP⟩ := RdI.get aK.pr (gI (gL g.mv (x)) (q)) (by omega) (by omega)
    obtain ⟨fS, nQ, _, _, nR⟩ := RdI.get aK.pr (i) (by omega) (by omega)
    obtain ⟨eY, fT⟩ : ∃ c : List (Addr × Value), c = [(⟨w.heap.size, 1, none⟩, (.slice Ag1 g.pr.length cg1)), ((fR.add ((gI (gL g.mv (x)) (q) : Int).toNat * 1)), (.int .i64 (gI g.pr (gI (gL g.mv (x)) (q))))), (⟨w.heap.size, 1, none⟩, (.slice Ag1 g.pr.length cg1)), ((fS.add ((i : Int).toNat * 1)), (.int .i64 (gI g.pr (i))))] := ⟨_, rfl⟩
    have kL : HoldsC eY eF := by rw [fT]; exact ⟨(aJ.cell (i := 1) rfl), nP, (aJ.cell (i := 1) rfl), nR, trivial⟩
    refine AtH.start eY 17 #[false, false, false, false, false, false, false, false, false, false, false, false, false, false, false, false, false] (by kernel_rfl) rfl rfl (fun sE kM => ?_)
    have bP := gr_drew kM; have fU := kL.gr bP; have := bP.size; replace aQ := aQ.gn bP; replace aK := aK.gn bP; replace aZ := aZ.gn bP; replace aJ := aJ.gn bP; replace aR := aR.gn bP; replace aS := aS.gn bP; have nS := fL.gn bP; clear fL; replace aT := aT.gn bP; replace aU := aU.gn bP; replace bC := bC.gn bP; replace aL := aL.gn bP; clear bP kM kL
    refine AtH.rd (by kernel_rfl) (fun d v c a w h => by cases d <;> exact h) fU [0, 1, 2, 3, 4, 5, 6, 7, 8, 9, 10, 11, 12, 13] [[], [.ld (.slice Ag1 g.pr.length cg1)], [], [.ad fR], [.ld (.int .i64 (gI g.pr (gI (gL g.mv (x)) (q))))], [], [.ld (.slice Ag1 g.pr.length cg1)], [], [.ad fS], [.ld (.int .i64 (gI g.pr (i)))], [], [.as_ (.bool false)], [], []] [(118, undef), (117, undef), (116, .bool false), (115, .bool (decide ((gI g.pr (gI (gL g.mv (x)) (q)) : Int) ≤ (gI g.pr (i))))), (114, .int .i64 (gI g.pr (i))), (113, .pointer (some (fS.add ((i : Int).toNat * 1)))), (112, .int .i64 (i)), (111, .slice Ag1 g.pr.length cg1), (110, .pointer (some ⟨w.heap.size, 1, none⟩)), (109, .int .i64 (gI g.pr (gI (gL g.mv (x)) (q)))), (108, .pointer (some (fR.add ((gI (gL g.mv (x)) (q) : Int).toNat * 1)))), (107, .int .i64 (gI (gL g.mv (x)) (q))), (106, .slice Ag1 g.pr.length cg1), (105, .pointer (some ⟨w.heap.size, 1, none⟩))] #[true, true, true, true, true, true, true, true, true, true, true, true, true, true, false, false, false] [(∃ j_ : Nat, eY[j_]? = some (⟨w.heap.size, 1, none⟩, (.slice Ag1 g.pr.length cg1))), (Ag1 = some fR), (0 ≤ (gI (gL g.mv (x)) (q) : Int)), ((gI (gL g.mv (x)) (q) : Int) < (g.pr.length : Nat)), (∃ j_ : Nat, eY[j_]? = some ((fR.add ((gI (gL g.mv (x)) (q) : Int).toNat * 1)), (.int .i64 (gI g.pr (gI (gL g.mv (x)) (q)))))), (∃ j_ : Nat, eY[j_]? = some (⟨w.heap.size, 1, none⟩, (.slice Ag1 g.pr.length cg1))), (Ag1 = some fS), (0 ≤ (i : Int)), ((i : Int) < (g.pr.length : Nat)), (∃ j_ : Nat, eY[j_]? = some ((fS.add ((i : Int).toNat * 1)), (.int .i64 (gI g.pr (i))))), ((.bool (decide ((gI g.pr (gI (gL g.mv (x)) (q)) : Int) ≤ (gI g.pr (i)))) : Value) = .bool false)] 3 gR (by kernel_rfl) ⟨⟨0, by rw [fT]; rfl⟩, nO, (by omega), (by omega), ⟨1, by rw [fT]; rfl⟩, ⟨2, by rw [fT]; rfl⟩, nQ, (by omega), (by omega), ⟨3, by rw [fT]; rfl⟩, (congrArg Value.bool fN), trivial⟩ (fun sF kN => ?_)
    clear gR
    refine AtH.rd (by kernel_rfl) (fun d v c a w h => by cases d <;> exact h) fU [14] [[]] [(119, undef)] #[true, true, true, true, true, true, true, true, true, true, true, true, true, true, true, false, false] [] 2 kN (by kernel_rfl) trivial (fun sG kO => ?_)
    clear kN
    refine AtH.rd (by kernel_rfl) (fun d v c a w h => by cases d <;> exact h) fU [15] [[]] [(120, undef)] #[true, true, true, true, true, true, true, true, true, true, true, true, true, true, true, true, false] [] 1 kO (by kernel_rfl) trivial (fun sH kP => ?_)
    clear kO
    refine AtH.rd (by kernel_rfl) (fun d v c a w h => by cases d <;> exact h) fU [16] [[]] [(121, .bool false)] #[true, true, true, true, true, true, true, true, true, true, true, true, true, true, true, true, true] [] 0 kP (by kernel_rfl) trivial (fun sI iB => ?_)
    clear kP
    refine AtH.done (by kernel_rfl) ?_
    clear fU
    refine t_n ?_
    refine cond_F iB rfl ?_
    refine wp_skip ?_
    refine b_n ?_
    refine t_n ?_
    refine At.start ?_
    refine At.rd iB 3 [[], [.as_ (.int .i64 (q + 1))], []] [(15, .int .i64 (q + 1)), (96, .int .i64 (q + 1)), (95, .int .i64 (q))] [((.int .i64 (IntKind.i64.wrap (q + 1)) : Value) = .int .i64 (q + 1))] (by kernel_rfl) ⟨(w64 (by omega) (by omega)), trivial⟩ (fun sJ kQ => ?_)
    clear iB
    refine At.done rfl ?_
    refine t_n ?_
    have nT := kQ.as 13 (.slice aP op2.length bB) (.slice aP ((op2 : List Int).length) bB) rfl (slice_len (by first | rfl | omega | (simp; done) | (simp; omega)))
    clear kQ
    have nU := nT.sub (r := [(13, .slice aP ((op2 : List Int).length) bB), (15, .int .i64 (q + 1)), (14, .int .i64 (x)), (12, .pointer (some ⟨aF.heap.size, 0, none⟩)), (11, .int .i64 (i)), (10, .pointer (some ⟨aA.heap.size, 0, none⟩)), (9, .pointer (some ⟨aB.heap.size, 0, none⟩)), (8, .int .i64 (((g.ow.length : Nat) : Int))), (2, .pointer (some ⟨w.heap.size, 0, none⟩)), (1, .int .i64 (p))]) ⟨rfl, rfl, rfl, rfl, rfl, rfl, rfl, rfl, rfl, rfl, trivial⟩
    exact ⟨_, (by omega), (q + 1), rs2, (op2 : List Int), aP, bB, rfl, nU, aQ, aK, aZ, aJ, aR, aS, nS, aT, aU, bC, aL, (by omega), (by omega), (reach_no hrk (fun h_ => by first | assumption | (exfalso; omega))), (by omega), (by omega), (by omega), (by omega)⟩
   have sK := of_decide_eq_false hV
   refine wp_exit ?_
   refine t_e ?_
   refine t_e ?_
   refine b_e ?_
   refine b_n ?_
   refine t_n ?_
   have nV := fM.as 13 (.slice aP op2.length bB) (.slice aP ((op2 : List Int).length) bB) rfl (slice_len (by first | rfl | omega | (simp; done) | (simp; omega)))
   clear fM
   have nW := nV.sub (r := [(13, .slice aP ((op2 : List Int).length) bB), (12, .pointer (some ⟨aF.heap.size, 0, none⟩)), (11, .int .i64 (i)), (10, .pointer (some ⟨aA.heap.size, 0, none⟩)), (9, .pointer (some ⟨aB.heap.size, 0, none⟩)), (8, .int .i64 (((g.ow.length : Nat) : Int))), (2, .pointer (some ⟨w.heap.size, 0, none⟩)), (1, .int .i64 (p))]) ⟨rfl, rfl, rfl, rfl, rfl, rfl, rfl, rfl, trivial⟩
   exact ⟨_, (by omega), rs2, (op2 : List Int), aP, bB, rfl, nW, aQ, aK, aZ, aJ, aR, aS, fL, aT, aU, bC, aL, hrk.ok.1, (reach_end hrk (by omega)), (by omega), (by omega), (by omega)⟩
  have sL := of_decide_eq_false hS
  refine wp_exit ?_
  refine t_e ?_
  refine t_e ?_
  refine b_e ?_
  refine t_n ?_
  clear fJ
  refine wp_seq ?_
  refine At.start ?_
  refine At.rd fK 2 [[.cs ((rs : List Int).map wV)], []] [(130, .int .i64 (i)), (129, .agg ((rs : List Int).map wV).toArray)] [(((rs : List Int).map wV).length = 4), (∀ (j : Nat) (v : Value), ((rs : List Int).map wV)[j]? = some v → jL.cell? ((⟨aF.heap.size, 0, none⟩ : Addr).add j) = some v)] (by kernel_rfl) ⟨((List.length_map _).trans (by assumption)), eI.whole, trivial⟩ (fun sM kR => ?_)
  clear fK
  refine At.call kR 23 #[.agg ((rs : List Int).map wV).toArray, .int .i64 (i)] (some 131) (by kernel_rfl) (has_any (s := rs) (n := i) (by assumption)) ?_
  rintro e_ nX ⟨rfl, he⟩
  refine ⟨_, rfl, _, rfl, fun sN fV => ?_⟩
  clear kR; have cR := gr_ext he; have := cR.size; replace dA := dA.gn cR; replace dO := dO.gn cR; replace dP := dP.gn cR; replace dB := dB.gn cR; replace dQ := dQ.gn cR; replace dR := dR.gn cR; have eZ := gK.gn cR; clear gK; replace dC := dC.gn cR; replace dD := dD.gn cR; replace eI := eI.gn cR; clear cR he
  refine At.done rfl ?_
  refine t_n ?_
  clear eI
  refine cond_S fV (t := hasW rs i) rfl (fun nY => ?_) (fun nY => ?_)
  ·refine At.start ?_
   refine At.rd fV 2 [[.cs ((ws : List Int).map wV)], []] [(133, .int .i64 (i)), (132, .agg ((ws : List Int).map wV).toArray)] [(((ws : List Int).map wV).length = 4), (∀ (j : Nat) (v : Value), ((ws : List Int).map wV)[j]? = some v → nX.cell? ((⟨aA.heap.size, 0, none⟩ : Addr).add j) = some v)] (by kernel_rfl) ⟨((List.length_map _).trans (by assumption)), dD.whole, trivial⟩ (fun sO kS => ?_)
   clear fV
   refine At.call kS 25 #[.agg ((ws : List Int).map wV).toArray, .int .i64 (i)] (some 134) (by kernel_rfl) (with_any (s := ws) (n := i) (by assumption)) ?_
   rintro e_ sP ⟨rfl, he⟩
   refine ⟨_, rfl, _, rfl, fun sQ kT => ?_⟩
   clear kS; have dE := gr_ext he; have := dE.size; replace dA := dA.gn dE; replace dO := dO.gn dE; replace dP := dP.gn dE; replace dB := dB.gn dE; replace dQ := dQ.gn dE; replace dR := dR.gn dE; replace eZ := eZ.gn dE; replace dC := dC.gn dE; replace dD := dD.gn dE; clear dE he
   refine At.act kT (storeBlk (t := 44) (b := aA.heap.size) (n := 4) (cs' := ((withW ws i : List Int).map wV)) (by kernel_rfl) (by kernel_rfl) ((List.length_map _).trans (okLen (okW_with (by assumption)))) oneW_ ((show ((withW ws i : List Int).map wV).length = 4 from ((List.length_map _).trans (okLen (okW_with (by assumption))))).trans (show ((ws : List Int).map wV).length = 4 from ((List.length_map _).trans (by assumption))).symm) dD) ?_
   rintro d_ v_ sR ⟨rfl, dS, nZ⟩
   refine ⟨_, rfl, fun sS kU => ?_⟩
   clear kT; have := dS.size; replace dA := dA.gr dS (fun k h => by injection h; omega); replace dO := dO.gb dS (by omega); replace dP := dP.gb dS (by omega); replace dB := dB.gb dS (by omega); replace dQ := dQ.gr dS (fun k hk => hk.2.2.1); replace dR := dR.gr dS (fun k hk => hk.2.2.1); replace eZ := eZ.gr dS (fun k hk => hk.2.2.1); replace dC := dC.gb dS (by omega); clear dD dS
   refine At.done rfl ?_
   refine b_n ?_
   refine t_n ?_
   refine At.start ?_
   refine At.rd kU 3 [[], [.as_ (.int .i64 (i + 1))], []] [(11, .int .i64 (i + 1)), (57, .int .i64 (i + 1)), (56, .int .i64 (i))] [((.int .i64 (IntKind.i64.wrap (i + 1)) : Value) = .int .i64 (i + 1))] (by kernel_rfl) ⟨(w64 (by omega) (by omega)), trivial⟩ (fun sT oA => ?_)
   clear kU
   refine At.done rfl ?_
   refine t_n ?_
   have oB := oA.sub (r := [(11, .int .i64 (i + 1)), (10, .pointer (some ⟨aA.heap.size, 0, none⟩)), (9, .pointer (some ⟨aB.heap.size, 0, none⟩)), (8, .int .i64 (((g.ow.length : Nat) : Int))), (2, .pointer (some ⟨w.heap.size, 0, none⟩)), (1, .int .i64 (p))]) ⟨rfl, rfl, rfl, rfl, rfl, rfl, trivial⟩
   exact ⟨_, (by omega), (i + 1), withW ws i, ((xo).set (i : Int).toNat p : List Int), aC, aI, rfl, oB, dA, dO, dP, dB, (dQ.imp (fun g _ hs => ⟨hs.2.2.1, hs.2.2.2.1, hs.2.2.2.2.1, hs.2.2.2.2.2.1, hs.2.2.2.2.2.2⟩)), (dR.imp (fun g _ hs => ⟨hs.2.2.1, hs.2.2.2.1, hs.2.2.2.2.1, hs.2.2.2.2.2.1, hs.2.2.2.2.2.2⟩)), (eZ.imp (fun g _ hs => ⟨hs.2.2.1, hs.2.2.2.1, hs.2.2.2.2.1, hs.2.2.2.2.2.1, hs.2.2.2.2.2.2⟩)), dC, nZ, (by omega), (by omega), (oneP_next hxo (by omega) (by omega)), (wonK_yes (by omega) hwk ⟨by omega, by omega, by omega, (reach_fin hrT (by omega) i).1 (inP_has.1 (by assumption))⟩), (okW_with hwk.ok).1, (by rw [List.length_set]; assumption), (by omega)⟩
  refine wp_skip ?_
  refine b_n ?_
  refine t_n ?_
  refine At.start ?_
  refine At.rd fV 3 [[], [.as_ (.int .i64 (i + 1))], []] [(11, .int .i64 (i + 1)), (57, .int .i64 (i + 1)), (56, .int .i64 (i))] [((.int .i64 (IntKind.i64.wrap (i + 1)) : Value) = .int .i64 (i + 1))] (by kernel_rfl) ⟨(w64 (by omega) (by omega)), trivial⟩ (fun sU oC => ?_)
  clear fV
  refine At.done rfl ?_
  refine t_n ?_
  have oD := oC.sub (r := [(11, .int .i64 (i + 1)), (10, .pointer (some ⟨aA.heap.size, 0, none⟩)), (9, .pointer (some ⟨aB.heap.size, 0, none⟩)), (8, .int .i64 (((g.ow.length : Nat) : Int))), (2, .pointer (some ⟨w.heap.size, 0, none⟩)), (1, .int .i64 (p))]) ⟨rfl, rfl, rfl, rfl, rfl, rfl, trivial⟩
  exact ⟨_, (by omega), (i + 1), ws, ((xo).set (i : Int).toNat p : List Int), aC, aI, rfl, oD, dA, dO, dP, dB, (dQ.imp (fun g _ hs => ⟨hs.2.2.1, hs.2.2.2.1, hs.2.2.2.2.1, hs.2.2.2.2.2.1, hs.2.2.2.2.2.2⟩)), (dR.imp (fun g _ hs => ⟨hs.2.2.1, hs.2.2.2.1, hs.2.2.2.2.1, hs.2.2.2.2.2.1, hs.2.2.2.2.2.2⟩)), (eZ.imp (fun g _ hs => ⟨hs.2.2.1, hs.2.2.2.1, hs.2.2.2.2.1, hs.2.2.2.2.2.1, hs.2.2.2.2.2.2⟩)), dC, dD, (by omega), (by omega), (oneP_next hxo (by omega) (by omega)), (wonK_no hwk (fun h_ => by first | (have h2_ := h_.2.2.1; omega) | exact absurd ((reach_fin hrT (by omega) i).2 h_.2.2.2) (has_nP (by assumption)))), hwk.ok.1, (by rw [List.length_set]; assumption), (by omega)⟩
 have sV := of_decide_eq_false hM
 refine wp_exit ?_
 refine t_e ?_
 refine t_e ?_
 refine b_e ?_
 refine t_n ?_
 refine wp_seq ?_
 refine wp_seq ?_
 refine At.start ?_
 refine At.rd fG 1 [[]] [(17, .int .i64 (0))] [] (by kernel_rfl) trivial (fun sW kV => ?_)
 clear fG
 refine At.done rfl ?_
 refine t_n ?_
 refine wp_block ?_
 have kW := kV.sub (r := [(17, .int .i64 (0)), (10, .pointer (some ⟨aA.heap.size, 0, none⟩)), (9, .pointer (some ⟨aB.heap.size, 0, none⟩)), (8, .int .i64 (((g.ow.length : Nat) : Int))), (2, .pointer (some ⟨w.heap.size, 0, none⟩)), (1, .int .i64 (p))]) ⟨rfl, rfl, rfl, rfl, rfl, rfl, trivial⟩
 refine loop_g (fun (m_ : Nat) a_ w_ => ∃ (r : Int) (ws2 : List Int), m_ = ((g.ow.length : Int) + 1 - r).toNat ∧ (Frm 170 a_ [(17, .int .i64 (r)), (10, .pointer (some ⟨aA.heap.size, 0, none⟩)), (9, .pointer (some ⟨aB.heap.size, 0, none⟩)), (8, .int .i64 (((g.ow.length : Nat) : Int))), (2, .pointer (some ⟨w.heap.size, 0, none⟩)), (1, .int .i64 (p))]) ∧ (Ext w w_) ∧ (RdG w_ 0 w.heap.size Ag0 Ag1 Ag2 cg0 cg1 cg2 g) ∧ (RdT w_ 0 w.heap.size) ∧ (Bx w_ (w.heap.size) [.slice Ag0 g.ow.length cg0, .slice Ag1 g.pr.length cg1, .slice Ag2 g.mv.length cg2] 25) ∧ (OwnR w_ (Sx (aH.heap.size) [some (aA.heap.size), some (aB.heap.size), obk (aD), obk (aE)]) aC aI 3 (xo : List Int)) ∧ (OwnR w_ (Sx (aH.heap.size) [some (aA.heap.size), some (aB.heap.size), obk (aC), obk (aE)]) aD aW 3 (g.pr : List Int)) ∧ (OwnLL w_ (aH.heap.size) [some (aA.heap.size), some (aB.heap.size), obk (aC), obk (aD)] aE aX 22 3 (g.mv : List (List Int))) ∧ (Bx w_ (aB.heap.size) [.slice aC xo.length aI, .slice aD g.pr.length aW, .slice aE g.mv.length aX] 25) ∧ (Bx w_ (aA.heap.size) ((ws2 : List Int).map wV) 44) ∧ (0 ≤ r) ∧ (r ≤ (g.ow.length : Int) + 1) ∧ (WonR g p ws2 r) ∧ (ws2.length = 4) ∧ (aH.heap.size ≤ w_.heap.size)) _ ⟨0, ws, rfl, kW, cK, cL, cX, bW, cY, cM, gG, bG, cN, (by omega), (by omega), (wonR_0 hwk (by omega)), hwk.ok.1, (by omega)⟩ ?_
 clear kW kV; clear cL; clear cX; clear bW; clear cY; clear cM; clear gG; clear bG; clear cN; clear cK
 intro m_ sX dF ⟨r, ws2, hm567, kX, aN, aV, aO, gT, dG, dH, fA, cA, aM, i577, i578, hwr, i579, i580⟩
 have := aN.size; have := gT.lt; have := cA.lt; have := aM.lt; have hok4_ := hwr.b.ok
 refine wp_seq ?_
 refine wp_seq ?_
 refine At.start ?_
 refine At.rd kX 3 [[], [], []] [(137, .bool (decide ((r : Int) ≤ ((g.ow.length : Nat) : Int)))), (136, .int .i64 (((g.ow.length : Nat) : Int))), (135, .int .i64 (r))] [] (by kernel_rfl) trivial (fun sY fW => ?_)
 clear kX
 refine At.done rfl ?_
 refine t_n ?_
 refine cond_S fW (t := decide ((r : Int) ≤ ((g.ow.length : Nat) : Int))) rfl (fun iC => ?_) (fun iC => ?_)
 ·have sZ := of_decide_eq_true iC
  refine wp_skip ?_
  refine t_n ?_
  refine wp_seq ?_
  refine wp_block ?_
  refine wp_seq ?_
  refine At.start ?_
  refine At.rd fW 1 [[]] [(18, .int .i64 (0))] [] (by kernel_rfl) trivial (fun tA kY => ?_)
  clear fW
  refine At.done rfl ?_
  refine t_n ?_
  refine wp_block ?_
  have kZ := kY.sub (r := [(18, .int .i64 (0)), (17, .int .i64 (r)), (10, .pointer (some ⟨aA.heap.size, 0, none⟩)), (9, .pointer (some ⟨aB.heap.size, 0, none⟩)), (8, .int .i64 (((g.ow.length : Nat) : Int))), (2, .pointer (some ⟨w.heap.size, 0, none⟩)), (1, .int .i64 (p))]) ⟨rfl, rfl, rfl, rfl, rfl, rfl, rfl, trivial⟩
  refine loop_g (fun (m_ : Nat) a_ w_ => ∃ (j : Int) (ws3 : List Int), m_ = ((g.ow.length : Int) - j).toNat ∧ (Frm 170 a_ [(18, .int .i64 (j)), (17, .int .i64 (r)), (10, .pointer (some ⟨aA.heap.size, 0, none⟩)), (9, .pointer (some ⟨aB.heap.size, 0, none⟩)), (8, .int .i64 (((g.ow.length : Nat) : Int))), (2, .pointer (some ⟨w.heap.size, 0, none⟩)), (1, .int .i64 (p))]) ∧ (Ext w w_) ∧ (RdG w_ 0 w.heap.size Ag0 Ag1 Ag2 cg0 cg1 cg2 g) ∧ (RdT w_ 0 w.heap.size) ∧ (Bx w_ (w.heap.size) [.slice Ag0 g.ow.length cg0, .slice Ag1 g.pr.length cg1, .slice Ag2 g.mv.length cg2] 25) ∧ (OwnR w_ (Sx (aH.heap.size) [some (aA.heap.size), some (aB.heap.size), obk (aD), obk (aE)]) aC aI 3 (xo : List Int)) ∧ (OwnR w_ (Sx (aH.heap.size) [some (aA.heap.size), some (aB.heap.size), obk (aC), obk (aE)]) aD aW 3 (g.pr : List Int)) ∧ (OwnLL w_ (aH.heap.size) [some (aA.heap.size), some (aB.heap.size), obk (aC), obk (aD)] aE aX 22 3 (g.mv : List (List Int))) ∧ (Bx w_ (aB.heap.size) [.slice aC xo.length aI, .slice aD g.pr.length aW, .slice aE g.mv.length aX] 25) ∧ (Bx w_ (aA.heap.size) ((ws3 : List Int).map wV) 44) ∧ (0 ≤ j) ∧ (j ≤ (g.ow.length : Int)) ∧ (WonI g p ws3 r j) ∧ (ws3.length = 4) ∧ (aH.heap.size ≤ w_.heap.size)) _ ⟨0, ws2, rfl, kZ, aN, aV, aO, gT, dG, dH, fA, cA, aM, (by omega), (by omega), (wonI_0 hwr), hwr.b.ok.1, (by omega)⟩ ?_
  clear kZ kY; clear aV; clear aO; clear gT; clear dG; clear dH; clear fA; clear cA; clear aM; clear aN
  intro m_ tB lA ⟨j, ws3, hm591, lB, bQ, bR, cB, bI, cC, cD, iD, bS, bJ, i601, i602, hwi, i603, i604⟩
  have := bQ.size; have := bI.lt; have := bS.lt; have := bJ.lt; have hok5_ := hwi.b.ok
  refine wp_seq ?_
  refine wp_seq ?_
  refine At.start ?_
  refine At.rd lB 3 [[], [], []] [(142, .bool (decide ((j : Int) < ((g.ow.length : Nat) : Int)))), (141, .int .i64 (((g.ow.length : Nat) : Int))), (140, .int .i64 (j))] [] (by kernel_rfl) trivial (fun tC fX => ?_)
  clear lB
  refine At.done rfl ?_
  refine t_n ?_
  refine cond_S fX (t := decide ((j : Int) < ((g.ow.length : Nat) : Int))) rfl (fun iE => ?_) (fun iE => ?_)
  ·have tD := of_decide_eq_true iE
   refine wp_skip ?_
   refine t_n ?_
   refine wp_seq ?_
   refine wp_block ?_
   have hrl_ := row_len hG (i := j) (by omega) (by omega)
   refine wp_seq ?_
   obtain ⟨fB, fC, fD, oE, _, _, oF, tE, dZ⟩ := RdII.get bR.mv (j) (by omega) (by omega)
   have tF := dZ.len
   obtain ⟨fY, gU⟩ : ∃ c : List (Addr × Value), c = ([(⟨w.heap.size, 2, none⟩, (.slice Ag2 g.mv.length cg2)), ((fB.add ((j : Int).toNat * 1)), (.slice fC ((gL g.mv (j)).length) fD))] : List (Addr × Value)) ++ blkC (aA.heap.size) ((ws3 : List Int).map wV) := ⟨_, rfl⟩
   have lC : HoldsC fY lA := by rw [gU]; exact (holdsA (show HoldsC [(⟨w.heap.size, 2, none⟩, (.slice Ag2 g.mv.length cg2)), ((fB.add ((j : Int).toNat * 1)), (.slice fC ((gL g.mv (j)).length) fD))] lA from ⟨(bI.cell (i := 2) rfl), oF, trivial⟩) (holds_blk bJ))
   refine AtH.start fY 10 #[false, false, false, false, false, false, false, false, false, false] (by kernel_rfl) rfl rfl (fun tG lD => ?_)
   have cE := gr_drew lD; have lE := lC.gr cE; have := cE.size; replace bQ := bQ.gn cE; replace bR := bR.gn cE; replace cB := cB.gn cE; replace bI := bI.gn cE; replace cC := cC.gn cE; replace cD := cD.gn cE; have dT := iD.gn cE; clear iD; replace bS := bS.gn cE; replace bJ := bJ.gn cE; replace dZ := dZ.gn cE; clear cE lD lC
   refine AtH.rd (by kernel_rfl) (fun d v c a w h => by cases d <;> exact h) lE [0, 1, 2, 3, 4, 6, 8] [[], [.ld (.slice Ag2 g.mv.length cg2)], [], [.ad fB], [.ld (.slice fC ((gL g.mv (j)).length) fD)], [.cs ((ws3 : List Int).map wV)], []] [(153, .agg (([0, 0, 0, 0] : List Int).map wV).toArray), (151, .agg ((ws3 : List Int).map wV).toArray), (149, .slice fC ((gL g.mv (j)).length) fD), (148, .pointer (some (fB.add ((j : Int).toNat * 1)))), (147, .int .i64 (j)), (146, .slice Ag2 g.mv.length cg2), (145, .pointer (some ⟨w.heap.size, 2, none⟩))] #[true, true, true, true, true, false, true, false, true, false] [(∃ j_ : Nat, fY[j_]? = some (⟨w.heap.size, 2, none⟩, (.slice Ag2 g.mv.length cg2))), (Ag2 = some fB), (0 ≤ (j : Int)), ((j : Int) < (g.mv.length : Nat)), (∃ j_ : Nat, fY[j_]? = some ((fB.add ((j : Int).toNat * 1)), (.slice fC ((gL g.mv (j)).length) fD))), (((ws3 : List Int).map wV).length = 4), (∀ (j : Nat) (v : Value), ((ws3 : List Int).map wV)[j]? = some v → ∃ j_ : Nat, fY[j_]? = some (((⟨aA.heap.size, 0, none⟩ : Addr).add j), v))] 3 fX (by kernel_rfl) ⟨⟨0, by rw [gU]; rfl⟩, oE, (by omega), (by omega), ⟨1, by rw [gU]; rfl⟩, ((List.length_map _).trans (by assumption)), (fun j v hv => List.getElem?_of_mem (by rw [gU]; exact List.mem_append.2 (.inr (blkC_in hv)))), trivial⟩ (fun tH lF => ?_)
   clear fX
   refine AtH.all [5] 2 (by kernel_rfl) (by simp) ⟨?_, trivial⟩
   refine OneH.call lF 22 #[.slice fC ((gL g.mv (j)).length) fD] (some 150) #[true, true, true, true, true, true, true, false, true, false] (by kernel_rfl) (by kernel_rfl) (of_any (la := gL g.mv (j)) (dZ.wide (Nat.zero_le _) (by omega))) ?_
   rintro e_ tI ⟨rfl, he⟩
   refine ⟨_, rfl, _, rfl, fun tJ lG => ?_⟩
   clear lF; have cF := gr_ext he; have lH := lE.gr cF; have := cF.size; replace bQ := bQ.gn cF; replace bR := bR.gn cF; replace cB := cB.gn cF; replace bI := bI.gn cF; replace cC := cC.gn cF; replace cD := cD.gn cF; replace dT := dT.gn cF; replace bS := bS.gn cF; replace bJ := bJ.gn cF; replace dZ := dZ.gn cF; clear cF he
   refine ⟨lH, ?_⟩
   refine AtH.all [7] 1 (by kernel_rfl) (by simp) ⟨?_, trivial⟩
   refine OneH.call lG 26 #[.agg ((ofW (gL g.mv (j)) : List Int).map wV).toArray, .agg ((ws3 : List Int).map wV).toArray] (some 152) #[true, true, true, true, true, true, true, true, true, false] (by kernel_rfl) (by kernel_rfl) (andS_any (s := ofW (gL g.mv (j))) (t := ws3) (ofW_ok _) (by assumption)) ?_
   rintro e_ oG ⟨rfl, he⟩
   refine ⟨_, rfl, _, rfl, fun tK lI => ?_⟩
   clear lG; have cG := gr_ext he; have iF := lH.gr cG; have := cG.size; replace bQ := bQ.gn cG; replace bR := bR.gn cG; replace cB := cB.gn cG; replace bI := bI.gn cG; replace cC := cC.gn cG; replace cD := cD.gn cG; replace dT := dT.gn cG; replace bS := bS.gn cG; replace bJ := bJ.gn cG; replace dZ := dZ.gn cG; clear cG he
   refine ⟨iF, ?_⟩
   refine AtH.rd (by kernel_rfl) (fun d v c a w h => by cases d <;> exact h) iF [9] [[.cs [wV (gI (andS (ofW (gL g.mv (j))) ws3) 0), wV (gI (andS (ofW (gL g.mv (j))) ws3) 1), wV (gI (andS (ofW (gL g.mv (j))) ws3) 2), wV (gI (andS (ofW (gL g.mv (j))) ws3) 3)], .cs [wV (gI ([0, 0, 0, 0]) 0), wV (gI ([0, 0, 0, 0]) 1), wV (gI ([0, 0, 0, 0]) 2), wV (gI ([0, 0, 0, 0]) 3)], .as_ (.bool (!(decide ((andS (ofW (gL g.mv (j))) ws3 : List Int) = ([0, 0, 0, 0])))))]] [(154, .bool (!(decide ((andS (ofW (gL g.mv (j))) ws3 : List Int) = ([0, 0, 0, 0])))))] #[true, true, true, true, true, true, true, true, true, true] [(((andS (ofW (gL g.mv (j))) ws3 : List Int).map wV).toArray = ([wV (gI (andS (ofW (gL g.mv (j))) ws3) 0), wV (gI (andS (ofW (gL g.mv (j))) ws3) 1), wV (gI (andS (ofW (gL g.mv (j))) ws3) 2), wV (gI (andS (ofW (gL g.mv (j))) ws3) 3)] : List Value).toArray), ((([0, 0, 0, 0] : List Int).map wV).toArray = ([wV (gI ([0, 0, 0, 0]) 0), wV (gI ([0, 0, 0, 0]) 1), wV (gI ([0, 0, 0, 0]) 2), wV (gI ([0, 0, 0, 0]) 3)] : List Value).toArray), ((.bool (!(((gI (andS (ofW (gL g.mv (j))) ws3) 0 : Int) == gI ([0, 0, 0, 0]) 0) && (((gI (andS (ofW (gL g.mv (j))) ws3) 1 : Int) == gI ([0, 0, 0, 0]) 1) && (((gI (andS (ofW (gL g.mv (j))) ws3) 2 : Int) == gI ([0, 0, 0, 0]) 2) && (((gI (andS (ofW (gL g.mv (j))) ws3) 3 : Int) == gI ([0, 0, 0, 0]) 3) && true))))) : Value) = .bool (!(decide ((andS (ofW (gL g.mv (j))) ws3 : List Int) = ([0, 0, 0, 0])))))] 0 lI (by kernel_rfl) ⟨(map4 (okLen (okW_andS (ofW_ok _) (by assumption)))), (map4 (okLen okW_00)), (congrArg (fun b => Value.bool (!b)) (w4_eq (okLen (okW_andS (ofW_ok _) (by assumption))) (okLen okW_00))), trivial⟩ (fun tL fZ => ?_)
   clear lI
   refine AtH.done (by kernel_rfl) ?_
   clear iF
   refine t_n ?_
   clear dZ
   refine cond_S fZ (t := !(decide ((andS (ofW (gL g.mv (j))) ws3 : List Int) = ([0, 0, 0, 0])))) rfl (fun eM => ?_) (fun eM => ?_)
   ·have oH : (decide ((andS (ofW (gL g.mv (j))) ws3 : List Int) = ([0, 0, 0, 0]))) = false := by first | exact Eq.mp (Bool.not_eq_true' _) eM | exact Eq.mp (Bool.not_eq_false' _) eM | simpa using eM
    have tM := of_decide_eq_false oH
    refine At.start ?_
    refine At.rd fZ 2 [[.cs ((ws3 : List Int).map wV)], []] [(156, .int .i64 (j)), (155, .agg ((ws3 : List Int).map wV).toArray)] [(((ws3 : List Int).map wV).length = 4), (∀ (j : Nat) (v : Value), ((ws3 : List Int).map wV)[j]? = some v → oG.cell? ((⟨aA.heap.size, 0, none⟩ : Addr).add j) = some v)] (by kernel_rfl) ⟨((List.length_map _).trans (by assumption)), bJ.whole, trivial⟩ (fun tN lJ => ?_)
    clear fZ
    refine At.call lJ 25 #[.agg ((ws3 : List Int).map wV).toArray, .int .i64 (j)] (some 157) (by kernel_rfl) (with_any (s := ws3) (n := j) (by assumption)) ?_
    rintro e_ tO ⟨rfl, he⟩
    refine ⟨_, rfl, _, rfl, fun tP lK => ?_⟩
    clear lJ; have dI := gr_ext he; have := dI.size; replace bQ := bQ.gn dI; replace bR := bR.gn dI; replace cB := cB.gn dI; replace bI := bI.gn dI; replace cC := cC.gn dI; replace cD := cD.gn dI; replace dT := dT.gn dI; replace bS := bS.gn dI; replace bJ := bJ.gn dI; clear dI he
    refine At.act lK (storeBlk (t := 44) (b := aA.heap.size) (n := 4) (cs' := ((withW ws3 j : List Int).map wV)) (by kernel_rfl) (by kernel_rfl) ((List.length_map _).trans (okLen (okW_with (by assumption)))) oneW_ ((show ((withW ws3 j : List Int).map wV).length = 4 from ((List.length_map _).trans (okLen (okW_with (by assumption))))).trans (show ((ws3 : List Int).map wV).length = 4 from ((List.length_map _).trans (by assumption))).symm) bJ) ?_
    rintro d_ v_ tQ ⟨rfl, dU, oI⟩
    refine ⟨_, rfl, fun tR lL => ?_⟩
    clear lK; have := dU.size; replace bQ := bQ.gr dU (fun k h => by injection h; omega); replace bR := bR.gb dU (by omega); replace cB := cB.gb dU (by omega); replace bI := bI.gb dU (by omega); replace cC := cC.gr dU (fun k hk => hk.1); replace cD := cD.gr dU (fun k hk => hk.1); replace dT := dT.gr dU (fun k hk => hk.1); replace bS := bS.gb dU (by omega); clear bJ dU
    refine At.done rfl ?_
    refine b_n ?_
    refine t_n ?_
    refine At.start ?_
    refine At.rd lL 3 [[], [.as_ (.int .i64 (j + 1))], []] [(18, .int .i64 (j + 1)), (144, .int .i64 (j + 1)), (143, .int .i64 (j))] [((.int .i64 (IntKind.i64.wrap (j + 1)) : Value) = .int .i64 (j + 1))] (by kernel_rfl) ⟨(w64 (by omega) (by omega)), trivial⟩ (fun tS oJ => ?_)
    clear lL
    refine At.done rfl ?_
    refine t_n ?_
    have oK := oJ.sub (r := [(18, .int .i64 (j + 1)), (17, .int .i64 (r)), (10, .pointer (some ⟨aA.heap.size, 0, none⟩)), (9, .pointer (some ⟨aB.heap.size, 0, none⟩)), (8, .int .i64 (((g.ow.length : Nat) : Int))), (2, .pointer (some ⟨w.heap.size, 0, none⟩)), (1, .int .i64 (p))]) ⟨rfl, rfl, rfl, rfl, rfl, rfl, rfl, trivial⟩
    exact ⟨_, (by omega), (j + 1), withW ws3 j, rfl, oK, bQ, bR, cB, bI, cC, cD, dT, bS, oI, (by omega), (by omega), (wonI_yes hR hwi (by omega) (by omega) (by first | assumption | (simp_all; done))), (okW_with hwi.b.ok).1, (by omega)⟩
   have oL : (decide ((andS (ofW (gL g.mv (j))) ws3 : List Int) = ([0, 0, 0, 0]))) = true := by first | exact Eq.mp (Bool.not_eq_true' _) eM | exact Eq.mp (Bool.not_eq_false' _) eM | simpa using eM
   have tT := of_decide_eq_true oL
   refine wp_skip ?_
   refine b_n ?_
   refine t_n ?_
   refine At.start ?_
   refine At.rd fZ 3 [[], [.as_ (.int .i64 (j + 1))], []] [(18, .int .i64 (j + 1)), (144, .int .i64 (j + 1)), (143, .int .i64 (j))] [((.int .i64 (IntKind.i64.wrap (j + 1)) : Value) = .int .i64 (j + 1))] (by kernel_rfl) ⟨(w64 (by omega) (by omega)), trivial⟩ (fun tU oM => ?_)
   clear fZ
   refine At.done rfl ?_
   refine t_n ?_
   have oN := oM.sub (r := [(18, .int .i64 (j + 1)), (17, .int .i64 (r)), (10, .pointer (some ⟨aA.heap.size, 0, none⟩)), (9, .pointer (some ⟨aB.heap.size, 0, none⟩)), (8, .int .i64 (((g.ow.length : Nat) : Int))), (2, .pointer (some ⟨w.heap.size, 0, none⟩)), (1, .int .i64 (p))]) ⟨rfl, rfl, rfl, rfl, rfl, rfl, rfl, trivial⟩
   exact ⟨_, (by omega), (j + 1), ws3, rfl, oN, bQ, bR, cB, bI, cC, cD, dT, bS, bJ, (by omega), (by omega), (wonI_no hR hwi (by omega) (by omega) (by first | assumption | (simp_all; done))), hwi.b.ok.1, (by omega)⟩
  have tV := of_decide_eq_false iE
  refine wp_exit ?_
  refine t_e ?_
  refine t_e ?_
  refine b_e ?_
  refine b_n ?_
  refine t_n ?_
  refine At.start ?_
  refine At.rd fX 3 [[], [.as_ (.int .i64 (r + 1))], []] [(17, .int .i64 (r + 1)), (139, .int .i64 (r + 1)), (138, .int .i64 (r))] [((.int .i64 (IntKind.i64.wrap (r + 1)) : Value) = .int .i64 (r + 1))] (by kernel_rfl) ⟨(w64 (by omega) (by omega)), trivial⟩ (fun tW oO => ?_)
  clear fX
  refine At.done rfl ?_
  refine t_n ?_
  have oP := oO.sub (r := [(17, .int .i64 (r + 1)), (10, .pointer (some ⟨aA.heap.size, 0, none⟩)), (9, .pointer (some ⟨aB.heap.size, 0, none⟩)), (8, .int .i64 (((g.ow.length : Nat) : Int))), (2, .pointer (some ⟨w.heap.size, 0, none⟩)), (1, .int .i64 (p))]) ⟨rfl, rfl, rfl, rfl, rfl, rfl, trivial⟩
  exact ⟨_, (by omega), (r + 1), ws3, rfl, oP, bQ, bR, cB, bI, cC, cD, iD, bS, bJ, (by omega), (by omega), (wonI_end hwi (by omega)), hwi.b.ok.1, (by omega)⟩
 have tX := of_decide_eq_false iC
 refine wp_exit ?_
 refine t_e ?_
 refine t_e ?_
 refine b_e ?_
 refine t_n ?_
 clear gT
 refine wp_seq ?_
 refine At.start ?_
 refine At.rd fW 1 [[.ld (.slice aC xo.length aI), .ld (.slice aD g.pr.length aW), .ld (.slice aE g.mv.length aX)]] [(159, .agg #[.slice aC xo.length aI, .slice aD g.pr.length aW, .slice aE g.mv.length aX])] [(dF.cell? ⟨aB.heap.size, 0, none⟩ = some (.slice aC xo.length aI)), (dF.cell? ⟨aB.heap.size, 1, none⟩ = some (.slice aD g.pr.length aW)), (dF.cell? ⟨aB.heap.size, 2, none⟩ = some (.slice aE g.mv.length aX))] (by kernel_rfl) ⟨(cA.cell (i := 0) rfl), (cA.cell (i := 1) rfl), (cA.cell (i := 2) rfl), trivial⟩ (fun tY lM => ?_)
 clear fW
 refine At.call lM 16 #[.agg #[.slice aC xo.length aI, .slice aD g.pr.length aW, .slice aE g.mv.length aX]] (some 160) (by kernel_rfl) (solve_any (g := (⟨xo, g.pr, g.mv⟩ : GameL)) (RdG.mk (G := (⟨xo, g.pr, g.mv⟩ : GameL)) (dG.rdI0 (by first | omega | (simp only [List.length_cons, List.length_nil]; omega) | (simp; done) | (simp; omega))) (dH.rdI0 (by first | omega | (simp only [List.length_cons, List.length_nil]; omega) | (simp; done) | (simp; omega))) (fA.rdII0 (by first | omega | (simp only [List.length_cons, List.length_nil]; omega) | (simp; done) | (simp; omega)) hip95) dG.cap dH.cap fA.cap) (aO.wide (Nat.zero_le _) (by omega))) ?_
 rintro e_ aG ⟨cH, dJ, cI, dK, eN, gA, eO, gB, la, lb, ma, mb, da, rfl, he, lN, lO, lP, lQ, hsA⟩
 have hln_hsA := solve_lens hsA; have bD : RdI aG (dF.heap.size) aG.heap.size cH la := (OwnR.rdR lN (by show _ * 8 ≤ _; omega)).rdI; clear lN; have bE : RdI aG (dF.heap.size) aG.heap.size cI lb := (OwnR.rdR lO (by show _ * 8 ≤ _; omega)).rdI; clear lO; have bK : RdI aG (dF.heap.size) aG.heap.size eN ma := (OwnR.rdR lP (by show _ * 8 ≤ _; omega)).rdI; clear lP
 have bL : RdI aG (dF.heap.size) aG.heap.size eO mb := (OwnR.rdR lQ (by show _ * 8 ≤ _; omega)).rdI; clear lQ
 refine ⟨_, rfl, _, rfl, fun tZ lR => ?_⟩
 clear lM; have dV := gr_ext he; have := dV.size; replace aN := aN.gn dV; replace aV := aV.gn dV; replace aO := aO.gn dV; replace dG := dG.gn dV; replace dH := dH.gn dV; have gC := fA.gn dV; clear fA; replace cA := cA.gn dV; replace aM := aM.gn dV; clear dV he
 refine At.rd lR 3 [[], [], []] [(162, .int .i64 (da)), (161, .agg #[.slice cH la.length dJ, .slice cI lb.length dK, .slice eN ma.length gA, .slice eO mb.length gB]), (158, .tuple #[.agg #[.slice cH la.length dJ, .slice cI lb.length dK, .slice eN ma.length gA, .slice eO mb.length gB], .int .i64 (da)])] [] (by kernel_rfl) trivial (fun uA lS => ?_)
 clear lR
 refine At.seq lS 1 [[]] [(19, .pointer (some ⟨aG.heap.size, 0, none⟩))] (aG.alloc (.cells #[.slice none 0 0, .slice none 0 0, .slice none 0 0, .slice none 0 0] 32 (0, 0))) [] (by kernel_rfl) trivial (fun uB oQ iG lT => ?_)
 clear lS; have bT := gr_alloc iG; have := bT.size; replace aN := aN.gn bT; replace aV := aV.gn bT; replace aO := aO.gn bT; replace dG := dG.grN bT; replace dH := dH.grN bT; replace gC := gC.grN bT; replace cA := cA.gn bT; replace aM := aM.gn bT; replace bD := bD.gn bT; replace bE := bE.gn bT; replace bK := bK.gn bT; replace bL := bL.gn bT
 have iH : Bx oQ (aG.heap.size) [.slice none 0 0, .slice none 0 0, .slice none 0 0, .slice none 0 0] 32 := Bx.new iG; have := iH.lt; clear bT iG
 refine At.store lT (t := 32) (b := aG.heap.size) (off := 0) (v := .agg #[.slice cH la.length dJ, .slice cI lb.length dK, .slice eN ma.length gA, .slice eO mb.length gB]) (by kernel_rfl) iH (by kernel_rfl) (fun uC fE bU bM lU => ?_)
 clear lT; replace bM : Bx fE (aG.heap.size) [.slice cH la.length dJ, .slice cI lb.length dK, .slice eN ma.length gA, .slice eO mb.length gB] 32 := bM; have := bU.size; replace aN := aN.gr bU (fun k h => by injection h; omega); replace aV := aV.gb bU (by omega); replace aO := aO.gb bU (by omega); replace dG := dG.gr bU (fun k hk => hk.1); replace dH := dH.gr bU (fun k hk => hk.1)
 replace gC := gC.gr bU (fun k hk => hk.1); replace cA := cA.gb bU (by omega); replace aM := aM.gb bU (by omega); replace bD := bD.gb bU (by omega); replace bE := bE.gb bU (by omega); replace bK := bK.gb bU (by omega); replace bL := bL.gb bU (by omega); clear iH bU
 refine At.rd lU 1 [[]] [(20, .int .i64 (da))] [] (by kernel_rfl) trivial (fun uD gD => ?_)
 clear lU
 refine At.done rfl ?_
 refine t_n ?_
 clear dG; clear dH; clear gC; clear cA
 refine wp_seq (cut (fun a_ w_ => (Frm 170 a_ [(4, .bool true)]) ∧ (Ext w w_) ∧ (RdG w_ 0 w.heap.size Ag0 Ag1 Ag2 cg0 cg1 cg2 g) ∧ (RdT w_ 0 w.heap.size) ∧ (Bx w_ (aA.heap.size) ((ws2 : List Int).map wV) 44) ∧ (RdI w_ (dF.heap.size) aG.heap.size cH la) ∧ (RdI w_ (dF.heap.size) aG.heap.size cI lb) ∧ (RdI w_ (dF.heap.size) aG.heap.size eN ma) ∧ (RdI w_ (dF.heap.size) aG.heap.size eO mb) ∧ (Bx w_ (aG.heap.size) [.slice cH la.length dJ, .slice cI lb.length dK, .slice eN ma.length gA, .slice eO mb.length gB] 32) ∧ (fE.heap.size ≤ w_.heap.size)) ?_ ?_)
 ·rcases hp with rfl | rfl
  ·obtain ⟨gV, iI⟩ : ∃ c : List (Addr × Value), c = ([(⟨aG.heap.size, 0, none⟩, (.slice cH la.length dJ))] : List (Addr × Value)) ++ blkC (aA.heap.size) ((ws2 : List Int).map wV) := ⟨_, rfl⟩
   have lV : HoldsC gV fE := by rw [iI]; exact (holdsA (show HoldsC [(⟨aG.heap.size, 0, none⟩, (.slice cH la.length dJ))] fE from ⟨(bM.cell (i := 0) rfl), trivial⟩) (holds_blk aM))
   refine AtH.start gV 8 #[false, false, false, false, false, false, false, false] (by kernel_rfl) rfl rfl (fun uE lW => ?_)
   have cS := gr_drew lW; have lX := lV.gr cS; have := cS.size; replace aN := aN.gn cS; replace aV := aV.gn cS; replace aO := aO.gn cS; replace aM := aM.gn cS; replace bD := bD.gn cS; replace bE := bE.gn cS; replace bK := bK.gn cS; replace bL := bL.gn cS; replace bM := bM.gn cS; clear cS lW lV
   refine AtH.rd (by kernel_rfl) (fun d v c a w h => by cases d <;> exact h) lX [0, 1, 2, 3, 5] [[], [], [], [.ld (.slice cH la.length dJ)], [.cs ((ws2 : List Int).map wV)]] [(168, .agg ((ws2 : List Int).map wV).toArray), (166, .slice cH la.length dJ), (165, .pointer (some ⟨aG.heap.size, 0, none⟩)), (164, .pointer (some ⟨aG.heap.size, 0, none⟩)), (163, .int .i64 (0))] #[true, true, true, true, false, true, false, false] [(0 ≤ (0 : Int)), ((0 : Int) < (2 : Nat)), (∃ j_ : Nat, gV[j_]? = some (⟨aG.heap.size, 0, none⟩, (.slice cH la.length dJ))), (((ws2 : List Int).map wV).length = 4), (∀ (j : Nat) (v : Value), ((ws2 : List Int).map wV)[j]? = some v → ∃ j_ : Nat, gV[j_]? = some (((⟨aA.heap.size, 0, none⟩ : Addr).add j), v))] 3 gD (by kernel_rfl) ⟨(by decide), (by decide), ⟨0, by rw [iI]; rfl⟩, ((List.length_map _).trans (by assumption)), (fun j v hv => List.getElem?_of_mem (by rw [iI]; exact List.mem_append.2 (.inr (blkC_in hv)))), trivial⟩ (fun uF lY => ?_)
   clear gD
   refine AtH.all [4] 2 (by kernel_rfl) (by simp) ⟨?_, trivial⟩
   refine OneH.call lY 22 #[.slice cH la.length dJ] (some 167) #[true, true, true, true, true, true, false, false] (by kernel_rfl) (by kernel_rfl) (of_any (la := la) (bD.wide (Nat.zero_le _) (by omega))) ?_
   rintro e_ uG ⟨rfl, he⟩
   refine ⟨_, rfl, _, rfl, fun uH lZ => ?_⟩
   clear lY; have cT := gr_ext he; have gW := lX.gr cT; have := cT.size; replace aN := aN.gn cT; replace aV := aV.gn cT; replace aO := aO.gn cT; replace aM := aM.gn cT; replace bD := bD.gn cT; replace bE := bE.gn cT; replace bK := bK.gn cT; replace bL := bL.gn cT; replace bM := bM.gn cT; clear cT he
   refine ⟨gW, ?_⟩
   refine AtH.rd (by kernel_rfl) (fun d v c a w h => by cases d <;> exact h) gW [6] [[.cs [wV (gI (ofW la) 0), wV (gI (ofW la) 1), wV (gI (ofW la) 2), wV (gI (ofW la) 3)], .cs [wV (gI ws2 0), wV (gI ws2 1), wV (gI ws2 2), wV (gI ws2 3)], .as_ (.bool true)]] [(169, .bool true)] #[true, true, true, true, true, true, true, false] [(((ofW la : List Int).map wV).toArray = ([wV (gI (ofW la) 0), wV (gI (ofW la) 1), wV (gI (ofW la) 2), wV (gI (ofW la) 3)] : List Value).toArray), (((ws2 : List Int).map wV).toArray = ([wV (gI ws2 0), wV (gI ws2 1), wV (gI ws2 2), wV (gI ws2 3)] : List Value).toArray), ((.bool ((((gI (ofW la) 0 : Int) == gI ws2 0) && (((gI (ofW la) 1 : Int) == gI ws2 1) && (((gI (ofW la) 2 : Int) == gI ws2 2) && (((gI (ofW la) 3 : Int) == gI ws2 3) && true))))) : Value) = .bool true)] 1 lZ (by kernel_rfl) ⟨(map4 (okLen (ofW_ok _))), (map4 (by assumption)), (Eq.trans (b := (.bool (decide ((ofW la : List Int) = ws2)) : Value)) (congrArg (fun b => Value.bool b) (w4_eq (okLen (ofW_ok _)) (by assumption))) (congrArg Value.bool ((by first | exact decide_eq_true ((alone_sol hR (.inl rfl) hxo (by omega) hwr (by omega) hsA).1 rfl) | exact decide_eq_true ((alone_sol hR (.inr rfl) hxo (by omega) hwr (by omega) hsA).2 rfl))))), trivial⟩ (fun uI mA => ?_)
   clear lZ
   refine AtH.rd (by kernel_rfl) (fun d v c a w h => by cases d <;> exact h) gW [7] [[]] [(4, .bool true)] #[true, true, true, true, true, true, true, true] [] 0 mA (by kernel_rfl) trivial (fun uJ oR => ?_)
   clear mA
   refine AtH.done (by kernel_rfl) ?_
   clear gW
   refine t_n ?_
   have oS := oR.sub (r := [(4, .bool true)]) ⟨rfl, trivial⟩
   exact ⟨oS, aN, aV, aO, aM, bD, bE, bK, bL, bM, (by omega)⟩
  obtain ⟨gX, iJ⟩ : ∃ c : List (Addr × Value), c = ([(⟨aG.heap.size, 1, none⟩, (.slice cI lb.length dK))] : List (Addr × Value)) ++ blkC (aA.heap.size) ((ws2 : List Int).map wV) := ⟨_, rfl⟩
  have mB : HoldsC gX fE := by rw [iJ]; exact (holdsA (show HoldsC [(⟨aG.heap.size, 1, none⟩, (.slice cI lb.length dK))] fE from ⟨(bM.cell (i := 1) rfl), trivial⟩) (holds_blk aM))
  refine AtH.start gX 8 #[false, false, false, false, false, false, false, false] (by kernel_rfl) rfl rfl (fun uK mC => ?_)
  have cU := gr_drew mC; have mD := mB.gr cU; have := cU.size; replace aN := aN.gn cU; replace aV := aV.gn cU; replace aO := aO.gn cU; replace aM := aM.gn cU; replace bD := bD.gn cU; replace bE := bE.gn cU; replace bK := bK.gn cU; replace bL := bL.gn cU; replace bM := bM.gn cU; clear cU mC mB
  refine AtH.rd (by kernel_rfl) (fun d v c a w h => by cases d <;> exact h) mD [0, 1, 2, 3, 5] [[], [], [], [.ld (.slice cI lb.length dK)], [.cs ((ws2 : List Int).map wV)]] [(168, .agg ((ws2 : List Int).map wV).toArray), (166, .slice cI lb.length dK), (165, .pointer (some ⟨aG.heap.size, 1, none⟩)), (164, .pointer (some ⟨aG.heap.size, 0, none⟩)), (163, .int .i64 (1))] #[true, true, true, true, false, true, false, false] [(0 ≤ (1 : Int)), ((1 : Int) < (2 : Nat)), (∃ j_ : Nat, gX[j_]? = some (⟨aG.heap.size, 1, none⟩, (.slice cI lb.length dK))), (((ws2 : List Int).map wV).length = 4), (∀ (j : Nat) (v : Value), ((ws2 : List Int).map wV)[j]? = some v → ∃ j_ : Nat, gX[j_]? = some (((⟨aA.heap.size, 0, none⟩ : Addr).add j), v))] 3 gD (by kernel_rfl) ⟨(by decide), (by decide), ⟨0, by rw [iJ]; rfl⟩, ((List.length_map _).trans (by assumption)), (fun j v hv => List.getElem?_of_mem (by rw [iJ]; exact List.mem_append.2 (.inr (blkC_in hv)))), trivial⟩ (fun uL mE => ?_)
  clear gD
  refine AtH.all [4] 2 (by kernel_rfl) (by simp) ⟨?_, trivial⟩
  refine OneH.call mE 22 #[.slice cI lb.length dK] (some 167) #[true, true, true, true, true, true, false, false] (by kernel_rfl) (by kernel_rfl) (of_any (la := lb) (bE.wide (Nat.zero_le _) (by omega))) ?_
  rintro e_ uM ⟨rfl, he⟩
  refine ⟨_, rfl, _, rfl, fun uN mF => ?_⟩
  clear mE; have cV := gr_ext he; have gY := mD.gr cV; have := cV.size; replace aN := aN.gn cV; replace aV := aV.gn cV; replace aO := aO.gn cV; replace aM := aM.gn cV; replace bD := bD.gn cV; replace bE := bE.gn cV; replace bK := bK.gn cV; replace bL := bL.gn cV; replace bM := bM.gn cV; clear cV he
  refine ⟨gY, ?_⟩
  refine AtH.rd (by kernel_rfl) (fun d v c a w h => by cases d <;> exact h) gY [6] [[.cs [wV (gI (ofW lb) 0), wV (gI (ofW lb) 1), wV (gI (ofW lb) 2), wV (gI (ofW lb) 3)], .cs [wV (gI ws2 0), wV (gI ws2 1), wV (gI ws2 2), wV (gI ws2 3)], .as_ (.bool true)]] [(169, .bool true)] #[true, true, true, true, true, true, true, false] [(((ofW lb : List Int).map wV).toArray = ([wV (gI (ofW lb) 0), wV (gI (ofW lb) 1), wV (gI (ofW lb) 2), wV (gI (ofW lb) 3)] : List Value).toArray), (((ws2 : List Int).map wV).toArray = ([wV (gI ws2 0), wV (gI ws2 1), wV (gI ws2 2), wV (gI ws2 3)] : List Value).toArray), ((.bool ((((gI (ofW lb) 0 : Int) == gI ws2 0) && (((gI (ofW lb) 1 : Int) == gI ws2 1) && (((gI (ofW lb) 2 : Int) == gI ws2 2) && (((gI (ofW lb) 3 : Int) == gI ws2 3) && true))))) : Value) = .bool true)] 1 mF (by kernel_rfl) ⟨(map4 (okLen (ofW_ok _))), (map4 (by assumption)), (Eq.trans (b := (.bool (decide ((ofW lb : List Int) = ws2)) : Value)) (congrArg (fun b => Value.bool b) (w4_eq (okLen (ofW_ok _)) (by assumption))) (congrArg Value.bool ((by first | exact decide_eq_true ((alone_sol hR (.inl rfl) hxo (by omega) hwr (by omega) hsA).1 rfl) | exact decide_eq_true ((alone_sol hR (.inr rfl) hxo (by omega) hwr (by omega) hsA).2 rfl))))), trivial⟩ (fun uO mG => ?_)
  clear mF
  refine AtH.rd (by kernel_rfl) (fun d v c a w h => by cases d <;> exact h) gY [7] [[]] [(4, .bool true)] #[true, true, true, true, true, true, true, true] [] 0 mG (by kernel_rfl) trivial (fun uP oT => ?_)
  clear mG
  refine AtH.done (by kernel_rfl) ?_
  clear gY
  refine t_n ?_
  have oU := oT.sub (r := [(4, .bool true)]) ⟨rfl, trivial⟩
  exact ⟨oU, aN, aV, aO, aM, bD, bE, bK, bL, bM, (by omega)⟩
 clear aV; clear aO; clear aM; clear bD; clear bE; clear bK; clear bL; clear bM; clear gD aN
 intro uQ uR ⟨oV, mH, uS, uT, oW, uU, uV, uW, uX, oX, uY⟩
 have := mH.size; have := oW.lt; have := oX.lt
 refine wp_ret ?_
 refine ret_ oV [] [.bool true] [] (by kernel_rfl) trivial ?_
 exact ⟨rfl, mH⟩

end Go.Proofs.YtplpgfcjjnaigaaDoor
