/-
  A walk of a Go function, printed by a program of this repo. Conditions: what the theorems name.
-/
import Derived.Test.YtplpgfcjjnaigaaDoorWShown13
import Derived.Test.YtplpgfcjjnaigaaDoorWSub
import Derived.Test.YtplpgfcjjnaigaaDoorPureLaw13P
set_option linter.unusedVariables false
set_option linter.unusedSimpArgs false
namespace Go.Proofs.YtplpgfcjjnaigaaDoor
open Go Go.RowKit

attribute [local irreducible] ofZ fromW wordsD ofD ofW lsD lenW lenN fullW withW lessW hasW hasD inW inD leastD putD onI tzI orS andS minusS orD andD minusD fullD emptyD
set_option maxHeartbeats 4000000 in
theorem part13_any {Ag0 Ag1 Ag2 : Option Addr} {cg0 cg1 cg2 : Nat} {g : GameL} {w : World} (rg : RdG w 0 w.heap.size Ag0 Ag1 Ag2 cg0 cg1 cg2 g) (rT : RdT w 0 w.heap.size) :
    Calls Tryd.prog 9 #[.agg #[.slice Ag0 g.ow.length cg0, .slice Ag1 g.pr.length cg1, .slice Ag2 g.mv.length cg2]] w fun e w' => e = .returned (.bool true) ∧ Ext w w' := by
 have hlg0 := rg.ow.len; have hlg1 := rg.pr.len; have hlg2 := rg.mv.len; have hkg0 := rg.k0; have hkg1 := rg.k1; have hkg2 := rg.k2
 refine enter_ (args := [.agg #[.slice Ag0 g.ow.length cg0, .slice Ag1 g.pr.length cg1, .slice Ag2 g.mv.length cg2]]) Tryd.func9 rfl Tryd.ntmps9 (Nat.le_of_ble_eq_true rfl) (fun act0 f0 => ?_)
 have e0 : Ext w w := Ext.refl w
 refine wp_seq ?_
 refine At.start ?_
 refine At.seq f0 1 [[]] [(1, .pointer (some ⟨w.heap.size, 0, none⟩))] (w.alloc (.cells #[.slice Ag0 g.ow.length cg0, .slice Ag1 g.pr.length cg1, .slice Ag2 g.mv.length cg2] 25 (0, 0))) [] (by kernel_rfl) trivial (fun act4 w1 hw2 f3 => ?_)
 clear f0; have g5 := gr_alloc hw2; have := g5.size; replace e0 := e0.gn g5; have r8 := rg.gn g5; clear rg; have r9 := rT.gn g5; clear rT; have aN : Bx w1 (w.heap.size) [.slice Ag0 g.ow.length cg0, .slice Ag1 g.pr.length cg1, .slice Ag2 g.mv.length cg2] 25 := Bx.new hw2; have := aN.lt; clear g5 hw2
 refine At.rd f3 1 [[]] [(2, .bool false)] [] (by kernel_rfl) trivial (fun qH kW => ?_)
 clear f3
 refine At.done rfl ?_
 refine t_n ?_
 refine wp_seq ?_
 refine At.start ?_
 refine At.call kW 12 #[] (some 14) (by kernel_rfl) (shown13_any (r9.wide (Nat.zero_le _) (by omega))) ?_
 rintro e_ iX ⟨rfl, he⟩
 refine ⟨_, rfl, _, rfl, fun qI kX => ?_⟩
 clear kW; have eO := gr_ext he; have := eO.size; replace e0 := e0.gn eO; replace r8 := r8.gn eO; replace r9 := r9.gn eO; replace aN := aN.gn eO; clear eO he
 refine At.rd kX 1 [[]] [(3, .bool true)] [] (by kernel_rfl) trivial (fun qJ kY => ?_)
 clear kX
 refine At.done rfl ?_
 refine t_n ?_
 refine wp_seq ?_
 refine At.start ?_
 refine At.rd kY 1 [[.ld (.slice Ag0 g.ow.length cg0), .ld (.slice Ag1 g.pr.length cg1), .ld (.slice Ag2 g.mv.length cg2)]] [(16, .agg #[.slice Ag0 g.ow.length cg0, .slice Ag1 g.pr.length cg1, .slice Ag2 g.mv.length cg2])] [(iX.cell? ⟨w.heap.size, 0, none⟩ = some (.slice Ag0 g.ow.length cg0)), (iX.cell? ⟨w.heap.size, 1, none⟩ = some (.slice Ag1 g.pr.length cg1)), (iX.cell? ⟨w.heap.size, 2, none⟩ = some (.slice Ag2 g.mv.length cg2))] (by kernel_rfl) ⟨(aN.cell (i := 0) rfl), (aN.cell (i := 1) rfl), (aN.cell (i := 2) rfl), trivial⟩ (fun qK kZ => ?_)
 clear kY
 refine At.call kZ 21 #[.agg #[.slice Ag0 g.ow.length cg0, .slice Ag1 g.pr.length cg1, .slice Ag2 g.mv.length cg2]] (some 17) (by kernel_rfl) (right_any (r8.wide (Nat.zero_le _) (by omega))) ?_
 rintro e_ aS ⟨rfl, he⟩
 refine ⟨_, rfl, _, rfl, fun qL lA => ?_⟩
 clear kZ; have eP := gr_ext he; have := eP.size; replace e0 := e0.gn eP; replace r8 := r8.gn eP; replace r9 := r9.gn eP; replace aN := aN.gn eP; clear eP he
 refine At.rd lA 5 [[], [], [], [], []] [(5, .int .i64 ((rightP g).2)), (4, .int .i64 ((rightP g).1)), (19, .int .i64 ((rightP g).2)), (18, .int .i64 ((rightP g).1)), (15, .tuple #[.int .i64 ((rightP g).1), .int .i64 ((rightP g).2)])] [] (by kernel_rfl) trivial (fun qM lB => ?_)
 clear lA
 refine At.done rfl ?_
 refine t_n ?_
 refine wp_seq ?_
 refine wp_seq ?_
 refine At.start ?_
 refine At.rd lB 6 [[], [], [], [], [], []] [(25, .bool (((rightP g).2 : Int) != 0)), (24, .bool (((rightP g).2 : Int) != 0)), (23, .int .i64 ((rightP g).2)), (22, .bool false), (21, .bool false), (20, .bool true)] [] (by kernel_rfl) trivial (fun qN fH => ?_)
 clear lB
 refine At.done rfl ?_
 refine t_n ?_
 refine cond_S fH (t := ((rightP g).2 : Int) != 0) rfl (fun iY => ?_) (fun iY => ?_)
 ·have qO := bne_iff_ne.1 iY
  refine wp_seq ?_
  refine At.start ?_
  refine At.rd fH 2 [[], []] [(2, .bool true), (26, .bool true)] [] (by kernel_rfl) trivial (fun qP oV => ?_)
  clear fH
  refine At.done rfl ?_
  refine t_n ?_
  clear aN
  refine wp_ret ?_
  refine t_r ?_
  refine ret_ oV [] [.bool true] [] (by kernel_rfl) trivial ?_
  exact ⟨rfl, e0⟩
 have qQ := bne_eq_false_iff_eq.1 iY
 refine wp_skip ?_
 refine t_n ?_
 refine wp_seq ?_
 have hR : isR g = true := right_of2 (by omega); have hG := isR_ok hR; have hn1 := hG.n1; have hn0 := hG.n0; have hpl := hG.pl; have hml := hG.ml
 refine At.start ?_
 refine At.rd fH 1 [[.ld (.slice Ag0 g.ow.length cg0), .ld (.slice Ag1 g.pr.length cg1), .ld (.slice Ag2 g.mv.length cg2)]] [(28, .agg #[.slice Ag0 g.ow.length cg0, .slice Ag1 g.pr.length cg1, .slice Ag2 g.mv.length cg2])] [(aS.cell? ⟨w.heap.size, 0, none⟩ = some (.slice Ag0 g.ow.length cg0)), (aS.cell? ⟨w.heap.size, 1, none⟩ = some (.slice Ag1 g.pr.length cg1)), (aS.cell? ⟨w.heap.size, 2, none⟩ = some (.slice Ag2 g.mv.length cg2))] (by kernel_rfl) ⟨(aN.cell (i := 0) rfl), (aN.cell (i := 1) rfl), (aN.cell (i := 2) rfl), trivial⟩ (fun qR lC => ?_)
 clear fH
 refine At.call lC 16 #[.agg #[.slice Ag0 g.ow.length cg0, .slice Ag1 g.pr.length cg1, .slice Ag2 g.mv.length cg2]] (some 29) (by kernel_rfl) (solve_any (g := g) (r8.wide (Nat.zero_le _) (by omega)) (r9.wide (Nat.zero_le _) (by omega))) ?_
 rintro e_ aE ⟨aL, aT, aM, aU, bX, dJ, bY, dK, la, lb, ma, mb, da, rfl, he, lD, lE, lF, lG, hsA⟩
 have hln_hsA := solve_lens hsA; have eQ : RdI aE (aS.heap.size) aE.heap.size aL la := (OwnR.rdR lD (by show _ * 8 ≤ _; omega)).rdI; clear lD; have eR : RdI aE (aS.heap.size) aE.heap.size aM lb := (OwnR.rdR lE (by show _ * 8 ≤ _; omega)).rdI; clear lE; have eS : RdI aE (aS.heap.size) aE.heap.size bX ma := (OwnR.rdR lF (by show _ * 8 ≤ _; omega)).rdI; clear lF
 have eT : RdI aE (aS.heap.size) aE.heap.size bY mb := (OwnR.rdR lG (by show _ * 8 ≤ _; omega)).rdI; clear lG
 refine ⟨_, rfl, _, rfl, fun qS lH => ?_⟩
 clear lC; have eU := gr_ext he; have := eU.size; replace e0 := e0.gn eU; replace r8 := r8.gn eU; replace r9 := r9.gn eU; replace aN := aN.gn eU; clear eU he
 refine At.rd lH 3 [[], [], []] [(31, .int .i64 (da)), (30, .agg #[.slice aL la.length aT, .slice aM lb.length aU, .slice bX ma.length dJ, .slice bY mb.length dK]), (27, .tuple #[.agg #[.slice aL la.length aT, .slice aM lb.length aU, .slice bX ma.length dJ, .slice bY mb.length dK], .int .i64 (da)])] [] (by kernel_rfl) trivial (fun qT lI => ?_)
 clear lH
 refine At.seq lI 1 [[]] [(6, .pointer (some ⟨aE.heap.size, 0, none⟩))] (aE.alloc (.cells #[.slice none 0 0, .slice none 0 0, .slice none 0 0, .slice none 0 0] 32 (0, 0))) [] (by kernel_rfl) trivial (fun qU oW iZ lJ => ?_)
 clear lI; have cD := gr_alloc iZ; have := cD.size; replace e0 := e0.gn cD; replace r8 := r8.gn cD; replace r9 := r9.gn cD; replace aN := aN.gn cD; replace eQ := eQ.gn cD; replace eR := eR.gn cD; replace eS := eS.gn cD; replace eT := eT.gn cD; have jA : Bx oW (aE.heap.size) [.slice none 0 0, .slice none 0 0, .slice none 0 0, .slice none 0 0] 32 := Bx.new iZ; have := jA.lt; clear cD iZ
 refine At.store lJ (t := 32) (b := aE.heap.size) (off := 0) (v := .agg #[.slice aL la.length aT, .slice aM lb.length aU, .slice bX ma.length dJ, .slice bY mb.length dK]) (by kernel_rfl) jA (by kernel_rfl) (fun qV oX cE hY lK => ?_)
 clear lJ; replace hY : Bx oX (aE.heap.size) [.slice aL la.length aT, .slice aM lb.length aU, .slice bX ma.length dJ, .slice bY mb.length dK] 32 := hY; have := cE.size; replace e0 := e0.gr cE (fun k h => by injection h; omega); replace r8 := r8.gb cE (by omega); replace r9 := r9.gb cE (by omega); replace aN := aN.gb cE (by omega); replace eQ := eQ.gb cE (by omega); replace eR := eR.gb cE (by omega)
 replace eS := eS.gb cE (by omega); replace eT := eT.gb cE (by omega); clear jA cE
 refine At.rd lK 1 [[]] [(7, .int .i64 (da))] [] (by kernel_rfl) trivial (fun qW lL => ?_)
 clear lK
 refine At.done rfl ?_
 refine t_n ?_
 refine wp_seq ?_
 refine wp_seq ?_
 have hPS := part_sol hR hsA
 refine At.start ?_
 refine At.rd lL 1 [[]] [(8, .int .i64 (0))] [] (by kernel_rfl) trivial (fun qX lM => ?_)
 clear lL
 refine At.done rfl ?_
 refine t_n ?_
 refine wp_block ?_
 have lN := lM.sub (r := [(8, .int .i64 (0)), (6, .pointer (some ⟨aE.heap.size, 0, none⟩)), (1, .pointer (some ⟨w.heap.size, 0, none⟩))]) ⟨rfl, rfl, rfl, trivial⟩
 refine loop_g (fun (m_ : Nat) a_ w_ => ∃ (p : Int), m_ = (2 - p).toNat ∧ (Frm 87 a_ [(8, .int .i64 (p)), (6, .pointer (some ⟨aE.heap.size, 0, none⟩)), (1, .pointer (some ⟨w.heap.size, 0, none⟩))]) ∧ (Ext w w_) ∧ (RdG w_ 0 w.heap.size Ag0 Ag1 Ag2 cg0 cg1 cg2 g) ∧ (RdT w_ 0 w.heap.size) ∧ (Bx w_ (w.heap.size) [.slice Ag0 g.ow.length cg0, .slice Ag1 g.pr.length cg1, .slice Ag2 g.mv.length cg2] 25) ∧ (RdI w_ (aS.heap.size) aE.heap.size aL la) ∧ (RdI w_ (aS.heap.size) aE.heap.size aM lb) ∧ (RdI w_ (aS.heap.size) aE.heap.size bX ma) ∧ (RdI w_ (aS.heap.size) aE.heap.size bY mb) ∧ (Bx w_ (aE.heap.size) [.slice aL la.length aT, .slice aM lb.length aU, .slice bX ma.length dJ, .slice bY mb.length dK] 32) ∧ (0 ≤ p) ∧ (p ≤ 2)) _ ⟨0, rfl, lN, e0, r8, r9, aN, eQ, eR, eS, eT, hY, (by omega), (by omega)⟩ ?_
 clear lN lM; clear r8; clear r9; clear aN; clear eQ; clear eR; clear eS; clear eT; clear hY; clear e0
 intro m_ qY aK ⟨p, hm111, lO, aF, aB, aC, aA, aG, aH, aI, aJ, aD, i121, i122⟩
 have := aF.size; have := aA.lt; have := aD.lt
 refine wp_seq ?_
 refine wp_seq ?_
 refine At.start ?_
 refine At.rd lO 2 [[], []] [(33, .bool (decide ((p : Int) < 2))), (32, .int .i64 (p))] [] (by kernel_rfl) trivial (fun qZ dL => ?_)
 clear lO
 refine At.done rfl ?_
 refine t_n ?_
 refine cond_S dL (t := decide ((p : Int) < 2)) rfl (fun jB => ?_) (fun jB => ?_)
 ·have rA := of_decide_eq_true jB
  refine wp_skip ?_
  refine t_n ?_
  refine wp_seq ?_
  refine wp_block ?_
  refine wp_seq ?_
  refine wp_seq ?_
  have hp_ : p = 0 ∨ p = 1 := by omega
  rcases hp_ with rfl | rfl
  ·refine At.start ?_
   refine At.rd dL 6 [[], [], [], [.ld (.slice aL la.length aT)], [], []] [(41, .bool ((((la.length : Nat) : Int) : Int) == 0)), (40, .int .i64 (((la.length : Nat) : Int))), (39, .slice aL la.length aT), (38, .pointer (some ⟨aE.heap.size, 0, none⟩)), (37, .pointer (some ⟨aE.heap.size, 0, none⟩)), (36, .int .i64 (0))] [(0 ≤ (0 : Int)), ((0 : Int) < (2 : Nat)), (aK.cell? ⟨aE.heap.size, 0, none⟩ = some (.slice aL la.length aT))] (by kernel_rfl) ⟨(by decide), (by decide), (aD.cell (i := 0) rfl), trivial⟩ (fun rB eV => ?_)
   clear dL
   refine At.done rfl ?_
   refine t_n ?_
   refine cond_S eV (t := (((la.length : Nat) : Int) : Int) == 0) rfl (fun jC => ?_) (fun jC => ?_)
   ·have rC := eq_of_beq jC
    refine wp_exit ?_
    refine t_e ?_
    refine b_e ?_
    refine t_n ?_
    refine At.start ?_
    refine At.rd eV 3 [[], [.as_ (.int .i64 (1))], []] [(8, .int .i64 (1)), (35, .int .i64 (1)), (34, .int .i64 (0))] [((.int .i64 (IntKind.i64.wrap (0 + 1)) : Value) = .int .i64 (1))] (by kernel_rfl) ⟨(by kernel_rfl), trivial⟩ (fun rD oY => ?_)
    clear eV
    refine At.done rfl ?_
    refine t_n ?_
    have oZ := oY.sub (r := [(8, .int .i64 (1)), (6, .pointer (some ⟨aE.heap.size, 0, none⟩)), (1, .pointer (some ⟨w.heap.size, 0, none⟩))]) ⟨rfl, rfl, rfl, trivial⟩
    exact ⟨_, (by omega), 1, rfl, oZ, aF, aB, aC, aA, aG, aH, aI, aJ, aD, (by omega), (by omega)⟩
   have rE := ne_of_beq_false jC
   refine wp_skip ?_
   refine t_n ?_
   refine wp_seq (cut (fun a_ w_ => ∃ (bZ : Nat) (cT : Option Addr) (cF : Option Addr) (cG : Option Addr) (cH : Option Addr) (fI : Nat) (dM : Nat) (dN : Nat) (dO : Nat), (Frm 87 a_ [(11, .bool (subB g (inT g (ofW la)))), (10, .slice (cT) ((subO g (inT g (ofW la))).length) (fI)), (9, .pointer (some ⟨bZ, 0, none⟩)), (8, .int .i64 (0)), (6, .pointer (some ⟨aE.heap.size, 0, none⟩)), (1, .pointer (some ⟨w.heap.size, 0, none⟩))]) ∧ (Ext w w_) ∧ (RdG w_ 0 w.heap.size Ag0 Ag1 Ag2 cg0 cg1 cg2 g) ∧ (RdT w_ 0 w.heap.size) ∧ (Bx w_ (w.heap.size) [.slice Ag0 g.ow.length cg0, .slice Ag1 g.pr.length cg1, .slice Ag2 g.mv.length cg2] 25) ∧ (RdI w_ (aS.heap.size) aE.heap.size aL la) ∧ (RdI w_ (aS.heap.size) aE.heap.size aM lb) ∧ (RdI w_ (aS.heap.size) aE.heap.size bX ma) ∧ (RdI w_ (aS.heap.size) aE.heap.size bY mb) ∧ (Bx w_ (aE.heap.size) [.slice aL la.length aT, .slice aM lb.length aU, .slice bX ma.length dJ, .slice bY mb.length dK] 32) ∧ (OwnR w_ (Sx (aK.heap.size) [obk (cF), obk (cG), obk (cH), some (bZ)]) (cT) (fI) 3 ((subO g (inT g (ofW la))) : List Int)) ∧ (OwnR w_ (Sx (aK.heap.size) [obk (cT), obk (cG), obk (cH), some (bZ)]) (cF) (dM) 3 ((subG g (inT g (ofW la))).ow : List Int)) ∧ (OwnR w_ (Sx (aK.heap.size) [obk (cT), obk (cF), obk (cH), some (bZ)]) (cG) (dN) 3 ((subG g (inT g (ofW la))).pr : List Int)) ∧ (OwnLL w_ (aK.heap.size) [obk (cT), obk (cF), obk (cG), some (bZ)] (cH) (dO) 22 3 ((subG g (inT g (ofW la))).mv : List (List Int))) ∧ (Bx w_ (bZ) [.slice (cF) ((subG g (inT g (ofW la))).ow.length) (dM), .slice (cG) ((subG g (inT g (ofW la))).pr.length) (dN), .slice (cH) ((subG g (inT g (ofW la))).mv.length) (dO)] 25) ∧ (aK.heap.size ≤ bZ) ∧ (aK.heap.size ≤ w_.heap.size)) ?_ ?_)
   ·obtain ⟨eW, cU⟩ : ∃ c : List (Addr × Value), c = [(⟨w.heap.size, 0, none⟩, (.slice Ag0 g.ow.length cg0)), (⟨w.heap.size, 1, none⟩, (.slice Ag1 g.pr.length cg1)), (⟨w.heap.size, 2, none⟩, (.slice Ag2 g.mv.length cg2)), (⟨aE.heap.size, 0, none⟩, (.slice aL la.length aT))] := ⟨_, rfl⟩
    have lP : HoldsC eW aK := by rw [cU]; exact ⟨(aA.cell (i := 0) rfl), (aA.cell (i := 1) rfl), (aA.cell (i := 2) rfl), (aD.cell (i := 0) rfl), trivial⟩
    refine AtH.start eW 15 #[false, false, false, false, false, false, false, false, false, false, false, false, false, false, false] (by kernel_rfl) rfl rfl (fun dP lQ => ?_)
    have bN := gr_drew lQ; have jD := lP.gr bN; have := bN.size; replace aF := aF.gn bN; replace aB := aB.gn bN; replace aC := aC.gn bN; replace aA := aA.gn bN; replace aG := aG.gn bN; replace aH := aH.gn bN; replace aI := aI.gn bN; replace aJ := aJ.gn bN; replace aD := aD.gn bN; clear bN lQ lP
    refine AtH.rd (by kernel_rfl) (fun d v c a w h => by cases d <;> exact h) jD [0, 1, 2, 3, 4] [[.ld (.slice Ag0 g.ow.length cg0), .ld (.slice Ag1 g.pr.length cg1), .ld (.slice Ag2 g.mv.length cg2)], [], [], [], [.ld (.slice aL la.length aT)]] [(47, .slice aL la.length aT), (46, .pointer (some ⟨aE.heap.size, 0, none⟩)), (45, .pointer (some ⟨aE.heap.size, 0, none⟩)), (44, .int .i64 (0)), (43, .agg #[.slice Ag0 g.ow.length cg0, .slice Ag1 g.pr.length cg1, .slice Ag2 g.mv.length cg2])] #[true, true, true, true, true, false, false, false, false, false, false, false, false, false, false] [(∃ j_ : Nat, eW[j_]? = some (⟨w.heap.size, 0, none⟩, (.slice Ag0 g.ow.length cg0))), (∃ j_ : Nat, eW[j_]? = some (⟨w.heap.size, 1, none⟩, (.slice Ag1 g.pr.length cg1))), (∃ j_ : Nat, eW[j_]? = some (⟨w.heap.size, 2, none⟩, (.slice Ag2 g.mv.length cg2))), (0 ≤ (0 : Int)), ((0 : Int) < (2 : Nat)), (∃ j_ : Nat, eW[j_]? = some (⟨aE.heap.size, 0, none⟩, (.slice aL la.length aT)))] 10 eV (by kernel_rfl) ⟨⟨0, by rw [cU]; rfl⟩, ⟨1, by rw [cU]; rfl⟩, ⟨2, by rw [cU]; rfl⟩, (by decide), (by decide), ⟨3, by rw [cU]; rfl⟩, trivial⟩ (fun rF hZ => ?_)
    clear eV
    refine AtH.all [5, 11] 9 (by kernel_rfl) (by simp) ⟨?_, ?_, trivial⟩
    ·refine OneH.call hZ 22 #[.slice aL la.length aT] (some 48) #[true, true, true, true, true, true, false, false, false, false, false, false, false, false, false] (by kernel_rfl) (by kernel_rfl) (of_any (la := la) (aG.wide (Nat.zero_le _) (by omega))) ?_
     rintro e_ dQ ⟨rfl, he⟩
     refine ⟨_, rfl, _, rfl, fun rG iA => ?_⟩
     clear hZ; have bO := gr_ext he; have jE := jD.gr bO; have := bO.size; replace aF := aF.gn bO; replace aB := aB.gn bO; replace aC := aC.gn bO; replace aA := aA.gn bO; replace aG := aG.gn bO; replace aH := aH.gn bO; replace aI := aI.gn bO; replace aJ := aJ.gn bO; replace aD := aD.gn bO; clear bO he
     refine ⟨jE, ?_⟩
     refine AtH.all [6, 11] 8 (by kernel_rfl) (by simp) ⟨?_, ?_, trivial⟩
     ·refine OneH.call iA 28 #[.agg #[.slice Ag0 g.ow.length cg0, .slice Ag1 g.pr.length cg1, .slice Ag2 g.mv.length cg2], .agg ((ofW la : List Int).map wV).toArray] (some 49) #[true, true, true, true, true, true, true, false, false, false, false, false, false, false, false] (by kernel_rfl) (by kernel_rfl) (subM_any (g := g) (s := ofW la) (aB.wide (Nat.zero_le _) (by omega)) (ofW_ok _) (aC.wide (Nat.zero_le _) (by omega))) ?_
      rintro e_ dR ⟨fJ, fK, fL, fM, fN, fO, fP, fQ, rfl, he, fR, fS, fT, fU⟩
      have hip193 := sub_inner g (ofW la); have := sub_lens g (inT g (ofW la))
      refine ⟨_, rfl, _, rfl, fun rH lR => ?_⟩
      clear iA; have bP := gr_ext he; have eX := jE.gr bP; have := bP.size; replace aF := aF.gn bP; replace aB := aB.gn bP; replace aC := aC.gn bP; replace aA := aA.gn bP; replace aG := aG.gn bP; replace aH := aH.gn bP; replace aI := aI.gn bP; replace aJ := aJ.gn bP; replace aD := aD.gn bP; clear bP he
      refine ⟨eX, ?_⟩
      refine AtH.rd (by kernel_rfl) (fun d v c a w h => by cases d <;> exact h) eX [7] [[]] [(42, .tuple #[.agg #[.slice fJ ((subG g (inT g (ofW la))).ow.length) fK, .slice fL ((subG g (inT g (ofW la))).pr.length) fM, .slice fN ((subG g (inT g (ofW la))).mv.length) fO], .slice fP ((subO g (inT g (ofW la))).length) fQ, .bool (subB g (inT g (ofW la)))])] #[true, true, true, true, true, true, true, true, false, false, false, false, false, false, false] [] 7 lR (by kernel_rfl) trivial (fun rI lS => ?_)
      clear lR
      refine AtH.rd (by kernel_rfl) (fun d v c a w h => by cases d <;> exact h) eX [8] [[]] [(50, .agg #[.slice fJ ((subG g (inT g (ofW la))).ow.length) fK, .slice fL ((subG g (inT g (ofW la))).pr.length) fM, .slice fN ((subG g (inT g (ofW la))).mv.length) fO])] #[true, true, true, true, true, true, true, true, true, false, false, false, false, false, false] [] 6 lS (by kernel_rfl) trivial (fun rJ lT => ?_)
      clear lS
      refine AtH.rd (by kernel_rfl) (fun d v c a w h => by cases d <;> exact h) eX [9] [[]] [(51, .slice fP ((subO g (inT g (ofW la))).length) fQ)] #[true, true, true, true, true, true, true, true, true, true, false, false, false, false, false] [] 5 lT (by kernel_rfl) trivial (fun rK lU => ?_)
      clear lT
      refine AtH.rd (by kernel_rfl) (fun d v c a w h => by cases d <;> exact h) eX [10] [[]] [(52, .bool (subB g (inT g (ofW la))))] #[true, true, true, true, true, true, true, true, true, true, true, false, false, false, false] [] 4 lU (by kernel_rfl) trivial (fun rL lV => ?_)
      clear lU
      refine AtH.all [11] 3 (by kernel_rfl) (by simp) ⟨?_, trivial⟩
      refine OneH.seq lV [[]] [(9, .pointer (some ⟨dR.heap.size, 0, none⟩))] (dR.alloc (.cells #[.slice none 0 0, .slice none 0 0, .slice none 0 0] 25 (0, 0))) [] #[true, true, true, true, true, true, true, true, true, true, true, true, false, false, false] (by kernel_rfl) (by kernel_rfl) (by kernel_rfl) trivial (fun rM pA jF lW => ?_)
      clear lV; have aX := gr_alloc jF; have lX := eX.gr aX; have := aX.size; replace aF := aF.gn aX; replace aB := aB.gn aX; replace aC := aC.gn aX; replace aA := aA.gn aX; replace aG := aG.gn aX; replace aH := aH.gn aX; replace aI := aI.gn aX; replace aJ := aJ.gn aX; replace aD := aD.gn aX; replace fR := fR.grN aX; replace fS := fS.grN aX; replace fT := fT.grN aX; replace fU := fU.grN aX
      have jG : Bx pA (dR.heap.size) [.slice none 0 0, .slice none 0 0, .slice none 0 0] 25 := Bx.new jF; have := jG.lt; clear aX jF
      refine ⟨lX, ?_⟩
      refine AtH.all [12] 2 (by kernel_rfl) (by simp) ⟨?_, trivial⟩
      refine OneH.store lW (t := 25) (b := dR.heap.size) (off := 0) (v := .agg #[.slice fJ ((subG g (inT g (ofW la))).ow.length) fK, .slice fL ((subG g (inT g (ofW la))).pr.length) fM, .slice fN ((subG g (inT g (ofW la))).mv.length) fO]) #[true, true, true, true, true, true, true, true, true, true, true, true, true, false, false] (by kernel_rfl) (by kernel_rfl) jG (by kernel_rfl) (fun rN pB aY jH lY => ?_)
      clear lW
      replace jH : Bx pB (dR.heap.size) [.slice fJ ((subG g (inT g (ofW la))).ow.length) fK, .slice fL ((subG g (inT g (ofW la))).pr.length) fM, .slice fN ((subG g (inT g (ofW la))).mv.length) fO] 25 := jH
      have iB := lX.gr' aY (by rw [cU]; exact ⟨(by simp only [add_block]; omega), (by simp only [add_block]; omega), (by simp only [add_block]; omega), (by simp only [add_block]; omega), trivial⟩)
      have := aY.size; replace aF := aF.gr aY (fun k h => by injection h; omega); replace aB := aB.gb aY (by omega); replace aC := aC.gb aY (by omega); replace aA := aA.gb aY (by omega); replace aG := aG.gb aY (by omega); replace aH := aH.gb aY (by omega); replace aI := aI.gb aY (by omega); replace aJ := aJ.gb aY (by omega); replace aD := aD.gb aY (by omega); replace fR := fR.gr aY (fun k hk => hk.1)
      replace fS := fS.gr aY (fun k hk => hk.1); replace fT := fT.gr aY (fun k hk => hk.1); replace fU := fU.gr aY (fun k hk => hk.1); clear jG aY
      refine ⟨iB, ?_⟩
      refine AtH.rd (by kernel_rfl) (fun d v c a w h => by cases d <;> exact h) iB [13] [[]] [(10, .slice fP ((subO g (inT g (ofW la))).length) fQ)] #[true, true, true, true, true, true, true, true, true, true, true, true, true, true, false] [] 1 lY (by kernel_rfl) trivial (fun rO lZ => ?_)
      clear lY
      refine AtH.rd (by kernel_rfl) (fun d v c a w h => by cases d <;> exact h) iB [14] [[]] [(11, .bool (subB g (inT g (ofW la))))] #[true, true, true, true, true, true, true, true, true, true, true, true, true, true, true] [] 0 lZ (by kernel_rfl) trivial (fun rP pC => ?_)
      clear lZ
      refine AtH.done (by kernel_rfl) ?_
      clear iB
      refine t_n ?_
      have pD := pC.sub (r := [(11, .bool (subB g (inT g (ofW la)))), (10, .slice fP ((subO g (inT g (ofW la))).length) fQ), (9, .pointer (some ⟨dR.heap.size, 0, none⟩)), (8, .int .i64 (0)), (6, .pointer (some ⟨aE.heap.size, 0, none⟩)), (1, .pointer (some ⟨w.heap.size, 0, none⟩))]) ⟨rfl, rfl, rfl, rfl, rfl, rfl, trivial⟩
      exact ⟨dR.heap.size, fP, fJ, fL, fN, fQ, fK, fM, fO, pD, aF, aB, aC, aA, aG, aH, aI, aJ, aD, (fU.imp (fun g _ hs => ⟨hs.2.1, hs.2.2.1, hs.2.2.2.1, hs.1, (by have := Sx_base hs; show aK.heap.size ≤ g; omega)⟩)), (fR.imp (fun g _ hs => ⟨hs.2.2.2.1, hs.2.1, hs.2.2.1, hs.1, (by have := Sx_base hs; show aK.heap.size ≤ g; omega)⟩)), (fS.imp (fun g _ hs => ⟨hs.2.2.2.1, hs.2.1, hs.2.2.1, hs.1, (by have := Sx_base hs; show aK.heap.size ≤ g; omega)⟩)), (fT.imp (fun g _ hs => ⟨hs.2.2.2.1, hs.2.1, hs.2.2.1, hs.1, (by have := Sx_base hs; show aK.heap.size ≤ g; omega)⟩)), jH, (by omega), (by omega)⟩
     refine OneH.seq iA [[]] [(9, .pointer (some ⟨dQ.heap.size, 0, none⟩))] (dQ.alloc (.cells #[.slice none 0 0, .slice none 0 0, .slice none 0 0] 25 (0, 0))) [] #[true, true, true, true, true, true, false, false, false, false, false, true, false, false, false] (by kernel_rfl) (by kernel_rfl) (by kernel_rfl) trivial (fun rQ pE jI mA => ?_)
     clear iA; have bQ := gr_alloc jI; have mB := jE.gr bQ; have := bQ.size; replace aF := aF.gn bQ; replace aB := aB.gn bQ; replace aC := aC.gn bQ; replace aA := aA.gn bQ; replace aG := aG.gn bQ; replace aH := aH.gn bQ; replace aI := aI.gn bQ; replace aJ := aJ.gn bQ; replace aD := aD.gn bQ; have fV : Bx pE (dQ.heap.size) [.slice none 0 0, .slice none 0 0, .slice none 0 0] 25 := Bx.new jI; have := fV.lt
     clear bQ jI
     refine ⟨mB, ?_⟩
     refine AtH.all [6] 7 (by kernel_rfl) (by simp) ⟨?_, trivial⟩
     refine OneH.call mA 28 #[.agg #[.slice Ag0 g.ow.length cg0, .slice Ag1 g.pr.length cg1, .slice Ag2 g.mv.length cg2], .agg ((ofW la : List Int).map wV).toArray] (some 49) #[true, true, true, true, true, true, true, false, false, false, false, true, false, false, false] (by kernel_rfl) (by kernel_rfl) (subM_any (g := g) (s := ofW la) (aB.wide (Nat.zero_le _) (by omega)) (ofW_ok _) (aC.wide (Nat.zero_le _) (by omega))) ?_
     rintro e_ rR ⟨fW, fX, fY, fZ, gA, gB, gC, gD, rfl, he, jJ, jK, jL, jM⟩
     have hip294 := sub_inner g (ofW la); have := sub_lens g (inT g (ofW la))
     refine ⟨_, rfl, _, rfl, fun rS mC => ?_⟩
     clear mA; have bH := gr_ext he; have eY := mB.gr bH; have := bH.size; replace aF := aF.gn bH; replace aB := aB.gn bH; replace aC := aC.gn bH; replace aA := aA.gn bH; replace aG := aG.gn bH; replace aH := aH.gn bH; replace aI := aI.gn bH; replace aJ := aJ.gn bH; replace aD := aD.gn bH; replace fV := fV.gn bH; clear bH he
     refine ⟨eY, ?_⟩
     refine AtH.rd (by kernel_rfl) (fun d v c a w h => by cases d <;> exact h) eY [7] [[]] [(42, .tuple #[.agg #[.slice fW ((subG g (inT g (ofW la))).ow.length) fX, .slice fY ((subG g (inT g (ofW la))).pr.length) fZ, .slice gA ((subG g (inT g (ofW la))).mv.length) gB], .slice gC ((subO g (inT g (ofW la))).length) gD, .bool (subB g (inT g (ofW la)))])] #[true, true, true, true, true, true, true, true, false, false, false, true, false, false, false] [] 6 mC (by kernel_rfl) trivial (fun rU mD => ?_)
     clear mC
     refine AtH.rd (by kernel_rfl) (fun d v c a w h => by cases d <;> exact h) eY [8] [[]] [(50, .agg #[.slice fW ((subG g (inT g (ofW la))).ow.length) fX, .slice fY ((subG g (inT g (ofW la))).pr.length) fZ, .slice gA ((subG g (inT g (ofW la))).mv.length) gB])] #[true, true, true, true, true, true, true, true, true, false, false, true, false, false, false] [] 5 mD (by kernel_rfl) trivial (fun rV mE => ?_)
     clear mD
     refine AtH.rd (by kernel_rfl) (fun d v c a w h => by cases d <;> exact h) eY [9] [[]] [(51, .slice gC ((subO g (inT g (ofW la))).length) gD)] #[true, true, true, true, true, true, true, true, true, true, false, true, false, false, false] [] 4 mE (by kernel_rfl) trivial (fun rW mF => ?_)
     clear mE
     refine AtH.rd (by kernel_rfl) (fun d v c a w h => by cases d <;> exact h) eY [10] [[]] [(52, .bool (subB g (inT g (ofW la))))] #[true, true, true, true, true, true, true, true, true, true, true, true, false, false, false] [] 3 mF (by kernel_rfl) trivial (fun rX mG => ?_)
     clear mF
     refine AtH.all [12] 2 (by kernel_rfl) (by simp) ⟨?_, trivial⟩
     refine OneH.store mG (t := 25) (b := dQ.heap.size) (off := 0) (v := .agg #[.slice fW ((subG g (inT g (ofW la))).ow.length) fX, .slice fY ((subG g (inT g (ofW la))).pr.length) fZ, .slice gA ((subG g (inT g (ofW la))).mv.length) gB]) #[true, true, true, true, true, true, true, true, true, true, true, true, true, false, false] (by kernel_rfl) (by kernel_rfl) fV (by kernel_rfl) (fun rY pF aZ jN mH => ?_)
     clear mG
     replace jN : Bx pF (dQ.heap.size) [.slice fW ((subG g (inT g (ofW la))).ow.length) fX, .slice fY ((subG g (inT g (ofW la))).pr.length) fZ, .slice gA ((subG g (inT g (ofW la))).mv.length) gB] 25 := jN
     have iC := eY.gr' aZ (by rw [cU]; exact ⟨(by simp only [add_block]; omega), (by simp only [add_block]; omega), (by simp only [add_block]; omega), (by simp only [add_block]; omega), trivial⟩)
     have := aZ.size; replace aF := aF.gr aZ (fun k h => by injection h; omega); replace aB := aB.gb aZ (by omega); replace aC := aC.gb aZ (by omega); replace aA := aA.gb aZ (by omega); replace aG := aG.gb aZ (by omega); replace aH := aH.gb aZ (by omega); replace aI := aI.gb aZ (by omega); replace aJ := aJ.gb aZ (by omega); replace aD := aD.gb aZ (by omega)
     replace jJ := jJ.gr aZ (fun k hk e => by have := Sx_base hk; injection e; omega); replace jK := jK.gr aZ (fun k hk e => by have := Sx_base hk; injection e; omega); replace jL := jL.gr aZ (fun k hk e => by have := Sx_base hk; injection e; omega); replace jM := jM.gr aZ (fun k hk e => by have := Sx_base hk; injection e; omega); clear fV aZ
     refine ⟨iC, ?_⟩
     refine AtH.rd (by kernel_rfl) (fun d v c a w h => by cases d <;> exact h) iC [13] [[]] [(10, .slice gC ((subO g (inT g (ofW la))).length) gD)] #[true, true, true, true, true, true, true, true, true, true, true, true, true, true, false] [] 1 mH (by kernel_rfl) trivial (fun rZ mI => ?_)
     clear mH
     refine AtH.rd (by kernel_rfl) (fun d v c a w h => by cases d <;> exact h) iC [14] [[]] [(11, .bool (subB g (inT g (ofW la))))] #[true, true, true, true, true, true, true, true, true, true, true, true, true, true, true] [] 0 mI (by kernel_rfl) trivial (fun sA pG => ?_)
     clear mI
     refine AtH.done (by kernel_rfl) ?_
     clear iC
     refine t_n ?_
     have pH := pG.sub (r := [(11, .bool (subB g (inT g (ofW la)))), (10, .slice gC ((subO g (inT g (ofW la))).length) gD), (9, .pointer (some ⟨dQ.heap.size, 0, none⟩)), (8, .int .i64 (0)), (6, .pointer (some ⟨aE.heap.size, 0, none⟩)), (1, .pointer (some ⟨w.heap.size, 0, none⟩))]) ⟨rfl, rfl, rfl, rfl, rfl, rfl, trivial⟩
     exact ⟨dQ.heap.size, gC, fW, fY, gA, gD, fX, fZ, gB, pH, aF, aB, aC, aA, aG, aH, aI, aJ, aD, (jM.imp (fun g _ hs => ⟨hs.1, hs.2.1, hs.2.2.1, (fun e => by have := Sx_base hs; injection e; omega), (by have := Sx_base hs; show aK.heap.size ≤ g; omega)⟩)), (jJ.imp (fun g _ hs => ⟨hs.2.2.1, hs.1, hs.2.1, (fun e => by have := Sx_base hs; injection e; omega), (by have := Sx_base hs; show aK.heap.size ≤ g; omega)⟩)), (jK.imp (fun g _ hs => ⟨hs.2.2.1, hs.1, hs.2.1, (fun e => by have := Sx_base hs; injection e; omega), (by have := Sx_base hs; show aK.heap.size ≤ g; omega)⟩)), (jL.imp (fun g _ hs => ⟨hs.2.2.1, hs.1, hs.2.1, (fun e => by have := Sx_base hs; injection e; omega), (by have := Sx_base hs; show aK.heap.size ≤ g; omega)⟩)), jN, (by omega), (by omega)⟩
    refine OneH.seq hZ [[]] [(9, .pointer (some ⟨dP.heap.size, 0, none⟩))] (dP.alloc (.cells #[.slice none 0 0, .slice none 0 0, .slice none 0 0] 25 (0, 0))) [] #[true, true, true, true, true, false, false, false, false, false, false, true, false, false, false] (by kernel_rfl) (by kernel_rfl) (by kernel_rfl) trivial (fun sB pI jO mJ => ?_)
    clear hZ; have bR := gr_alloc jO; have mK := jD.gr bR; have := bR.size; replace aF := aF.gn bR; replace aB := aB.gn bR; replace aC := aC.gn bR; replace aA := aA.gn bR; replace aG := aG.gn bR; replace aH := aH.gn bR; replace aI := aI.gn bR; replace aJ := aJ.gn bR; replace aD := aD.gn bR; have dS : Bx pI (dP.heap.size) [.slice none 0 0, .slice none 0 0, .slice none 0 0] 25 := Bx.new jO; have := dS.lt
    clear bR jO
    refine ⟨mK, ?_⟩
    refine AtH.all [5] 8 (by kernel_rfl) (by simp) ⟨?_, trivial⟩
    refine OneH.call mJ 22 #[.slice aL la.length aT] (some 48) #[true, true, true, true, true, true, false, false, false, false, false, true, false, false, false] (by kernel_rfl) (by kernel_rfl) (of_any (la := la) (aG.wide (Nat.zero_le _) (by omega))) ?_
    rintro e_ sC ⟨rfl, he⟩
    refine ⟨_, rfl, _, rfl, fun sD mL => ?_⟩
    clear mJ; have bI := gr_ext he; have mM := mK.gr bI; have := bI.size; replace aF := aF.gn bI; replace aB := aB.gn bI; replace aC := aC.gn bI; replace aA := aA.gn bI; replace aG := aG.gn bI; replace aH := aH.gn bI; replace aI := aI.gn bI; replace aJ := aJ.gn bI; replace aD := aD.gn bI; replace dS := dS.gn bI; clear bI he
    refine ⟨mM, ?_⟩
    refine AtH.all [6] 7 (by kernel_rfl) (by simp) ⟨?_, trivial⟩
    refine OneH.call mL 28 #[.agg #[.slice Ag0 g.ow.length cg0, .slice Ag1 g.pr.length cg1, .slice Ag2 g.mv.length cg2], .agg ((ofW la : List Int).map wV).toArray] (some 49) #[true, true, true, true, true, true, true, false, false, false, false, true, false, false, false] (by kernel_rfl) (by kernel_rfl) (subM_any (g := g) (s := ofW la) (aB.wide (Nat.zero_le _) (by omega)) (ofW_ok _) (aC.wide (Nat.zero_le _) (by omega))) ?_
    rintro e_ sE ⟨gE, gF, gG, gH, gI, gJ, gK, gL, rfl, he, jP, jQ, jR, jS⟩
    have hip390 := sub_inner g (ofW la); have := sub_lens g (inT g (ofW la))
    refine ⟨_, rfl, _, rfl, fun sF mN => ?_⟩
    clear mL; have bJ := gr_ext he; have eZ := mM.gr bJ; have := bJ.size; replace aF := aF.gn bJ; replace aB := aB.gn bJ; replace aC := aC.gn bJ; replace aA := aA.gn bJ; replace aG := aG.gn bJ; replace aH := aH.gn bJ; replace aI := aI.gn bJ; replace aJ := aJ.gn bJ; replace aD := aD.gn bJ; replace dS := dS.gn bJ; clear bJ he
    refine ⟨eZ, ?_⟩
    refine AtH.rd (by kernel_rfl) (fun d v c a w h => by cases d <;> exact h) eZ [7] [[]] [(42, .tuple #[.agg #[.slice gE ((subG g (inT g (ofW la))).ow.length) gF, .slice gG ((subG g (inT g (ofW la))).pr.length) gH, .slice gI ((subG g (inT g (ofW la))).mv.length) gJ], .slice gK ((subO g (inT g (ofW la))).length) gL, .bool (subB g (inT g (ofW la)))])] #[true, true, true, true, true, true, true, true, false, false, false, true, false, false, false] [] 6 mN (by kernel_rfl) trivial (fun sG mO => ?_)
    clear mN
    refine AtH.rd (by kernel_rfl) (fun d v c a w h => by cases d <;> exact h) eZ [8] [[]] [(50, .agg #[.slice gE ((subG g (inT g (ofW la))).ow.length) gF, .slice gG ((subG g (inT g (ofW la))).pr.length) gH, .slice gI ((subG g (inT g (ofW la))).mv.length) gJ])] #[true, true, true, true, true, true, true, true, true, false, false, true, false, false, false] [] 5 mO (by kernel_rfl) trivial (fun sH mP => ?_)
    clear mO
    refine AtH.rd (by kernel_rfl) (fun d v c a w h => by cases d <;> exact h) eZ [9] [[]] [(51, .slice gK ((subO g (inT g (ofW la))).length) gL)] #[true, true, true, true, true, true, true, true, true, true, false, true, false, false, false] [] 4 mP (by kernel_rfl) trivial (fun sI mQ => ?_)
    clear mP
    refine AtH.rd (by kernel_rfl) (fun d v c a w h => by cases d <;> exact h) eZ [10] [[]] [(52, .bool (subB g (inT g (ofW la))))] #[true, true, true, true, true, true, true, true, true, true, true, true, false, false, false] [] 3 mQ (by kernel_rfl) trivial (fun sJ mR => ?_)
    clear mQ
    refine AtH.all [12] 2 (by kernel_rfl) (by simp) ⟨?_, trivial⟩
    refine OneH.store mR (t := 25) (b := dP.heap.size) (off := 0) (v := .agg #[.slice gE ((subG g (inT g (ofW la))).ow.length) gF, .slice gG ((subG g (inT g (ofW la))).pr.length) gH, .slice gI ((subG g (inT g (ofW la))).mv.length) gJ]) #[true, true, true, true, true, true, true, true, true, true, true, true, true, false, false] (by kernel_rfl) (by kernel_rfl) dS (by kernel_rfl) (fun sK pJ bA jT mS => ?_)
    clear mR
    replace jT : Bx pJ (dP.heap.size) [.slice gE ((subG g (inT g (ofW la))).ow.length) gF, .slice gG ((subG g (inT g (ofW la))).pr.length) gH, .slice gI ((subG g (inT g (ofW la))).mv.length) gJ] 25 := jT
    have iD := eZ.gr' bA (by rw [cU]; exact ⟨(by simp only [add_block]; omega), (by simp only [add_block]; omega), (by simp only [add_block]; omega), (by simp only [add_block]; omega), trivial⟩)
    have := bA.size; replace aF := aF.gr bA (fun k h => by injection h; omega); replace aB := aB.gb bA (by omega); replace aC := aC.gb bA (by omega); replace aA := aA.gb bA (by omega); replace aG := aG.gb bA (by omega); replace aH := aH.gb bA (by omega); replace aI := aI.gb bA (by omega); replace aJ := aJ.gb bA (by omega); replace aD := aD.gb bA (by omega)
    replace jP := jP.gr bA (fun k hk e => by have := Sx_base hk; injection e; omega); replace jQ := jQ.gr bA (fun k hk e => by have := Sx_base hk; injection e; omega); replace jR := jR.gr bA (fun k hk e => by have := Sx_base hk; injection e; omega); replace jS := jS.gr bA (fun k hk e => by have := Sx_base hk; injection e; omega); clear dS bA
    refine ⟨iD, ?_⟩
    refine AtH.rd (by kernel_rfl) (fun d v c a w h => by cases d <;> exact h) iD [13] [[]] [(10, .slice gK ((subO g (inT g (ofW la))).length) gL)] #[true, true, true, true, true, true, true, true, true, true, true, true, true, true, false] [] 1 mS (by kernel_rfl) trivial (fun sL mT => ?_)
    clear mS
    refine AtH.rd (by kernel_rfl) (fun d v c a w h => by cases d <;> exact h) iD [14] [[]] [(11, .bool (subB g (inT g (ofW la))))] #[true, true, true, true, true, true, true, true, true, true, true, true, true, true, true] [] 0 mT (by kernel_rfl) trivial (fun sM pK => ?_)
    clear mT
    refine AtH.done (by kernel_rfl) ?_
    clear iD
    refine t_n ?_
    have pL := pK.sub (r := [(11, .bool (subB g (inT g (ofW la)))), (10, .slice gK ((subO g (inT g (ofW la))).length) gL), (9, .pointer (some ⟨dP.heap.size, 0, none⟩)), (8, .int .i64 (0)), (6, .pointer (some ⟨aE.heap.size, 0, none⟩)), (1, .pointer (some ⟨w.heap.size, 0, none⟩))]) ⟨rfl, rfl, rfl, rfl, rfl, rfl, trivial⟩
    exact ⟨dP.heap.size, gK, gE, gG, gI, gL, gF, gH, gJ, pL, aF, aB, aC, aA, aG, aH, aI, aJ, aD, (jS.imp (fun g _ hs => ⟨hs.1, hs.2.1, hs.2.2.1, (fun e => by have := Sx_base hs; injection e; omega), (by have := Sx_base hs; show aK.heap.size ≤ g; omega)⟩)), (jP.imp (fun g _ hs => ⟨hs.2.2.1, hs.1, hs.2.1, (fun e => by have := Sx_base hs; injection e; omega), (by have := Sx_base hs; show aK.heap.size ≤ g; omega)⟩)), (jQ.imp (fun g _ hs => ⟨hs.2.2.1, hs.1, hs.2.1, (fun e => by have := Sx_base hs; injection e; omega), (by have := Sx_base hs; show aK.heap.size ≤ g; omega)⟩)), (jR.imp (fun g _ hs => ⟨hs.2.2.1, hs.1, hs.2.1, (fun e => by have := Sx_base hs; injection e; omega), (by have := Sx_base hs; show aK.heap.size ≤ g; omega)⟩)), jT, (by omega), (by omega)⟩
   clear aB; clear aC; clear aA; clear aG; clear aH; clear aI; clear aJ; clear aD; clear eV aF
   intro sN cV ⟨bZ, cT, cF, cG, cH, fI, dM, dN, dO, mU, cW, dT, cX, cY, dU, dV, dW, dX, cL, fA, cM, cN, cO, cA, sO, sP⟩
   have := cW.size; have hip184 := sub_inner g (ofW la); have := sub_lens g (inT g (ofW la)); have := cY.lt; have := cL.lt; have := cA.lt
   refine wp_seq ?_
   refine wp_seq ?_
   first | (have hQ := hPS.1 (by omega)) | (have hQ := hPS.2 (by omega))
   have hQ2 := hQ.2.1
   refine At.start ?_
   refine At.rd mU 12 [[], [.as_ (.bool false)], [], [], [], [], [], [], [.ld (.slice aL la.length aT)], [], [.as_ (.bool false)], []] [(64, .bool false), (63, .bool false), (62, .int .i64 (((la.length : Nat) : Int))), (61, .slice aL la.length aT), (60, .pointer (some ⟨aE.heap.size, 0, none⟩)), (59, .pointer (some ⟨aE.heap.size, 0, none⟩)), (58, .int .i64 (0)), (57, .int .i64 ((((subO g (inT g (ofW la))).length : Nat) : Int))), (56, .slice cT ((subO g (inT g (ofW la))).length) fI), (55, .bool false), (54, .bool false), (53, .bool (subB g (inT g (ofW la))))] [((.bool (!(subB g (inT g (ofW la)))) : Value) = .bool false), (0 ≤ (0 : Int)), ((0 : Int) < (2 : Nat)), (cV.cell? ⟨aE.heap.size, 0, none⟩ = some (.slice aL la.length aT)), ((.bool (((((subO g (inT g (ofW la))).length : Nat) : Int) : Int) != ((la.length : Nat) : Int)) : Value) = .bool false)] (by kernel_rfl) ⟨(congrArg Value.bool (by rw [hQ.1]; rfl)), (by decide), (by decide), (cL.cell (i := 0) rfl), (congrArg Value.bool (bneF (by omega))), trivial⟩ (fun sQ jU => ?_)
   clear mU
   refine At.done rfl ?_
   refine t_n ?_
   refine cond_F jU rfl ?_
   refine wp_skip ?_
   refine t_n ?_
   refine wp_seq ?_
   refine At.start ?_
   refine At.rd jU 1 [[.ld (.slice cF ((subG g (inT g (ofW la))).ow.length) dM), .ld (.slice cG ((subG g (inT g (ofW la))).pr.length) dN), .ld (.slice cH ((subG g (inT g (ofW la))).mv.length) dO)]] [(66, .agg #[.slice cF ((subG g (inT g (ofW la))).ow.length) dM, .slice cG ((subG g (inT g (ofW la))).pr.length) dN, .slice cH ((subG g (inT g (ofW la))).mv.length) dO])] [(cV.cell? ⟨bZ, 0, none⟩ = some (.slice cF ((subG g (inT g (ofW la))).ow.length) dM)), (cV.cell? ⟨bZ, 1, none⟩ = some (.slice cG ((subG g (inT g (ofW la))).pr.length) dN)), (cV.cell? ⟨bZ, 2, none⟩ = some (.slice cH ((subG g (inT g (ofW la))).mv.length) dO))] (by kernel_rfl) ⟨(cA.cell (i := 0) rfl), (cA.cell (i := 1) rfl), (cA.cell (i := 2) rfl), trivial⟩ (fun sR mV => ?_)
   clear jU
   refine At.call mV 16 #[.agg #[.slice cF ((subG g (inT g (ofW la))).ow.length) dM, .slice cG ((subG g (inT g (ofW la))).pr.length) dN, .slice cH ((subG g (inT g (ofW la))).mv.length) dO]] (some 67) (by kernel_rfl) (solve_any (g := (subG g (inT g (ofW la)))) (RdG.mk (G := (subG g (inT g (ofW la)))) (cM.rdI0 (by first | omega | (simp only [List.length_cons, List.length_nil]; omega) | (simp; done) | (simp; omega))) (cN.rdI0 (by first | omega | (simp only [List.length_cons, List.length_nil]; omega) | (simp; done) | (simp; omega))) (cO.rdII0 (by first | omega | (simp only [List.length_cons, List.length_nil]; omega) | (simp; done) | (simp; omega)) hip184) cM.cap cN.cap cO.cap) (cX.wide (Nat.zero_le _) (by omega))) ?_
   rintro e_ aV ⟨cZ, dY, dA, dZ, gM, iE, gN, iF, lc, ld, mc, md, db, rfl, he, mW, mX, mY, mZ, hsB⟩
   have hln_hsB := solve_lens hsB; have iG : RdI aV (cV.heap.size) aV.heap.size cZ lc := (OwnR.rdR mW (by show _ * 8 ≤ _; omega)).rdI; clear mW; have iH : RdI aV (cV.heap.size) aV.heap.size dA ld := (OwnR.rdR mX (by show _ * 8 ≤ _; omega)).rdI; clear mX; have iI : RdI aV (cV.heap.size) aV.heap.size gM mc := (OwnR.rdR mY (by show _ * 8 ≤ _; omega)).rdI; clear mY
   have iJ : RdI aV (cV.heap.size) aV.heap.size gN md := (OwnR.rdR mZ (by show _ * 8 ≤ _; omega)).rdI; clear mZ
   refine ⟨_, rfl, _, rfl, fun sS nA => ?_⟩
   clear mV; have bB := gr_ext he; have := bB.size; replace cW := cW.gn bB; replace dT := dT.gn bB; replace cX := cX.gn bB; replace cY := cY.gn bB; replace dU := dU.gn bB; replace dV := dV.gn bB; replace dW := dW.gn bB; replace dX := dX.gn bB; replace cL := cL.gn bB; replace fA := fA.gn bB; replace cM := cM.gn bB; replace cN := cN.gn bB; replace cO := cO.gn bB; replace cA := cA.gn bB; clear bB he
   refine At.rd nA 3 [[], [], []] [(69, .int .i64 (db)), (68, .agg #[.slice cZ lc.length dY, .slice dA ld.length dZ, .slice gM mc.length iE, .slice gN md.length iF]), (65, .tuple #[.agg #[.slice cZ lc.length dY, .slice dA ld.length dZ, .slice gM mc.length iE, .slice gN md.length iF], .int .i64 (db)])] [] (by kernel_rfl) trivial (fun sT nB => ?_)
   clear nA
   refine At.seq nB 1 [[]] [(12, .pointer (some ⟨aV.heap.size, 0, none⟩))] (aV.alloc (.cells #[.slice none 0 0, .slice none 0 0, .slice none 0 0, .slice none 0 0] 32 (0, 0))) [] (by kernel_rfl) trivial (fun sU pM jV nC => ?_)
   clear nB; have aO := gr_alloc jV; have := aO.size; replace cW := cW.gn aO; replace dT := dT.gn aO; replace cX := cX.gn aO; replace cY := cY.gn aO; replace dU := dU.gn aO; replace dV := dV.gn aO; replace dW := dW.gn aO; replace dX := dX.gn aO; replace cL := cL.gn aO; replace fA := fA.grN aO; replace cM := cM.grN aO; replace cN := cN.grN aO; replace cO := cO.grN aO; replace cA := cA.gn aO
   replace iG := iG.gn aO; replace iH := iH.gn aO; replace iI := iI.gn aO; replace iJ := iJ.gn aO; have jW : Bx pM (aV.heap.size) [.slice none 0 0, .slice none 0 0, .slice none 0 0, .slice none 0 0] 32 := Bx.new jV; have := jW.lt; clear aO jV
   refine At.store nC (t := 32) (b := aV.heap.size) (off := 0) (v := .agg #[.slice cZ lc.length dY, .slice dA ld.length dZ, .slice gM mc.length iE, .slice gN md.length iF]) (by kernel_rfl) jW (by kernel_rfl) (fun sV jX aP iK nD => ?_)
   clear nC; replace iK : Bx jX (aV.heap.size) [.slice cZ lc.length dY, .slice dA ld.length dZ, .slice gM mc.length iE, .slice gN md.length iF] 32 := iK; have := aP.size; replace cW := cW.gr aP (fun k h => by injection h; omega); replace dT := dT.gb aP (by omega); replace cX := cX.gb aP (by omega); replace cY := cY.gb aP (by omega); replace dU := dU.gb aP (by omega); replace dV := dV.gb aP (by omega)
   replace dW := dW.gb aP (by omega); replace dX := dX.gb aP (by omega); replace cL := cL.gb aP (by omega); replace fA := fA.gr aP (fun k hk => hk.1); replace cM := cM.gr aP (fun k hk => hk.1); replace cN := cN.gr aP (fun k hk => hk.1); replace cO := cO.gr aP (fun k hk => hk.1); replace cA := cA.gb aP (by omega); replace iG := iG.gb aP (by omega); replace iH := iH.gb aP (by omega)
   replace iI := iI.gb aP (by omega); replace iJ := iJ.gb aP (by omega); clear jW aP
   refine At.rd nD 1 [[]] [(13, .int .i64 (db))] [] (by kernel_rfl) trivial (fun sW nE => ?_)
   clear nD
   refine At.done rfl ?_
   refine t_n ?_
   clear cM; clear cN; clear cO; clear cA
   refine wp_seq ?_
   have hV := hQ.2.2 _ _ _ _ _ hsB
   refine At.start ?_
   refine At.rd nE 17 [[], [], [], [.ld (.slice cZ lc.length dY)], [], [], [], [.as_ (.bool false)], [], [], [.as_ (.int .i64 (1))], [], [], [.ld (.slice dA ld.length dZ)], [], [.as_ (.bool false)], []] [(86, .bool false), (85, .bool false), (84, .int .i64 (((ld.length : Nat) : Int))), (83, .slice dA ld.length dZ), (82, .pointer (some ⟨aV.heap.size, 1, none⟩)), (81, .pointer (some ⟨aV.heap.size, 0, none⟩)), (80, .int .i64 (1)), (79, .int .i64 (0)), (78, .bool false), (77, .bool false), (76, .int .i64 ((((subO g (inT g (ofW la))).length : Nat) : Int))), (75, .slice cT ((subO g (inT g (ofW la))).length) fI), (74, .int .i64 (((lc.length : Nat) : Int))), (73, .slice cZ lc.length dY), (72, .pointer (some ⟨aV.heap.size, 0, none⟩)), (71, .pointer (some ⟨aV.heap.size, 0, none⟩)), (70, .int .i64 (0))] [(0 ≤ (0 : Int)), ((0 : Int) < (2 : Nat)), (jX.cell? ⟨aV.heap.size, 0, none⟩ = some (.slice cZ lc.length dY)), ((.bool ((((lc.length : Nat) : Int) : Int) != (((subO g (inT g (ofW la))).length : Nat) : Int)) : Value) = .bool false), ((.int .i64 (IntKind.i64.wrap (1 - 0)) : Value) = .int .i64 (1)), (0 ≤ (1 : Int)), ((1 : Int) < (2 : Nat)), (jX.cell? ⟨aV.heap.size, 1, none⟩ = some (.slice dA ld.length dZ)), ((.bool ((((ld.length : Nat) : Int) : Int) != 0) : Value) = .bool false)] (by kernel_rfl) ⟨(by decide), (by decide), (iK.cell (i := 0) rfl), (congrArg Value.bool (bneF (by omega))), (by kernel_rfl), (by decide), (by decide), (iK.cell (i := 1) rfl), (congrArg Value.bool (bneF (by omega))), trivial⟩ (fun sX jY => ?_)
   clear nE
   refine At.done rfl ?_
   refine t_n ?_
   refine cond_F jY rfl ?_
   refine wp_skip ?_
   refine b_n ?_
   refine t_n ?_
   refine At.start ?_
   refine At.rd jY 3 [[], [.as_ (.int .i64 (1))], []] [(8, .int .i64 (1)), (35, .int .i64 (1)), (34, .int .i64 (0))] [((.int .i64 (IntKind.i64.wrap (0 + 1)) : Value) = .int .i64 (1))] (by kernel_rfl) ⟨(by kernel_rfl), trivial⟩ (fun sY pN => ?_)
   clear jY
   refine At.done rfl ?_
   refine t_n ?_
   have pO := pN.sub (r := [(8, .int .i64 (1)), (6, .pointer (some ⟨aE.heap.size, 0, none⟩)), (1, .pointer (some ⟨w.heap.size, 0, none⟩))]) ⟨rfl, rfl, rfl, trivial⟩
   exact ⟨_, (by omega), 1, rfl, pO, cW, dT, cX, cY, dU, dV, dW, dX, cL, (by omega), (by omega)⟩
  refine At.start ?_
  refine At.rd dL 6 [[], [], [], [.ld (.slice aM lb.length aU)], [], []] [(41, .bool ((((lb.length : Nat) : Int) : Int) == 0)), (40, .int .i64 (((lb.length : Nat) : Int))), (39, .slice aM lb.length aU), (38, .pointer (some ⟨aE.heap.size, 1, none⟩)), (37, .pointer (some ⟨aE.heap.size, 0, none⟩)), (36, .int .i64 (1))] [(0 ≤ (1 : Int)), ((1 : Int) < (2 : Nat)), (aK.cell? ⟨aE.heap.size, 1, none⟩ = some (.slice aM lb.length aU))] (by kernel_rfl) ⟨(by decide), (by decide), (aD.cell (i := 1) rfl), trivial⟩ (fun sZ fB => ?_)
  clear dL
  refine At.done rfl ?_
  refine t_n ?_
  refine cond_S fB (t := (((lb.length : Nat) : Int) : Int) == 0) rfl (fun jZ => ?_) (fun jZ => ?_)
  ·have tA := eq_of_beq jZ
   refine wp_exit ?_
   refine t_e ?_
   refine b_e ?_
   refine t_n ?_
   refine At.start ?_
   refine At.rd fB 3 [[], [.as_ (.int .i64 (2))], []] [(8, .int .i64 (2)), (35, .int .i64 (2)), (34, .int .i64 (1))] [((.int .i64 (IntKind.i64.wrap (1 + 1)) : Value) = .int .i64 (2))] (by kernel_rfl) ⟨(by kernel_rfl), trivial⟩ (fun tB pP => ?_)
   clear fB
   refine At.done rfl ?_
   refine t_n ?_
   have pQ := pP.sub (r := [(8, .int .i64 (2)), (6, .pointer (some ⟨aE.heap.size, 0, none⟩)), (1, .pointer (some ⟨w.heap.size, 0, none⟩))]) ⟨rfl, rfl, rfl, trivial⟩
   exact ⟨_, (by omega), 2, rfl, pQ, aF, aB, aC, aA, aG, aH, aI, aJ, aD, (by omega), (by omega)⟩
  have tC := ne_of_beq_false jZ
  refine wp_skip ?_
  refine t_n ?_
  refine wp_seq (cut (fun a_ w_ => ∃ (cB : Nat) (dB : Option Addr) (cI : Option Addr) (cJ : Option Addr) (cK : Option Addr) (gO : Nat) (eA : Nat) (eB : Nat) (eC : Nat), (Frm 87 a_ [(11, .bool (subB g (inT g (ofW lb)))), (10, .slice (dB) ((subO g (inT g (ofW lb))).length) (gO)), (9, .pointer (some ⟨cB, 0, none⟩)), (8, .int .i64 (1)), (6, .pointer (some ⟨aE.heap.size, 0, none⟩)), (1, .pointer (some ⟨w.heap.size, 0, none⟩))]) ∧ (Ext w w_) ∧ (RdG w_ 0 w.heap.size Ag0 Ag1 Ag2 cg0 cg1 cg2 g) ∧ (RdT w_ 0 w.heap.size) ∧ (Bx w_ (w.heap.size) [.slice Ag0 g.ow.length cg0, .slice Ag1 g.pr.length cg1, .slice Ag2 g.mv.length cg2] 25) ∧ (RdI w_ (aS.heap.size) aE.heap.size aL la) ∧ (RdI w_ (aS.heap.size) aE.heap.size aM lb) ∧ (RdI w_ (aS.heap.size) aE.heap.size bX ma) ∧ (RdI w_ (aS.heap.size) aE.heap.size bY mb) ∧ (Bx w_ (aE.heap.size) [.slice aL la.length aT, .slice aM lb.length aU, .slice bX ma.length dJ, .slice bY mb.length dK] 32) ∧ (OwnR w_ (Sx (aK.heap.size) [obk (cI), obk (cJ), obk (cK), some (cB)]) (dB) (gO) 3 ((subO g (inT g (ofW lb))) : List Int)) ∧ (OwnR w_ (Sx (aK.heap.size) [obk (dB), obk (cJ), obk (cK), some (cB)]) (cI) (eA) 3 ((subG g (inT g (ofW lb))).ow : List Int)) ∧ (OwnR w_ (Sx (aK.heap.size) [obk (dB), obk (cI), obk (cK), some (cB)]) (cJ) (eB) 3 ((subG g (inT g (ofW lb))).pr : List Int)) ∧ (OwnLL w_ (aK.heap.size) [obk (dB), obk (cI), obk (cJ), some (cB)] (cK) (eC) 22 3 ((subG g (inT g (ofW lb))).mv : List (List Int))) ∧ (Bx w_ (cB) [.slice (cI) ((subG g (inT g (ofW lb))).ow.length) (eA), .slice (cJ) ((subG g (inT g (ofW lb))).pr.length) (eB), .slice (cK) ((subG g (inT g (ofW lb))).mv.length) (eC)] 25) ∧ (aK.heap.size ≤ cB) ∧ (aK.heap.size ≤ w_.heap.size)) ?_ ?_)
  ·obtain ⟨fC, dC⟩ : ∃ c : List (Addr × Value), c = [(⟨w.heap.size, 0, none⟩, (.slice Ag0 g.ow.length cg0)), (⟨w.heap.size, 1, none⟩, (.slice Ag1 g.pr.length cg1)), (⟨w.heap.size, 2, none⟩, (.slice Ag2 g.mv.length cg2)), (⟨aE.heap.size, 1, none⟩, (.slice aM lb.length aU))] := ⟨_, rfl⟩
   have nF : HoldsC fC aK := by rw [dC]; exact ⟨(aA.cell (i := 0) rfl), (aA.cell (i := 1) rfl), (aA.cell (i := 2) rfl), (aD.cell (i := 1) rfl), trivial⟩
   refine AtH.start fC 15 #[false, false, false, false, false, false, false, false, false, false, false, false, false, false, false] (by kernel_rfl) rfl rfl (fun eD nG => ?_)
   have bS := gr_drew nG; have kA := nF.gr bS; have := bS.size; replace aF := aF.gn bS; replace aB := aB.gn bS; replace aC := aC.gn bS; replace aA := aA.gn bS; replace aG := aG.gn bS; replace aH := aH.gn bS; replace aI := aI.gn bS; replace aJ := aJ.gn bS; replace aD := aD.gn bS; clear bS nG nF
   refine AtH.rd (by kernel_rfl) (fun d v c a w h => by cases d <;> exact h) kA [0, 1, 2, 3, 4] [[.ld (.slice Ag0 g.ow.length cg0), .ld (.slice Ag1 g.pr.length cg1), .ld (.slice Ag2 g.mv.length cg2)], [], [], [], [.ld (.slice aM lb.length aU)]] [(47, .slice aM lb.length aU), (46, .pointer (some ⟨aE.heap.size, 1, none⟩)), (45, .pointer (some ⟨aE.heap.size, 0, none⟩)), (44, .int .i64 (1)), (43, .agg #[.slice Ag0 g.ow.length cg0, .slice Ag1 g.pr.length cg1, .slice Ag2 g.mv.length cg2])] #[true, true, true, true, true, false, false, false, false, false, false, false, false, false, false] [(∃ j_ : Nat, fC[j_]? = some (⟨w.heap.size, 0, none⟩, (.slice Ag0 g.ow.length cg0))), (∃ j_ : Nat, fC[j_]? = some (⟨w.heap.size, 1, none⟩, (.slice Ag1 g.pr.length cg1))), (∃ j_ : Nat, fC[j_]? = some (⟨w.heap.size, 2, none⟩, (.slice Ag2 g.mv.length cg2))), (0 ≤ (1 : Int)), ((1 : Int) < (2 : Nat)), (∃ j_ : Nat, fC[j_]? = some (⟨aE.heap.size, 1, none⟩, (.slice aM lb.length aU)))] 10 fB (by kernel_rfl) ⟨⟨0, by rw [dC]; rfl⟩, ⟨1, by rw [dC]; rfl⟩, ⟨2, by rw [dC]; rfl⟩, (by decide), (by decide), ⟨3, by rw [dC]; rfl⟩, trivial⟩ (fun tD iL => ?_)
   clear fB
   refine AtH.all [5, 11] 9 (by kernel_rfl) (by simp) ⟨?_, ?_, trivial⟩
   ·refine OneH.call iL 22 #[.slice aM lb.length aU] (some 48) #[true, true, true, true, true, true, false, false, false, false, false, false, false, false, false] (by kernel_rfl) (by kernel_rfl) (of_any (la := lb) (aH.wide (Nat.zero_le _) (by omega))) ?_
    rintro e_ eE ⟨rfl, he⟩
    refine ⟨_, rfl, _, rfl, fun tE iM => ?_⟩
    clear iL; have bT := gr_ext he; have kB := kA.gr bT; have := bT.size; replace aF := aF.gn bT; replace aB := aB.gn bT; replace aC := aC.gn bT; replace aA := aA.gn bT; replace aG := aG.gn bT; replace aH := aH.gn bT; replace aI := aI.gn bT; replace aJ := aJ.gn bT; replace aD := aD.gn bT; clear bT he
    refine ⟨kB, ?_⟩
    refine AtH.all [6, 11] 8 (by kernel_rfl) (by simp) ⟨?_, ?_, trivial⟩
    ·refine OneH.call iM 28 #[.agg #[.slice Ag0 g.ow.length cg0, .slice Ag1 g.pr.length cg1, .slice Ag2 g.mv.length cg2], .agg ((ofW lb : List Int).map wV).toArray] (some 49) #[true, true, true, true, true, true, true, false, false, false, false, false, false, false, false] (by kernel_rfl) (by kernel_rfl) (subM_any (g := g) (s := ofW lb) (aB.wide (Nat.zero_le _) (by omega)) (ofW_ok _) (aC.wide (Nat.zero_le _) (by omega))) ?_
     rintro e_ eF ⟨gP, gQ, gR, gS, gT, gU, gV, gW, rfl, he, gX, gY, gZ, hA⟩
     have hip626 := sub_inner g (ofW lb); have := sub_lens g (inT g (ofW lb))
     refine ⟨_, rfl, _, rfl, fun tF nH => ?_⟩
     clear iM; have bU := gr_ext he; have fD := kB.gr bU; have := bU.size; replace aF := aF.gn bU; replace aB := aB.gn bU; replace aC := aC.gn bU; replace aA := aA.gn bU; replace aG := aG.gn bU; replace aH := aH.gn bU; replace aI := aI.gn bU; replace aJ := aJ.gn bU; replace aD := aD.gn bU; clear bU he
     refine ⟨fD, ?_⟩
     refine AtH.rd (by kernel_rfl) (fun d v c a w h => by cases d <;> exact h) fD [7] [[]] [(42, .tuple #[.agg #[.slice gP ((subG g (inT g (ofW lb))).ow.length) gQ, .slice gR ((subG g (inT g (ofW lb))).pr.length) gS, .slice gT ((subG g (inT g (ofW lb))).mv.length) gU], .slice gV ((subO g (inT g (ofW lb))).length) gW, .bool (subB g (inT g (ofW lb)))])] #[true, true, true, true, true, true, true, true, false, false, false, false, false, false, false] [] 7 nH (by kernel_rfl) trivial (fun tG nI => ?_)
     clear nH
     refine AtH.rd (by kernel_rfl) (fun d v c a w h => by cases d <;> exact h) fD [8] [[]] [(50, .agg #[.slice gP ((subG g (inT g (ofW lb))).ow.length) gQ, .slice gR ((subG g (inT g (ofW lb))).pr.length) gS, .slice gT ((subG g (inT g (ofW lb))).mv.length) gU])] #[true, true, true, true, true, true, true, true, true, false, false, false, false, false, false] [] 6 nI (by kernel_rfl) trivial (fun tH nJ => ?_)
     clear nI
     refine AtH.rd (by kernel_rfl) (fun d v c a w h => by cases d <;> exact h) fD [9] [[]] [(51, .slice gV ((subO g (inT g (ofW lb))).length) gW)] #[true, true, true, true, true, true, true, true, true, true, false, false, false, false, false] [] 5 nJ (by kernel_rfl) trivial (fun tI nK => ?_)
     clear nJ
     refine AtH.rd (by kernel_rfl) (fun d v c a w h => by cases d <;> exact h) fD [10] [[]] [(52, .bool (subB g (inT g (ofW lb))))] #[true, true, true, true, true, true, true, true, true, true, true, false, false, false, false] [] 4 nK (by kernel_rfl) trivial (fun tJ nL => ?_)
     clear nK
     refine AtH.all [11] 3 (by kernel_rfl) (by simp) ⟨?_, trivial⟩
     refine OneH.seq nL [[]] [(9, .pointer (some ⟨eF.heap.size, 0, none⟩))] (eF.alloc (.cells #[.slice none 0 0, .slice none 0 0, .slice none 0 0] 25 (0, 0))) [] #[true, true, true, true, true, true, true, true, true, true, true, true, false, false, false] (by kernel_rfl) (by kernel_rfl) (by kernel_rfl) trivial (fun tK pR kC nM => ?_)
     clear nL; have bC := gr_alloc kC; have nN := fD.gr bC; have := bC.size; replace aF := aF.gn bC; replace aB := aB.gn bC; replace aC := aC.gn bC; replace aA := aA.gn bC; replace aG := aG.gn bC; replace aH := aH.gn bC; replace aI := aI.gn bC; replace aJ := aJ.gn bC; replace aD := aD.gn bC; replace gX := gX.grN bC; replace gY := gY.grN bC; replace gZ := gZ.grN bC; replace hA := hA.grN bC
     have kD : Bx pR (eF.heap.size) [.slice none 0 0, .slice none 0 0, .slice none 0 0] 25 := Bx.new kC; have := kD.lt; clear bC kC
     refine ⟨nN, ?_⟩
     refine AtH.all [12] 2 (by kernel_rfl) (by simp) ⟨?_, trivial⟩
     refine OneH.store nM (t := 25) (b := eF.heap.size) (off := 0) (v := .agg #[.slice gP ((subG g (inT g (ofW lb))).ow.length) gQ, .slice gR ((subG g (inT g (ofW lb))).pr.length) gS, .slice gT ((subG g (inT g (ofW lb))).mv.length) gU]) #[true, true, true, true, true, true, true, true, true, true, true, true, true, false, false] (by kernel_rfl) (by kernel_rfl) kD (by kernel_rfl) (fun tL pS bD kE nO => ?_)
     clear nM
     replace kE : Bx pS (eF.heap.size) [.slice gP ((subG g (inT g (ofW lb))).ow.length) gQ, .slice gR ((subG g (inT g (ofW lb))).pr.length) gS, .slice gT ((subG g (inT g (ofW lb))).mv.length) gU] 25 := kE
     have iN := nN.gr' bD (by rw [dC]; exact ⟨(by simp only [add_block]; omega), (by simp only [add_block]; omega), (by simp only [add_block]; omega), (by simp only [add_block]; omega), trivial⟩)
     have := bD.size; replace aF := aF.gr bD (fun k h => by injection h; omega); replace aB := aB.gb bD (by omega); replace aC := aC.gb bD (by omega); replace aA := aA.gb bD (by omega); replace aG := aG.gb bD (by omega); replace aH := aH.gb bD (by omega); replace aI := aI.gb bD (by omega); replace aJ := aJ.gb bD (by omega); replace aD := aD.gb bD (by omega); replace gX := gX.gr bD (fun k hk => hk.1)
     replace gY := gY.gr bD (fun k hk => hk.1); replace gZ := gZ.gr bD (fun k hk => hk.1); replace hA := hA.gr bD (fun k hk => hk.1); clear kD bD
     refine ⟨iN, ?_⟩
     refine AtH.rd (by kernel_rfl) (fun d v c a w h => by cases d <;> exact h) iN [13] [[]] [(10, .slice gV ((subO g (inT g (ofW lb))).length) gW)] #[true, true, true, true, true, true, true, true, true, true, true, true, true, true, false] [] 1 nO (by kernel_rfl) trivial (fun tM nP => ?_)
     clear nO
     refine AtH.rd (by kernel_rfl) (fun d v c a w h => by cases d <;> exact h) iN [14] [[]] [(11, .bool (subB g (inT g (ofW lb))))] #[true, true, true, true, true, true, true, true, true, true, true, true, true, true, true] [] 0 nP (by kernel_rfl) trivial (fun tN pT => ?_)
     clear nP
     refine AtH.done (by kernel_rfl) ?_
     clear iN
     refine t_n ?_
     have pU := pT.sub (r := [(11, .bool (subB g (inT g (ofW lb)))), (10, .slice gV ((subO g (inT g (ofW lb))).length) gW), (9, .pointer (some ⟨eF.heap.size, 0, none⟩)), (8, .int .i64 (1)), (6, .pointer (some ⟨aE.heap.size, 0, none⟩)), (1, .pointer (some ⟨w.heap.size, 0, none⟩))]) ⟨rfl, rfl, rfl, rfl, rfl, rfl, trivial⟩
     exact ⟨eF.heap.size, gV, gP, gR, gT, gW, gQ, gS, gU, pU, aF, aB, aC, aA, aG, aH, aI, aJ, aD, (hA.imp (fun g _ hs => ⟨hs.2.1, hs.2.2.1, hs.2.2.2.1, hs.1, (by have := Sx_base hs; show aK.heap.size ≤ g; omega)⟩)), (gX.imp (fun g _ hs => ⟨hs.2.2.2.1, hs.2.1, hs.2.2.1, hs.1, (by have := Sx_base hs; show aK.heap.size ≤ g; omega)⟩)), (gY.imp (fun g _ hs => ⟨hs.2.2.2.1, hs.2.1, hs.2.2.1, hs.1, (by have := Sx_base hs; show aK.heap.size ≤ g; omega)⟩)), (gZ.imp (fun g _ hs => ⟨hs.2.2.2.1, hs.2.1, hs.2.2.1, hs.1, (by have := Sx_base hs; show aK.heap.size ≤ g; omega)⟩)), kE, (by omega), (by omega)⟩
    refine OneH.seq iM [[]] [(9, .pointer (some ⟨eE.heap.size, 0, none⟩))] (eE.alloc (.cells #[.slice none 0 0, .slice none 0 0, .slice none 0 0] 25 (0, 0))) [] #[true, true, true, true, true, true, false, false, false, false, false, true, false, false, false] (by kernel_rfl) (by kernel_rfl) (by kernel_rfl) trivial (fun tO pV kF nQ => ?_)
    clear iM; have bV := gr_alloc kF; have nR := kB.gr bV; have := bV.size; replace aF := aF.gn bV; replace aB := aB.gn bV; replace aC := aC.gn bV; replace aA := aA.gn bV; replace aG := aG.gn bV; replace aH := aH.gn bV; replace aI := aI.gn bV; replace aJ := aJ.gn bV; replace aD := aD.gn bV; have hB : Bx pV (eE.heap.size) [.slice none 0 0, .slice none 0 0, .slice none 0 0] 25 := Bx.new kF; have := hB.lt
    clear bV kF
    refine ⟨nR, ?_⟩
    refine AtH.all [6] 7 (by kernel_rfl) (by simp) ⟨?_, trivial⟩
    refine OneH.call nQ 28 #[.agg #[.slice Ag0 g.ow.length cg0, .slice Ag1 g.pr.length cg1, .slice Ag2 g.mv.length cg2], .agg ((ofW lb : List Int).map wV).toArray] (some 49) #[true, true, true, true, true, true, true, false, false, false, false, true, false, false, false] (by kernel_rfl) (by kernel_rfl) (subM_any (g := g) (s := ofW lb) (aB.wide (Nat.zero_le _) (by omega)) (ofW_ok _) (aC.wide (Nat.zero_le _) (by omega))) ?_
    rintro e_ tP ⟨hC, hD, hE, hF, hH, hI, hJ, hK, rfl, he, kG, kH, kI, kJ⟩
    have hip727 := sub_inner g (ofW lb); have := sub_lens g (inT g (ofW lb))
    refine ⟨_, rfl, _, rfl, fun tQ nS => ?_⟩
    clear nQ; have bK := gr_ext he; have fE := nR.gr bK; have := bK.size; replace aF := aF.gn bK; replace aB := aB.gn bK; replace aC := aC.gn bK; replace aA := aA.gn bK; replace aG := aG.gn bK; replace aH := aH.gn bK; replace aI := aI.gn bK; replace aJ := aJ.gn bK; replace aD := aD.gn bK; replace hB := hB.gn bK; clear bK he
    refine ⟨fE, ?_⟩
    refine AtH.rd (by kernel_rfl) (fun d v c a w h => by cases d <;> exact h) fE [7] [[]] [(42, .tuple #[.agg #[.slice hC ((subG g (inT g (ofW lb))).ow.length) hD, .slice hE ((subG g (inT g (ofW lb))).pr.length) hF, .slice hH ((subG g (inT g (ofW lb))).mv.length) hI], .slice hJ ((subO g (inT g (ofW lb))).length) hK, .bool (subB g (inT g (ofW lb)))])] #[true, true, true, true, true, true, true, true, false, false, false, true, false, false, false] [] 6 nS (by kernel_rfl) trivial (fun tR nT => ?_)
    clear nS
    refine AtH.rd (by kernel_rfl) (fun d v c a w h => by cases d <;> exact h) fE [8] [[]] [(50, .agg #[.slice hC ((subG g (inT g (ofW lb))).ow.length) hD, .slice hE ((subG g (inT g (ofW lb))).pr.length) hF, .slice hH ((subG g (inT g (ofW lb))).mv.length) hI])] #[true, true, true, true, true, true, true, true, true, false, false, true, false, false, false] [] 5 nT (by kernel_rfl) trivial (fun tS nU => ?_)
    clear nT
    refine AtH.rd (by kernel_rfl) (fun d v c a w h => by cases d <;> exact h) fE [9] [[]] [(51, .slice hJ ((subO g (inT g (ofW lb))).length) hK)] #[true, true, true, true, true, true, true, true, true, true, false, true, false, false, false] [] 4 nU (by kernel_rfl) trivial (fun tT nV => ?_)
    clear nU
    refine AtH.rd (by kernel_rfl) (fun d v c a w h => by cases d <;> exact h) fE [10] [[]] [(52, .bool (subB g (inT g (ofW lb))))] #[true, true, true, true, true, true, true, true, true, true, true, true, false, false, false] [] 3 nV (by kernel_rfl) trivial (fun tU nW => ?_)
    clear nV
    refine AtH.all [12] 2 (by kernel_rfl) (by simp) ⟨?_, trivial⟩
    refine OneH.store nW (t := 25) (b := eE.heap.size) (off := 0) (v := .agg #[.slice hC ((subG g (inT g (ofW lb))).ow.length) hD, .slice hE ((subG g (inT g (ofW lb))).pr.length) hF, .slice hH ((subG g (inT g (ofW lb))).mv.length) hI]) #[true, true, true, true, true, true, true, true, true, true, true, true, true, false, false] (by kernel_rfl) (by kernel_rfl) hB (by kernel_rfl) (fun tV pW bE kK nX => ?_)
    clear nW
    replace kK : Bx pW (eE.heap.size) [.slice hC ((subG g (inT g (ofW lb))).ow.length) hD, .slice hE ((subG g (inT g (ofW lb))).pr.length) hF, .slice hH ((subG g (inT g (ofW lb))).mv.length) hI] 25 := kK
    have iO := fE.gr' bE (by rw [dC]; exact ⟨(by simp only [add_block]; omega), (by simp only [add_block]; omega), (by simp only [add_block]; omega), (by simp only [add_block]; omega), trivial⟩)
    have := bE.size; replace aF := aF.gr bE (fun k h => by injection h; omega); replace aB := aB.gb bE (by omega); replace aC := aC.gb bE (by omega); replace aA := aA.gb bE (by omega); replace aG := aG.gb bE (by omega); replace aH := aH.gb bE (by omega); replace aI := aI.gb bE (by omega); replace aJ := aJ.gb bE (by omega); replace aD := aD.gb bE (by omega)
    replace kG := kG.gr bE (fun k hk e => by have := Sx_base hk; injection e; omega); replace kH := kH.gr bE (fun k hk e => by have := Sx_base hk; injection e; omega); replace kI := kI.gr bE (fun k hk e => by have := Sx_base hk; injection e; omega); replace kJ := kJ.gr bE (fun k hk e => by have := Sx_base hk; injection e; omega); clear hB bE
    refine ⟨iO, ?_⟩
    refine AtH.rd (by kernel_rfl) (fun d v c a w h => by cases d <;> exact h) iO [13] [[]] [(10, .slice hJ ((subO g (inT g (ofW lb))).length) hK)] #[true, true, true, true, true, true, true, true, true, true, true, true, true, true, false] [] 1 nX (by kernel_rfl) trivial (fun tW nY => ?_)
    clear nX
    refine AtH.rd (by kernel_rfl) (fun d v c a w h => by cases d <;> exact h) iO [14] [[]] [(11, .bool (subB g (inT g (ofW lb))))] #[true, true, true, true, true, true, true, true, true, true, true, true, true, true, true] [] 0 nY (by kernel_rfl) trivial (fun tX pX => ?_)
    clear nY
    refine AtH.done (by kernel_rfl) ?_
    clear iO
    refine t_n ?_
    have pY := pX.sub (r := [(11, .bool (subB g (inT g (ofW lb)))), (10, .slice hJ ((subO g (inT g (ofW lb))).length) hK), (9, .pointer (some ⟨eE.heap.size, 0, none⟩)), (8, .int .i64 (1)), (6, .pointer (some ⟨aE.heap.size, 0, none⟩)), (1, .pointer (some ⟨w.heap.size, 0, none⟩))]) ⟨rfl, rfl, rfl, rfl, rfl, rfl, trivial⟩
    exact ⟨eE.heap.size, hJ, hC, hE, hH, hK, hD, hF, hI, pY, aF, aB, aC, aA, aG, aH, aI, aJ, aD, (kJ.imp (fun g _ hs => ⟨hs.1, hs.2.1, hs.2.2.1, (fun e => by have := Sx_base hs; injection e; omega), (by have := Sx_base hs; show aK.heap.size ≤ g; omega)⟩)), (kG.imp (fun g _ hs => ⟨hs.2.2.1, hs.1, hs.2.1, (fun e => by have := Sx_base hs; injection e; omega), (by have := Sx_base hs; show aK.heap.size ≤ g; omega)⟩)), (kH.imp (fun g _ hs => ⟨hs.2.2.1, hs.1, hs.2.1, (fun e => by have := Sx_base hs; injection e; omega), (by have := Sx_base hs; show aK.heap.size ≤ g; omega)⟩)), (kI.imp (fun g _ hs => ⟨hs.2.2.1, hs.1, hs.2.1, (fun e => by have := Sx_base hs; injection e; omega), (by have := Sx_base hs; show aK.heap.size ≤ g; omega)⟩)), kK, (by omega), (by omega)⟩
   refine OneH.seq iL [[]] [(9, .pointer (some ⟨eD.heap.size, 0, none⟩))] (eD.alloc (.cells #[.slice none 0 0, .slice none 0 0, .slice none 0 0] 25 (0, 0))) [] #[true, true, true, true, true, false, false, false, false, false, false, true, false, false, false] (by kernel_rfl) (by kernel_rfl) (by kernel_rfl) trivial (fun tY pZ kL nZ => ?_)
   clear iL; have bW := gr_alloc kL; have oA := kA.gr bW; have := bW.size; replace aF := aF.gn bW; replace aB := aB.gn bW; replace aC := aC.gn bW; replace aA := aA.gn bW; replace aG := aG.gn bW; replace aH := aH.gn bW; replace aI := aI.gn bW; replace aJ := aJ.gn bW; replace aD := aD.gn bW; have eG : Bx pZ (eD.heap.size) [.slice none 0 0, .slice none 0 0, .slice none 0 0] 25 := Bx.new kL; have := eG.lt
   clear bW kL
   refine ⟨oA, ?_⟩
   refine AtH.all [5] 8 (by kernel_rfl) (by simp) ⟨?_, trivial⟩
   refine OneH.call nZ 22 #[.slice aM lb.length aU] (some 48) #[true, true, true, true, true, true, false, false, false, false, false, true, false, false, false] (by kernel_rfl) (by kernel_rfl) (of_any (la := lb) (aH.wide (Nat.zero_le _) (by omega))) ?_
   rintro e_ tZ ⟨rfl, he⟩
   refine ⟨_, rfl, _, rfl, fun uA oB => ?_⟩
   clear nZ; have bL := gr_ext he; have oC := oA.gr bL; have := bL.size; replace aF := aF.gn bL; replace aB := aB.gn bL; replace aC := aC.gn bL; replace aA := aA.gn bL; replace aG := aG.gn bL; replace aH := aH.gn bL; replace aI := aI.gn bL; replace aJ := aJ.gn bL; replace aD := aD.gn bL; replace eG := eG.gn bL; clear bL he
   refine ⟨oC, ?_⟩
   refine AtH.all [6] 7 (by kernel_rfl) (by simp) ⟨?_, trivial⟩
   refine OneH.call oB 28 #[.agg #[.slice Ag0 g.ow.length cg0, .slice Ag1 g.pr.length cg1, .slice Ag2 g.mv.length cg2], .agg ((ofW lb : List Int).map wV).toArray] (some 49) #[true, true, true, true, true, true, true, false, false, false, false, true, false, false, false] (by kernel_rfl) (by kernel_rfl) (subM_any (g := g) (s := ofW lb) (aB.wide (Nat.zero_le _) (by omega)) (ofW_ok _) (aC.wide (Nat.zero_le _) (by omega))) ?_
   rintro e_ uB ⟨hL, hM, hN, hO, hP, hS, hT, hU, rfl, he, kM, kN, kO, kP⟩
   have hip823 := sub_inner g (ofW lb); have := sub_lens g (inT g (ofW lb))
   refine ⟨_, rfl, _, rfl, fun uC oD => ?_⟩
   clear oB; have bM := gr_ext he; have fF := oC.gr bM; have := bM.size; replace aF := aF.gn bM; replace aB := aB.gn bM; replace aC := aC.gn bM; replace aA := aA.gn bM; replace aG := aG.gn bM; replace aH := aH.gn bM; replace aI := aI.gn bM; replace aJ := aJ.gn bM; replace aD := aD.gn bM; replace eG := eG.gn bM; clear bM he
   refine ⟨fF, ?_⟩
   refine AtH.rd (by kernel_rfl) (fun d v c a w h => by cases d <;> exact h) fF [7] [[]] [(42, .tuple #[.agg #[.slice hL ((subG g (inT g (ofW lb))).ow.length) hM, .slice hN ((subG g (inT g (ofW lb))).pr.length) hO, .slice hP ((subG g (inT g (ofW lb))).mv.length) hS], .slice hT ((subO g (inT g (ofW lb))).length) hU, .bool (subB g (inT g (ofW lb)))])] #[true, true, true, true, true, true, true, true, false, false, false, true, false, false, false] [] 6 oD (by kernel_rfl) trivial (fun uD oE => ?_)
   clear oD
   refine AtH.rd (by kernel_rfl) (fun d v c a w h => by cases d <;> exact h) fF [8] [[]] [(50, .agg #[.slice hL ((subG g (inT g (ofW lb))).ow.length) hM, .slice hN ((subG g (inT g (ofW lb))).pr.length) hO, .slice hP ((subG g (inT g (ofW lb))).mv.length) hS])] #[true, true, true, true, true, true, true, true, true, false, false, true, false, false, false] [] 5 oE (by kernel_rfl) trivial (fun uE oF => ?_)
   clear oE
   refine AtH.rd (by kernel_rfl) (fun d v c a w h => by cases d <;> exact h) fF [9] [[]] [(51, .slice hT ((subO g (inT g (ofW lb))).length) hU)] #[true, true, true, true, true, true, true, true, true, true, false, true, false, false, false] [] 4 oF (by kernel_rfl) trivial (fun uF oG => ?_)
   clear oF
   refine AtH.rd (by kernel_rfl) (fun d v c a w h => by cases d <;> exact h) fF [10] [[]] [(52, .bool (subB g (inT g (ofW lb))))] #[true, true, true, true, true, true, true, true, true, true, true, true, false, false, false] [] 3 oG (by kernel_rfl) trivial (fun uG oH => ?_)
   clear oG
   refine AtH.all [12] 2 (by kernel_rfl) (by simp) ⟨?_, trivial⟩
   refine OneH.store oH (t := 25) (b := eD.heap.size) (off := 0) (v := .agg #[.slice hL ((subG g (inT g (ofW lb))).ow.length) hM, .slice hN ((subG g (inT g (ofW lb))).pr.length) hO, .slice hP ((subG g (inT g (ofW lb))).mv.length) hS]) #[true, true, true, true, true, true, true, true, true, true, true, true, true, false, false] (by kernel_rfl) (by kernel_rfl) eG (by kernel_rfl) (fun uH qA bF kQ oI => ?_)
   clear oH
   replace kQ : Bx qA (eD.heap.size) [.slice hL ((subG g (inT g (ofW lb))).ow.length) hM, .slice hN ((subG g (inT g (ofW lb))).pr.length) hO, .slice hP ((subG g (inT g (ofW lb))).mv.length) hS] 25 := kQ
   have iP := fF.gr' bF (by rw [dC]; exact ⟨(by simp only [add_block]; omega), (by simp only [add_block]; omega), (by simp only [add_block]; omega), (by simp only [add_block]; omega), trivial⟩)
   have := bF.size; replace aF := aF.gr bF (fun k h => by injection h; omega); replace aB := aB.gb bF (by omega); replace aC := aC.gb bF (by omega); replace aA := aA.gb bF (by omega); replace aG := aG.gb bF (by omega); replace aH := aH.gb bF (by omega); replace aI := aI.gb bF (by omega); replace aJ := aJ.gb bF (by omega); replace aD := aD.gb bF (by omega)
   replace kM := kM.gr bF (fun k hk e => by have := Sx_base hk; injection e; omega); replace kN := kN.gr bF (fun k hk e => by have := Sx_base hk; injection e; omega); replace kO := kO.gr bF (fun k hk e => by have := Sx_base hk; injection e; omega); replace kP := kP.gr bF (fun k hk e => by have := Sx_base hk; injection e; omega); clear eG bF
   refine ⟨iP, ?_⟩
   refine AtH.rd (by kernel_rfl) (fun d v c a w h => by cases d <;> exact h) iP [13] [[]] [(10, .slice hT ((subO g (inT g (ofW lb))).length) hU)] #[true, true, true, true, true, true, true, true, true, true, true, true, true, true, false] [] 1 oI (by kernel_rfl) trivial (fun uI oJ => ?_)
   clear oI
   refine AtH.rd (by kernel_rfl) (fun d v c a w h => by cases d <;> exact h) iP [14] [[]] [(11, .bool (subB g (inT g (ofW lb))))] #[true, true, true, true, true, true, true, true, true, true, true, true, true, true, true] [] 0 oJ (by kernel_rfl) trivial (fun uJ qB => ?_)
   clear oJ
   refine AtH.done (by kernel_rfl) ?_
   clear iP
   refine t_n ?_
   have qC := qB.sub (r := [(11, .bool (subB g (inT g (ofW lb)))), (10, .slice hT ((subO g (inT g (ofW lb))).length) hU), (9, .pointer (some ⟨eD.heap.size, 0, none⟩)), (8, .int .i64 (1)), (6, .pointer (some ⟨aE.heap.size, 0, none⟩)), (1, .pointer (some ⟨w.heap.size, 0, none⟩))]) ⟨rfl, rfl, rfl, rfl, rfl, rfl, trivial⟩
   exact ⟨eD.heap.size, hT, hL, hN, hP, hU, hM, hO, hS, qC, aF, aB, aC, aA, aG, aH, aI, aJ, aD, (kP.imp (fun g _ hs => ⟨hs.1, hs.2.1, hs.2.2.1, (fun e => by have := Sx_base hs; injection e; omega), (by have := Sx_base hs; show aK.heap.size ≤ g; omega)⟩)), (kM.imp (fun g _ hs => ⟨hs.2.2.1, hs.1, hs.2.1, (fun e => by have := Sx_base hs; injection e; omega), (by have := Sx_base hs; show aK.heap.size ≤ g; omega)⟩)), (kN.imp (fun g _ hs => ⟨hs.2.2.1, hs.1, hs.2.1, (fun e => by have := Sx_base hs; injection e; omega), (by have := Sx_base hs; show aK.heap.size ≤ g; omega)⟩)), (kO.imp (fun g _ hs => ⟨hs.2.2.1, hs.1, hs.2.1, (fun e => by have := Sx_base hs; injection e; omega), (by have := Sx_base hs; show aK.heap.size ≤ g; omega)⟩)), kQ, (by omega), (by omega)⟩
  clear aB; clear aC; clear aA; clear aG; clear aH; clear aI; clear aJ; clear aD; clear fB aF
  intro uK dD ⟨cB, dB, cI, cJ, cK, gO, eA, eB, eC, oK, dE, eH, dF, dG, eI, eJ, eK, eL, cP, fG, cQ, cR, cS, cC, uL, uM⟩
  have := dE.size; have hip617 := sub_inner g (ofW lb); have := sub_lens g (inT g (ofW lb)); have := dG.lt; have := cP.lt; have := cC.lt
  refine wp_seq ?_
  refine wp_seq ?_
  first | (have hQ := hPS.1 (by omega)) | (have hQ := hPS.2 (by omega))
  have hQ2 := hQ.2.1
  refine At.start ?_
  refine At.rd oK 12 [[], [.as_ (.bool false)], [], [], [], [], [], [], [.ld (.slice aM lb.length aU)], [], [.as_ (.bool false)], []] [(64, .bool false), (63, .bool false), (62, .int .i64 (((lb.length : Nat) : Int))), (61, .slice aM lb.length aU), (60, .pointer (some ⟨aE.heap.size, 1, none⟩)), (59, .pointer (some ⟨aE.heap.size, 0, none⟩)), (58, .int .i64 (1)), (57, .int .i64 ((((subO g (inT g (ofW lb))).length : Nat) : Int))), (56, .slice dB ((subO g (inT g (ofW lb))).length) gO), (55, .bool false), (54, .bool false), (53, .bool (subB g (inT g (ofW lb))))] [((.bool (!(subB g (inT g (ofW lb)))) : Value) = .bool false), (0 ≤ (1 : Int)), ((1 : Int) < (2 : Nat)), (dD.cell? ⟨aE.heap.size, 1, none⟩ = some (.slice aM lb.length aU)), ((.bool (((((subO g (inT g (ofW lb))).length : Nat) : Int) : Int) != ((lb.length : Nat) : Int)) : Value) = .bool false)] (by kernel_rfl) ⟨(congrArg Value.bool (by rw [hQ.1]; rfl)), (by decide), (by decide), (cP.cell (i := 1) rfl), (congrArg Value.bool (bneF (by omega))), trivial⟩ (fun uN kR => ?_)
  clear oK
  refine At.done rfl ?_
  refine t_n ?_
  refine cond_F kR rfl ?_
  refine wp_skip ?_
  refine t_n ?_
  refine wp_seq ?_
  refine At.start ?_
  refine At.rd kR 1 [[.ld (.slice cI ((subG g (inT g (ofW lb))).ow.length) eA), .ld (.slice cJ ((subG g (inT g (ofW lb))).pr.length) eB), .ld (.slice cK ((subG g (inT g (ofW lb))).mv.length) eC)]] [(66, .agg #[.slice cI ((subG g (inT g (ofW lb))).ow.length) eA, .slice cJ ((subG g (inT g (ofW lb))).pr.length) eB, .slice cK ((subG g (inT g (ofW lb))).mv.length) eC])] [(dD.cell? ⟨cB, 0, none⟩ = some (.slice cI ((subG g (inT g (ofW lb))).ow.length) eA)), (dD.cell? ⟨cB, 1, none⟩ = some (.slice cJ ((subG g (inT g (ofW lb))).pr.length) eB)), (dD.cell? ⟨cB, 2, none⟩ = some (.slice cK ((subG g (inT g (ofW lb))).mv.length) eC))] (by kernel_rfl) ⟨(cC.cell (i := 0) rfl), (cC.cell (i := 1) rfl), (cC.cell (i := 2) rfl), trivial⟩ (fun uO oL => ?_)
  clear kR
  refine At.call oL 16 #[.agg #[.slice cI ((subG g (inT g (ofW lb))).ow.length) eA, .slice cJ ((subG g (inT g (ofW lb))).pr.length) eB, .slice cK ((subG g (inT g (ofW lb))).mv.length) eC]] (some 67) (by kernel_rfl) (solve_any (g := (subG g (inT g (ofW lb)))) (RdG.mk (G := (subG g (inT g (ofW lb)))) (cQ.rdI0 (by first | omega | (simp only [List.length_cons, List.length_nil]; omega) | (simp; done) | (simp; omega))) (cR.rdI0 (by first | omega | (simp only [List.length_cons, List.length_nil]; omega) | (simp; done) | (simp; omega))) (cS.rdII0 (by first | omega | (simp only [List.length_cons, List.length_nil]; omega) | (simp; done) | (simp; omega)) hip617) cQ.cap cR.cap cS.cap) (dF.wide (Nat.zero_le _) (by omega))) ?_
  rintro e_ aW ⟨dH, eM, dI, eN, hW, iQ, hX, iR, lc, ld, mc, md, db, rfl, he, oM, oN, oO, oP, hsB⟩
  have hln_hsB := solve_lens hsB; have iS : RdI aW (dD.heap.size) aW.heap.size dH lc := (OwnR.rdR oM (by show _ * 8 ≤ _; omega)).rdI; clear oM; have iT : RdI aW (dD.heap.size) aW.heap.size dI ld := (OwnR.rdR oN (by show _ * 8 ≤ _; omega)).rdI; clear oN; have iU : RdI aW (dD.heap.size) aW.heap.size hW mc := (OwnR.rdR oO (by show _ * 8 ≤ _; omega)).rdI; clear oO
  have iV : RdI aW (dD.heap.size) aW.heap.size hX md := (OwnR.rdR oP (by show _ * 8 ≤ _; omega)).rdI; clear oP
  refine ⟨_, rfl, _, rfl, fun uP oQ => ?_⟩
  clear oL; have bG := gr_ext he; have := bG.size; replace dE := dE.gn bG; replace eH := eH.gn bG; replace dF := dF.gn bG; replace dG := dG.gn bG; replace eI := eI.gn bG; replace eJ := eJ.gn bG; replace eK := eK.gn bG; replace eL := eL.gn bG; replace cP := cP.gn bG; replace fG := fG.gn bG; replace cQ := cQ.gn bG; replace cR := cR.gn bG; replace cS := cS.gn bG; replace cC := cC.gn bG; clear bG he
  refine At.rd oQ 3 [[], [], []] [(69, .int .i64 (db)), (68, .agg #[.slice dH lc.length eM, .slice dI ld.length eN, .slice hW mc.length iQ, .slice hX md.length iR]), (65, .tuple #[.agg #[.slice dH lc.length eM, .slice dI ld.length eN, .slice hW mc.length iQ, .slice hX md.length iR], .int .i64 (db)])] [] (by kernel_rfl) trivial (fun uQ oR => ?_)
  clear oQ
  refine At.seq oR 1 [[]] [(12, .pointer (some ⟨aW.heap.size, 0, none⟩))] (aW.alloc (.cells #[.slice none 0 0, .slice none 0 0, .slice none 0 0, .slice none 0 0] 32 (0, 0))) [] (by kernel_rfl) trivial (fun uR qD kS oS => ?_)
  clear oR; have aQ := gr_alloc kS; have := aQ.size; replace dE := dE.gn aQ; replace eH := eH.gn aQ; replace dF := dF.gn aQ; replace dG := dG.gn aQ; replace eI := eI.gn aQ; replace eJ := eJ.gn aQ; replace eK := eK.gn aQ; replace eL := eL.gn aQ; replace cP := cP.gn aQ; replace fG := fG.grN aQ; replace cQ := cQ.grN aQ; replace cR := cR.grN aQ; replace cS := cS.grN aQ; replace cC := cC.gn aQ
  replace iS := iS.gn aQ; replace iT := iT.gn aQ; replace iU := iU.gn aQ; replace iV := iV.gn aQ; have kT : Bx qD (aW.heap.size) [.slice none 0 0, .slice none 0 0, .slice none 0 0, .slice none 0 0] 32 := Bx.new kS; have := kT.lt; clear aQ kS
  refine At.store oS (t := 32) (b := aW.heap.size) (off := 0) (v := .agg #[.slice dH lc.length eM, .slice dI ld.length eN, .slice hW mc.length iQ, .slice hX md.length iR]) (by kernel_rfl) kT (by kernel_rfl) (fun uS kU aR iW oT => ?_)
  clear oS; replace iW : Bx kU (aW.heap.size) [.slice dH lc.length eM, .slice dI ld.length eN, .slice hW mc.length iQ, .slice hX md.length iR] 32 := iW; have := aR.size; replace dE := dE.gr aR (fun k h => by injection h; omega); replace eH := eH.gb aR (by omega); replace dF := dF.gb aR (by omega); replace dG := dG.gb aR (by omega); replace eI := eI.gb aR (by omega); replace eJ := eJ.gb aR (by omega)
  replace eK := eK.gb aR (by omega); replace eL := eL.gb aR (by omega); replace cP := cP.gb aR (by omega); replace fG := fG.gr aR (fun k hk => hk.1); replace cQ := cQ.gr aR (fun k hk => hk.1); replace cR := cR.gr aR (fun k hk => hk.1); replace cS := cS.gr aR (fun k hk => hk.1); replace cC := cC.gb aR (by omega); replace iS := iS.gb aR (by omega); replace iT := iT.gb aR (by omega)
  replace iU := iU.gb aR (by omega); replace iV := iV.gb aR (by omega); clear kT aR
  refine At.rd oT 1 [[]] [(13, .int .i64 (db))] [] (by kernel_rfl) trivial (fun uT oU => ?_)
  clear oT
  refine At.done rfl ?_
  refine t_n ?_
  clear cQ; clear cR; clear cS; clear cC
  refine wp_seq ?_
  have hV := hQ.2.2 _ _ _ _ _ hsB
  refine At.start ?_
  refine At.rd oU 17 [[], [], [], [.ld (.slice dI ld.length eN)], [], [], [], [.as_ (.bool false)], [], [], [.as_ (.int .i64 (0))], [], [], [.ld (.slice dH lc.length eM)], [], [.as_ (.bool false)], []] [(86, .bool false), (85, .bool false), (84, .int .i64 (((lc.length : Nat) : Int))), (83, .slice dH lc.length eM), (82, .pointer (some ⟨aW.heap.size, 0, none⟩)), (81, .pointer (some ⟨aW.heap.size, 0, none⟩)), (80, .int .i64 (0)), (79, .int .i64 (1)), (78, .bool false), (77, .bool false), (76, .int .i64 ((((subO g (inT g (ofW lb))).length : Nat) : Int))), (75, .slice dB ((subO g (inT g (ofW lb))).length) gO), (74, .int .i64 (((ld.length : Nat) : Int))), (73, .slice dI ld.length eN), (72, .pointer (some ⟨aW.heap.size, 1, none⟩)), (71, .pointer (some ⟨aW.heap.size, 0, none⟩)), (70, .int .i64 (1))] [(0 ≤ (1 : Int)), ((1 : Int) < (2 : Nat)), (kU.cell? ⟨aW.heap.size, 1, none⟩ = some (.slice dI ld.length eN)), ((.bool ((((ld.length : Nat) : Int) : Int) != (((subO g (inT g (ofW lb))).length : Nat) : Int)) : Value) = .bool false), ((.int .i64 (IntKind.i64.wrap (1 - 1)) : Value) = .int .i64 (0)), (0 ≤ (0 : Int)), ((0 : Int) < (2 : Nat)), (kU.cell? ⟨aW.heap.size, 0, none⟩ = some (.slice dH lc.length eM)), ((.bool ((((lc.length : Nat) : Int) : Int) != 0) : Value) = .bool false)] (by kernel_rfl) ⟨(by decide), (by decide), (iW.cell (i := 1) rfl), (congrArg Value.bool (bneF (by omega))), (by kernel_rfl), (by decide), (by decide), (iW.cell (i := 0) rfl), (congrArg Value.bool (bneF (by omega))), trivial⟩ (fun uU kV => ?_)
  clear oU
  refine At.done rfl ?_
  refine t_n ?_
  refine cond_F kV rfl ?_
  refine wp_skip ?_
  refine b_n ?_
  refine t_n ?_
  refine At.start ?_
  refine At.rd kV 3 [[], [.as_ (.int .i64 (2))], []] [(8, .int .i64 (2)), (35, .int .i64 (2)), (34, .int .i64 (1))] [((.int .i64 (IntKind.i64.wrap (1 + 1)) : Value) = .int .i64 (2))] (by kernel_rfl) ⟨(by kernel_rfl), trivial⟩ (fun uV qE => ?_)
  clear kV
  refine At.done rfl ?_
  refine t_n ?_
  have qF := qE.sub (r := [(8, .int .i64 (2)), (6, .pointer (some ⟨aE.heap.size, 0, none⟩)), (1, .pointer (some ⟨w.heap.size, 0, none⟩))]) ⟨rfl, rfl, rfl, trivial⟩
  exact ⟨_, (by omega), 2, rfl, qF, dE, eH, dF, dG, eI, eJ, eK, eL, cP, (by omega), (by omega)⟩
 have uW := of_decide_eq_false jB
 refine wp_exit ?_
 refine t_e ?_
 refine t_e ?_
 refine b_e ?_
 refine t_n ?_
 clear aA; clear aD
 refine wp_seq ?_
 refine At.start ?_
 refine At.rd dL 1 [[]] [(2, .bool true)] [] (by kernel_rfl) trivial (fun uX qG => ?_)
 clear dL
 refine At.done rfl ?_
 refine t_n ?_
 refine wp_ret ?_
 refine ret_ qG [] [.bool true] [] (by kernel_rfl) trivial ?_
 exact ⟨rfl, aF⟩

end Go.Proofs.YtplpgfcjjnaigaaDoor
