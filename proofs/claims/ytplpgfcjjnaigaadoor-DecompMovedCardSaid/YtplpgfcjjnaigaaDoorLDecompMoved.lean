/-
  A walk of a Go function, printed by a program of this repo. Conditions: what the theorems name.
-/
import Derived.Test.YtplpgfcjjnaigaaDoorWShown13
import Derived.Test.YtplpgfcjjnaigaaDoorPureLaw13M
set_option linter.unusedVariables false
set_option linter.unusedSimpArgs false
namespace Go.Proofs.YtplpgfcjjnaigaaDoor
open Go Go.RowKit

attribute [local irreducible] ofZ fromW wordsD ofD ofW lsD lenW lenN fullW withW lessW hasW hasD inW inD leastD putD onI tzI orS andS minusS orD andD minusD fullD emptyD
set_option maxHeartbeats 4000000 in
theorem moved13_any {Ag0 Ag1 Ag2 : Option Addr} {cg0 cg1 cg2 : Nat} {g : GameL} {w : World} (rg : RdG w 0 w.heap.size Ag0 Ag1 Ag2 cg0 cg1 cg2 g) (rT : RdT w 0 w.heap.size) :
    Calls Tryd.prog 4 #[.agg #[.slice Ag0 g.ow.length cg0, .slice Ag1 g.pr.length cg1, .slice Ag2 g.mv.length cg2]] w fun e w' => e = .returned (.bool true) ∧ Ext w w' := by
 have hlg0 := rg.ow.len; have hlg1 := rg.pr.len; have hlg2 := rg.mv.len; have hkg0 := rg.k0; have hkg1 := rg.k1; have hkg2 := rg.k2
 refine enter_ (args := [.agg #[.slice Ag0 g.ow.length cg0, .slice Ag1 g.pr.length cg1, .slice Ag2 g.mv.length cg2]]) Tryd.func4 rfl Tryd.ntmps4 (Nat.le_of_ble_eq_true rfl) (fun act0 f0 => ?_)
 have e0 : Ext w w := Ext.refl w
 refine wp_seq ?_
 refine At.start ?_
 refine At.seq f0 1 [[]] [(1, .pointer (some ⟨w.heap.size, 0, none⟩))] (w.alloc (.cells #[.slice Ag0 g.ow.length cg0, .slice Ag1 g.pr.length cg1, .slice Ag2 g.mv.length cg2] 25 (0, 0))) [] (by kernel_rfl) trivial (fun act4 w1 hw2 f3 => ?_)
 clear f0; have g5 := gr_alloc hw2; have := g5.size; replace e0 := e0.gn g5; have r8 := rg.gn g5; clear rg; have r9 := rT.gn g5; clear rT; have bP : Bx w1 (w.heap.size) [.slice Ag0 g.ow.length cg0, .slice Ag1 g.pr.length cg1, .slice Ag2 g.mv.length cg2] 25 := Bx.new hw2; have := bP.lt; clear g5 hw2
 refine At.rd f3 1 [[]] [(2, .bool false)] [] (by kernel_rfl) trivial (fun zT oR => ?_)
 clear f3
 refine At.done rfl ?_
 refine t_n ?_
 refine wp_seq ?_
 refine At.start ?_
 refine At.call oR 12 #[] (some 18) (by kernel_rfl) (shown13_any (r9.wide (Nat.zero_le _) (by omega))) ?_
 rintro e_ lF ⟨rfl, he⟩
 refine ⟨_, rfl, _, rfl, fun zU oS => ?_⟩
 clear oR; have hP := gr_ext he; have := hP.size; replace e0 := e0.gn hP; replace r8 := r8.gn hP; replace r9 := r9.gn hP; replace bP := bP.gn hP; clear hP he
 refine At.rd oS 1 [[]] [(3, .bool true)] [] (by kernel_rfl) trivial (fun zV oT => ?_)
 clear oS
 refine At.done rfl ?_
 refine t_n ?_
 refine wp_seq ?_
 refine At.start ?_
 refine At.rd oT 1 [[.ld (.slice Ag0 g.ow.length cg0), .ld (.slice Ag1 g.pr.length cg1), .ld (.slice Ag2 g.mv.length cg2)]] [(20, .agg #[.slice Ag0 g.ow.length cg0, .slice Ag1 g.pr.length cg1, .slice Ag2 g.mv.length cg2])] [(lF.cell? ⟨w.heap.size, 0, none⟩ = some (.slice Ag0 g.ow.length cg0)), (lF.cell? ⟨w.heap.size, 1, none⟩ = some (.slice Ag1 g.pr.length cg1)), (lF.cell? ⟨w.heap.size, 2, none⟩ = some (.slice Ag2 g.mv.length cg2))] (by kernel_rfl) ⟨(bP.cell (i := 0) rfl), (bP.cell (i := 1) rfl), (bP.cell (i := 2) rfl), trivial⟩ (fun zW oU => ?_)
 clear oT
 refine At.call oU 21 #[.agg #[.slice Ag0 g.ow.length cg0, .slice Ag1 g.pr.length cg1, .slice Ag2 g.mv.length cg2]] (some 21) (by kernel_rfl) (right_any (r8.wide (Nat.zero_le _) (by omega))) ?_
 rintro e_ aD ⟨rfl, he⟩
 refine ⟨_, rfl, _, rfl, fun zX oV => ?_⟩
 clear oU; have hQ := gr_ext he; have := hQ.size; replace e0 := e0.gn hQ; replace r8 := r8.gn hQ; replace r9 := r9.gn hQ; replace bP := bP.gn hQ; clear hQ he
 refine At.rd oV 5 [[], [], [], [], []] [(5, .int .i64 ((rightP g).2)), (4, .int .i64 ((rightP g).1)), (23, .int .i64 ((rightP g).2)), (22, .int .i64 ((rightP g).1)), (19, .tuple #[.int .i64 ((rightP g).1), .int .i64 ((rightP g).2)])] [] (by kernel_rfl) trivial (fun zY oW => ?_)
 clear oV
 refine At.done rfl ?_
 refine t_n ?_
 refine wp_seq ?_
 refine wp_seq ?_
 refine At.start ?_
 refine At.rd oW 6 [[], [], [], [], [], []] [(29, .bool (((rightP g).2 : Int) != 0)), (28, .bool (((rightP g).2 : Int) != 0)), (27, .int .i64 ((rightP g).2)), (26, .bool false), (25, .bool false), (24, .bool true)] [] (by kernel_rfl) trivial (fun zZ iL => ?_)
 clear oW
 refine At.done rfl ?_
 refine t_n ?_
 refine cond_S iL (t := ((rightP g).2 : Int) != 0) rfl (fun lG => ?_) (fun lG => ?_)
 ·have aAa := bne_iff_ne.1 lG
  refine wp_seq ?_
  refine At.start ?_
  refine At.rd iL 2 [[], []] [(2, .bool true), (30, .bool true)] [] (by kernel_rfl) trivial (fun aAb wK => ?_)
  clear iL
  refine At.done rfl ?_
  refine t_n ?_
  clear bP
  refine wp_ret ?_
  refine t_r ?_
  refine ret_ wK [] [.bool true] [] (by kernel_rfl) trivial ?_
  exact ⟨rfl, e0⟩
 have aAc := bne_eq_false_iff_eq.1 lG
 refine wp_skip ?_
 refine t_n ?_
 refine wp_seq ?_
 have hR : isR g = true := right_of2 (by omega); have hG := isR_ok hR; have hn1 := hG.n1; have hn0 := hG.n0; have hpl := hG.pl; have hml := hG.ml
 refine At.start ?_
 refine At.rd iL 4 [[], [.ld (.slice Ag0 g.ow.length cg0)], [], []] [(6, .int .i64 (((g.ow.length : Nat) : Int))), (33, .int .i64 (((g.ow.length : Nat) : Int))), (32, .slice Ag0 g.ow.length cg0), (31, .pointer (some ⟨w.heap.size, 0, none⟩))] [(aD.cell? ⟨w.heap.size, 0, none⟩ = some (.slice Ag0 g.ow.length cg0))] (by kernel_rfl) ⟨(bP.cell (i := 0) rfl), trivial⟩ (fun aAd oX => ?_)
 clear iL
 refine At.done rfl ?_
 refine t_n ?_
 refine wp_seq ?_
 refine At.start ?_
 refine At.rd oX 1 [[]] [(34, .agg #[.slice none 0 0, .slice none 0 0, .slice none 0 0])] [] (by kernel_rfl) trivial (fun aAe oY => ?_)
 clear oX
 refine At.seq oY 1 [[]] [(7, .pointer (some ⟨aD.heap.size, 0, none⟩))] (aD.alloc (.cells #[.slice none 0 0, .slice none 0 0, .slice none 0 0] 25 (0, 0))) [] (by kernel_rfl) trivial (fun aAf wL lH oZ => ?_)
 clear oY; have hS := gr_alloc lH; have := hS.size; replace e0 := e0.gn hS; replace r8 := r8.gn hS; replace r9 := r9.gn hS; replace bP := bP.gn hS; have lI : Bx wL (aD.heap.size) [.slice none 0 0, .slice none 0 0, .slice none 0 0] 25 := Bx.new lH; have := lI.lt; clear hS lH
 refine At.store oZ (t := 25) (b := aD.heap.size) (off := 0) (v := .agg #[.slice none 0 0, .slice none 0 0, .slice none 0 0]) (by kernel_rfl) lI (by kernel_rfl) (fun aAg aA hT jG pA => ?_)
 clear oZ; replace jG : Bx aA (aD.heap.size) [.slice none 0 0, .slice none 0 0, .slice none 0 0] 25 := jG; have := hT.size; replace e0 := e0.gr hT (fun k h => by injection h; omega); replace r8 := r8.gb hT (by omega); replace r9 := r9.gb hT (by omega); replace bP := bP.gb hT (by omega); clear lI hT
 refine At.done rfl ?_
 refine t_n ?_
 refine wp_seq ?_
 refine wp_seq ?_
 refine At.start ?_
 refine At.rd pA 3 [[], [.as_ (.int .i64 (((g.ow.length : Nat) : Int) - 1))], []] [(8, .int .i64 (((g.ow.length : Nat) : Int) - 1)), (36, .int .i64 (((g.ow.length : Nat) : Int) - 1)), (35, .int .i64 (((g.ow.length : Nat) : Int)))] [((.int .i64 (IntKind.i64.wrap (((g.ow.length : Nat) : Int) - 1)) : Value) = .int .i64 (((g.ow.length : Nat) : Int) - 1))] (by kernel_rfl) ⟨(w64 (by omega) (by omega)), trivial⟩ (fun aAh pB => ?_)
 clear pA
 refine At.done rfl ?_
 refine t_n ?_
 refine wp_block ?_
 have hU : OwnR aA (Sx (aA.heap.size) []) none 0 3 ([] : List Int) := OwnR.nil; have jH : OwnR aA (Sx (aA.heap.size) [obk (none)]) none 0 3 ([] : List Int) := OwnR.nil; replace hU : OwnR aA (Sx (aA.heap.size) [obk none]) none 0 3 ([] : List Int) := hU.imp (fun g _ hs => ⟨by simp [obk], hs⟩); have pC : OwnLL aA (aA.heap.size) [obk (none), obk (none)] none 0 22 3 ([] : List (List Int)) := OwnLL.nil
 replace hU : OwnR aA (Sx (aA.heap.size) [obk none, obk none]) none 0 3 ([] : List Int) := hU.imp (fun g _ hs => ⟨by simp [obk], hs⟩); replace jH : OwnR aA (Sx (aA.heap.size) [obk none, obk (none)]) none 0 3 ([] : List Int) := jH.imp (fun g _ hs => ⟨by simp [obk], hs⟩)
 have pD := pB.sub (r := [(8, .int .i64 (((g.ow.length : Nat) : Int) - 1)), (7, .pointer (some ⟨aD.heap.size, 0, none⟩)), (6, .int .i64 (((g.ow.length : Nat) : Int))), (2, .bool false), (1, .pointer (some ⟨w.heap.size, 0, none⟩))]) ⟨rfl, rfl, rfl, rfl, rfl, trivial⟩
 refine loop_g (fun (m_ : Nat) a_ w_ => ∃ (i : Int) (xo : List Int) (bV : Option Addr) (dD : Nat) (xp : List Int) (aO : Option Addr) (aV : Nat) (xm : List (List Int)) (aB : Option Addr) (aJ : Nat), m_ = (i + 1).toNat ∧ (Frm 125 a_ [(8, .int .i64 (i)), (7, .pointer (some ⟨aD.heap.size, 0, none⟩)), (6, .int .i64 (((g.ow.length : Nat) : Int))), (2, .bool false), (1, .pointer (some ⟨w.heap.size, 0, none⟩))]) ∧ (Ext w w_) ∧ (RdG w_ 0 w.heap.size Ag0 Ag1 Ag2 cg0 cg1 cg2 g) ∧ (RdT w_ 0 w.heap.size) ∧ (Bx w_ (w.heap.size) [.slice Ag0 g.ow.length cg0, .slice Ag1 g.pr.length cg1, .slice Ag2 g.mv.length cg2] 25) ∧ (Bx w_ (aD.heap.size) [.slice bV xo.length dD, .slice aO xp.length aV, .slice aB xm.length aJ] 25) ∧ (OwnR w_ (Sx (aA.heap.size) [obk (aB), obk (aO)]) bV dD 3 (xo : List Int)) ∧ (OwnR w_ (Sx (aA.heap.size) [obk (aB), obk (bV)]) aO aV 3 (xp : List Int)) ∧ (OwnLL w_ (aA.heap.size) [obk (bV), obk (aO)] aB aJ 22 3 (xm : List (List Int))) ∧ (-1 ≤ i) ∧ (i ≤ ((g.ow.length : Nat) : Int) - 1) ∧ (xo = limL (fun j => gI g.ow (((g.ow.length : Nat) : Int) - 1 - j)) (((g.ow.length : Nat) : Int) - 1 - i)) ∧ (xp = limL (fun j => gI g.pr (((g.ow.length : Nat) : Int) - 1 - j)) (((g.ow.length : Nat) : Int) - 1 - i)) ∧ (xm = limL (fun j => movR g (((g.ow.length : Nat) : Int) - 1 - j)) (((g.ow.length : Nat) : Int) - 1 - i)) ∧ (aA.heap.size ≤ w_.heap.size)) _ ⟨((g.ow.length : Nat) : Int) - 1, ([] : List Int), none, 0, ([] : List Int), none, 0, ([] : List (List Int)), none, 0, rfl, pD, e0, r8, r9, bP, (jG.as (by first | rfl | (simp only [List.cons.injEq, Value.slice.injEq, true_and, and_true]; omega))), hU, jH, pC, (by omega), (by omega), (by rw [show ((g.ow.length : Nat) : Int) - 1 - (((g.ow.length : Nat) : Int) - 1) = 0 by omega]; rfl), (by rw [show ((g.ow.length : Nat) : Int) - 1 - (((g.ow.length : Nat) : Int) - 1) = 0 by omega]; rfl), (by rw [show ((g.ow.length : Nat) : Int) - 1 - (((g.ow.length : Nat) : Int) - 1) = 0 by omega]; rfl), (by omega)⟩ ?_
 clear pD pB; clear r8; clear r9; clear bP; clear jG; clear hU; clear jH; clear pC; clear e0
 intro m_ aAi dR ⟨i, xo, bV, dD, xp, aO, aV, xm, aB, aJ, hm87, pE, aG, aC, aF, aH, aN, aM, aE, jI, i96, i97, hxo, hxp, hxm, i98⟩
 have := aG.size; have := aH.lt; have := aN.lt
 refine wp_seq ?_
 refine wp_seq ?_
 refine At.start ?_
 refine At.rd pE 2 [[], []] [(38, .bool (decide ((i : Int) ≥ 0))), (37, .int .i64 (i))] [] (by kernel_rfl) trivial (fun aAj iM => ?_)
 clear pE
 refine At.done rfl ?_
 refine t_n ?_
 refine cond_S iM (t := decide ((i : Int) ≥ 0)) rfl (fun lJ => ?_) (fun lJ => ?_)
 ·have aAk := of_decide_eq_true lJ
  refine wp_skip ?_
  refine t_n ?_
  refine wp_seq ?_
  refine wp_block ?_
  have hxl0_ := congrArg List.length hxo; have hxl1_ := congrArg List.length hxp; have hxl2_ := congrArg List.length hxm
  rw [lim_len] at hxl0_ hxl1_ hxl2_
  refine wp_seq ?_
  obtain ⟨iN, wM, _, _, wN⟩ := RdI.get aC.ow (i) (by omega) (by omega)
  obtain ⟨jJ, gP⟩ : ∃ c : List (Addr × Value), c = [(⟨w.heap.size, 0, none⟩, (.slice Ag0 g.ow.length cg0)), ((iN.add ((i : Int).toNat * 1)), (.int .i64 (gI g.ow (i))))] := ⟨_, rfl⟩
  have pF : HoldsC jJ dR := by rw [gP]; exact ⟨(aH.cell (i := 0) rfl), wN, trivial⟩
  refine AtH.start jJ 11 #[false, false, false, false, false, false, false, false, false, false, false] (by kernel_rfl) rfl rfl (fun bA pG => ?_)
  have eF := gr_drew pG; have jK := pF.gr eF; have := eF.size; replace aG := aG.gn eF; replace aC := aC.gn eF; replace aF := aF.gn eF; replace aH := aH.gn eF; replace aN := aN.gn eF; replace aM := aM.gn eF; replace aE := aE.gn eF; have aI := jI.gn eF; clear jI; clear eF pG pF
  refine AtH.rd (by kernel_rfl) (fun d v c a w h => by cases d <;> exact h) jK [0, 2, 3, 4, 5, 6] [[], [], [.ld (.slice Ag0 g.ow.length cg0)], [], [.ad iN], [.ld (.int .i64 (gI g.ow (i)))]] [(47, .int .i64 (gI g.ow (i))), (46, .pointer (some (iN.add ((i : Int).toNat * 1)))), (45, .int .i64 (i)), (44, .slice Ag0 g.ow.length cg0), (43, .pointer (some ⟨w.heap.size, 0, none⟩)), (41, .pointer (some ⟨aD.heap.size, 0, none⟩))] #[true, false, true, true, true, true, true, false, false, false, false] [(∃ j_ : Nat, jJ[j_]? = some (⟨w.heap.size, 0, none⟩, (.slice Ag0 g.ow.length cg0))), (Ag0 = some iN), (0 ≤ (i : Int)), ((i : Int) < (g.ow.length : Nat)), (∃ j_ : Nat, jJ[j_]? = some ((iN.add ((i : Int).toNat * 1)), (.int .i64 (gI g.ow (i)))))] 5 iM (by kernel_rfl) ⟨⟨0, by rw [gP]; rfl⟩, wM, (by omega), (by omega), ⟨1, by rw [gP]; rfl⟩, trivial⟩ (fun aAl jL => ?_)
  clear iM
  refine AtH.all [1, 7] 4 (by kernel_rfl) (by simp) ⟨?_, ?_, trivial⟩
  ·refine OneH.seq jL [[.ld (.slice bV xo.length dD)]] [(42, .slice bV xo.length dD)] bA [(bA.cell? ⟨aD.heap.size, 0, none⟩ = some (.slice bV xo.length dD))] #[true, true, true, true, true, true, true, false, false, false, false] (by kernel_rfl) (by kernel_rfl) (by kernel_rfl) ⟨(aN.cell (i := 0) rfl), trivial⟩ (fun aAm wO wP pH => ?_)
   obtain rfl : bA = wO := wP.symm
   clear jL
   refine ⟨jK, ?_⟩
   refine AtH.all [7] 3 (by kernel_rfl) (by simp) ⟨?_, trivial⟩
   refine OneH.seq pH [[]] [(48, .slice (some ⟨bA.heap.size, 0, none⟩) 1 1)] (bA.alloc (.cells #[.int .i64 (gI g.ow (i))] 3 (0, 0))) [] #[true, true, true, true, true, true, true, true, false, false, false] (by kernel_rfl) (by kernel_rfl) (by kernel_rfl) trivial (fun aAn pI lK pJ => ?_)
   clear pH; have eG := gr_alloc lK; have pK := jK.gr eG
   refine ⟨pK, ?_⟩
   have := eG.size; replace aG := aG.gn eG; replace aC := aC.gn eG; replace aF := aF.gn eG; replace aH := aH.gn eG; replace aN := aN.gn eG; replace aM := aM.grN eG; replace aE := aE.grN eG; replace aI := aI.grN eG; have lL : Bx pI (bA.heap.size) [.int .i64 (gI g.ow (i))] 3 := Bx.new lK; have := lL.lt; clear eG lK
   refine AtH.all [8] 2 (by kernel_rfl) (by simp) ⟨?_, trivial⟩
   have wQ : (xo ++ ([gI g.ow (i)])).length = (xo).length + ([gI g.ow (i)] : List Int).length := List.length_append
   simp only [List.length_cons, List.length_nil] at wQ
   refine OneH.act pJ #[true, true, true, true, true, true, true, true, true, false, false] (by kernel_rfl) (appendR (α := Int) (t := 22) (d := 49) (n := xo.length) (m := 1) (cc := 1) (xs := xo) (ys := [gI g.ow (i)]) (bytes := 8) (by first | rfl | omega | (simp; done) | (simp; omega)) (by first | rfl | omega | (simp; done) | (simp; omega)) (by kernel_rfl) rfl (by kernel_rfl) aM (Bx.srcR (l := ([gI g.ow (i)] : List Int)) lL rfl) (by simp only [List.length_cons, List.length_nil]; omega) (by simp only [List.length_cons, List.length_nil]; omega)) ?_
   rintro d_ v_ pL ⟨rfl, aK, bB, hV⟩
   obtain rfl := hV.val
   have eY := hV.gr
   have lM := pK.grO eY (by rw [gP]; exact ⟨(fun e => by have := aM.ge _ e; simp only [add_block] at this; omega), (fun e => by have := aM.ge _ e; simp only [add_block] at this; omega), trivial⟩)
   refine ⟨_, rfl, fun aAo pM => ⟨lM, ?_⟩⟩
   clear pJ; clear lL
   have aP := hV.own (Sx (aA.heap.size) [obk (aB), obk (aO)]) (fun g _ hs => ⟨hs.2.1, hs.2.2.1, hs.2.2.2⟩) ⟨aI.ne_new, aE.ne_new, (show aA.heap.size ≤ pI.heap.size by omega)⟩
   have := eY.size; replace aG := aG.gr eY (fun k hk => by have := aM.ge k hk; omega); replace aC := aC.gr eY (fun k hk => by have := aM.ge k hk; omega); replace aF := aF.gr eY (fun k hk => by have := aM.ge k hk; omega); replace aH := aH.gr eY (fun e => by have := aM.ge _ e; omega); replace aN := aN.gr eY (fun e => by have := aM.ge _ e; omega)
   replace aE : OwnR pL (Sx (aA.heap.size) [some (bA.heap.size), obk (aB), obk (aK)]) aO aV 3 (xp : List Int) := aE.grA eY (fun k hk => hk.2.2.1) (fun k hk hs => ⟨hs.1, hs.2.1, own_repl hV.at_ hs.2.2.1 hk, hs.2.2.2⟩)
   replace aI : OwnLL pL (aA.heap.size) [some (bA.heap.size), obk (aK), obk (aO)] aB aJ 22 3 (xm : List (List Int)) := aI.grA eY (fun k hk => hk.2.1) (fun k hk hs => ⟨hs.1, own_repl hV.at_ hs.2.1 hk, hs.2.2.1, hs.2.2.2⟩)
   clear aM eY hV
   refine AtH.rd (by kernel_rfl) (fun d v c a w h => by cases d <;> exact h) lM [9] [[]] [(50, .pointer (some ⟨aD.heap.size, 0, none⟩))] #[true, true, true, true, true, true, true, true, true, true, false] [] 1 pM (by kernel_rfl) trivial (fun aAp pN => ?_)
   clear pM
   refine AtH.all [10] 0 (by kernel_rfl) (by simp) ⟨?_, trivial⟩
   refine OneH.store pN (t := 22) (b := aD.heap.size) (off := 0) (v := .slice aK ((xo ++ ([gI g.ow (i)])).length) bB) #[true, true, true, true, true, true, true, true, true, true, true] (by kernel_rfl) (by kernel_rfl) aN (by kernel_rfl) (fun aAq pO eZ bG pP => ?_)
   clear pN; replace bG : Bx pO (aD.heap.size) [.slice aK ((xo ++ ([gI g.ow (i)])).length) bB, .slice aO xp.length aV, .slice aB xm.length aJ] 25 := bG; have pQ := lM.gr' eZ (by rw [gP]; exact ⟨(by simp only [add_block]; omega), (by simp only [add_block]; omega), trivial⟩); have := eZ.size; replace aG := aG.gr eZ (fun k h => by injection h; omega); replace aC := aC.gb eZ (by omega)
   replace aF := aF.gb eZ (by omega); replace aH := aH.gb eZ (by omega); replace aP := aP.gr eZ (fun k hk e => by have := Sx_base hk; injection e; omega); replace aE := aE.gr eZ (fun k hk e => by have := Sx_base hk; injection e; omega); replace aI := aI.gr eZ (fun k hk e => by have := Sx_base hk; injection e; omega); clear aN eZ
   refine ⟨pQ, ?_⟩
   refine AtH.done (by kernel_rfl) ?_
   clear pQ
   refine t_n ?_
   have hxl0_ := congrArg List.length hxo; have hxl1_ := congrArg List.length hxp; have hxl2_ := congrArg List.length hxm
   rw [lim_len] at hxl0_ hxl1_ hxl2_
   refine wp_seq ?_
   obtain ⟨iO, wR, _, _, wS⟩ := RdI.get aC.pr (i) (by omega) (by omega)
   obtain ⟨jM, gQ⟩ : ∃ c : List (Addr × Value), c = [(⟨w.heap.size, 1, none⟩, (.slice Ag1 g.pr.length cg1)), ((iO.add ((i : Int).toNat * 1)), (.int .i64 (gI g.pr (i))))] := ⟨_, rfl⟩
   have pR : HoldsC jM pO := by rw [gQ]; exact ⟨(aH.cell (i := 1) rfl), wS, trivial⟩
   refine AtH.start jM 11 #[false, false, false, false, false, false, false, false, false, false, false] (by kernel_rfl) rfl rfl (fun bN pS => ?_)
   have eH := gr_drew pS; have jN := pR.gr eH; have := eH.size; replace aG := aG.gn eH; replace aC := aC.gn eH; replace aF := aF.gn eH; replace aH := aH.gn eH; replace bG := bG.gn eH; replace aP := aP.gn eH; replace aE := aE.gn eH; replace aI := aI.gn eH; clear eH pS pR
   refine AtH.rd (by kernel_rfl) (fun d v c a w h => by cases d <;> exact h) jN [0, 2, 3, 4, 5, 6] [[], [], [.ld (.slice Ag1 g.pr.length cg1)], [], [.ad iO], [.ld (.int .i64 (gI g.pr (i)))]] [(57, .int .i64 (gI g.pr (i))), (56, .pointer (some (iO.add ((i : Int).toNat * 1)))), (55, .int .i64 (i)), (54, .slice Ag1 g.pr.length cg1), (53, .pointer (some ⟨w.heap.size, 1, none⟩)), (51, .pointer (some ⟨aD.heap.size, 1, none⟩))] #[true, false, true, true, true, true, true, false, false, false, false] [(∃ j_ : Nat, jM[j_]? = some (⟨w.heap.size, 1, none⟩, (.slice Ag1 g.pr.length cg1))), (Ag1 = some iO), (0 ≤ (i : Int)), ((i : Int) < (g.pr.length : Nat)), (∃ j_ : Nat, jM[j_]? = some ((iO.add ((i : Int).toNat * 1)), (.int .i64 (gI g.pr (i)))))] 5 pP (by kernel_rfl) ⟨⟨0, by rw [gQ]; rfl⟩, wR, (by omega), (by omega), ⟨1, by rw [gQ]; rfl⟩, trivial⟩ (fun aAr jO => ?_)
   clear pP
   refine AtH.all [1, 7] 4 (by kernel_rfl) (by simp) ⟨?_, ?_, trivial⟩
   ·refine OneH.seq jO [[.ld (.slice aO xp.length aV)]] [(52, .slice aO xp.length aV)] bN [(bN.cell? ⟨aD.heap.size, 1, none⟩ = some (.slice aO xp.length aV))] #[true, true, true, true, true, true, true, false, false, false, false] (by kernel_rfl) (by kernel_rfl) (by kernel_rfl) ⟨(bG.cell (i := 1) rfl), trivial⟩ (fun aAs wT wU pT => ?_)
    obtain rfl : bN = wT := wU.symm
    clear jO
    refine ⟨jN, ?_⟩
    refine AtH.all [7] 3 (by kernel_rfl) (by simp) ⟨?_, trivial⟩
    refine OneH.seq pT [[]] [(58, .slice (some ⟨bN.heap.size, 0, none⟩) 1 1)] (bN.alloc (.cells #[.int .i64 (gI g.pr (i))] 3 (0, 0))) [] #[true, true, true, true, true, true, true, true, false, false, false] (by kernel_rfl) (by kernel_rfl) (by kernel_rfl) trivial (fun aAt pU lN pV => ?_)
    clear pT; have eI := gr_alloc lN; have pW := jN.gr eI
    refine ⟨pW, ?_⟩
    have := eI.size; replace aG := aG.gn eI; replace aC := aC.gn eI; replace aF := aF.gn eI; replace aH := aH.gn eI; replace bG := bG.gn eI; replace aP := aP.grN eI; replace aE := aE.grN eI; replace aI := aI.grN eI; have lO : Bx pU (bN.heap.size) [.int .i64 (gI g.pr (i))] 3 := Bx.new lN; have := lO.lt; clear eI lN
    refine AtH.all [8] 2 (by kernel_rfl) (by simp) ⟨?_, trivial⟩
    have wW : (xp ++ ([gI g.pr (i)])).length = (xp).length + ([gI g.pr (i)] : List Int).length := List.length_append
    simp only [List.length_cons, List.length_nil] at wW
    refine OneH.act pV #[true, true, true, true, true, true, true, true, true, false, false] (by kernel_rfl) (appendR (α := Int) (t := 22) (d := 59) (n := xp.length) (m := 1) (cc := 1) (xs := xp) (ys := [gI g.pr (i)]) (bytes := 8) (by first | rfl | omega | (simp; done) | (simp; omega)) (by first | rfl | omega | (simp; done) | (simp; omega)) (by kernel_rfl) rfl (by kernel_rfl) aE (Bx.srcR (l := ([gI g.pr (i)] : List Int)) lO rfl) (by simp only [List.length_cons, List.length_nil]; omega) (by simp only [List.length_cons, List.length_nil]; omega)) ?_
    rintro d_ v_ pX ⟨rfl, aW, fP, hW⟩
    obtain rfl := hW.val
    have fA := hW.gr
    have lP := pW.grO fA (by rw [gQ]; exact ⟨(fun e => by have := aE.ge _ e; simp only [add_block] at this; omega), (fun e => by have := aE.ge _ e; simp only [add_block] at this; omega), trivial⟩)
    refine ⟨_, rfl, fun aAu pY => ⟨lP, ?_⟩⟩
    clear pV; clear lO
    have hX := hW.own (Sx (aA.heap.size) [obk (aB), obk (aK)]) (fun g _ hs => ⟨hs.2.2.1, hs.2.2.2.1, hs.2.2.2.2⟩) ⟨aI.ne_new, aP.ne_new, (show aA.heap.size ≤ pU.heap.size by omega)⟩
    have := fA.size; replace aG := aG.gr fA (fun k hk => by have := aE.ge k hk; omega); replace aC := aC.gr fA (fun k hk => by have := aE.ge k hk; omega); replace aF := aF.gr fA (fun k hk => by have := aE.ge k hk; omega); replace aH := aH.gr fA (fun e => by have := aE.ge _ e; omega); replace bG := bG.gr fA (fun e => by have := aE.ge _ e; omega)
    replace aP : OwnR pX (Sx (aA.heap.size) [some (bN.heap.size), obk (aB), obk (aW)]) aK bB 3 (xo ++ ([gI g.ow (i)]) : List Int) := aP.grA fA (fun k hk => hk.2.2.1) (fun k hk hs => ⟨hs.1, hs.2.1, own_repl hW.at_ hs.2.2.1 hk, hs.2.2.2⟩)
    replace aI : OwnLL pX (aA.heap.size) [some (bN.heap.size), some (bA.heap.size), obk (aK), obk (aW)] aB aJ 22 3 (xm : List (List Int)) := aI.grA fA (fun k hk => hk.2.2.2.1) (fun k hk hs => ⟨hs.1, hs.2.1, hs.2.2.1, own_repl hW.at_ hs.2.2.2.1 hk, hs.2.2.2.2⟩)
    clear aE fA hW
    refine AtH.rd (by kernel_rfl) (fun d v c a w h => by cases d <;> exact h) lP [9] [[]] [(60, .pointer (some ⟨aD.heap.size, 1, none⟩))] #[true, true, true, true, true, true, true, true, true, true, false] [] 1 pY (by kernel_rfl) trivial (fun aAv pZ => ?_)
    clear pY
    refine AtH.all [10] 0 (by kernel_rfl) (by simp) ⟨?_, trivial⟩
    refine OneH.store pZ (t := 22) (b := aD.heap.size) (off := 1) (v := .slice aW ((xp ++ ([gI g.pr (i)])).length) fP) #[true, true, true, true, true, true, true, true, true, true, true] (by kernel_rfl) (by kernel_rfl) bG (by kernel_rfl) (fun aAw dS fB jP qA => ?_)
    clear pZ
    replace jP : Bx dS (aD.heap.size) [.slice aK ((xo ++ ([gI g.ow (i)])).length) bB, .slice aW ((xp ++ ([gI g.pr (i)])).length) fP, .slice aB xm.length aJ] 25 := jP
    have qB := lP.gr' fB (by rw [gQ]; exact ⟨(by simp only [add_block]; omega), (by simp only [add_block]; omega), trivial⟩); have := fB.size; replace aG := aG.gr fB (fun k h => by injection h; omega); replace aC := aC.gb fB (by omega); replace aF := aF.gb fB (by omega); replace aH := aH.gb fB (by omega); replace aP := aP.gr fB (fun k hk e => by have := Sx_base hk; injection e; omega)
    replace hX := hX.gr fB (fun k hk e => by have := Sx_base hk; injection e; omega); replace aI := aI.gr fB (fun k hk e => by have := Sx_base hk; injection e; omega); clear bG fB
    refine ⟨qB, ?_⟩
    refine AtH.done (by kernel_rfl) ?_
    clear qB
    refine t_n ?_
    refine wp_seq ?_
    refine At.start ?_
    refine At.rd qA 1 [[]] [(9, .slice none 0 0)] [] (by kernel_rfl) trivial (fun aAx qC => ?_)
    clear qA
    refine At.done rfl ?_
    refine t_n ?_
    refine wp_seq ?_
    refine wp_seq ?_
    have hrl_ := row_len hG (i := i) (by omega) (by omega)
    refine At.start ?_
    obtain ⟨jQ, lQ, lR, wX, _, _, wY, aAy, qD⟩ := RdII.get aC.mv (i) (by omega) (by omega)
    have aAz := qD.len
    refine At.rd qC 8 [[], [.ld (.slice Ag2 g.mv.length cg2)], [], [.ad jQ], [.ld (.slice lQ ((gL g.mv (i)).length) lR)], [], [.as_ (.int .i64 ((((gL g.mv (i)).length : Nat) : Int) - 1))], []] [(10, .int .i64 ((((gL g.mv (i)).length : Nat) : Int) - 1)), (67, .int .i64 ((((gL g.mv (i)).length : Nat) : Int) - 1)), (66, .int .i64 ((((gL g.mv (i)).length : Nat) : Int))), (65, .slice lQ ((gL g.mv (i)).length) lR), (64, .pointer (some (jQ.add ((i : Int).toNat * 1)))), (63, .int .i64 (i)), (62, .slice Ag2 g.mv.length cg2), (61, .pointer (some ⟨w.heap.size, 2, none⟩))] [(dS.cell? ⟨w.heap.size, 2, none⟩ = some (.slice Ag2 g.mv.length cg2)), (Ag2 = some jQ), (0 ≤ (i : Int)), ((i : Int) < (g.mv.length : Nat)), (dS.cell? (jQ.add ((i : Int).toNat * 1)) = some (.slice lQ ((gL g.mv (i)).length) lR)), ((.int .i64 (IntKind.i64.wrap ((((gL g.mv (i)).length : Nat) : Int) - 1)) : Value) = .int .i64 ((((gL g.mv (i)).length : Nat) : Int) - 1))] (by kernel_rfl) ⟨(aH.cell (i := 2) rfl), wX, (by omega), (by omega), wY, (w64 (by omega) (by omega)), trivial⟩ (fun aAA qE => ?_)
    clear qC
    refine At.done rfl ?_
    refine t_n ?_
    clear qD
    have qF := qE.sub (r := [(10, .int .i64 ((((gL g.mv (i)).length : Nat) : Int) - 1)), (9, .slice none 0 0), (8, .int .i64 (i)), (7, .pointer (some ⟨aD.heap.size, 0, none⟩)), (6, .int .i64 (((g.ow.length : Nat) : Int))), (2, .bool false), (1, .pointer (some ⟨w.heap.size, 0, none⟩))]) ⟨rfl, rfl, rfl, rfl, rfl, rfl, rfl, trivial⟩
    clear qE
    refine wp_block ?_
    have qG : OwnR dS (Sx (dS.heap.size) [obk (aK), obk (aW), obk (aB)]) none 0 3 ([] : List Int) := OwnR.nil
    replace aP : OwnR dS (Sx (aA.heap.size) [obk none, some (bN.heap.size), obk (aB), obk (aW)]) aK bB 3 (xo ++ ([gI g.ow (i)]) : List Int) := aP.imp (fun g _ hs => ⟨by simp [obk], hs⟩)
    replace hX : OwnR dS (Sx (aA.heap.size) [obk none, obk (aB), obk (aK)]) aW fP 3 (xp ++ ([gI g.pr (i)]) : List Int) := hX.imp (fun g _ hs => ⟨by simp [obk], hs⟩)
    replace aI : OwnLL dS (aA.heap.size) [obk none, some (bN.heap.size), some (bA.heap.size), obk (aK), obk (aW)] aB aJ 22 3 (xm : List (List Int)) := aI.imp (fun g _ hs => ⟨by simp [obk], hs⟩)
    have qH := qF.as 9 (.slice none 0 0) (.slice none (([] : List Int).length) 0) rfl (slice_len (by first | rfl | omega | (simp; done) | (simp; omega))); clear qF
    have qI := qH.sub (r := [(9, .slice none (([] : List Int).length) 0), (10, .int .i64 ((((gL g.mv (i)).length : Nat) : Int) - 1)), (8, .int .i64 (i)), (7, .pointer (some ⟨aD.heap.size, 0, none⟩)), (6, .int .i64 (((g.ow.length : Nat) : Int))), (2, .bool false), (1, .pointer (some ⟨w.heap.size, 0, none⟩))]) ⟨rfl, rfl, rfl, rfl, rfl, rfl, rfl, trivial⟩
    refine loop_g (fun (m_ : Nat) a_ w_ => ∃ (q : Int) (bk : List Int) (cG : Option Addr) (gC : Nat), m_ = (q + 1).toNat ∧ (Frm 125 a_ [(9, .slice cG bk.length gC), (10, .int .i64 (q)), (8, .int .i64 (i)), (7, .pointer (some ⟨aD.heap.size, 0, none⟩)), (6, .int .i64 (((g.ow.length : Nat) : Int))), (2, .bool false), (1, .pointer (some ⟨w.heap.size, 0, none⟩))]) ∧ (Ext w w_) ∧ (RdG w_ 0 w.heap.size Ag0 Ag1 Ag2 cg0 cg1 cg2 g) ∧ (RdT w_ 0 w.heap.size) ∧ (Bx w_ (w.heap.size) [.slice Ag0 g.ow.length cg0, .slice Ag1 g.pr.length cg1, .slice Ag2 g.mv.length cg2] 25) ∧ (Bx w_ (aD.heap.size) [.slice aK ((xo ++ ([gI g.ow (i)])).length) bB, .slice aW ((xp ++ ([gI g.pr (i)])).length) fP, .slice aB xm.length aJ] 25) ∧ (OwnR w_ (Sx (aA.heap.size) [obk (cG), obk (aB), obk (aW)]) aK bB 3 (xo ++ ([gI g.ow (i)]) : List Int)) ∧ (OwnR w_ (Sx (aA.heap.size) [obk (cG), obk (aB), obk (aK)]) aW fP 3 (xp ++ ([gI g.pr (i)]) : List Int)) ∧ (OwnLL w_ (aA.heap.size) [obk (cG), obk (aK), obk (aW)] aB aJ 22 3 (xm : List (List Int))) ∧ (OwnR w_ (Sx (dS.heap.size) [obk (aK), obk (aW), obk (aB)]) cG gC 3 (bk : List Int)) ∧ (-1 ≤ q) ∧ (q ≤ (((gL g.mv i).length : Nat) : Int) - 1) ∧ (bk = limL (fun j => ((g.ow.length : Nat) : Int) - 1 - gI (gL g.mv i) ((((gL g.mv i).length : Nat) : Int) - 1 - j)) ((((gL g.mv i).length : Nat) : Int) - 1 - q)) ∧ (aA.heap.size ≤ w_.heap.size) ∧ (dS.heap.size ≤ w_.heap.size)) _ ⟨(((gL g.mv i).length : Nat) : Int) - 1, ([] : List Int), none, 0, rfl, qI, aG, aC, aF, aH, jP, (aP.imp (fun g _ hs => ⟨hs.1, hs.2.2.1, hs.2.2.2.1, hs.2.2.2.2⟩)), hX, (aI.imp (fun g _ hs => ⟨hs.1, hs.2.2.2.1, hs.2.2.2.2.1, hs.2.2.2.2.2⟩)), qG, (by omega), (Int.le_refl _), (by rw [show (((gL g.mv i).length : Nat) : Int) - 1 - ((((gL g.mv i).length : Nat) : Int) - 1) = 0 by omega]; rfl), (by omega), (by omega)⟩ ?_
    clear qI qH; clear aC; clear aF; clear aH; clear jP; clear aP; clear hX; clear aI; clear qG; clear aG
    intro m_ aAB bW ⟨q, bk, cG, gC, hm277, qJ, dE, dF, dT, cH, dG, cI, cJ, jR, cK, i287, i288, hbk, i289, i290⟩
    have := dE.size; have := cH.lt; have := dG.lt
    refine wp_seq ?_
    refine wp_seq ?_
    refine At.start ?_
    refine At.rd qJ 2 [[], []] [(69, .bool (decide ((q : Int) ≥ 0))), (68, .int .i64 (q))] [] (by kernel_rfl) trivial (fun aAC iP => ?_)
    clear qJ
    refine At.done rfl ?_
    refine t_n ?_
    refine cond_S iP (t := decide ((q : Int) ≥ 0)) rfl (fun lS => ?_) (fun lS => ?_)
    ·have aAD := of_decide_eq_true lS
     refine wp_skip ?_
     refine t_n ?_
     refine wp_seq ?_
     refine wp_block ?_
     have hmk := hG.mv i (by omega) (by omega) q (by omega) (by omega); have hbl_ := congrArg List.length hbk
     rw [lim_len] at hbl_
     refine At.start ?_
     obtain ⟨jS, jT, lT, wZ, _, _, xA, aAE, gR⟩ := RdII.get dF.mv (i) (by omega) (by omega)
     have aAF := gR.len
     obtain ⟨jU, xB, _, _, xC⟩ := RdI.get gR (q) (by omega) (by omega)
     refine At.rd iP 12 [[], [], [.as_ (.int .i64 (((g.ow.length : Nat) : Int) - 1))], [], [.ld (.slice Ag2 g.mv.length cg2)], [], [.ad jS], [.ld (.slice jT ((gL g.mv (i)).length) lT)], [], [.ad jU], [.ld (.int .i64 (gI (gL g.mv (i)) (q)))], [.as_ (.int .i64 ((((g.ow.length : Nat) : Int) - 1) - (gI (gL g.mv (i)) (q))))]] [(83, .int .i64 ((((g.ow.length : Nat) : Int) - 1) - (gI (gL g.mv (i)) (q)))), (82, .int .i64 (gI (gL g.mv (i)) (q))), (81, .pointer (some (jU.add ((q : Int).toNat * 1)))), (80, .int .i64 (q)), (79, .slice jT ((gL g.mv (i)).length) lT), (78, .pointer (some (jS.add ((i : Int).toNat * 1)))), (77, .int .i64 (i)), (76, .slice Ag2 g.mv.length cg2), (75, .pointer (some ⟨w.heap.size, 2, none⟩)), (74, .int .i64 (((g.ow.length : Nat) : Int) - 1)), (73, .int .i64 (((g.ow.length : Nat) : Int))), (72, .slice cG bk.length gC)] [((.int .i64 (IntKind.i64.wrap (((g.ow.length : Nat) : Int) - 1)) : Value) = .int .i64 (((g.ow.length : Nat) : Int) - 1)), (bW.cell? ⟨w.heap.size, 2, none⟩ = some (.slice Ag2 g.mv.length cg2)), (Ag2 = some jS), (0 ≤ (i : Int)), ((i : Int) < (g.mv.length : Nat)), (bW.cell? (jS.add ((i : Int).toNat * 1)) = some (.slice jT ((gL g.mv (i)).length) lT)), (jT = some jU), (0 ≤ (q : Int)), ((q : Int) < ((gL g.mv (i)).length : Nat)), (bW.cell? (jU.add ((q : Int).toNat * 1)) = some (.int .i64 (gI (gL g.mv (i)) (q)))), ((.int .i64 (IntKind.i64.wrap ((((g.ow.length : Nat) : Int) - 1) - (gI (gL g.mv (i)) (q)))) : Value) = .int .i64 ((((g.ow.length : Nat) : Int) - 1) - (gI (gL g.mv (i)) (q))))] (by kernel_rfl) ⟨(w64 (by omega) (by omega)), (cH.cell (i := 2) rfl), wZ, (by omega), (by omega), xA, xB, (by omega), (by omega), xC, (w64 (by omega) (by omega)), trivial⟩ (fun aAG qK => ?_)
     clear iP
     refine At.seq qK 1 [[]] [(84, .slice (some ⟨bW.heap.size, 0, none⟩) 1 1)] (bW.alloc (.cells #[.int .i64 ((((g.ow.length : Nat) : Int) - 1) - (gI (gL g.mv (i)) (q)))] 3 (0, 0))) [] (by kernel_rfl) trivial (fun aAH qL lU qM => ?_)
     clear qK; have dU := gr_alloc lU; have := dU.size; replace dE := dE.gn dU; replace dF := dF.gn dU; replace dT := dT.gn dU; replace cH := cH.gn dU; replace dG := dG.gn dU; replace cI := cI.grN dU; replace cJ := cJ.grN dU; have jV := jR.grN dU; clear jR; replace cK := cK.grN dU; replace gR := gR.gn dU
     have lV : Bx qL (bW.heap.size) [.int .i64 ((((g.ow.length : Nat) : Int) - 1) - (gI (gL g.mv (i)) (q)))] 3 := Bx.new lU; have := lV.lt; clear dU lU
     have xD : (bk ++ ([(((g.ow.length : Nat) : Int) - 1) - (gI (gL g.mv (i)) (q))])).length = (bk).length + ([(((g.ow.length : Nat) : Int) - 1) - (gI (gL g.mv (i)) (q))] : List Int).length := List.length_append
     simp only [List.length_cons, List.length_nil] at xD
     refine At.act qM (appendR (α := Int) (t := 22) (d := 85) (n := bk.length) (m := 1) (cc := 1) (xs := bk) (ys := [(((g.ow.length : Nat) : Int) - 1) - (gI (gL g.mv (i)) (q))]) (bytes := 8) (by first | rfl | omega | (simp; done) | (simp; omega)) (by first | rfl | omega | (simp; done) | (simp; omega)) (by kernel_rfl) rfl (by kernel_rfl) cK (Bx.srcR (l := ([(((g.ow.length : Nat) : Int) - 1) - (gI (gL g.mv (i)) (q))] : List Int)) lV rfl) (by simp only [List.length_cons, List.length_nil]; omega) (by simp only [List.length_cons, List.length_nil]; omega)) ?_
     rintro d_ v_ lW ⟨rfl, gD, iQ, gS⟩
     obtain rfl := gS.val
     have eJ := gS.gr
     refine ⟨_, rfl, fun aAI qN => ?_⟩
     clear qM; clear lV
     have xE := gS.own (Sx (dS.heap.size) [obk (aK), obk (aW), obk (aB)]) (fun g _ hs => ⟨hs.2.1, hs.2.2.1, hs.2.2.2.1, hs.2.2.2.2⟩) ⟨cI.ne_new, cJ.ne_new, jV.ne_new, (show dS.heap.size ≤ qL.heap.size by omega)⟩
     have := eJ.size; replace dE := dE.gr eJ (fun k hk => by have := cK.ge k hk; omega); replace dF := dF.gr eJ (fun k hk => by have := cK.ge k hk; omega); replace dT := dT.gr eJ (fun k hk => by have := cK.ge k hk; omega); replace cH := cH.gr eJ (fun e => by have := cK.ge _ e; omega); replace dG := dG.gr eJ (fun e => by have := cK.ge _ e; omega)
     replace cI : OwnR lW (Sx (aA.heap.size) [some (bW.heap.size), obk (gD), obk (aB), obk (aW)]) aK bB 3 (xo ++ ([gI g.ow (i)]) : List Int) := cI.grA eJ (fun k hk => hk.2.1) (fun k hk hs => ⟨hs.1, own_repl gS.at_ hs.2.1 hk, hs.2.2.1, hs.2.2.2.1, hs.2.2.2.2⟩)
     replace cJ : OwnR lW (Sx (aA.heap.size) [some (bW.heap.size), obk (gD), obk (aB), obk (aK)]) aW fP 3 (xp ++ ([gI g.pr (i)]) : List Int) := cJ.grA eJ (fun k hk => hk.2.1) (fun k hk hs => ⟨hs.1, own_repl gS.at_ hs.2.1 hk, hs.2.2.1, hs.2.2.2.1, hs.2.2.2.2⟩)
     replace jV : OwnLL lW (aA.heap.size) [some (bW.heap.size), obk (gD), obk (aK), obk (aW)] aB aJ 22 3 (xm : List (List Int)) := jV.grA eJ (fun k hk => hk.2.1) (fun k hk hs => ⟨hs.1, own_repl gS.at_ hs.2.1 hk, hs.2.2.1, hs.2.2.2.1, hs.2.2.2.2⟩)
     replace gR := gR.gr eJ (fun k hk => by have := cK.ge k hk; omega); clear cK eJ gS
     refine At.rd qN 1 [[]] [(9, .slice gD ((bk ++ ([(((g.ow.length : Nat) : Int) - 1) - (gI (gL g.mv (i)) (q))])).length) iQ)] [] (by kernel_rfl) trivial (fun aAJ qO => ?_)
     clear qN
     refine At.done rfl ?_
     refine b_n ?_
     refine t_n ?_
     clear gR
     refine At.start ?_
     refine At.rd qO 3 [[], [.as_ (.int .i64 (q - 1))], []] [(10, .int .i64 (q - 1)), (71, .int .i64 (q - 1)), (70, .int .i64 (q))] [((.int .i64 (IntKind.i64.wrap (q - 1)) : Value) = .int .i64 (q - 1))] (by kernel_rfl) ⟨(w64 (by omega) (by omega)), trivial⟩ (fun aAK qP => ?_)
     clear qO
     refine At.done rfl ?_
     refine t_n ?_
     have xF := qP.as 9 (.slice gD ((bk ++ ([(((g.ow.length : Nat) : Int) - 1) - (gI (gL g.mv (i)) (q))])).length) iQ) (.slice gD ((bk ++ ([(((g.ow.length : Nat) : Int) - 1) - (gI (gL g.mv (i)) (q))]) : List Int).length) iQ) rfl (slice_len (by first | rfl | omega | (simp; done) | (simp; omega)))
     clear qP
     have xG := xF.sub (r := [(9, .slice gD ((bk ++ ([(((g.ow.length : Nat) : Int) - 1) - (gI (gL g.mv (i)) (q))]) : List Int).length) iQ), (10, .int .i64 (q - 1)), (8, .int .i64 (i)), (7, .pointer (some ⟨aD.heap.size, 0, none⟩)), (6, .int .i64 (((g.ow.length : Nat) : Int))), (2, .bool false), (1, .pointer (some ⟨w.heap.size, 0, none⟩))]) ⟨rfl, rfl, rfl, rfl, rfl, rfl, rfl, trivial⟩
     exact ⟨_, (by omega), (q - 1), (bk ++ ([(((g.ow.length : Nat) : Int) - 1) - (gI (gL g.mv (i)) (q))]) : List Int), gD, iQ, rfl, xG, dE, dF, dT, cH, dG, (cI.imp (fun g _ hs => ⟨hs.2.1, hs.2.2.1, hs.2.2.2.1, hs.2.2.2.2⟩)), (cJ.imp (fun g _ hs => ⟨hs.2.1, hs.2.2.1, hs.2.2.2.1, hs.2.2.2.2⟩)), (jV.imp (fun g _ hs => ⟨hs.2.1, hs.2.2.1, hs.2.2.2.1, hs.2.2.2.2⟩)), xE, (by omega), (by omega), (lim_down hbk (by omega) (by show _ = ((g.ow.length : Nat) : Int) - 1 - gI _ _; rw [show (((gL g.mv i).length : Nat) : Int) - 1 - ((((gL g.mv i).length : Nat) : Int) - 1 - q) = q by omega])), (by omega), (by omega)⟩
    have aAL := of_decide_eq_false lS
    refine wp_exit ?_
    refine t_e ?_
    refine t_e ?_
    refine b_e ?_
    refine t_n ?_
    have hxl2_ := congrArg List.length hxm
    rw [lim_len] at hxl2_
    have hbe : bk = movR g i := by rw [hbk, movR]; congr 1; omega
    have hbl_ := congrArg List.length hbe
    rw [movR_len] at hbl_
    refine At.start ?_
    refine At.rd iP 3 [[], [.ld (.slice aB xm.length aJ)], []] [(88, .slice cG bk.length gC), (87, .slice aB xm.length aJ), (86, .pointer (some ⟨aD.heap.size, 2, none⟩))] [(bW.cell? ⟨aD.heap.size, 2, none⟩ = some (.slice aB xm.length aJ))] (by kernel_rfl) ⟨(dG.cell (i := 2) rfl), trivial⟩ (fun aAM qQ => ?_)
    clear iP
    refine At.seq qQ 1 [[]] [(89, .slice (some ⟨bW.heap.size, 0, none⟩) 1 1)] (bW.alloc (.cells #[.slice cG bk.length gC] 22 (0, 0))) [] (by kernel_rfl) trivial (fun aAN jW lX qR => ?_)
    clear qQ; have eK := gr_alloc lX; have := eK.size; replace dE := dE.gn eK; replace dF := dF.gn eK; replace dT := dT.gn eK; replace cH := cH.gn eK; replace dG := dG.gn eK; replace cI := cI.grN eK; replace cJ := cJ.grN eK; have gT := jR.grN eK; clear jR; replace cK := cK.grN eK; have lY : Bx jW (bW.heap.size) [.slice cG bk.length gC] 22 := Bx.new lX; have := lY.lt; clear eK lX
    have qS : OwnR jW (Sx (aA.heap.size) [obk (aK), obk (aW)]) cG gC 3 (bk : List Int) := cK.imp (fun g _ hs => ⟨hs.2.1, hs.2.2.1, (by have := Sx_base hs; show aA.heap.size ≤ g; omega)⟩)
    have qT : OwnLL jW (aA.heap.size) [obk (cG), obk (aK), obk (aW)] aB aJ 22 3 (xm : List (List Int)) := (gT.imp (fun g _ hs => ⟨hs.2.1, hs.2.2.1, hs.2.2.2.1, hs.2.2.2.2⟩))
    have aAO : (xm ++ [bk]).length = (xm).length + 1 := by simp
    refine At.act qR (appendLL (t := 23) (d := 90) (n := xm.length) (m := 1) (cc := 1) (ls := xm) (xs := bk) (bytes := 24) (by first | rfl | omega | (simp; done) | (simp; omega)) (by kernel_rfl) (by kernel_rfl) (lY.as (by first | rfl | (simp; done))) qT qS ⟨cI.ne_new, cJ.ne_new, (show aA.heap.size ≤ jW.heap.size by omega)⟩ (by omega) (by omega)) ?_
    rintro d_ v_ qU ⟨rfl, iR, lZ, rfl, fQ, mA, mB⟩
    refine ⟨_, rfl, fun aAP qV => ?_⟩
    clear qR; clear lY cK qS qT; have := fQ.size; replace dE := dE.gr fQ (fun k hk => by have := gT.ge k hk; omega); replace dF := dF.gr fQ (fun k hk => by have := gT.ge k hk; omega); replace dT := dT.gr fQ (fun k hk => by have := gT.ge k hk; omega); replace cH := cH.gr fQ (fun e => by have := gT.ge _ e; omega); replace dG := dG.gr fQ (fun e => by have := gT.ge _ e; omega)
    replace cI : OwnR qU (Sx (aA.heap.size) [some (bW.heap.size), obk (cG), obk (iR), obk (aW)]) aK bB 3 (xo ++ ([gI g.ow (i)]) : List Int) := cI.grA fQ (fun k hk => hk.2.2.1) (fun k hk hs => ⟨hs.1, hs.2.1, own_repl mA hs.2.2.1 hk, hs.2.2.2.1, hs.2.2.2.2⟩)
    replace cJ : OwnR qU (Sx (aA.heap.size) [some (bW.heap.size), obk (cG), obk (iR), obk (aK)]) aW fP 3 (xp ++ ([gI g.pr (i)]) : List Int) := cJ.grA fQ (fun k hk => hk.2.2.1) (fun k hk hs => ⟨hs.1, hs.2.1, own_repl mA hs.2.2.1 hk, hs.2.2.2.1, hs.2.2.2.2⟩)
    clear gT fQ mA
    refine At.rd qV 1 [[]] [(91, .pointer (some ⟨aD.heap.size, 2, none⟩))] [] (by kernel_rfl) trivial (fun aAQ qW => ?_)
    clear qV
    refine At.store qW (t := 23) (b := aD.heap.size) (off := 2) (v := .slice iR ((xm ++ [bk]).length) lZ) (by kernel_rfl) dG (by kernel_rfl) (fun aAR xH fR mC qX => ?_)
    clear qW
    replace mC : Bx xH (aD.heap.size) [.slice aK ((xo ++ ([gI g.ow (i)])).length) bB, .slice aW ((xp ++ ([gI g.pr (i)])).length) fP, .slice iR ((xm ++ [bk]).length) lZ] 25 := mC
    have := fR.size; replace dE := dE.gr fR (fun k h => by injection h; omega); replace dF := dF.gb fR (by omega); replace dT := dT.gb fR (by omega); replace cH := cH.gb fR (by omega); replace cI := cI.gr fR (fun k hk e => by have := Sx_base hk; injection e; omega); replace cJ := cJ.gr fR (fun k hk e => by have := Sx_base hk; injection e; omega)
    replace mB := mB.gr fR (fun k hk e => by have := Sx_base hk; injection e; omega); clear dG fR
    refine At.done rfl ?_
    refine b_n ?_
    refine t_n ?_
    refine At.start ?_
    refine At.rd qX 3 [[], [.as_ (.int .i64 (i - 1))], []] [(8, .int .i64 (i - 1)), (40, .int .i64 (i - 1)), (39, .int .i64 (i))] [((.int .i64 (IntKind.i64.wrap (i - 1)) : Value) = .int .i64 (i - 1))] (by kernel_rfl) ⟨(w64 (by omega) (by omega)), trivial⟩ (fun aAS xI => ?_)
    clear qX
    refine At.done rfl ?_
    refine t_n ?_
    have xJ := xI.sub (r := [(8, .int .i64 (i - 1)), (7, .pointer (some ⟨aD.heap.size, 0, none⟩)), (6, .int .i64 (((g.ow.length : Nat) : Int))), (2, .bool false), (1, .pointer (some ⟨w.heap.size, 0, none⟩))]) ⟨rfl, rfl, rfl, rfl, rfl, trivial⟩
    exact ⟨_, (by omega), (i - 1), (xo ++ ([gI g.ow (i)]) : List Int), aK, bB, (xp ++ ([gI g.pr (i)]) : List Int), aW, fP, (xm ++ [bk] : List (List Int)), iR, lZ, rfl, xJ, dE, dF, dT, cH, mC, (cI.imp (fun g _ hs => ⟨hs.2.2.1, hs.2.2.2.1, hs.2.2.2.2⟩)), (cJ.imp (fun g _ hs => ⟨hs.2.2.1, hs.2.2.2.1, hs.2.2.2.2⟩)), mB, (by omega), (by omega), (lim_down hxo (by omega) (by show _ = gI g.ow _; congr 1; omega)), (lim_down hxp (by omega) (by show _ = gI g.pr _; congr 1; omega)), (lim_down hxm (by omega) (by rw [hbe]; show _ = movR g _; congr 1; omega)), (by omega)⟩
   refine OneH.seq jO [[]] [(58, .slice (some ⟨bN.heap.size, 0, none⟩) 1 1)] (bN.alloc (.cells #[.int .i64 (gI g.pr (i))] 3 (0, 0))) [] #[true, false, true, true, true, true, true, true, false, false, false] (by kernel_rfl) (by kernel_rfl) (by kernel_rfl) trivial (fun aAT iS mD qY => ?_)
   clear jO; have eL := gr_alloc mD; have mE := jN.gr eL
   refine ⟨mE, ?_⟩
   have := eL.size; replace aG := aG.gn eL; replace aC := aC.gn eL; replace aF := aF.gn eL; replace aH := aH.gn eL; replace bG := bG.gn eL; replace aP := aP.grN eL; replace aE := aE.grN eL; replace aI := aI.grN eL; have mF : Bx iS (bN.heap.size) [.int .i64 (gI g.pr (i))] 3 := Bx.new mD; have := mF.lt; clear eL mD
   refine AtH.all [1] 3 (by kernel_rfl) (by simp) ⟨?_, trivial⟩
   refine OneH.seq qY [[.ld (.slice aO xp.length aV)]] [(52, .slice aO xp.length aV)] iS [(iS.cell? ⟨aD.heap.size, 1, none⟩ = some (.slice aO xp.length aV))] #[true, true, true, true, true, true, true, true, false, false, false] (by kernel_rfl) (by kernel_rfl) (by kernel_rfl) ⟨(bG.cell (i := 1) rfl), trivial⟩ (fun aAU xK xL qZ => ?_)
   obtain rfl : iS = xK := xL.symm
   clear qY
   refine ⟨mE, ?_⟩
   refine AtH.all [8] 2 (by kernel_rfl) (by simp) ⟨?_, trivial⟩
   have xM : (xp ++ ([gI g.pr (i)])).length = (xp).length + ([gI g.pr (i)] : List Int).length := List.length_append
   simp only [List.length_cons, List.length_nil] at xM
   refine OneH.act qZ #[true, true, true, true, true, true, true, true, true, false, false] (by kernel_rfl) (appendR (α := Int) (t := 22) (d := 59) (n := xp.length) (m := 1) (cc := 1) (xs := xp) (ys := [gI g.pr (i)]) (bytes := 8) (by first | rfl | omega | (simp; done) | (simp; omega)) (by first | rfl | omega | (simp; done) | (simp; omega)) (by kernel_rfl) rfl (by kernel_rfl) aE (Bx.srcR (l := ([gI g.pr (i)] : List Int)) mF rfl) (by simp only [List.length_cons, List.length_nil]; omega) (by simp only [List.length_cons, List.length_nil]; omega)) ?_
   rintro d_ v_ rA ⟨rfl, aX, fS, hY⟩
   obtain rfl := hY.val
   have fC := hY.gr
   have mG := mE.grO fC (by rw [gQ]; exact ⟨(fun e => by have := aE.ge _ e; simp only [add_block] at this; omega), (fun e => by have := aE.ge _ e; simp only [add_block] at this; omega), trivial⟩)
   refine ⟨_, rfl, fun aAV rB => ⟨mG, ?_⟩⟩
   clear qZ; clear mF
   have hZ := hY.own (Sx (aA.heap.size) [obk (aB), obk (aK)]) (fun g _ hs => ⟨hs.2.2.1, hs.2.2.2.1, hs.2.2.2.2⟩) ⟨aI.ne_new, aP.ne_new, (show aA.heap.size ≤ iS.heap.size by omega)⟩
   have := fC.size; replace aG := aG.gr fC (fun k hk => by have := aE.ge k hk; omega); replace aC := aC.gr fC (fun k hk => by have := aE.ge k hk; omega); replace aF := aF.gr fC (fun k hk => by have := aE.ge k hk; omega); replace aH := aH.gr fC (fun e => by have := aE.ge _ e; omega); replace bG := bG.gr fC (fun e => by have := aE.ge _ e; omega)
   replace aP : OwnR rA (Sx (aA.heap.size) [some (bN.heap.size), obk (aB), obk (aX)]) aK bB 3 (xo ++ ([gI g.ow (i)]) : List Int) := aP.grA fC (fun k hk => hk.2.2.1) (fun k hk hs => ⟨hs.1, hs.2.1, own_repl hY.at_ hs.2.2.1 hk, hs.2.2.2⟩)
   replace aI : OwnLL rA (aA.heap.size) [some (bN.heap.size), some (bA.heap.size), obk (aK), obk (aX)] aB aJ 22 3 (xm : List (List Int)) := aI.grA fC (fun k hk => hk.2.2.2.1) (fun k hk hs => ⟨hs.1, hs.2.1, hs.2.2.1, own_repl hY.at_ hs.2.2.2.1 hk, hs.2.2.2.2⟩)
   clear aE fC hY
   refine AtH.rd (by kernel_rfl) (fun d v c a w h => by cases d <;> exact h) mG [9] [[]] [(60, .pointer (some ⟨aD.heap.size, 1, none⟩))] #[true, true, true, true, true, true, true, true, true, true, false] [] 1 rB (by kernel_rfl) trivial (fun aAW rC => ?_)
   clear rB
   refine AtH.all [10] 0 (by kernel_rfl) (by simp) ⟨?_, trivial⟩
   refine OneH.store rC (t := 22) (b := aD.heap.size) (off := 1) (v := .slice aX ((xp ++ ([gI g.pr (i)])).length) fS) #[true, true, true, true, true, true, true, true, true, true, true] (by kernel_rfl) (by kernel_rfl) bG (by kernel_rfl) (fun aAX dV fD jX rD => ?_)
   clear rC
   replace jX : Bx dV (aD.heap.size) [.slice aK ((xo ++ ([gI g.ow (i)])).length) bB, .slice aX ((xp ++ ([gI g.pr (i)])).length) fS, .slice aB xm.length aJ] 25 := jX
   have rE := mG.gr' fD (by rw [gQ]; exact ⟨(by simp only [add_block]; omega), (by simp only [add_block]; omega), trivial⟩); have := fD.size; replace aG := aG.gr fD (fun k h => by injection h; omega); replace aC := aC.gb fD (by omega); replace aF := aF.gb fD (by omega); replace aH := aH.gb fD (by omega); replace aP := aP.gr fD (fun k hk e => by have := Sx_base hk; injection e; omega)
   replace hZ := hZ.gr fD (fun k hk e => by have := Sx_base hk; injection e; omega); replace aI := aI.gr fD (fun k hk e => by have := Sx_base hk; injection e; omega); clear bG fD
   refine ⟨rE, ?_⟩
   refine AtH.done (by kernel_rfl) ?_
   clear rE
   refine t_n ?_
   refine wp_seq ?_
   refine At.start ?_
   refine At.rd rD 1 [[]] [(9, .slice none 0 0)] [] (by kernel_rfl) trivial (fun aAY rF => ?_)
   clear rD
   refine At.done rfl ?_
   refine t_n ?_
   refine wp_seq ?_
   refine wp_seq ?_
   have hrl_ := row_len hG (i := i) (by omega) (by omega)
   refine At.start ?_
   obtain ⟨jY, mH, mI, xN, _, _, xO, aAZ, rG⟩ := RdII.get aC.mv (i) (by omega) (by omega)
   have aBa := rG.len
   refine At.rd rF 8 [[], [.ld (.slice Ag2 g.mv.length cg2)], [], [.ad jY], [.ld (.slice mH ((gL g.mv (i)).length) mI)], [], [.as_ (.int .i64 ((((gL g.mv (i)).length : Nat) : Int) - 1))], []] [(10, .int .i64 ((((gL g.mv (i)).length : Nat) : Int) - 1)), (67, .int .i64 ((((gL g.mv (i)).length : Nat) : Int) - 1)), (66, .int .i64 ((((gL g.mv (i)).length : Nat) : Int))), (65, .slice mH ((gL g.mv (i)).length) mI), (64, .pointer (some (jY.add ((i : Int).toNat * 1)))), (63, .int .i64 (i)), (62, .slice Ag2 g.mv.length cg2), (61, .pointer (some ⟨w.heap.size, 2, none⟩))] [(dV.cell? ⟨w.heap.size, 2, none⟩ = some (.slice Ag2 g.mv.length cg2)), (Ag2 = some jY), (0 ≤ (i : Int)), ((i : Int) < (g.mv.length : Nat)), (dV.cell? (jY.add ((i : Int).toNat * 1)) = some (.slice mH ((gL g.mv (i)).length) mI)), ((.int .i64 (IntKind.i64.wrap ((((gL g.mv (i)).length : Nat) : Int) - 1)) : Value) = .int .i64 ((((gL g.mv (i)).length : Nat) : Int) - 1))] (by kernel_rfl) ⟨(aH.cell (i := 2) rfl), xN, (by omega), (by omega), xO, (w64 (by omega) (by omega)), trivial⟩ (fun aBb rH => ?_)
   clear rF
   refine At.done rfl ?_
   refine t_n ?_
   clear rG
   have rI := rH.sub (r := [(10, .int .i64 ((((gL g.mv (i)).length : Nat) : Int) - 1)), (9, .slice none 0 0), (8, .int .i64 (i)), (7, .pointer (some ⟨aD.heap.size, 0, none⟩)), (6, .int .i64 (((g.ow.length : Nat) : Int))), (2, .bool false), (1, .pointer (some ⟨w.heap.size, 0, none⟩))]) ⟨rfl, rfl, rfl, rfl, rfl, rfl, rfl, trivial⟩
   clear rH
   refine wp_block ?_
   have rJ : OwnR dV (Sx (dV.heap.size) [obk (aK), obk (aX), obk (aB)]) none 0 3 ([] : List Int) := OwnR.nil
   replace aP : OwnR dV (Sx (aA.heap.size) [obk none, some (bN.heap.size), obk (aB), obk (aX)]) aK bB 3 (xo ++ ([gI g.ow (i)]) : List Int) := aP.imp (fun g _ hs => ⟨by simp [obk], hs⟩)
   replace hZ : OwnR dV (Sx (aA.heap.size) [obk none, obk (aB), obk (aK)]) aX fS 3 (xp ++ ([gI g.pr (i)]) : List Int) := hZ.imp (fun g _ hs => ⟨by simp [obk], hs⟩)
   replace aI : OwnLL dV (aA.heap.size) [obk none, some (bN.heap.size), some (bA.heap.size), obk (aK), obk (aX)] aB aJ 22 3 (xm : List (List Int)) := aI.imp (fun g _ hs => ⟨by simp [obk], hs⟩)
   have rK := rI.as 9 (.slice none 0 0) (.slice none (([] : List Int).length) 0) rfl (slice_len (by first | rfl | omega | (simp; done) | (simp; omega))); clear rI
   have rL := rK.sub (r := [(9, .slice none (([] : List Int).length) 0), (10, .int .i64 ((((gL g.mv (i)).length : Nat) : Int) - 1)), (8, .int .i64 (i)), (7, .pointer (some ⟨aD.heap.size, 0, none⟩)), (6, .int .i64 (((g.ow.length : Nat) : Int))), (2, .bool false), (1, .pointer (some ⟨w.heap.size, 0, none⟩))]) ⟨rfl, rfl, rfl, rfl, rfl, rfl, rfl, trivial⟩
   refine loop_g (fun (m_ : Nat) a_ w_ => ∃ (q : Int) (bk : List Int) (cL : Option Addr) (gE : Nat), m_ = (q + 1).toNat ∧ (Frm 125 a_ [(9, .slice cL bk.length gE), (10, .int .i64 (q)), (8, .int .i64 (i)), (7, .pointer (some ⟨aD.heap.size, 0, none⟩)), (6, .int .i64 (((g.ow.length : Nat) : Int))), (2, .bool false), (1, .pointer (some ⟨w.heap.size, 0, none⟩))]) ∧ (Ext w w_) ∧ (RdG w_ 0 w.heap.size Ag0 Ag1 Ag2 cg0 cg1 cg2 g) ∧ (RdT w_ 0 w.heap.size) ∧ (Bx w_ (w.heap.size) [.slice Ag0 g.ow.length cg0, .slice Ag1 g.pr.length cg1, .slice Ag2 g.mv.length cg2] 25) ∧ (Bx w_ (aD.heap.size) [.slice aK ((xo ++ ([gI g.ow (i)])).length) bB, .slice aX ((xp ++ ([gI g.pr (i)])).length) fS, .slice aB xm.length aJ] 25) ∧ (OwnR w_ (Sx (aA.heap.size) [obk (cL), obk (aB), obk (aX)]) aK bB 3 (xo ++ ([gI g.ow (i)]) : List Int)) ∧ (OwnR w_ (Sx (aA.heap.size) [obk (cL), obk (aB), obk (aK)]) aX fS 3 (xp ++ ([gI g.pr (i)]) : List Int)) ∧ (OwnLL w_ (aA.heap.size) [obk (cL), obk (aK), obk (aX)] aB aJ 22 3 (xm : List (List Int))) ∧ (OwnR w_ (Sx (dV.heap.size) [obk (aK), obk (aX), obk (aB)]) cL gE 3 (bk : List Int)) ∧ (-1 ≤ q) ∧ (q ≤ (((gL g.mv i).length : Nat) : Int) - 1) ∧ (bk = limL (fun j => ((g.ow.length : Nat) : Int) - 1 - gI (gL g.mv i) ((((gL g.mv i).length : Nat) : Int) - 1 - j)) ((((gL g.mv i).length : Nat) : Int) - 1 - q)) ∧ (aA.heap.size ≤ w_.heap.size) ∧ (dV.heap.size ≤ w_.heap.size)) _ ⟨(((gL g.mv i).length : Nat) : Int) - 1, ([] : List Int), none, 0, rfl, rL, aG, aC, aF, aH, jX, (aP.imp (fun g _ hs => ⟨hs.1, hs.2.2.1, hs.2.2.2.1, hs.2.2.2.2⟩)), hZ, (aI.imp (fun g _ hs => ⟨hs.1, hs.2.2.2.1, hs.2.2.2.2.1, hs.2.2.2.2.2⟩)), rJ, (by omega), (Int.le_refl _), (by rw [show (((gL g.mv i).length : Nat) : Int) - 1 - ((((gL g.mv i).length : Nat) : Int) - 1) = 0 by omega]; rfl), (by omega), (by omega)⟩ ?_
   clear rL rK; clear aC; clear aF; clear aH; clear jX; clear aP; clear hZ; clear aI; clear rJ; clear aG
   intro m_ aBc bX ⟨q, bk, cL, gE, hm484, rM, dH, dI, dW, cM, dJ, cN, cO, jZ, cP, i494, i495, hbk, i496, i497⟩
   have := dH.size; have := cM.lt; have := dJ.lt
   refine wp_seq ?_
   refine wp_seq ?_
   refine At.start ?_
   refine At.rd rM 2 [[], []] [(69, .bool (decide ((q : Int) ≥ 0))), (68, .int .i64 (q))] [] (by kernel_rfl) trivial (fun aBd iT => ?_)
   clear rM
   refine At.done rfl ?_
   refine t_n ?_
   refine cond_S iT (t := decide ((q : Int) ≥ 0)) rfl (fun mJ => ?_) (fun mJ => ?_)
   ·have aBe := of_decide_eq_true mJ
    refine wp_skip ?_
    refine t_n ?_
    refine wp_seq ?_
    refine wp_block ?_
    have hmk := hG.mv i (by omega) (by omega) q (by omega) (by omega); have hbl_ := congrArg List.length hbk
    rw [lim_len] at hbl_
    refine At.start ?_
    obtain ⟨kA, kB, mK, xP, _, _, xQ, aBf, gU⟩ := RdII.get dI.mv (i) (by omega) (by omega)
    have aBg := gU.len
    obtain ⟨kC, xR, _, _, xS⟩ := RdI.get gU (q) (by omega) (by omega)
    refine At.rd iT 12 [[], [], [.as_ (.int .i64 (((g.ow.length : Nat) : Int) - 1))], [], [.ld (.slice Ag2 g.mv.length cg2)], [], [.ad kA], [.ld (.slice kB ((gL g.mv (i)).length) mK)], [], [.ad kC], [.ld (.int .i64 (gI (gL g.mv (i)) (q)))], [.as_ (.int .i64 ((((g.ow.length : Nat) : Int) - 1) - (gI (gL g.mv (i)) (q))))]] [(83, .int .i64 ((((g.ow.length : Nat) : Int) - 1) - (gI (gL g.mv (i)) (q)))), (82, .int .i64 (gI (gL g.mv (i)) (q))), (81, .pointer (some (kC.add ((q : Int).toNat * 1)))), (80, .int .i64 (q)), (79, .slice kB ((gL g.mv (i)).length) mK), (78, .pointer (some (kA.add ((i : Int).toNat * 1)))), (77, .int .i64 (i)), (76, .slice Ag2 g.mv.length cg2), (75, .pointer (some ⟨w.heap.size, 2, none⟩)), (74, .int .i64 (((g.ow.length : Nat) : Int) - 1)), (73, .int .i64 (((g.ow.length : Nat) : Int))), (72, .slice cL bk.length gE)] [((.int .i64 (IntKind.i64.wrap (((g.ow.length : Nat) : Int) - 1)) : Value) = .int .i64 (((g.ow.length : Nat) : Int) - 1)), (bX.cell? ⟨w.heap.size, 2, none⟩ = some (.slice Ag2 g.mv.length cg2)), (Ag2 = some kA), (0 ≤ (i : Int)), ((i : Int) < (g.mv.length : Nat)), (bX.cell? (kA.add ((i : Int).toNat * 1)) = some (.slice kB ((gL g.mv (i)).length) mK)), (kB = some kC), (0 ≤ (q : Int)), ((q : Int) < ((gL g.mv (i)).length : Nat)), (bX.cell? (kC.add ((q : Int).toNat * 1)) = some (.int .i64 (gI (gL g.mv (i)) (q)))), ((.int .i64 (IntKind.i64.wrap ((((g.ow.length : Nat) : Int) - 1) - (gI (gL g.mv (i)) (q)))) : Value) = .int .i64 ((((g.ow.length : Nat) : Int) - 1) - (gI (gL g.mv (i)) (q))))] (by kernel_rfl) ⟨(w64 (by omega) (by omega)), (cM.cell (i := 2) rfl), xP, (by omega), (by omega), xQ, xR, (by omega), (by omega), xS, (w64 (by omega) (by omega)), trivial⟩ (fun aBh rN => ?_)
    clear iT
    refine At.seq rN 1 [[]] [(84, .slice (some ⟨bX.heap.size, 0, none⟩) 1 1)] (bX.alloc (.cells #[.int .i64 ((((g.ow.length : Nat) : Int) - 1) - (gI (gL g.mv (i)) (q)))] 3 (0, 0))) [] (by kernel_rfl) trivial (fun aBi rO mL rP => ?_)
    clear rN; have dX := gr_alloc mL; have := dX.size; replace dH := dH.gn dX; replace dI := dI.gn dX; replace dW := dW.gn dX; replace cM := cM.gn dX; replace dJ := dJ.gn dX; replace cN := cN.grN dX; replace cO := cO.grN dX; have kD := jZ.grN dX; clear jZ; replace cP := cP.grN dX; replace gU := gU.gn dX
    have mM : Bx rO (bX.heap.size) [.int .i64 ((((g.ow.length : Nat) : Int) - 1) - (gI (gL g.mv (i)) (q)))] 3 := Bx.new mL; have := mM.lt; clear dX mL
    have xT : (bk ++ ([(((g.ow.length : Nat) : Int) - 1) - (gI (gL g.mv (i)) (q))])).length = (bk).length + ([(((g.ow.length : Nat) : Int) - 1) - (gI (gL g.mv (i)) (q))] : List Int).length := List.length_append
    simp only [List.length_cons, List.length_nil] at xT
    refine At.act rP (appendR (α := Int) (t := 22) (d := 85) (n := bk.length) (m := 1) (cc := 1) (xs := bk) (ys := [(((g.ow.length : Nat) : Int) - 1) - (gI (gL g.mv (i)) (q))]) (bytes := 8) (by first | rfl | omega | (simp; done) | (simp; omega)) (by first | rfl | omega | (simp; done) | (simp; omega)) (by kernel_rfl) rfl (by kernel_rfl) cP (Bx.srcR (l := ([(((g.ow.length : Nat) : Int) - 1) - (gI (gL g.mv (i)) (q))] : List Int)) mM rfl) (by simp only [List.length_cons, List.length_nil]; omega) (by simp only [List.length_cons, List.length_nil]; omega)) ?_
    rintro d_ v_ mN ⟨rfl, gF, iU, gV⟩
    obtain rfl := gV.val
    have eM := gV.gr
    refine ⟨_, rfl, fun aBj rQ => ?_⟩
    clear rP; clear mM
    have xU := gV.own (Sx (dV.heap.size) [obk (aK), obk (aX), obk (aB)]) (fun g _ hs => ⟨hs.2.1, hs.2.2.1, hs.2.2.2.1, hs.2.2.2.2⟩) ⟨cN.ne_new, cO.ne_new, kD.ne_new, (show dV.heap.size ≤ rO.heap.size by omega)⟩
    have := eM.size; replace dH := dH.gr eM (fun k hk => by have := cP.ge k hk; omega); replace dI := dI.gr eM (fun k hk => by have := cP.ge k hk; omega); replace dW := dW.gr eM (fun k hk => by have := cP.ge k hk; omega); replace cM := cM.gr eM (fun e => by have := cP.ge _ e; omega); replace dJ := dJ.gr eM (fun e => by have := cP.ge _ e; omega)
    replace cN : OwnR mN (Sx (aA.heap.size) [some (bX.heap.size), obk (gF), obk (aB), obk (aX)]) aK bB 3 (xo ++ ([gI g.ow (i)]) : List Int) := cN.grA eM (fun k hk => hk.2.1) (fun k hk hs => ⟨hs.1, own_repl gV.at_ hs.2.1 hk, hs.2.2.1, hs.2.2.2.1, hs.2.2.2.2⟩)
    replace cO : OwnR mN (Sx (aA.heap.size) [some (bX.heap.size), obk (gF), obk (aB), obk (aK)]) aX fS 3 (xp ++ ([gI g.pr (i)]) : List Int) := cO.grA eM (fun k hk => hk.2.1) (fun k hk hs => ⟨hs.1, own_repl gV.at_ hs.2.1 hk, hs.2.2.1, hs.2.2.2.1, hs.2.2.2.2⟩)
    replace kD : OwnLL mN (aA.heap.size) [some (bX.heap.size), obk (gF), obk (aK), obk (aX)] aB aJ 22 3 (xm : List (List Int)) := kD.grA eM (fun k hk => hk.2.1) (fun k hk hs => ⟨hs.1, own_repl gV.at_ hs.2.1 hk, hs.2.2.1, hs.2.2.2.1, hs.2.2.2.2⟩)
    replace gU := gU.gr eM (fun k hk => by have := cP.ge k hk; omega); clear cP eM gV
    refine At.rd rQ 1 [[]] [(9, .slice gF ((bk ++ ([(((g.ow.length : Nat) : Int) - 1) - (gI (gL g.mv (i)) (q))])).length) iU)] [] (by kernel_rfl) trivial (fun aBk rR => ?_)
    clear rQ
    refine At.done rfl ?_
    refine b_n ?_
    refine t_n ?_
    clear gU
    refine At.start ?_
    refine At.rd rR 3 [[], [.as_ (.int .i64 (q - 1))], []] [(10, .int .i64 (q - 1)), (71, .int .i64 (q - 1)), (70, .int .i64 (q))] [((.int .i64 (IntKind.i64.wrap (q - 1)) : Value) = .int .i64 (q - 1))] (by kernel_rfl) ⟨(w64 (by omega) (by omega)), trivial⟩ (fun aBl rS => ?_)
    clear rR
    refine At.done rfl ?_
    refine t_n ?_
    have xV := rS.as 9 (.slice gF ((bk ++ ([(((g.ow.length : Nat) : Int) - 1) - (gI (gL g.mv (i)) (q))])).length) iU) (.slice gF ((bk ++ ([(((g.ow.length : Nat) : Int) - 1) - (gI (gL g.mv (i)) (q))]) : List Int).length) iU) rfl (slice_len (by first | rfl | omega | (simp; done) | (simp; omega)))
    clear rS
    have xW := xV.sub (r := [(9, .slice gF ((bk ++ ([(((g.ow.length : Nat) : Int) - 1) - (gI (gL g.mv (i)) (q))]) : List Int).length) iU), (10, .int .i64 (q - 1)), (8, .int .i64 (i)), (7, .pointer (some ⟨aD.heap.size, 0, none⟩)), (6, .int .i64 (((g.ow.length : Nat) : Int))), (2, .bool false), (1, .pointer (some ⟨w.heap.size, 0, none⟩))]) ⟨rfl, rfl, rfl, rfl, rfl, rfl, rfl, trivial⟩
    exact ⟨_, (by omega), (q - 1), (bk ++ ([(((g.ow.length : Nat) : Int) - 1) - (gI (gL g.mv (i)) (q))]) : List Int), gF, iU, rfl, xW, dH, dI, dW, cM, dJ, (cN.imp (fun g _ hs => ⟨hs.2.1, hs.2.2.1, hs.2.2.2.1, hs.2.2.2.2⟩)), (cO.imp (fun g _ hs => ⟨hs.2.1, hs.2.2.1, hs.2.2.2.1, hs.2.2.2.2⟩)), (kD.imp (fun g _ hs => ⟨hs.2.1, hs.2.2.1, hs.2.2.2.1, hs.2.2.2.2⟩)), xU, (by omega), (by omega), (lim_down hbk (by omega) (by show _ = ((g.ow.length : Nat) : Int) - 1 - gI _ _; rw [show (((gL g.mv i).length : Nat) : Int) - 1 - ((((gL g.mv i).length : Nat) : Int) - 1 - q) = q by omega])), (by omega), (by omega)⟩
   have aBm := of_decide_eq_false mJ
   refine wp_exit ?_
   refine t_e ?_
   refine t_e ?_
   refine b_e ?_
   refine t_n ?_
   have hxl2_ := congrArg List.length hxm
   rw [lim_len] at hxl2_
   have hbe : bk = movR g i := by rw [hbk, movR]; congr 1; omega
   have hbl_ := congrArg List.length hbe
   rw [movR_len] at hbl_
   refine At.start ?_
   refine At.rd iT 3 [[], [.ld (.slice aB xm.length aJ)], []] [(88, .slice cL bk.length gE), (87, .slice aB xm.length aJ), (86, .pointer (some ⟨aD.heap.size, 2, none⟩))] [(bX.cell? ⟨aD.heap.size, 2, none⟩ = some (.slice aB xm.length aJ))] (by kernel_rfl) ⟨(dJ.cell (i := 2) rfl), trivial⟩ (fun aBn rU => ?_)
   clear iT
   refine At.seq rU 1 [[]] [(89, .slice (some ⟨bX.heap.size, 0, none⟩) 1 1)] (bX.alloc (.cells #[.slice cL bk.length gE] 22 (0, 0))) [] (by kernel_rfl) trivial (fun aBo kE mO rV => ?_)
   clear rU; have eN := gr_alloc mO; have := eN.size; replace dH := dH.gn eN; replace dI := dI.gn eN; replace dW := dW.gn eN; replace cM := cM.gn eN; replace dJ := dJ.gn eN; replace cN := cN.grN eN; replace cO := cO.grN eN; have gW := jZ.grN eN; clear jZ; replace cP := cP.grN eN; have mP : Bx kE (bX.heap.size) [.slice cL bk.length gE] 22 := Bx.new mO; have := mP.lt; clear eN mO
   have rW : OwnR kE (Sx (aA.heap.size) [obk (aK), obk (aX)]) cL gE 3 (bk : List Int) := cP.imp (fun g _ hs => ⟨hs.2.1, hs.2.2.1, (by have := Sx_base hs; show aA.heap.size ≤ g; omega)⟩)
   have rX : OwnLL kE (aA.heap.size) [obk (cL), obk (aK), obk (aX)] aB aJ 22 3 (xm : List (List Int)) := (gW.imp (fun g _ hs => ⟨hs.2.1, hs.2.2.1, hs.2.2.2.1, hs.2.2.2.2⟩))
   have aBp : (xm ++ [bk]).length = (xm).length + 1 := by simp
   refine At.act rV (appendLL (t := 23) (d := 90) (n := xm.length) (m := 1) (cc := 1) (ls := xm) (xs := bk) (bytes := 24) (by first | rfl | omega | (simp; done) | (simp; omega)) (by kernel_rfl) (by kernel_rfl) (mP.as (by first | rfl | (simp; done))) rX rW ⟨cN.ne_new, cO.ne_new, (show aA.heap.size ≤ kE.heap.size by omega)⟩ (by omega) (by omega)) ?_
   rintro d_ v_ rY ⟨rfl, iV, mQ, rfl, fT, mR, mS⟩
   refine ⟨_, rfl, fun aBq rZ => ?_⟩
   clear rV; clear mP cP rW rX; have := fT.size; replace dH := dH.gr fT (fun k hk => by have := gW.ge k hk; omega); replace dI := dI.gr fT (fun k hk => by have := gW.ge k hk; omega); replace dW := dW.gr fT (fun k hk => by have := gW.ge k hk; omega); replace cM := cM.gr fT (fun e => by have := gW.ge _ e; omega); replace dJ := dJ.gr fT (fun e => by have := gW.ge _ e; omega)
   replace cN : OwnR rY (Sx (aA.heap.size) [some (bX.heap.size), obk (cL), obk (iV), obk (aX)]) aK bB 3 (xo ++ ([gI g.ow (i)]) : List Int) := cN.grA fT (fun k hk => hk.2.2.1) (fun k hk hs => ⟨hs.1, hs.2.1, own_repl mR hs.2.2.1 hk, hs.2.2.2.1, hs.2.2.2.2⟩)
   replace cO : OwnR rY (Sx (aA.heap.size) [some (bX.heap.size), obk (cL), obk (iV), obk (aK)]) aX fS 3 (xp ++ ([gI g.pr (i)]) : List Int) := cO.grA fT (fun k hk => hk.2.2.1) (fun k hk hs => ⟨hs.1, hs.2.1, own_repl mR hs.2.2.1 hk, hs.2.2.2.1, hs.2.2.2.2⟩)
   clear gW fT mR
   refine At.rd rZ 1 [[]] [(91, .pointer (some ⟨aD.heap.size, 2, none⟩))] [] (by kernel_rfl) trivial (fun aBr sA => ?_)
   clear rZ
   refine At.store sA (t := 23) (b := aD.heap.size) (off := 2) (v := .slice iV ((xm ++ [bk]).length) mQ) (by kernel_rfl) dJ (by kernel_rfl) (fun aBs xX fU mT sB => ?_)
   clear sA
   replace mT : Bx xX (aD.heap.size) [.slice aK ((xo ++ ([gI g.ow (i)])).length) bB, .slice aX ((xp ++ ([gI g.pr (i)])).length) fS, .slice iV ((xm ++ [bk]).length) mQ] 25 := mT
   have := fU.size; replace dH := dH.gr fU (fun k h => by injection h; omega); replace dI := dI.gb fU (by omega); replace dW := dW.gb fU (by omega); replace cM := cM.gb fU (by omega); replace cN := cN.gr fU (fun k hk e => by have := Sx_base hk; injection e; omega); replace cO := cO.gr fU (fun k hk e => by have := Sx_base hk; injection e; omega)
   replace mS := mS.gr fU (fun k hk e => by have := Sx_base hk; injection e; omega); clear dJ fU
   refine At.done rfl ?_
   refine b_n ?_
   refine t_n ?_
   refine At.start ?_
   refine At.rd sB 3 [[], [.as_ (.int .i64 (i - 1))], []] [(8, .int .i64 (i - 1)), (40, .int .i64 (i - 1)), (39, .int .i64 (i))] [((.int .i64 (IntKind.i64.wrap (i - 1)) : Value) = .int .i64 (i - 1))] (by kernel_rfl) ⟨(w64 (by omega) (by omega)), trivial⟩ (fun aBt xY => ?_)
   clear sB
   refine At.done rfl ?_
   refine t_n ?_
   have xZ := xY.sub (r := [(8, .int .i64 (i - 1)), (7, .pointer (some ⟨aD.heap.size, 0, none⟩)), (6, .int .i64 (((g.ow.length : Nat) : Int))), (2, .bool false), (1, .pointer (some ⟨w.heap.size, 0, none⟩))]) ⟨rfl, rfl, rfl, rfl, rfl, trivial⟩
   exact ⟨_, (by omega), (i - 1), (xo ++ ([gI g.ow (i)]) : List Int), aK, bB, (xp ++ ([gI g.pr (i)]) : List Int), aX, fS, (xm ++ [bk] : List (List Int)), iV, mQ, rfl, xZ, dH, dI, dW, cM, mT, (cN.imp (fun g _ hs => ⟨hs.2.2.1, hs.2.2.2.1, hs.2.2.2.2⟩)), (cO.imp (fun g _ hs => ⟨hs.2.2.1, hs.2.2.2.1, hs.2.2.2.2⟩)), mS, (by omega), (by omega), (lim_down hxo (by omega) (by show _ = gI g.ow _; congr 1; omega)), (lim_down hxp (by omega) (by show _ = gI g.pr _; congr 1; omega)), (lim_down hxm (by omega) (by rw [hbe]; show _ = movR g _; congr 1; omega)), (by omega)⟩
  refine OneH.seq jL [[]] [(48, .slice (some ⟨bA.heap.size, 0, none⟩) 1 1)] (bA.alloc (.cells #[.int .i64 (gI g.ow (i))] 3 (0, 0))) [] #[true, false, true, true, true, true, true, true, false, false, false] (by kernel_rfl) (by kernel_rfl) (by kernel_rfl) trivial (fun aBu iW mU sC => ?_)
  clear jL; have eO := gr_alloc mU; have mV := jK.gr eO
  refine ⟨mV, ?_⟩
  have := eO.size; replace aG := aG.gn eO; replace aC := aC.gn eO; replace aF := aF.gn eO; replace aH := aH.gn eO; replace aN := aN.gn eO; replace aM := aM.grN eO; replace aE := aE.grN eO; replace aI := aI.grN eO; have mW : Bx iW (bA.heap.size) [.int .i64 (gI g.ow (i))] 3 := Bx.new mU; have := mW.lt; clear eO mU
  refine AtH.all [1] 3 (by kernel_rfl) (by simp) ⟨?_, trivial⟩
  refine OneH.seq sC [[.ld (.slice bV xo.length dD)]] [(42, .slice bV xo.length dD)] iW [(iW.cell? ⟨aD.heap.size, 0, none⟩ = some (.slice bV xo.length dD))] #[true, true, true, true, true, true, true, true, false, false, false] (by kernel_rfl) (by kernel_rfl) (by kernel_rfl) ⟨(aN.cell (i := 0) rfl), trivial⟩ (fun aBv yA yB sD => ?_)
  obtain rfl : iW = yA := yB.symm
  clear sC
  refine ⟨mV, ?_⟩
  refine AtH.all [8] 2 (by kernel_rfl) (by simp) ⟨?_, trivial⟩
  have yC : (xo ++ ([gI g.ow (i)])).length = (xo).length + ([gI g.ow (i)] : List Int).length := List.length_append
  simp only [List.length_cons, List.length_nil] at yC
  refine OneH.act sD #[true, true, true, true, true, true, true, true, true, false, false] (by kernel_rfl) (appendR (α := Int) (t := 22) (d := 49) (n := xo.length) (m := 1) (cc := 1) (xs := xo) (ys := [gI g.ow (i)]) (bytes := 8) (by first | rfl | omega | (simp; done) | (simp; omega)) (by first | rfl | omega | (simp; done) | (simp; omega)) (by kernel_rfl) rfl (by kernel_rfl) aM (Bx.srcR (l := ([gI g.ow (i)] : List Int)) mW rfl) (by simp only [List.length_cons, List.length_nil]; omega) (by simp only [List.length_cons, List.length_nil]; omega)) ?_
  rintro d_ v_ sE ⟨rfl, aL, bC, iA⟩
  obtain rfl := iA.val
  have fE := iA.gr
  have mX := mV.grO fE (by rw [gP]; exact ⟨(fun e => by have := aM.ge _ e; simp only [add_block] at this; omega), (fun e => by have := aM.ge _ e; simp only [add_block] at this; omega), trivial⟩)
  refine ⟨_, rfl, fun aBw sF => ⟨mX, ?_⟩⟩
  clear sD; clear mW
  have aQ := iA.own (Sx (aA.heap.size) [obk (aB), obk (aO)]) (fun g _ hs => ⟨hs.2.1, hs.2.2.1, hs.2.2.2⟩) ⟨aI.ne_new, aE.ne_new, (show aA.heap.size ≤ iW.heap.size by omega)⟩
  have := fE.size; replace aG := aG.gr fE (fun k hk => by have := aM.ge k hk; omega); replace aC := aC.gr fE (fun k hk => by have := aM.ge k hk; omega); replace aF := aF.gr fE (fun k hk => by have := aM.ge k hk; omega); replace aH := aH.gr fE (fun e => by have := aM.ge _ e; omega); replace aN := aN.gr fE (fun e => by have := aM.ge _ e; omega)
  replace aE : OwnR sE (Sx (aA.heap.size) [some (bA.heap.size), obk (aB), obk (aL)]) aO aV 3 (xp : List Int) := aE.grA fE (fun k hk => hk.2.2.1) (fun k hk hs => ⟨hs.1, hs.2.1, own_repl iA.at_ hs.2.2.1 hk, hs.2.2.2⟩)
  replace aI : OwnLL sE (aA.heap.size) [some (bA.heap.size), obk (aL), obk (aO)] aB aJ 22 3 (xm : List (List Int)) := aI.grA fE (fun k hk => hk.2.1) (fun k hk hs => ⟨hs.1, own_repl iA.at_ hs.2.1 hk, hs.2.2.1, hs.2.2.2⟩)
  clear aM fE iA
  refine AtH.rd (by kernel_rfl) (fun d v c a w h => by cases d <;> exact h) mX [9] [[]] [(50, .pointer (some ⟨aD.heap.size, 0, none⟩))] #[true, true, true, true, true, true, true, true, true, true, false] [] 1 sF (by kernel_rfl) trivial (fun aBx sG => ?_)
  clear sF
  refine AtH.all [10] 0 (by kernel_rfl) (by simp) ⟨?_, trivial⟩
  refine OneH.store sG (t := 22) (b := aD.heap.size) (off := 0) (v := .slice aL ((xo ++ ([gI g.ow (i)])).length) bC) #[true, true, true, true, true, true, true, true, true, true, true] (by kernel_rfl) (by kernel_rfl) aN (by kernel_rfl) (fun aBy sH fF bH sI => ?_)
  clear sG; replace bH : Bx sH (aD.heap.size) [.slice aL ((xo ++ ([gI g.ow (i)])).length) bC, .slice aO xp.length aV, .slice aB xm.length aJ] 25 := bH; have sJ := mX.gr' fF (by rw [gP]; exact ⟨(by simp only [add_block]; omega), (by simp only [add_block]; omega), trivial⟩); have := fF.size; replace aG := aG.gr fF (fun k h => by injection h; omega); replace aC := aC.gb fF (by omega)
  replace aF := aF.gb fF (by omega); replace aH := aH.gb fF (by omega); replace aQ := aQ.gr fF (fun k hk e => by have := Sx_base hk; injection e; omega); replace aE := aE.gr fF (fun k hk e => by have := Sx_base hk; injection e; omega); replace aI := aI.gr fF (fun k hk e => by have := Sx_base hk; injection e; omega); clear aN fF
  refine ⟨sJ, ?_⟩
  refine AtH.done (by kernel_rfl) ?_
  clear sJ
  refine t_n ?_
  have hxl0_ := congrArg List.length hxo; have hxl1_ := congrArg List.length hxp; have hxl2_ := congrArg List.length hxm
  rw [lim_len] at hxl0_ hxl1_ hxl2_
  refine wp_seq ?_
  obtain ⟨iX, yD, _, _, yE⟩ := RdI.get aC.pr (i) (by omega) (by omega)
  obtain ⟨kF, gX⟩ : ∃ c : List (Addr × Value), c = [(⟨w.heap.size, 1, none⟩, (.slice Ag1 g.pr.length cg1)), ((iX.add ((i : Int).toNat * 1)), (.int .i64 (gI g.pr (i))))] := ⟨_, rfl⟩
  have sK : HoldsC kF sH := by rw [gX]; exact ⟨(aH.cell (i := 1) rfl), yE, trivial⟩
  refine AtH.start kF 11 #[false, false, false, false, false, false, false, false, false, false, false] (by kernel_rfl) rfl rfl (fun bO sL => ?_)
  have eP := gr_drew sL; have kG := sK.gr eP; have := eP.size; replace aG := aG.gn eP; replace aC := aC.gn eP; replace aF := aF.gn eP; replace aH := aH.gn eP; replace bH := bH.gn eP; replace aQ := aQ.gn eP; replace aE := aE.gn eP; replace aI := aI.gn eP; clear eP sL sK
  refine AtH.rd (by kernel_rfl) (fun d v c a w h => by cases d <;> exact h) kG [0, 2, 3, 4, 5, 6] [[], [], [.ld (.slice Ag1 g.pr.length cg1)], [], [.ad iX], [.ld (.int .i64 (gI g.pr (i)))]] [(57, .int .i64 (gI g.pr (i))), (56, .pointer (some (iX.add ((i : Int).toNat * 1)))), (55, .int .i64 (i)), (54, .slice Ag1 g.pr.length cg1), (53, .pointer (some ⟨w.heap.size, 1, none⟩)), (51, .pointer (some ⟨aD.heap.size, 1, none⟩))] #[true, false, true, true, true, true, true, false, false, false, false] [(∃ j_ : Nat, kF[j_]? = some (⟨w.heap.size, 1, none⟩, (.slice Ag1 g.pr.length cg1))), (Ag1 = some iX), (0 ≤ (i : Int)), ((i : Int) < (g.pr.length : Nat)), (∃ j_ : Nat, kF[j_]? = some ((iX.add ((i : Int).toNat * 1)), (.int .i64 (gI g.pr (i)))))] 5 sI (by kernel_rfl) ⟨⟨0, by rw [gX]; rfl⟩, yD, (by omega), (by omega), ⟨1, by rw [gX]; rfl⟩, trivial⟩ (fun aBz kH => ?_)
  clear sI
  refine AtH.all [1, 7] 4 (by kernel_rfl) (by simp) ⟨?_, ?_, trivial⟩
  ·refine OneH.seq kH [[.ld (.slice aO xp.length aV)]] [(52, .slice aO xp.length aV)] bO [(bO.cell? ⟨aD.heap.size, 1, none⟩ = some (.slice aO xp.length aV))] #[true, true, true, true, true, true, true, false, false, false, false] (by kernel_rfl) (by kernel_rfl) (by kernel_rfl) ⟨(bH.cell (i := 1) rfl), trivial⟩ (fun aBA yF yG sM => ?_)
   obtain rfl : bO = yF := yG.symm
   clear kH
   refine ⟨kG, ?_⟩
   refine AtH.all [7] 3 (by kernel_rfl) (by simp) ⟨?_, trivial⟩
   refine OneH.seq sM [[]] [(58, .slice (some ⟨bO.heap.size, 0, none⟩) 1 1)] (bO.alloc (.cells #[.int .i64 (gI g.pr (i))] 3 (0, 0))) [] #[true, true, true, true, true, true, true, true, false, false, false] (by kernel_rfl) (by kernel_rfl) (by kernel_rfl) trivial (fun aBB sN mY sO => ?_)
   clear sM; have eQ := gr_alloc mY; have sP := kG.gr eQ
   refine ⟨sP, ?_⟩
   have := eQ.size; replace aG := aG.gn eQ; replace aC := aC.gn eQ; replace aF := aF.gn eQ; replace aH := aH.gn eQ; replace bH := bH.gn eQ; replace aQ := aQ.grN eQ; replace aE := aE.grN eQ; replace aI := aI.grN eQ; have mZ : Bx sN (bO.heap.size) [.int .i64 (gI g.pr (i))] 3 := Bx.new mY; have := mZ.lt; clear eQ mY
   refine AtH.all [8] 2 (by kernel_rfl) (by simp) ⟨?_, trivial⟩
   have yH : (xp ++ ([gI g.pr (i)])).length = (xp).length + ([gI g.pr (i)] : List Int).length := List.length_append
   simp only [List.length_cons, List.length_nil] at yH
   refine OneH.act sO #[true, true, true, true, true, true, true, true, true, false, false] (by kernel_rfl) (appendR (α := Int) (t := 22) (d := 59) (n := xp.length) (m := 1) (cc := 1) (xs := xp) (ys := [gI g.pr (i)]) (bytes := 8) (by first | rfl | omega | (simp; done) | (simp; omega)) (by first | rfl | omega | (simp; done) | (simp; omega)) (by kernel_rfl) rfl (by kernel_rfl) aE (Bx.srcR (l := ([gI g.pr (i)] : List Int)) mZ rfl) (by simp only [List.length_cons, List.length_nil]; omega) (by simp only [List.length_cons, List.length_nil]; omega)) ?_
   rintro d_ v_ sQ ⟨rfl, aY, fV, iB⟩
   obtain rfl := iB.val
   have fG := iB.gr
   have nA := sP.grO fG (by rw [gX]; exact ⟨(fun e => by have := aE.ge _ e; simp only [add_block] at this; omega), (fun e => by have := aE.ge _ e; simp only [add_block] at this; omega), trivial⟩)
   refine ⟨_, rfl, fun aBC sR => ⟨nA, ?_⟩⟩
   clear sO; clear mZ
   have iC := iB.own (Sx (aA.heap.size) [obk (aB), obk (aL)]) (fun g _ hs => ⟨hs.2.2.1, hs.2.2.2.1, hs.2.2.2.2⟩) ⟨aI.ne_new, aQ.ne_new, (show aA.heap.size ≤ sN.heap.size by omega)⟩
   have := fG.size; replace aG := aG.gr fG (fun k hk => by have := aE.ge k hk; omega); replace aC := aC.gr fG (fun k hk => by have := aE.ge k hk; omega); replace aF := aF.gr fG (fun k hk => by have := aE.ge k hk; omega); replace aH := aH.gr fG (fun e => by have := aE.ge _ e; omega); replace bH := bH.gr fG (fun e => by have := aE.ge _ e; omega)
   replace aQ : OwnR sQ (Sx (aA.heap.size) [some (bO.heap.size), obk (aB), obk (aY)]) aL bC 3 (xo ++ ([gI g.ow (i)]) : List Int) := aQ.grA fG (fun k hk => hk.2.2.1) (fun k hk hs => ⟨hs.1, hs.2.1, own_repl iB.at_ hs.2.2.1 hk, hs.2.2.2⟩)
   replace aI : OwnLL sQ (aA.heap.size) [some (bO.heap.size), some (bA.heap.size), obk (aL), obk (aY)] aB aJ 22 3 (xm : List (List Int)) := aI.grA fG (fun k hk => hk.2.2.2.1) (fun k hk hs => ⟨hs.1, hs.2.1, hs.2.2.1, own_repl iB.at_ hs.2.2.2.1 hk, hs.2.2.2.2⟩)
   clear aE fG iB
   refine AtH.rd (by kernel_rfl) (fun d v c a w h => by cases d <;> exact h) nA [9] [[]] [(60, .pointer (some ⟨aD.heap.size, 1, none⟩))] #[true, true, true, true, true, true, true, true, true, true, false] [] 1 sR (by kernel_rfl) trivial (fun aBD sS => ?_)
   clear sR
   refine AtH.all [10] 0 (by kernel_rfl) (by simp) ⟨?_, trivial⟩
   refine OneH.store sS (t := 22) (b := aD.heap.size) (off := 1) (v := .slice aY ((xp ++ ([gI g.pr (i)])).length) fV) #[true, true, true, true, true, true, true, true, true, true, true] (by kernel_rfl) (by kernel_rfl) bH (by kernel_rfl) (fun aBE dY fH kI sT => ?_)
   clear sS
   replace kI : Bx dY (aD.heap.size) [.slice aL ((xo ++ ([gI g.ow (i)])).length) bC, .slice aY ((xp ++ ([gI g.pr (i)])).length) fV, .slice aB xm.length aJ] 25 := kI
   have sU := nA.gr' fH (by rw [gX]; exact ⟨(by simp only [add_block]; omega), (by simp only [add_block]; omega), trivial⟩); have := fH.size; replace aG := aG.gr fH (fun k h => by injection h; omega); replace aC := aC.gb fH (by omega); replace aF := aF.gb fH (by omega); replace aH := aH.gb fH (by omega); replace aQ := aQ.gr fH (fun k hk e => by have := Sx_base hk; injection e; omega)
   replace iC := iC.gr fH (fun k hk e => by have := Sx_base hk; injection e; omega); replace aI := aI.gr fH (fun k hk e => by have := Sx_base hk; injection e; omega); clear bH fH
   refine ⟨sU, ?_⟩
   refine AtH.done (by kernel_rfl) ?_
   clear sU
   refine t_n ?_
   refine wp_seq ?_
   refine At.start ?_
   refine At.rd sT 1 [[]] [(9, .slice none 0 0)] [] (by kernel_rfl) trivial (fun aBF sV => ?_)
   clear sT
   refine At.done rfl ?_
   refine t_n ?_
   refine wp_seq ?_
   refine wp_seq ?_
   have hrl_ := row_len hG (i := i) (by omega) (by omega)
   refine At.start ?_
   obtain ⟨kJ, nB, nC, yI, _, _, yJ, aBG, sW⟩ := RdII.get aC.mv (i) (by omega) (by omega)
   have aBH := sW.len
   refine At.rd sV 8 [[], [.ld (.slice Ag2 g.mv.length cg2)], [], [.ad kJ], [.ld (.slice nB ((gL g.mv (i)).length) nC)], [], [.as_ (.int .i64 ((((gL g.mv (i)).length : Nat) : Int) - 1))], []] [(10, .int .i64 ((((gL g.mv (i)).length : Nat) : Int) - 1)), (67, .int .i64 ((((gL g.mv (i)).length : Nat) : Int) - 1)), (66, .int .i64 ((((gL g.mv (i)).length : Nat) : Int))), (65, .slice nB ((gL g.mv (i)).length) nC), (64, .pointer (some (kJ.add ((i : Int).toNat * 1)))), (63, .int .i64 (i)), (62, .slice Ag2 g.mv.length cg2), (61, .pointer (some ⟨w.heap.size, 2, none⟩))] [(dY.cell? ⟨w.heap.size, 2, none⟩ = some (.slice Ag2 g.mv.length cg2)), (Ag2 = some kJ), (0 ≤ (i : Int)), ((i : Int) < (g.mv.length : Nat)), (dY.cell? (kJ.add ((i : Int).toNat * 1)) = some (.slice nB ((gL g.mv (i)).length) nC)), ((.int .i64 (IntKind.i64.wrap ((((gL g.mv (i)).length : Nat) : Int) - 1)) : Value) = .int .i64 ((((gL g.mv (i)).length : Nat) : Int) - 1))] (by kernel_rfl) ⟨(aH.cell (i := 2) rfl), yI, (by omega), (by omega), yJ, (w64 (by omega) (by omega)), trivial⟩ (fun aBI sX => ?_)
   clear sV
   refine At.done rfl ?_
   refine t_n ?_
   clear sW
   have sY := sX.sub (r := [(10, .int .i64 ((((gL g.mv (i)).length : Nat) : Int) - 1)), (9, .slice none 0 0), (8, .int .i64 (i)), (7, .pointer (some ⟨aD.heap.size, 0, none⟩)), (6, .int .i64 (((g.ow.length : Nat) : Int))), (2, .bool false), (1, .pointer (some ⟨w.heap.size, 0, none⟩))]) ⟨rfl, rfl, rfl, rfl, rfl, rfl, rfl, trivial⟩
   clear sX
   refine wp_block ?_
   have sZ : OwnR dY (Sx (dY.heap.size) [obk (aL), obk (aY), obk (aB)]) none 0 3 ([] : List Int) := OwnR.nil
   replace aQ : OwnR dY (Sx (aA.heap.size) [obk none, some (bO.heap.size), obk (aB), obk (aY)]) aL bC 3 (xo ++ ([gI g.ow (i)]) : List Int) := aQ.imp (fun g _ hs => ⟨by simp [obk], hs⟩)
   replace iC : OwnR dY (Sx (aA.heap.size) [obk none, obk (aB), obk (aL)]) aY fV 3 (xp ++ ([gI g.pr (i)]) : List Int) := iC.imp (fun g _ hs => ⟨by simp [obk], hs⟩)
   replace aI : OwnLL dY (aA.heap.size) [obk none, some (bO.heap.size), some (bA.heap.size), obk (aL), obk (aY)] aB aJ 22 3 (xm : List (List Int)) := aI.imp (fun g _ hs => ⟨by simp [obk], hs⟩)
   have tA := sY.as 9 (.slice none 0 0) (.slice none (([] : List Int).length) 0) rfl (slice_len (by first | rfl | omega | (simp; done) | (simp; omega))); clear sY
   have tB := tA.sub (r := [(9, .slice none (([] : List Int).length) 0), (10, .int .i64 ((((gL g.mv (i)).length : Nat) : Int) - 1)), (8, .int .i64 (i)), (7, .pointer (some ⟨aD.heap.size, 0, none⟩)), (6, .int .i64 (((g.ow.length : Nat) : Int))), (2, .bool false), (1, .pointer (some ⟨w.heap.size, 0, none⟩))]) ⟨rfl, rfl, rfl, rfl, rfl, rfl, rfl, trivial⟩
   refine loop_g (fun (m_ : Nat) a_ w_ => ∃ (q : Int) (bk : List Int) (cQ : Option Addr) (gG : Nat), m_ = (q + 1).toNat ∧ (Frm 125 a_ [(9, .slice cQ bk.length gG), (10, .int .i64 (q)), (8, .int .i64 (i)), (7, .pointer (some ⟨aD.heap.size, 0, none⟩)), (6, .int .i64 (((g.ow.length : Nat) : Int))), (2, .bool false), (1, .pointer (some ⟨w.heap.size, 0, none⟩))]) ∧ (Ext w w_) ∧ (RdG w_ 0 w.heap.size Ag0 Ag1 Ag2 cg0 cg1 cg2 g) ∧ (RdT w_ 0 w.heap.size) ∧ (Bx w_ (w.heap.size) [.slice Ag0 g.ow.length cg0, .slice Ag1 g.pr.length cg1, .slice Ag2 g.mv.length cg2] 25) ∧ (Bx w_ (aD.heap.size) [.slice aL ((xo ++ ([gI g.ow (i)])).length) bC, .slice aY ((xp ++ ([gI g.pr (i)])).length) fV, .slice aB xm.length aJ] 25) ∧ (OwnR w_ (Sx (aA.heap.size) [obk (cQ), obk (aB), obk (aY)]) aL bC 3 (xo ++ ([gI g.ow (i)]) : List Int)) ∧ (OwnR w_ (Sx (aA.heap.size) [obk (cQ), obk (aB), obk (aL)]) aY fV 3 (xp ++ ([gI g.pr (i)]) : List Int)) ∧ (OwnLL w_ (aA.heap.size) [obk (cQ), obk (aL), obk (aY)] aB aJ 22 3 (xm : List (List Int))) ∧ (OwnR w_ (Sx (dY.heap.size) [obk (aL), obk (aY), obk (aB)]) cQ gG 3 (bk : List Int)) ∧ (-1 ≤ q) ∧ (q ≤ (((gL g.mv i).length : Nat) : Int) - 1) ∧ (bk = limL (fun j => ((g.ow.length : Nat) : Int) - 1 - gI (gL g.mv i) ((((gL g.mv i).length : Nat) : Int) - 1 - j)) ((((gL g.mv i).length : Nat) : Int) - 1 - q)) ∧ (aA.heap.size ≤ w_.heap.size) ∧ (dY.heap.size ≤ w_.heap.size)) _ ⟨(((gL g.mv i).length : Nat) : Int) - 1, ([] : List Int), none, 0, rfl, tB, aG, aC, aF, aH, kI, (aQ.imp (fun g _ hs => ⟨hs.1, hs.2.2.1, hs.2.2.2.1, hs.2.2.2.2⟩)), iC, (aI.imp (fun g _ hs => ⟨hs.1, hs.2.2.2.1, hs.2.2.2.2.1, hs.2.2.2.2.2⟩)), sZ, (by omega), (Int.le_refl _), (by rw [show (((gL g.mv i).length : Nat) : Int) - 1 - ((((gL g.mv i).length : Nat) : Int) - 1) = 0 by omega]; rfl), (by omega), (by omega)⟩ ?_
   clear tB tA; clear aC; clear aF; clear aH; clear kI; clear aQ; clear iC; clear aI; clear sZ; clear aG
   intro m_ aBJ bY ⟨q, bk, cQ, gG, hm765, tC, dK, dL, dZ, cR, dM, cS, cT, kK, cU, i775, i776, hbk, i777, i778⟩
   have := dK.size; have := cR.lt; have := dM.lt
   refine wp_seq ?_
   refine wp_seq ?_
   refine At.start ?_
   refine At.rd tC 2 [[], []] [(69, .bool (decide ((q : Int) ≥ 0))), (68, .int .i64 (q))] [] (by kernel_rfl) trivial (fun aBK iY => ?_)
   clear tC
   refine At.done rfl ?_
   refine t_n ?_
   refine cond_S iY (t := decide ((q : Int) ≥ 0)) rfl (fun nD => ?_) (fun nD => ?_)
   ·have aBL := of_decide_eq_true nD
    refine wp_skip ?_
    refine t_n ?_
    refine wp_seq ?_
    refine wp_block ?_
    have hmk := hG.mv i (by omega) (by omega) q (by omega) (by omega); have hbl_ := congrArg List.length hbk
    rw [lim_len] at hbl_
    refine At.start ?_
    obtain ⟨kL, kM, nE, yK, _, _, yL, aBM, gY⟩ := RdII.get dL.mv (i) (by omega) (by omega)
    have aBN := gY.len
    obtain ⟨kN, yM, _, _, yN⟩ := RdI.get gY (q) (by omega) (by omega)
    refine At.rd iY 12 [[], [], [.as_ (.int .i64 (((g.ow.length : Nat) : Int) - 1))], [], [.ld (.slice Ag2 g.mv.length cg2)], [], [.ad kL], [.ld (.slice kM ((gL g.mv (i)).length) nE)], [], [.ad kN], [.ld (.int .i64 (gI (gL g.mv (i)) (q)))], [.as_ (.int .i64 ((((g.ow.length : Nat) : Int) - 1) - (gI (gL g.mv (i)) (q))))]] [(83, .int .i64 ((((g.ow.length : Nat) : Int) - 1) - (gI (gL g.mv (i)) (q)))), (82, .int .i64 (gI (gL g.mv (i)) (q))), (81, .pointer (some (kN.add ((q : Int).toNat * 1)))), (80, .int .i64 (q)), (79, .slice kM ((gL g.mv (i)).length) nE), (78, .pointer (some (kL.add ((i : Int).toNat * 1)))), (77, .int .i64 (i)), (76, .slice Ag2 g.mv.length cg2), (75, .pointer (some ⟨w.heap.size, 2, none⟩)), (74, .int .i64 (((g.ow.length : Nat) : Int) - 1)), (73, .int .i64 (((g.ow.length : Nat) : Int))), (72, .slice cQ bk.length gG)] [((.int .i64 (IntKind.i64.wrap (((g.ow.length : Nat) : Int) - 1)) : Value) = .int .i64 (((g.ow.length : Nat) : Int) - 1)), (bY.cell? ⟨w.heap.size, 2, none⟩ = some (.slice Ag2 g.mv.length cg2)), (Ag2 = some kL), (0 ≤ (i : Int)), ((i : Int) < (g.mv.length : Nat)), (bY.cell? (kL.add ((i : Int).toNat * 1)) = some (.slice kM ((gL g.mv (i)).length) nE)), (kM = some kN), (0 ≤ (q : Int)), ((q : Int) < ((gL g.mv (i)).length : Nat)), (bY.cell? (kN.add ((q : Int).toNat * 1)) = some (.int .i64 (gI (gL g.mv (i)) (q)))), ((.int .i64 (IntKind.i64.wrap ((((g.ow.length : Nat) : Int) - 1) - (gI (gL g.mv (i)) (q)))) : Value) = .int .i64 ((((g.ow.length : Nat) : Int) - 1) - (gI (gL g.mv (i)) (q))))] (by kernel_rfl) ⟨(w64 (by omega) (by omega)), (cR.cell (i := 2) rfl), yK, (by omega), (by omega), yL, yM, (by omega), (by omega), yN, (w64 (by omega) (by omega)), trivial⟩ (fun aBO tD => ?_)
    clear iY
    refine At.seq tD 1 [[]] [(84, .slice (some ⟨bY.heap.size, 0, none⟩) 1 1)] (bY.alloc (.cells #[.int .i64 ((((g.ow.length : Nat) : Int) - 1) - (gI (gL g.mv (i)) (q)))] 3 (0, 0))) [] (by kernel_rfl) trivial (fun aBP tE nF tF => ?_)
    clear tD; have eA := gr_alloc nF; have := eA.size; replace dK := dK.gn eA; replace dL := dL.gn eA; replace dZ := dZ.gn eA; replace cR := cR.gn eA; replace dM := dM.gn eA; replace cS := cS.grN eA; replace cT := cT.grN eA; have kO := kK.grN eA; clear kK; replace cU := cU.grN eA; replace gY := gY.gn eA
    have nG : Bx tE (bY.heap.size) [.int .i64 ((((g.ow.length : Nat) : Int) - 1) - (gI (gL g.mv (i)) (q)))] 3 := Bx.new nF; have := nG.lt; clear eA nF
    have yO : (bk ++ ([(((g.ow.length : Nat) : Int) - 1) - (gI (gL g.mv (i)) (q))])).length = (bk).length + ([(((g.ow.length : Nat) : Int) - 1) - (gI (gL g.mv (i)) (q))] : List Int).length := List.length_append
    simp only [List.length_cons, List.length_nil] at yO
    refine At.act tF (appendR (α := Int) (t := 22) (d := 85) (n := bk.length) (m := 1) (cc := 1) (xs := bk) (ys := [(((g.ow.length : Nat) : Int) - 1) - (gI (gL g.mv (i)) (q))]) (bytes := 8) (by first | rfl | omega | (simp; done) | (simp; omega)) (by first | rfl | omega | (simp; done) | (simp; omega)) (by kernel_rfl) rfl (by kernel_rfl) cU (Bx.srcR (l := ([(((g.ow.length : Nat) : Int) - 1) - (gI (gL g.mv (i)) (q))] : List Int)) nG rfl) (by simp only [List.length_cons, List.length_nil]; omega) (by simp only [List.length_cons, List.length_nil]; omega)) ?_
    rintro d_ v_ nH ⟨rfl, gH, iZ, gZ⟩
    obtain rfl := gZ.val
    have eR := gZ.gr
    refine ⟨_, rfl, fun aBQ tG => ?_⟩
    clear tF; clear nG
    have yP := gZ.own (Sx (dY.heap.size) [obk (aL), obk (aY), obk (aB)]) (fun g _ hs => ⟨hs.2.1, hs.2.2.1, hs.2.2.2.1, hs.2.2.2.2⟩) ⟨cS.ne_new, cT.ne_new, kO.ne_new, (show dY.heap.size ≤ tE.heap.size by omega)⟩
    have := eR.size; replace dK := dK.gr eR (fun k hk => by have := cU.ge k hk; omega); replace dL := dL.gr eR (fun k hk => by have := cU.ge k hk; omega); replace dZ := dZ.gr eR (fun k hk => by have := cU.ge k hk; omega); replace cR := cR.gr eR (fun e => by have := cU.ge _ e; omega); replace dM := dM.gr eR (fun e => by have := cU.ge _ e; omega)
    replace cS : OwnR nH (Sx (aA.heap.size) [some (bY.heap.size), obk (gH), obk (aB), obk (aY)]) aL bC 3 (xo ++ ([gI g.ow (i)]) : List Int) := cS.grA eR (fun k hk => hk.2.1) (fun k hk hs => ⟨hs.1, own_repl gZ.at_ hs.2.1 hk, hs.2.2.1, hs.2.2.2.1, hs.2.2.2.2⟩)
    replace cT : OwnR nH (Sx (aA.heap.size) [some (bY.heap.size), obk (gH), obk (aB), obk (aL)]) aY fV 3 (xp ++ ([gI g.pr (i)]) : List Int) := cT.grA eR (fun k hk => hk.2.1) (fun k hk hs => ⟨hs.1, own_repl gZ.at_ hs.2.1 hk, hs.2.2.1, hs.2.2.2.1, hs.2.2.2.2⟩)
    replace kO : OwnLL nH (aA.heap.size) [some (bY.heap.size), obk (gH), obk (aL), obk (aY)] aB aJ 22 3 (xm : List (List Int)) := kO.grA eR (fun k hk => hk.2.1) (fun k hk hs => ⟨hs.1, own_repl gZ.at_ hs.2.1 hk, hs.2.2.1, hs.2.2.2.1, hs.2.2.2.2⟩)
    replace gY := gY.gr eR (fun k hk => by have := cU.ge k hk; omega); clear cU eR gZ
    refine At.rd tG 1 [[]] [(9, .slice gH ((bk ++ ([(((g.ow.length : Nat) : Int) - 1) - (gI (gL g.mv (i)) (q))])).length) iZ)] [] (by kernel_rfl) trivial (fun aBR tH => ?_)
    clear tG
    refine At.done rfl ?_
    refine b_n ?_
    refine t_n ?_
    clear gY
    refine At.start ?_
    refine At.rd tH 3 [[], [.as_ (.int .i64 (q - 1))], []] [(10, .int .i64 (q - 1)), (71, .int .i64 (q - 1)), (70, .int .i64 (q))] [((.int .i64 (IntKind.i64.wrap (q - 1)) : Value) = .int .i64 (q - 1))] (by kernel_rfl) ⟨(w64 (by omega) (by omega)), trivial⟩ (fun aBS tI => ?_)
    clear tH
    refine At.done rfl ?_
    refine t_n ?_
    have yQ := tI.as 9 (.slice gH ((bk ++ ([(((g.ow.length : Nat) : Int) - 1) - (gI (gL g.mv (i)) (q))])).length) iZ) (.slice gH ((bk ++ ([(((g.ow.length : Nat) : Int) - 1) - (gI (gL g.mv (i)) (q))]) : List Int).length) iZ) rfl (slice_len (by first | rfl | omega | (simp; done) | (simp; omega)))
    clear tI
    have yR := yQ.sub (r := [(9, .slice gH ((bk ++ ([(((g.ow.length : Nat) : Int) - 1) - (gI (gL g.mv (i)) (q))]) : List Int).length) iZ), (10, .int .i64 (q - 1)), (8, .int .i64 (i)), (7, .pointer (some ⟨aD.heap.size, 0, none⟩)), (6, .int .i64 (((g.ow.length : Nat) : Int))), (2, .bool false), (1, .pointer (some ⟨w.heap.size, 0, none⟩))]) ⟨rfl, rfl, rfl, rfl, rfl, rfl, rfl, trivial⟩
    exact ⟨_, (by omega), (q - 1), (bk ++ ([(((g.ow.length : Nat) : Int) - 1) - (gI (gL g.mv (i)) (q))]) : List Int), gH, iZ, rfl, yR, dK, dL, dZ, cR, dM, (cS.imp (fun g _ hs => ⟨hs.2.1, hs.2.2.1, hs.2.2.2.1, hs.2.2.2.2⟩)), (cT.imp (fun g _ hs => ⟨hs.2.1, hs.2.2.1, hs.2.2.2.1, hs.2.2.2.2⟩)), (kO.imp (fun g _ hs => ⟨hs.2.1, hs.2.2.1, hs.2.2.2.1, hs.2.2.2.2⟩)), yP, (by omega), (by omega), (lim_down hbk (by omega) (by show _ = ((g.ow.length : Nat) : Int) - 1 - gI _ _; rw [show (((gL g.mv i).length : Nat) : Int) - 1 - ((((gL g.mv i).length : Nat) : Int) - 1 - q) = q by omega])), (by omega), (by omega)⟩
   have aBT := of_decide_eq_false nD
   refine wp_exit ?_
   refine t_e ?_
   refine t_e ?_
   refine b_e ?_
   refine t_n ?_
   have hxl2_ := congrArg List.length hxm
   rw [lim_len] at hxl2_
   have hbe : bk = movR g i := by rw [hbk, movR]; congr 1; omega
   have hbl_ := congrArg List.length hbe
   rw [movR_len] at hbl_
   refine At.start ?_
   refine At.rd iY 3 [[], [.ld (.slice aB xm.length aJ)], []] [(88, .slice cQ bk.length gG), (87, .slice aB xm.length aJ), (86, .pointer (some ⟨aD.heap.size, 2, none⟩))] [(bY.cell? ⟨aD.heap.size, 2, none⟩ = some (.slice aB xm.length aJ))] (by kernel_rfl) ⟨(dM.cell (i := 2) rfl), trivial⟩ (fun aBU tJ => ?_)
   clear iY
   refine At.seq tJ 1 [[]] [(89, .slice (some ⟨bY.heap.size, 0, none⟩) 1 1)] (bY.alloc (.cells #[.slice cQ bk.length gG] 22 (0, 0))) [] (by kernel_rfl) trivial (fun aBV kP nI tK => ?_)
   clear tJ; have eS := gr_alloc nI; have := eS.size; replace dK := dK.gn eS; replace dL := dL.gn eS; replace dZ := dZ.gn eS; replace cR := cR.gn eS; replace dM := dM.gn eS; replace cS := cS.grN eS; replace cT := cT.grN eS; have hA := kK.grN eS; clear kK; replace cU := cU.grN eS; have nJ : Bx kP (bY.heap.size) [.slice cQ bk.length gG] 22 := Bx.new nI; have := nJ.lt; clear eS nI
   have tL : OwnR kP (Sx (aA.heap.size) [obk (aL), obk (aY)]) cQ gG 3 (bk : List Int) := cU.imp (fun g _ hs => ⟨hs.2.1, hs.2.2.1, (by have := Sx_base hs; show aA.heap.size ≤ g; omega)⟩)
   have tM : OwnLL kP (aA.heap.size) [obk (cQ), obk (aL), obk (aY)] aB aJ 22 3 (xm : List (List Int)) := (hA.imp (fun g _ hs => ⟨hs.2.1, hs.2.2.1, hs.2.2.2.1, hs.2.2.2.2⟩))
   have aBW : (xm ++ [bk]).length = (xm).length + 1 := by simp
   refine At.act tK (appendLL (t := 23) (d := 90) (n := xm.length) (m := 1) (cc := 1) (ls := xm) (xs := bk) (bytes := 24) (by first | rfl | omega | (simp; done) | (simp; omega)) (by kernel_rfl) (by kernel_rfl) (nJ.as (by first | rfl | (simp; done))) tM tL ⟨cS.ne_new, cT.ne_new, (show aA.heap.size ≤ kP.heap.size by omega)⟩ (by omega) (by omega)) ?_
   rintro d_ v_ tN ⟨rfl, jA, nK, rfl, fW, nL, nM⟩
   refine ⟨_, rfl, fun aBX tO => ?_⟩
   clear tK; clear nJ cU tL tM; have := fW.size; replace dK := dK.gr fW (fun k hk => by have := hA.ge k hk; omega); replace dL := dL.gr fW (fun k hk => by have := hA.ge k hk; omega); replace dZ := dZ.gr fW (fun k hk => by have := hA.ge k hk; omega); replace cR := cR.gr fW (fun e => by have := hA.ge _ e; omega); replace dM := dM.gr fW (fun e => by have := hA.ge _ e; omega)
   replace cS : OwnR tN (Sx (aA.heap.size) [some (bY.heap.size), obk (cQ), obk (jA), obk (aY)]) aL bC 3 (xo ++ ([gI g.ow (i)]) : List Int) := cS.grA fW (fun k hk => hk.2.2.1) (fun k hk hs => ⟨hs.1, hs.2.1, own_repl nL hs.2.2.1 hk, hs.2.2.2.1, hs.2.2.2.2⟩)
   replace cT : OwnR tN (Sx (aA.heap.size) [some (bY.heap.size), obk (cQ), obk (jA), obk (aL)]) aY fV 3 (xp ++ ([gI g.pr (i)]) : List Int) := cT.grA fW (fun k hk => hk.2.2.1) (fun k hk hs => ⟨hs.1, hs.2.1, own_repl nL hs.2.2.1 hk, hs.2.2.2.1, hs.2.2.2.2⟩)
   clear hA fW nL
   refine At.rd tO 1 [[]] [(91, .pointer (some ⟨aD.heap.size, 2, none⟩))] [] (by kernel_rfl) trivial (fun aBY tP => ?_)
   clear tO
   refine At.store tP (t := 23) (b := aD.heap.size) (off := 2) (v := .slice jA ((xm ++ [bk]).length) nK) (by kernel_rfl) dM (by kernel_rfl) (fun aBZ yS fX nN tQ => ?_)
   clear tP
   replace nN : Bx yS (aD.heap.size) [.slice aL ((xo ++ ([gI g.ow (i)])).length) bC, .slice aY ((xp ++ ([gI g.pr (i)])).length) fV, .slice jA ((xm ++ [bk]).length) nK] 25 := nN
   have := fX.size; replace dK := dK.gr fX (fun k h => by injection h; omega); replace dL := dL.gb fX (by omega); replace dZ := dZ.gb fX (by omega); replace cR := cR.gb fX (by omega); replace cS := cS.gr fX (fun k hk e => by have := Sx_base hk; injection e; omega); replace cT := cT.gr fX (fun k hk e => by have := Sx_base hk; injection e; omega)
   replace nM := nM.gr fX (fun k hk e => by have := Sx_base hk; injection e; omega); clear dM fX
   refine At.done rfl ?_
   refine b_n ?_
   refine t_n ?_
   refine At.start ?_
   refine At.rd tQ 3 [[], [.as_ (.int .i64 (i - 1))], []] [(8, .int .i64 (i - 1)), (40, .int .i64 (i - 1)), (39, .int .i64 (i))] [((.int .i64 (IntKind.i64.wrap (i - 1)) : Value) = .int .i64 (i - 1))] (by kernel_rfl) ⟨(w64 (by omega) (by omega)), trivial⟩ (fun aCa yT => ?_)
   clear tQ
   refine At.done rfl ?_
   refine t_n ?_
   have yU := yT.sub (r := [(8, .int .i64 (i - 1)), (7, .pointer (some ⟨aD.heap.size, 0, none⟩)), (6, .int .i64 (((g.ow.length : Nat) : Int))), (2, .bool false), (1, .pointer (some ⟨w.heap.size, 0, none⟩))]) ⟨rfl, rfl, rfl, rfl, rfl, trivial⟩
   exact ⟨_, (by omega), (i - 1), (xo ++ ([gI g.ow (i)]) : List Int), aL, bC, (xp ++ ([gI g.pr (i)]) : List Int), aY, fV, (xm ++ [bk] : List (List Int)), jA, nK, rfl, yU, dK, dL, dZ, cR, nN, (cS.imp (fun g _ hs => ⟨hs.2.2.1, hs.2.2.2.1, hs.2.2.2.2⟩)), (cT.imp (fun g _ hs => ⟨hs.2.2.1, hs.2.2.2.1, hs.2.2.2.2⟩)), nM, (by omega), (by omega), (lim_down hxo (by omega) (by show _ = gI g.ow _; congr 1; omega)), (lim_down hxp (by omega) (by show _ = gI g.pr _; congr 1; omega)), (lim_down hxm (by omega) (by rw [hbe]; show _ = movR g _; congr 1; omega)), (by omega)⟩
  refine OneH.seq kH [[]] [(58, .slice (some ⟨bO.heap.size, 0, none⟩) 1 1)] (bO.alloc (.cells #[.int .i64 (gI g.pr (i))] 3 (0, 0))) [] #[true, false, true, true, true, true, true, true, false, false, false] (by kernel_rfl) (by kernel_rfl) (by kernel_rfl) trivial (fun aCb jB nO tR => ?_)
  clear kH; have eT := gr_alloc nO; have nP := kG.gr eT
  refine ⟨nP, ?_⟩
  have := eT.size; replace aG := aG.gn eT; replace aC := aC.gn eT; replace aF := aF.gn eT; replace aH := aH.gn eT; replace bH := bH.gn eT; replace aQ := aQ.grN eT; replace aE := aE.grN eT; replace aI := aI.grN eT; have nQ : Bx jB (bO.heap.size) [.int .i64 (gI g.pr (i))] 3 := Bx.new nO; have := nQ.lt; clear eT nO
  refine AtH.all [1] 3 (by kernel_rfl) (by simp) ⟨?_, trivial⟩
  refine OneH.seq tR [[.ld (.slice aO xp.length aV)]] [(52, .slice aO xp.length aV)] jB [(jB.cell? ⟨aD.heap.size, 1, none⟩ = some (.slice aO xp.length aV))] #[true, true, true, true, true, true, true, true, false, false, false] (by kernel_rfl) (by kernel_rfl) (by kernel_rfl) ⟨(bH.cell (i := 1) rfl), trivial⟩ (fun aCc yV yW tS => ?_)
  obtain rfl : jB = yV := yW.symm
  clear tR
  refine ⟨nP, ?_⟩
  refine AtH.all [8] 2 (by kernel_rfl) (by simp) ⟨?_, trivial⟩
  have yX : (xp ++ ([gI g.pr (i)])).length = (xp).length + ([gI g.pr (i)] : List Int).length := List.length_append
  simp only [List.length_cons, List.length_nil] at yX
  refine OneH.act tS #[true, true, true, true, true, true, true, true, true, false, false] (by kernel_rfl) (appendR (α := Int) (t := 22) (d := 59) (n := xp.length) (m := 1) (cc := 1) (xs := xp) (ys := [gI g.pr (i)]) (bytes := 8) (by first | rfl | omega | (simp; done) | (simp; omega)) (by first | rfl | omega | (simp; done) | (simp; omega)) (by kernel_rfl) rfl (by kernel_rfl) aE (Bx.srcR (l := ([gI g.pr (i)] : List Int)) nQ rfl) (by simp only [List.length_cons, List.length_nil]; omega) (by simp only [List.length_cons, List.length_nil]; omega)) ?_
  rintro d_ v_ tT ⟨rfl, aZ, fY, iD⟩
  obtain rfl := iD.val
  have fI := iD.gr
  have nR := nP.grO fI (by rw [gX]; exact ⟨(fun e => by have := aE.ge _ e; simp only [add_block] at this; omega), (fun e => by have := aE.ge _ e; simp only [add_block] at this; omega), trivial⟩)
  refine ⟨_, rfl, fun aCd tU => ⟨nR, ?_⟩⟩
  clear tS; clear nQ
  have iE := iD.own (Sx (aA.heap.size) [obk (aB), obk (aL)]) (fun g _ hs => ⟨hs.2.2.1, hs.2.2.2.1, hs.2.2.2.2⟩) ⟨aI.ne_new, aQ.ne_new, (show aA.heap.size ≤ jB.heap.size by omega)⟩
  have := fI.size; replace aG := aG.gr fI (fun k hk => by have := aE.ge k hk; omega); replace aC := aC.gr fI (fun k hk => by have := aE.ge k hk; omega); replace aF := aF.gr fI (fun k hk => by have := aE.ge k hk; omega); replace aH := aH.gr fI (fun e => by have := aE.ge _ e; omega); replace bH := bH.gr fI (fun e => by have := aE.ge _ e; omega)
  replace aQ : OwnR tT (Sx (aA.heap.size) [some (bO.heap.size), obk (aB), obk (aZ)]) aL bC 3 (xo ++ ([gI g.ow (i)]) : List Int) := aQ.grA fI (fun k hk => hk.2.2.1) (fun k hk hs => ⟨hs.1, hs.2.1, own_repl iD.at_ hs.2.2.1 hk, hs.2.2.2⟩)
  replace aI : OwnLL tT (aA.heap.size) [some (bO.heap.size), some (bA.heap.size), obk (aL), obk (aZ)] aB aJ 22 3 (xm : List (List Int)) := aI.grA fI (fun k hk => hk.2.2.2.1) (fun k hk hs => ⟨hs.1, hs.2.1, hs.2.2.1, own_repl iD.at_ hs.2.2.2.1 hk, hs.2.2.2.2⟩)
  clear aE fI iD
  refine AtH.rd (by kernel_rfl) (fun d v c a w h => by cases d <;> exact h) nR [9] [[]] [(60, .pointer (some ⟨aD.heap.size, 1, none⟩))] #[true, true, true, true, true, true, true, true, true, true, false] [] 1 tU (by kernel_rfl) trivial (fun aCe tV => ?_)
  clear tU
  refine AtH.all [10] 0 (by kernel_rfl) (by simp) ⟨?_, trivial⟩
  refine OneH.store tV (t := 22) (b := aD.heap.size) (off := 1) (v := .slice aZ ((xp ++ ([gI g.pr (i)])).length) fY) #[true, true, true, true, true, true, true, true, true, true, true] (by kernel_rfl) (by kernel_rfl) bH (by kernel_rfl) (fun aCf eB fJ kQ tW => ?_)
  clear tV
  replace kQ : Bx eB (aD.heap.size) [.slice aL ((xo ++ ([gI g.ow (i)])).length) bC, .slice aZ ((xp ++ ([gI g.pr (i)])).length) fY, .slice aB xm.length aJ] 25 := kQ
  have tX := nR.gr' fJ (by rw [gX]; exact ⟨(by simp only [add_block]; omega), (by simp only [add_block]; omega), trivial⟩); have := fJ.size; replace aG := aG.gr fJ (fun k h => by injection h; omega); replace aC := aC.gb fJ (by omega); replace aF := aF.gb fJ (by omega); replace aH := aH.gb fJ (by omega); replace aQ := aQ.gr fJ (fun k hk e => by have := Sx_base hk; injection e; omega)
  replace iE := iE.gr fJ (fun k hk e => by have := Sx_base hk; injection e; omega); replace aI := aI.gr fJ (fun k hk e => by have := Sx_base hk; injection e; omega); clear bH fJ
  refine ⟨tX, ?_⟩
  refine AtH.done (by kernel_rfl) ?_
  clear tX
  refine t_n ?_
  refine wp_seq ?_
  refine At.start ?_
  refine At.rd tW 1 [[]] [(9, .slice none 0 0)] [] (by kernel_rfl) trivial (fun aCg tY => ?_)
  clear tW
  refine At.done rfl ?_
  refine t_n ?_
  refine wp_seq ?_
  refine wp_seq ?_
  have hrl_ := row_len hG (i := i) (by omega) (by omega)
  refine At.start ?_
  obtain ⟨kR, nS, nT, yY, _, _, yZ, aCh, tZ⟩ := RdII.get aC.mv (i) (by omega) (by omega)
  have aCi := tZ.len
  refine At.rd tY 8 [[], [.ld (.slice Ag2 g.mv.length cg2)], [], [.ad kR], [.ld (.slice nS ((gL g.mv (i)).length) nT)], [], [.as_ (.int .i64 ((((gL g.mv (i)).length : Nat) : Int) - 1))], []] [(10, .int .i64 ((((gL g.mv (i)).length : Nat) : Int) - 1)), (67, .int .i64 ((((gL g.mv (i)).length : Nat) : Int) - 1)), (66, .int .i64 ((((gL g.mv (i)).length : Nat) : Int))), (65, .slice nS ((gL g.mv (i)).length) nT), (64, .pointer (some (kR.add ((i : Int).toNat * 1)))), (63, .int .i64 (i)), (62, .slice Ag2 g.mv.length cg2), (61, .pointer (some ⟨w.heap.size, 2, none⟩))] [(eB.cell? ⟨w.heap.size, 2, none⟩ = some (.slice Ag2 g.mv.length cg2)), (Ag2 = some kR), (0 ≤ (i : Int)), ((i : Int) < (g.mv.length : Nat)), (eB.cell? (kR.add ((i : Int).toNat * 1)) = some (.slice nS ((gL g.mv (i)).length) nT)), ((.int .i64 (IntKind.i64.wrap ((((gL g.mv (i)).length : Nat) : Int) - 1)) : Value) = .int .i64 ((((gL g.mv (i)).length : Nat) : Int) - 1))] (by kernel_rfl) ⟨(aH.cell (i := 2) rfl), yY, (by omega), (by omega), yZ, (w64 (by omega) (by omega)), trivial⟩ (fun aCj uA => ?_)
  clear tY
  refine At.done rfl ?_
  refine t_n ?_
  clear tZ
  have uB := uA.sub (r := [(10, .int .i64 ((((gL g.mv (i)).length : Nat) : Int) - 1)), (9, .slice none 0 0), (8, .int .i64 (i)), (7, .pointer (some ⟨aD.heap.size, 0, none⟩)), (6, .int .i64 (((g.ow.length : Nat) : Int))), (2, .bool false), (1, .pointer (some ⟨w.heap.size, 0, none⟩))]) ⟨rfl, rfl, rfl, rfl, rfl, rfl, rfl, trivial⟩
  clear uA
  refine wp_block ?_
  have uC : OwnR eB (Sx (eB.heap.size) [obk (aL), obk (aZ), obk (aB)]) none 0 3 ([] : List Int) := OwnR.nil
  replace aQ : OwnR eB (Sx (aA.heap.size) [obk none, some (bO.heap.size), obk (aB), obk (aZ)]) aL bC 3 (xo ++ ([gI g.ow (i)]) : List Int) := aQ.imp (fun g _ hs => ⟨by simp [obk], hs⟩)
  replace iE : OwnR eB (Sx (aA.heap.size) [obk none, obk (aB), obk (aL)]) aZ fY 3 (xp ++ ([gI g.pr (i)]) : List Int) := iE.imp (fun g _ hs => ⟨by simp [obk], hs⟩)
  replace aI : OwnLL eB (aA.heap.size) [obk none, some (bO.heap.size), some (bA.heap.size), obk (aL), obk (aZ)] aB aJ 22 3 (xm : List (List Int)) := aI.imp (fun g _ hs => ⟨by simp [obk], hs⟩)
  have uD := uB.as 9 (.slice none 0 0) (.slice none (([] : List Int).length) 0) rfl (slice_len (by first | rfl | omega | (simp; done) | (simp; omega))); clear uB
  have uE := uD.sub (r := [(9, .slice none (([] : List Int).length) 0), (10, .int .i64 ((((gL g.mv (i)).length : Nat) : Int) - 1)), (8, .int .i64 (i)), (7, .pointer (some ⟨aD.heap.size, 0, none⟩)), (6, .int .i64 (((g.ow.length : Nat) : Int))), (2, .bool false), (1, .pointer (some ⟨w.heap.size, 0, none⟩))]) ⟨rfl, rfl, rfl, rfl, rfl, rfl, rfl, trivial⟩
  refine loop_g (fun (m_ : Nat) a_ w_ => ∃ (q : Int) (bk : List Int) (cV : Option Addr) (gJ : Nat), m_ = (q + 1).toNat ∧ (Frm 125 a_ [(9, .slice cV bk.length gJ), (10, .int .i64 (q)), (8, .int .i64 (i)), (7, .pointer (some ⟨aD.heap.size, 0, none⟩)), (6, .int .i64 (((g.ow.length : Nat) : Int))), (2, .bool false), (1, .pointer (some ⟨w.heap.size, 0, none⟩))]) ∧ (Ext w w_) ∧ (RdG w_ 0 w.heap.size Ag0 Ag1 Ag2 cg0 cg1 cg2 g) ∧ (RdT w_ 0 w.heap.size) ∧ (Bx w_ (w.heap.size) [.slice Ag0 g.ow.length cg0, .slice Ag1 g.pr.length cg1, .slice Ag2 g.mv.length cg2] 25) ∧ (Bx w_ (aD.heap.size) [.slice aL ((xo ++ ([gI g.ow (i)])).length) bC, .slice aZ ((xp ++ ([gI g.pr (i)])).length) fY, .slice aB xm.length aJ] 25) ∧ (OwnR w_ (Sx (aA.heap.size) [obk (cV), obk (aB), obk (aZ)]) aL bC 3 (xo ++ ([gI g.ow (i)]) : List Int)) ∧ (OwnR w_ (Sx (aA.heap.size) [obk (cV), obk (aB), obk (aL)]) aZ fY 3 (xp ++ ([gI g.pr (i)]) : List Int)) ∧ (OwnLL w_ (aA.heap.size) [obk (cV), obk (aL), obk (aZ)] aB aJ 22 3 (xm : List (List Int))) ∧ (OwnR w_ (Sx (eB.heap.size) [obk (aL), obk (aZ), obk (aB)]) cV gJ 3 (bk : List Int)) ∧ (-1 ≤ q) ∧ (q ≤ (((gL g.mv i).length : Nat) : Int) - 1) ∧ (bk = limL (fun j => ((g.ow.length : Nat) : Int) - 1 - gI (gL g.mv i) ((((gL g.mv i).length : Nat) : Int) - 1 - j)) ((((gL g.mv i).length : Nat) : Int) - 1 - q)) ∧ (aA.heap.size ≤ w_.heap.size) ∧ (eB.heap.size ≤ w_.heap.size)) _ ⟨(((gL g.mv i).length : Nat) : Int) - 1, ([] : List Int), none, 0, rfl, uE, aG, aC, aF, aH, kQ, (aQ.imp (fun g _ hs => ⟨hs.1, hs.2.2.1, hs.2.2.2.1, hs.2.2.2.2⟩)), iE, (aI.imp (fun g _ hs => ⟨hs.1, hs.2.2.2.1, hs.2.2.2.2.1, hs.2.2.2.2.2⟩)), uC, (by omega), (Int.le_refl _), (by rw [show (((gL g.mv i).length : Nat) : Int) - 1 - ((((gL g.mv i).length : Nat) : Int) - 1) = 0 by omega]; rfl), (by omega), (by omega)⟩ ?_
  clear uE uD; clear aC; clear aF; clear aH; clear kQ; clear aQ; clear iE; clear aI; clear uC; clear aG
  intro m_ aCk bZ ⟨q, bk, cV, gJ, hm972, uF, dN, dO, eC, cW, dP, cX, cY, kS, cZ, i982, i983, hbk, i984, i985⟩
  have := dN.size; have := cW.lt; have := dP.lt
  refine wp_seq ?_
  refine wp_seq ?_
  refine At.start ?_
  refine At.rd uF 2 [[], []] [(69, .bool (decide ((q : Int) ≥ 0))), (68, .int .i64 (q))] [] (by kernel_rfl) trivial (fun aCl jC => ?_)
  clear uF
  refine At.done rfl ?_
  refine t_n ?_
  refine cond_S jC (t := decide ((q : Int) ≥ 0)) rfl (fun nU => ?_) (fun nU => ?_)
  ·have aCm := of_decide_eq_true nU
   refine wp_skip ?_
   refine t_n ?_
   refine wp_seq ?_
   refine wp_block ?_
   have hmk := hG.mv i (by omega) (by omega) q (by omega) (by omega); have hbl_ := congrArg List.length hbk
   rw [lim_len] at hbl_
   refine At.start ?_
   obtain ⟨kT, kU, nV, zA, _, _, zB, aCn, hB⟩ := RdII.get dO.mv (i) (by omega) (by omega)
   have aCo := hB.len
   obtain ⟨kV, zC, _, _, zD⟩ := RdI.get hB (q) (by omega) (by omega)
   refine At.rd jC 12 [[], [], [.as_ (.int .i64 (((g.ow.length : Nat) : Int) - 1))], [], [.ld (.slice Ag2 g.mv.length cg2)], [], [.ad kT], [.ld (.slice kU ((gL g.mv (i)).length) nV)], [], [.ad kV], [.ld (.int .i64 (gI (gL g.mv (i)) (q)))], [.as_ (.int .i64 ((((g.ow.length : Nat) : Int) - 1) - (gI (gL g.mv (i)) (q))))]] [(83, .int .i64 ((((g.ow.length : Nat) : Int) - 1) - (gI (gL g.mv (i)) (q)))), (82, .int .i64 (gI (gL g.mv (i)) (q))), (81, .pointer (some (kV.add ((q : Int).toNat * 1)))), (80, .int .i64 (q)), (79, .slice kU ((gL g.mv (i)).length) nV), (78, .pointer (some (kT.add ((i : Int).toNat * 1)))), (77, .int .i64 (i)), (76, .slice Ag2 g.mv.length cg2), (75, .pointer (some ⟨w.heap.size, 2, none⟩)), (74, .int .i64 (((g.ow.length : Nat) : Int) - 1)), (73, .int .i64 (((g.ow.length : Nat) : Int))), (72, .slice cV bk.length gJ)] [((.int .i64 (IntKind.i64.wrap (((g.ow.length : Nat) : Int) - 1)) : Value) = .int .i64 (((g.ow.length : Nat) : Int) - 1)), (bZ.cell? ⟨w.heap.size, 2, none⟩ = some (.slice Ag2 g.mv.length cg2)), (Ag2 = some kT), (0 ≤ (i : Int)), ((i : Int) < (g.mv.length : Nat)), (bZ.cell? (kT.add ((i : Int).toNat * 1)) = some (.slice kU ((gL g.mv (i)).length) nV)), (kU = some kV), (0 ≤ (q : Int)), ((q : Int) < ((gL g.mv (i)).length : Nat)), (bZ.cell? (kV.add ((q : Int).toNat * 1)) = some (.int .i64 (gI (gL g.mv (i)) (q)))), ((.int .i64 (IntKind.i64.wrap ((((g.ow.length : Nat) : Int) - 1) - (gI (gL g.mv (i)) (q)))) : Value) = .int .i64 ((((g.ow.length : Nat) : Int) - 1) - (gI (gL g.mv (i)) (q))))] (by kernel_rfl) ⟨(w64 (by omega) (by omega)), (cW.cell (i := 2) rfl), zA, (by omega), (by omega), zB, zC, (by omega), (by omega), zD, (w64 (by omega) (by omega)), trivial⟩ (fun aCp uG => ?_)
   clear jC
   refine At.seq uG 1 [[]] [(84, .slice (some ⟨bZ.heap.size, 0, none⟩) 1 1)] (bZ.alloc (.cells #[.int .i64 ((((g.ow.length : Nat) : Int) - 1) - (gI (gL g.mv (i)) (q)))] 3 (0, 0))) [] (by kernel_rfl) trivial (fun aCq uH nW uI => ?_)
   clear uG; have eD := gr_alloc nW; have := eD.size; replace dN := dN.gn eD; replace dO := dO.gn eD; replace eC := eC.gn eD; replace cW := cW.gn eD; replace dP := dP.gn eD; replace cX := cX.grN eD; replace cY := cY.grN eD; have kW := kS.grN eD; clear kS; replace cZ := cZ.grN eD; replace hB := hB.gn eD
   have nX : Bx uH (bZ.heap.size) [.int .i64 ((((g.ow.length : Nat) : Int) - 1) - (gI (gL g.mv (i)) (q)))] 3 := Bx.new nW; have := nX.lt; clear eD nW
   have zE : (bk ++ ([(((g.ow.length : Nat) : Int) - 1) - (gI (gL g.mv (i)) (q))])).length = (bk).length + ([(((g.ow.length : Nat) : Int) - 1) - (gI (gL g.mv (i)) (q))] : List Int).length := List.length_append
   simp only [List.length_cons, List.length_nil] at zE
   refine At.act uI (appendR (α := Int) (t := 22) (d := 85) (n := bk.length) (m := 1) (cc := 1) (xs := bk) (ys := [(((g.ow.length : Nat) : Int) - 1) - (gI (gL g.mv (i)) (q))]) (bytes := 8) (by first | rfl | omega | (simp; done) | (simp; omega)) (by first | rfl | omega | (simp; done) | (simp; omega)) (by kernel_rfl) rfl (by kernel_rfl) cZ (Bx.srcR (l := ([(((g.ow.length : Nat) : Int) - 1) - (gI (gL g.mv (i)) (q))] : List Int)) nX rfl) (by simp only [List.length_cons, List.length_nil]; omega) (by simp only [List.length_cons, List.length_nil]; omega)) ?_
   rintro d_ v_ nY ⟨rfl, gK, jD, hC⟩
   obtain rfl := hC.val
   have eU := hC.gr
   refine ⟨_, rfl, fun aCr uJ => ?_⟩
   clear uI; clear nX
   have zF := hC.own (Sx (eB.heap.size) [obk (aL), obk (aZ), obk (aB)]) (fun g _ hs => ⟨hs.2.1, hs.2.2.1, hs.2.2.2.1, hs.2.2.2.2⟩) ⟨cX.ne_new, cY.ne_new, kW.ne_new, (show eB.heap.size ≤ uH.heap.size by omega)⟩
   have := eU.size; replace dN := dN.gr eU (fun k hk => by have := cZ.ge k hk; omega); replace dO := dO.gr eU (fun k hk => by have := cZ.ge k hk; omega); replace eC := eC.gr eU (fun k hk => by have := cZ.ge k hk; omega); replace cW := cW.gr eU (fun e => by have := cZ.ge _ e; omega); replace dP := dP.gr eU (fun e => by have := cZ.ge _ e; omega)
   replace cX : OwnR nY (Sx (aA.heap.size) [some (bZ.heap.size), obk (gK), obk (aB), obk (aZ)]) aL bC 3 (xo ++ ([gI g.ow (i)]) : List Int) := cX.grA eU (fun k hk => hk.2.1) (fun k hk hs => ⟨hs.1, own_repl hC.at_ hs.2.1 hk, hs.2.2.1, hs.2.2.2.1, hs.2.2.2.2⟩)
   replace cY : OwnR nY (Sx (aA.heap.size) [some (bZ.heap.size), obk (gK), obk (aB), obk (aL)]) aZ fY 3 (xp ++ ([gI g.pr (i)]) : List Int) := cY.grA eU (fun k hk => hk.2.1) (fun k hk hs => ⟨hs.1, own_repl hC.at_ hs.2.1 hk, hs.2.2.1, hs.2.2.2.1, hs.2.2.2.2⟩)
   replace kW : OwnLL nY (aA.heap.size) [some (bZ.heap.size), obk (gK), obk (aL), obk (aZ)] aB aJ 22 3 (xm : List (List Int)) := kW.grA eU (fun k hk => hk.2.1) (fun k hk hs => ⟨hs.1, own_repl hC.at_ hs.2.1 hk, hs.2.2.1, hs.2.2.2.1, hs.2.2.2.2⟩)
   replace hB := hB.gr eU (fun k hk => by have := cZ.ge k hk; omega); clear cZ eU hC
   refine At.rd uJ 1 [[]] [(9, .slice gK ((bk ++ ([(((g.ow.length : Nat) : Int) - 1) - (gI (gL g.mv (i)) (q))])).length) jD)] [] (by kernel_rfl) trivial (fun aCs uK => ?_)
   clear uJ
   refine At.done rfl ?_
   refine b_n ?_
   refine t_n ?_
   clear hB
   refine At.start ?_
   refine At.rd uK 3 [[], [.as_ (.int .i64 (q - 1))], []] [(10, .int .i64 (q - 1)), (71, .int .i64 (q - 1)), (70, .int .i64 (q))] [((.int .i64 (IntKind.i64.wrap (q - 1)) : Value) = .int .i64 (q - 1))] (by kernel_rfl) ⟨(w64 (by omega) (by omega)), trivial⟩ (fun aCt uL => ?_)
   clear uK
   refine At.done rfl ?_
   refine t_n ?_
   have zG := uL.as 9 (.slice gK ((bk ++ ([(((g.ow.length : Nat) : Int) - 1) - (gI (gL g.mv (i)) (q))])).length) jD) (.slice gK ((bk ++ ([(((g.ow.length : Nat) : Int) - 1) - (gI (gL g.mv (i)) (q))]) : List Int).length) jD) rfl (slice_len (by first | rfl | omega | (simp; done) | (simp; omega)))
   clear uL
   have zH := zG.sub (r := [(9, .slice gK ((bk ++ ([(((g.ow.length : Nat) : Int) - 1) - (gI (gL g.mv (i)) (q))]) : List Int).length) jD), (10, .int .i64 (q - 1)), (8, .int .i64 (i)), (7, .pointer (some ⟨aD.heap.size, 0, none⟩)), (6, .int .i64 (((g.ow.length : Nat) : Int))), (2, .bool false), (1, .pointer (some ⟨w.heap.size, 0, none⟩))]) ⟨rfl, rfl, rfl, rfl, rfl, rfl, rfl, trivial⟩
   exact ⟨_, (by omega), (q - 1), (bk ++ ([(((g.ow.length : Nat) : Int) - 1) - (gI (gL g.mv (i)) (q))]) : List Int), gK, jD, rfl, zH, dN, dO, eC, cW, dP, (cX.imp (fun g _ hs => ⟨hs.2.1, hs.2.2.1, hs.2.2.2.1, hs.2.2.2.2⟩)), (cY.imp (fun g _ hs => ⟨hs.2.1, hs.2.2.1, hs.2.2.2.1, hs.2.2.2.2⟩)), (kW.imp (fun g _ hs => ⟨hs.2.1, hs.2.2.1, hs.2.2.2.1, hs.2.2.2.2⟩)), zF, (by omega), (by omega), (lim_down hbk (by omega) (by show _ = ((g.ow.length : Nat) : Int) - 1 - gI _ _; rw [show (((gL g.mv i).length : Nat) : Int) - 1 - ((((gL g.mv i).length : Nat) : Int) - 1 - q) = q by omega])), (by omega), (by omega)⟩
  have aCu := of_decide_eq_false nU
  refine wp_exit ?_
  refine t_e ?_
  refine t_e ?_
  refine b_e ?_
  refine t_n ?_
  have hxl2_ := congrArg List.length hxm
  rw [lim_len] at hxl2_
  have hbe : bk = movR g i := by rw [hbk, movR]; congr 1; omega
  have hbl_ := congrArg List.length hbe
  rw [movR_len] at hbl_
  refine At.start ?_
  refine At.rd jC 3 [[], [.ld (.slice aB xm.length aJ)], []] [(88, .slice cV bk.length gJ), (87, .slice aB xm.length aJ), (86, .pointer (some ⟨aD.heap.size, 2, none⟩))] [(bZ.cell? ⟨aD.heap.size, 2, none⟩ = some (.slice aB xm.length aJ))] (by kernel_rfl) ⟨(dP.cell (i := 2) rfl), trivial⟩ (fun aCv uM => ?_)
  clear jC
  refine At.seq uM 1 [[]] [(89, .slice (some ⟨bZ.heap.size, 0, none⟩) 1 1)] (bZ.alloc (.cells #[.slice cV bk.length gJ] 22 (0, 0))) [] (by kernel_rfl) trivial (fun aCw kX nZ uN => ?_)
  clear uM; have eV := gr_alloc nZ; have := eV.size; replace dN := dN.gn eV; replace dO := dO.gn eV; replace eC := eC.gn eV; replace cW := cW.gn eV; replace dP := dP.gn eV; replace cX := cX.grN eV; replace cY := cY.grN eV; have hD := kS.grN eV; clear kS; replace cZ := cZ.grN eV; have oA : Bx kX (bZ.heap.size) [.slice cV bk.length gJ] 22 := Bx.new nZ; have := oA.lt; clear eV nZ
  have uO : OwnR kX (Sx (aA.heap.size) [obk (aL), obk (aZ)]) cV gJ 3 (bk : List Int) := cZ.imp (fun g _ hs => ⟨hs.2.1, hs.2.2.1, (by have := Sx_base hs; show aA.heap.size ≤ g; omega)⟩)
  have uP : OwnLL kX (aA.heap.size) [obk (cV), obk (aL), obk (aZ)] aB aJ 22 3 (xm : List (List Int)) := (hD.imp (fun g _ hs => ⟨hs.2.1, hs.2.2.1, hs.2.2.2.1, hs.2.2.2.2⟩))
  have aCx : (xm ++ [bk]).length = (xm).length + 1 := by simp
  refine At.act uN (appendLL (t := 23) (d := 90) (n := xm.length) (m := 1) (cc := 1) (ls := xm) (xs := bk) (bytes := 24) (by first | rfl | omega | (simp; done) | (simp; omega)) (by kernel_rfl) (by kernel_rfl) (oA.as (by first | rfl | (simp; done))) uP uO ⟨cX.ne_new, cY.ne_new, (show aA.heap.size ≤ kX.heap.size by omega)⟩ (by omega) (by omega)) ?_
  rintro d_ v_ uQ ⟨rfl, jE, oB, rfl, fZ, oC, oD⟩
  refine ⟨_, rfl, fun aCy uR => ?_⟩
  clear uN; clear oA cZ uO uP; have := fZ.size; replace dN := dN.gr fZ (fun k hk => by have := hD.ge k hk; omega); replace dO := dO.gr fZ (fun k hk => by have := hD.ge k hk; omega); replace eC := eC.gr fZ (fun k hk => by have := hD.ge k hk; omega); replace cW := cW.gr fZ (fun e => by have := hD.ge _ e; omega); replace dP := dP.gr fZ (fun e => by have := hD.ge _ e; omega)
  replace cX : OwnR uQ (Sx (aA.heap.size) [some (bZ.heap.size), obk (cV), obk (jE), obk (aZ)]) aL bC 3 (xo ++ ([gI g.ow (i)]) : List Int) := cX.grA fZ (fun k hk => hk.2.2.1) (fun k hk hs => ⟨hs.1, hs.2.1, own_repl oC hs.2.2.1 hk, hs.2.2.2.1, hs.2.2.2.2⟩)
  replace cY : OwnR uQ (Sx (aA.heap.size) [some (bZ.heap.size), obk (cV), obk (jE), obk (aL)]) aZ fY 3 (xp ++ ([gI g.pr (i)]) : List Int) := cY.grA fZ (fun k hk => hk.2.2.1) (fun k hk hs => ⟨hs.1, hs.2.1, own_repl oC hs.2.2.1 hk, hs.2.2.2.1, hs.2.2.2.2⟩)
  clear hD fZ oC
  refine At.rd uR 1 [[]] [(91, .pointer (some ⟨aD.heap.size, 2, none⟩))] [] (by kernel_rfl) trivial (fun aCz uS => ?_)
  clear uR
  refine At.store uS (t := 23) (b := aD.heap.size) (off := 2) (v := .slice jE ((xm ++ [bk]).length) oB) (by kernel_rfl) dP (by kernel_rfl) (fun aCA zI gA oE uT => ?_)
  clear uS
  replace oE : Bx zI (aD.heap.size) [.slice aL ((xo ++ ([gI g.ow (i)])).length) bC, .slice aZ ((xp ++ ([gI g.pr (i)])).length) fY, .slice jE ((xm ++ [bk]).length) oB] 25 := oE
  have := gA.size; replace dN := dN.gr gA (fun k h => by injection h; omega); replace dO := dO.gb gA (by omega); replace eC := eC.gb gA (by omega); replace cW := cW.gb gA (by omega); replace cX := cX.gr gA (fun k hk e => by have := Sx_base hk; injection e; omega); replace cY := cY.gr gA (fun k hk e => by have := Sx_base hk; injection e; omega)
  replace oD := oD.gr gA (fun k hk e => by have := Sx_base hk; injection e; omega); clear dP gA
  refine At.done rfl ?_
  refine b_n ?_
  refine t_n ?_
  refine At.start ?_
  refine At.rd uT 3 [[], [.as_ (.int .i64 (i - 1))], []] [(8, .int .i64 (i - 1)), (40, .int .i64 (i - 1)), (39, .int .i64 (i))] [((.int .i64 (IntKind.i64.wrap (i - 1)) : Value) = .int .i64 (i - 1))] (by kernel_rfl) ⟨(w64 (by omega) (by omega)), trivial⟩ (fun aCB zJ => ?_)
  clear uT
  refine At.done rfl ?_
  refine t_n ?_
  have zK := zJ.sub (r := [(8, .int .i64 (i - 1)), (7, .pointer (some ⟨aD.heap.size, 0, none⟩)), (6, .int .i64 (((g.ow.length : Nat) : Int))), (2, .bool false), (1, .pointer (some ⟨w.heap.size, 0, none⟩))]) ⟨rfl, rfl, rfl, rfl, rfl, trivial⟩
  exact ⟨_, (by omega), (i - 1), (xo ++ ([gI g.ow (i)]) : List Int), aL, bC, (xp ++ ([gI g.pr (i)]) : List Int), aZ, fY, (xm ++ [bk] : List (List Int)), jE, oB, rfl, zK, dN, dO, eC, cW, oE, (cX.imp (fun g _ hs => ⟨hs.2.2.1, hs.2.2.2.1, hs.2.2.2.2⟩)), (cY.imp (fun g _ hs => ⟨hs.2.2.1, hs.2.2.2.1, hs.2.2.2.2⟩)), oD, (by omega), (by omega), (lim_down hxo (by omega) (by show _ = gI g.ow _; congr 1; omega)), (lim_down hxp (by omega) (by show _ = gI g.pr _; congr 1; omega)), (lim_down hxm (by omega) (by rw [hbe]; show _ = movR g _; congr 1; omega)), (by omega)⟩
 have aCC := of_decide_eq_false lJ
 refine wp_exit ?_
 refine t_e ?_
 refine t_e ?_
 refine b_e ?_
 refine t_n ?_
 refine wp_seq ?_
 refine At.start ?_
 refine At.rd iM 1 [[.ld (.slice Ag0 g.ow.length cg0), .ld (.slice Ag1 g.pr.length cg1), .ld (.slice Ag2 g.mv.length cg2)]] [(93, .agg #[.slice Ag0 g.ow.length cg0, .slice Ag1 g.pr.length cg1, .slice Ag2 g.mv.length cg2])] [(dR.cell? ⟨w.heap.size, 0, none⟩ = some (.slice Ag0 g.ow.length cg0)), (dR.cell? ⟨w.heap.size, 1, none⟩ = some (.slice Ag1 g.pr.length cg1)), (dR.cell? ⟨w.heap.size, 2, none⟩ = some (.slice Ag2 g.mv.length cg2))] (by kernel_rfl) ⟨(aH.cell (i := 0) rfl), (aH.cell (i := 1) rfl), (aH.cell (i := 2) rfl), trivial⟩ (fun aCD uU => ?_)
 clear iM
 refine At.call uU 16 #[.agg #[.slice Ag0 g.ow.length cg0, .slice Ag1 g.pr.length cg1, .slice Ag2 g.mv.length cg2]] (some 94) (by kernel_rfl) (solve_any (g := g) (aC.wide (Nat.zero_le _) (by omega)) (aF.wide (Nat.zero_le _) (by omega))) ?_
 rintro e_ bD ⟨fK, gM, iF, kY, iG, kZ, iH, lA, la, lb, ma, mb, da, rfl, he, uV, uW, uX, uY, hsA⟩
 have hln_hsA := solve_lens hsA; have aR : RdI bD (dR.heap.size) bD.heap.size fK la := (OwnR.rdR uV (by show _ * 8 ≤ _; omega)).rdI; clear uV; have aS : RdI bD (dR.heap.size) bD.heap.size iF lb := (OwnR.rdR uW (by show _ * 8 ≤ _; omega)).rdI; clear uW; have aT : RdI bD (dR.heap.size) bD.heap.size iG ma := (OwnR.rdR uX (by show _ * 8 ≤ _; omega)).rdI; clear uX
 have aU : RdI bD (dR.heap.size) bD.heap.size iH mb := (OwnR.rdR uY (by show _ * 8 ≤ _; omega)).rdI; clear uY
 refine ⟨_, rfl, _, rfl, fun aCE uZ => ?_⟩
 clear uU; have fL := gr_ext he; have := fL.size; replace aG := aG.gn fL; replace aC := aC.gn fL; replace aF := aF.gn fL; replace aH := aH.gn fL; replace aN := aN.gn fL; replace aM := aM.gn fL; replace aE := aE.gn fL; have dQ := jI.gn fL; clear jI; clear fL he
 refine At.rd uZ 3 [[], [], []] [(96, .int .i64 (da)), (95, .agg #[.slice fK la.length gM, .slice iF lb.length kY, .slice iG ma.length kZ, .slice iH mb.length lA]), (92, .tuple #[.agg #[.slice fK la.length gM, .slice iF lb.length kY, .slice iG ma.length kZ, .slice iH mb.length lA], .int .i64 (da)])] [] (by kernel_rfl) trivial (fun aCF vA => ?_)
 clear uZ
 refine At.seq vA 1 [[]] [(11, .pointer (some ⟨bD.heap.size, 0, none⟩))] (bD.alloc (.cells #[.slice none 0 0, .slice none 0 0, .slice none 0 0, .slice none 0 0] 32 (0, 0))) [] (by kernel_rfl) trivial (fun aCG zL oF vB => ?_)
 clear vA; have dA := gr_alloc oF; have := dA.size; replace aG := aG.gn dA; replace aC := aC.gn dA; replace aF := aF.gn dA; replace aH := aH.gn dA; replace aN := aN.gn dA; replace aM := aM.grN dA; replace aE := aE.grN dA; replace dQ := dQ.grN dA; replace aR := aR.gn dA; replace aS := aS.gn dA; replace aT := aT.gn dA; replace aU := aU.gn dA
 have oG : Bx zL (bD.heap.size) [.slice none 0 0, .slice none 0 0, .slice none 0 0, .slice none 0 0] 32 := Bx.new oF; have := oG.lt; clear dA oF
 refine At.store vB (t := 32) (b := bD.heap.size) (off := 0) (v := .agg #[.slice fK la.length gM, .slice iF lb.length kY, .slice iG ma.length kZ, .slice iH mb.length lA]) (by kernel_rfl) oG (by kernel_rfl) (fun aCH eE dB bQ vC => ?_)
 clear vB; replace bQ : Bx eE (bD.heap.size) [.slice fK la.length gM, .slice iF lb.length kY, .slice iG ma.length kZ, .slice iH mb.length lA] 32 := bQ; have := dB.size; replace aG := aG.gr dB (fun k h => by injection h; omega); replace aC := aC.gb dB (by omega); replace aF := aF.gb dB (by omega); replace aH := aH.gb dB (by omega); replace aN := aN.gb dB (by omega)
 replace aM := aM.gr dB (fun k hk => hk.1); replace aE := aE.gr dB (fun k hk => hk.1); replace dQ := dQ.gr dB (fun k hk => hk.1); replace aR := aR.gb dB (by omega); replace aS := aS.gb dB (by omega); replace aT := aT.gb dB (by omega); replace aU := aU.gb dB (by omega); clear oG dB
 refine At.rd vC 1 [[]] [(12, .int .i64 (da))] [] (by kernel_rfl) trivial (fun aCI vD => ?_)
 clear vC
 refine At.done rfl ?_
 refine t_n ?_
 clear aH
 refine wp_seq ?_
 have hMT := mov_t hxo hxp hxm (by omega); have hipx := mov_inner hG hMT; have hxl0_ := congrArg List.length hxo; have hxl1_ := congrArg List.length hxp; have hxl2_ := congrArg List.length hxm
 rw [lim_len] at hxl0_ hxl1_ hxl2_
 refine At.start ?_
 refine At.rd vD 1 [[.ld (.slice bV xo.length dD), .ld (.slice aO xp.length aV), .ld (.slice aB xm.length aJ)]] [(98, .agg #[.slice bV xo.length dD, .slice aO xp.length aV, .slice aB xm.length aJ])] [(eE.cell? ⟨aD.heap.size, 0, none⟩ = some (.slice bV xo.length dD)), (eE.cell? ⟨aD.heap.size, 1, none⟩ = some (.slice aO xp.length aV)), (eE.cell? ⟨aD.heap.size, 2, none⟩ = some (.slice aB xm.length aJ))] (by kernel_rfl) ⟨(aN.cell (i := 0) rfl), (aN.cell (i := 1) rfl), (aN.cell (i := 2) rfl), trivial⟩ (fun aCJ vE => ?_)
 clear vD
 refine At.call vE 16 #[.agg #[.slice bV xo.length dD, .slice aO xp.length aV, .slice aB xm.length aJ]] (some 99) (by kernel_rfl) (solve_any (g := (⟨xo, xp, xm⟩ : GameL)) (RdG.mk (G := (⟨xo, xp, xm⟩ : GameL)) (aM.rdI0 (by first | omega | (simp only [List.length_cons, List.length_nil]; omega) | (simp; done) | (simp; omega))) (aE.rdI0 (by first | omega | (simp only [List.length_cons, List.length_nil]; omega) | (simp; done) | (simp; omega))) (dQ.rdII0 (by first | omega | (simp only [List.length_cons, List.length_nil]; omega) | (simp; done) | (simp; omega)) (by assumption)) aM.cap aE.cap dQ.cap) (aF.wide (Nat.zero_le _) (by omega))) ?_
 rintro e_ bE ⟨fM, gN, iI, lB, iJ, lC, iK, lD, lc, ld, mc, md, db, rfl, he, vF, vG, vH, vI, hsB⟩
 have hln_hsB := solve_lens hsB; have bF : RdI bE (eE.heap.size) bE.heap.size fM lc := (OwnR.rdR vF (by show _ * 8 ≤ _; omega)).rdI; clear vF; have bI : RdI bE (eE.heap.size) bE.heap.size iI ld := (OwnR.rdR vG (by show _ * 8 ≤ _; omega)).rdI; clear vG; have bJ : RdI bE (eE.heap.size) bE.heap.size iJ mc := (OwnR.rdR vH (by show _ * 8 ≤ _; omega)).rdI; clear vH
 have bK : RdI bE (eE.heap.size) bE.heap.size iK md := (OwnR.rdR vI (by show _ * 8 ≤ _; omega)).rdI; clear vI
 refine ⟨_, rfl, _, rfl, fun aCK vJ => ?_⟩
 clear vE; have dC := gr_ext he; have := dC.size; replace aG := aG.gn dC; replace aC := aC.gn dC; replace aF := aF.gn dC; replace aN := aN.gn dC; replace aM := aM.gn dC; replace aE := aE.gn dC; replace dQ := dQ.gn dC; replace aR := aR.gn dC; replace aS := aS.gn dC; replace aT := aT.gn dC; replace aU := aU.gn dC; replace bQ := bQ.gn dC; clear dC he
 refine At.rd vJ 3 [[], [], []] [(101, .int .i64 (db)), (100, .agg #[.slice fM lc.length gN, .slice iI ld.length lB, .slice iJ mc.length lC, .slice iK md.length lD]), (97, .tuple #[.agg #[.slice fM lc.length gN, .slice iI ld.length lB, .slice iJ mc.length lC, .slice iK md.length lD], .int .i64 (db)])] [] (by kernel_rfl) trivial (fun aCL vK => ?_)
 clear vJ
 refine At.seq vK 1 [[]] [(13, .pointer (some ⟨bE.heap.size, 0, none⟩))] (bE.alloc (.cells #[.slice none 0 0, .slice none 0 0, .slice none 0 0, .slice none 0 0] 32 (0, 0))) [] (by kernel_rfl) trivial (fun aCM zM oH vL => ?_)
 clear vK; have bL := gr_alloc oH; have := bL.size; replace aG := aG.gn bL; replace aC := aC.gn bL; replace aF := aF.gn bL; replace aN := aN.gn bL; replace aM := aM.grN bL; replace aE := aE.grN bL; replace dQ := dQ.grN bL; replace aR := aR.gn bL; replace aS := aS.gn bL; replace aT := aT.gn bL; replace aU := aU.gn bL; replace bQ := bQ.gn bL; replace bF := bF.gn bL; replace bI := bI.gn bL
 replace bJ := bJ.gn bL; replace bK := bK.gn bL; have oI : Bx zM (bE.heap.size) [.slice none 0 0, .slice none 0 0, .slice none 0 0, .slice none 0 0] 32 := Bx.new oH; have := oI.lt; clear bL oH
 refine At.store vL (t := 32) (b := bE.heap.size) (off := 0) (v := .agg #[.slice fM lc.length gN, .slice iI ld.length lB, .slice iJ mc.length lC, .slice iK md.length lD]) (by kernel_rfl) oI (by kernel_rfl) (fun aCN vM bM bR vN => ?_)
 clear vL; replace bR : Bx vM (bE.heap.size) [.slice fM lc.length gN, .slice iI ld.length lB, .slice iJ mc.length lC, .slice iK md.length lD] 32 := bR; have := bM.size; replace aG := aG.gr bM (fun k h => by injection h; omega); replace aC := aC.gb bM (by omega); replace aF := aF.gb bM (by omega); replace aN := aN.gb bM (by omega); replace aM := aM.gr bM (fun k hk => hk.1)
 replace aE := aE.gr bM (fun k hk => hk.1); replace dQ := dQ.gr bM (fun k hk => hk.1); replace aR := aR.gb bM (by omega); replace aS := aS.gb bM (by omega); replace aT := aT.gb bM (by omega); replace aU := aU.gb bM (by omega); replace bQ := bQ.gb bM (by omega); replace bF := bF.gb bM (by omega); replace bI := bI.gb bM (by omega); replace bJ := bJ.gb bM (by omega); replace bK := bK.gb bM (by omega)
 clear oI bM
 refine At.rd vN 1 [[]] [(14, .int .i64 (db))] [] (by kernel_rfl) trivial (fun aCO vO => ?_)
 clear vN
 refine At.done rfl ?_
 refine t_n ?_
 clear aN; clear aM; clear aE; clear dQ
 refine wp_seq ?_
 refine At.start ?_
 refine At.rd vO 3 [[], [], [.ld (.slice fK la.length gM)]] [(104, .slice fK la.length gM), (103, .pointer (some ⟨bD.heap.size, 0, none⟩)), (102, .pointer (some ⟨bD.heap.size, 0, none⟩))] [(0 ≤ (0 : Int)), ((0 : Int) < (2 : Nat)), (vM.cell? ⟨bD.heap.size, 0, none⟩ = some (.slice fK la.length gM))] (by kernel_rfl) ⟨(by decide), (by decide), (bQ.cell (i := 0) rfl), trivial⟩ (fun aCP vP => ?_)
 clear vO
 refine At.call vP 22 #[.slice fK la.length gM] (some 105) (by kernel_rfl) (of_any (la := la) (aR.wide (Nat.zero_le _) (by omega))) ?_
 rintro e_ eW ⟨rfl, he⟩
 refine ⟨_, rfl, _, rfl, fun aCQ vQ => ?_⟩
 clear vP; have cA := gr_ext he; have := cA.size; replace aG := aG.gn cA; replace aC := aC.gn cA; replace aF := aF.gn cA; replace aR := aR.gn cA; replace aS := aS.gn cA; replace aT := aT.gn cA; replace aU := aU.gn cA; replace bQ := bQ.gn cA; replace bF := bF.gn cA; replace bI := bI.gn cA; replace bJ := bJ.gn cA; replace bK := bK.gn cA; replace bR := bR.gn cA; clear cA he
 refine At.seq vQ 1 [[]] [(15, .pointer (some ⟨eW.heap.size, 0, none⟩))] (eW.alloc (.cells ((List.replicate 4 (0 : Int) : List Int).map wV).toArray 44 (0, 0))) [] (by kernel_rfl) trivial (fun aCR zN oJ vR => ?_)
 clear vQ; have cB := gr_alloc oJ; have := cB.size; replace aG := aG.gn cB; replace aC := aC.gn cB; replace aF := aF.gn cB; replace aR := aR.gn cB; replace aS := aS.gn cB; replace aT := aT.gn cB; replace aU := aU.gn cB; replace bQ := bQ.gn cB; replace bF := bF.gn cB; replace bI := bI.gn cB; replace bJ := bJ.gn cB; replace bK := bK.gn cB; replace bR := bR.gn cB
 have oK : Bx zN (eW.heap.size) ((List.replicate 4 (0 : Int) : List Int).map wV) 44 := Bx.new oJ; have := oK.lt; clear cB oJ
 refine At.act vR (storeBlk (t := 44) (b := eW.heap.size) (n := 4) (cs' := ((ofW la : List Int).map wV)) (by kernel_rfl) (by kernel_rfl) ((List.length_map _).trans (okLen (ofW_ok _))) oneW_ ((show ((ofW la : List Int).map wV).length = 4 from ((List.length_map _).trans (okLen (ofW_ok _)))).trans (show ((List.replicate 4 (0 : Int) : List Int).map wV).length = 4 from (by simp only [List.length_map, List.length_set, List.length_replicate, List.length_cons, List.length_nil]; first | done | assumption | exact from_len _ | exact of_len _ | exact ofZ_len _ | exact (ofW_ok _).1 | exact (fullW_W _).1 | exact (okW_with (by assumption)).1 | exact (okW_less (by assumption)).1 | exact put_len (from_len _) | exact orD_len _ _ | exact andD_len _ _ | exact minusD_len _ _ | exact fullD_len _ | (refine okLen ?_; (repeat (first | assumption | exact ofW_ok _ | exact fullW_W _ | apply okW_with | apply okW_less | refine okW_orS ?_ ?_ | refine okW_andS ?_ ?_ | refine okW_minusS ?_ ?_)); done) | omega | rfl)).symm) oK) ?_
 rintro d_ v_ zO ⟨rfl, cC, gO⟩
 refine ⟨_, rfl, fun aCS vS => ?_⟩
 clear vR; have := cC.size; replace aG := aG.gr cC (fun k h => by injection h; omega); replace aC := aC.gb cC (by omega); replace aF := aF.gb cC (by omega); replace aR := aR.gb cC (by omega); replace aS := aS.gb cC (by omega); replace aT := aT.gb cC (by omega); replace aU := aU.gb cC (by omega); replace bQ := bQ.gb cC (by omega); replace bF := bF.gb cC (by omega); replace bI := bI.gb cC (by omega)
 replace bJ := bJ.gb cC (by omega); replace bK := bK.gb cC (by omega); replace bR := bR.gb cC (by omega); clear oK cC
 refine At.done rfl ?_
 refine t_n ?_
 clear bQ
 refine wp_seq ?_
 refine At.start ?_
 refine At.rd vS 3 [[], [], [.ld (.slice fM lc.length gN)]] [(108, .slice fM lc.length gN), (107, .pointer (some ⟨bE.heap.size, 0, none⟩)), (106, .pointer (some ⟨bE.heap.size, 0, none⟩))] [(0 ≤ (0 : Int)), ((0 : Int) < (2 : Nat)), (zO.cell? ⟨bE.heap.size, 0, none⟩ = some (.slice fM lc.length gN))] (by kernel_rfl) ⟨(by decide), (by decide), (bR.cell (i := 0) rfl), trivial⟩ (fun aCT vT => ?_)
 clear vS
 refine At.call vT 22 #[.slice fM lc.length gN] (some 109) (by kernel_rfl) (of_any (la := lc) (bF.wide (Nat.zero_le _) (by omega))) ?_
 rintro e_ eX ⟨rfl, he⟩
 refine ⟨_, rfl, _, rfl, fun aCU vU => ?_⟩
 clear vT; have cD := gr_ext he; have := cD.size; replace aG := aG.gn cD; replace aC := aC.gn cD; replace aF := aF.gn cD; replace aR := aR.gn cD; replace aS := aS.gn cD; replace aT := aT.gn cD; replace aU := aU.gn cD; replace bF := bF.gn cD; replace bI := bI.gn cD; replace bJ := bJ.gn cD; replace bK := bK.gn cD; replace bR := bR.gn cD; replace gO := gO.gn cD; clear cD he
 refine At.seq vU 1 [[]] [(16, .pointer (some ⟨eX.heap.size, 0, none⟩))] (eX.alloc (.cells ((List.replicate 4 (0 : Int) : List Int).map wV).toArray 44 (0, 0))) [] (by kernel_rfl) trivial (fun aCV zP oL vV => ?_)
 clear vU; have cE := gr_alloc oL; have := cE.size; replace aG := aG.gn cE; replace aC := aC.gn cE; replace aF := aF.gn cE; replace aR := aR.gn cE; replace aS := aS.gn cE; replace aT := aT.gn cE; replace aU := aU.gn cE; replace bF := bF.gn cE; replace bI := bI.gn cE; replace bJ := bJ.gn cE; replace bK := bK.gn cE; replace bR := bR.gn cE; replace gO := gO.gn cE
 have oM : Bx zP (eX.heap.size) ((List.replicate 4 (0 : Int) : List Int).map wV) 44 := Bx.new oL; have := oM.lt; clear cE oL
 refine At.act vV (storeBlk (t := 44) (b := eX.heap.size) (n := 4) (cs' := ((ofW lc : List Int).map wV)) (by kernel_rfl) (by kernel_rfl) ((List.length_map _).trans (okLen (ofW_ok _))) oneW_ ((show ((ofW lc : List Int).map wV).length = 4 from ((List.length_map _).trans (okLen (ofW_ok _)))).trans (show ((List.replicate 4 (0 : Int) : List Int).map wV).length = 4 from (by simp only [List.length_map, List.length_set, List.length_replicate, List.length_cons, List.length_nil]; first | done | assumption | exact from_len _ | exact of_len _ | exact ofZ_len _ | exact (ofW_ok _).1 | exact (fullW_W _).1 | exact (okW_with (by assumption)).1 | exact (okW_less (by assumption)).1 | exact put_len (from_len _) | exact orD_len _ _ | exact andD_len _ _ | exact minusD_len _ _ | exact fullD_len _ | (refine okLen ?_; (repeat (first | assumption | exact ofW_ok _ | exact fullW_W _ | apply okW_with | apply okW_less | refine okW_orS ?_ ?_ | refine okW_andS ?_ ?_ | refine okW_minusS ?_ ?_)); done) | omega | rfl)).symm) oM) ?_
 rintro d_ v_ aCW ⟨rfl, cF, vW⟩
 refine ⟨_, rfl, fun aCX vX => ?_⟩
 clear vV; have := cF.size; replace aG := aG.gr cF (fun k h => by injection h; omega); replace aC := aC.gb cF (by omega); replace aF := aF.gb cF (by omega); replace aR := aR.gb cF (by omega); replace aS := aS.gb cF (by omega); replace aT := aT.gb cF (by omega); replace aU := aU.gb cF (by omega); replace bF := bF.gb cF (by omega); replace bI := bI.gb cF (by omega); replace bJ := bJ.gb cF (by omega)
 replace bK := bK.gb cF (by omega); replace bR := bR.gb cF (by omega); replace gO := gO.gb cF (by omega); clear oM cF
 refine At.done rfl ?_
 refine t_n ?_
 clear bR
 have vY := vX.sub (r := [(16, .pointer (some ⟨eX.heap.size, 0, none⟩)), (15, .pointer (some ⟨eW.heap.size, 0, none⟩)), (6, .int .i64 (((g.ow.length : Nat) : Int))), (2, .bool false)]) ⟨rfl, rfl, rfl, rfl, trivial⟩
 clear vX
 refine wp_seq ?_
 refine wp_seq ?_
 refine At.start ?_
 refine At.rd vY 1 [[]] [(17, .int .i64 (0))] [] (by kernel_rfl) trivial (fun aCY vZ => ?_)
 clear vY
 refine At.done rfl ?_
 refine t_n ?_
 refine wp_block ?_
 have wA := vZ.sub (r := [(17, .int .i64 (0)), (16, .pointer (some ⟨eX.heap.size, 0, none⟩)), (15, .pointer (some ⟨eW.heap.size, 0, none⟩)), (6, .int .i64 (((g.ow.length : Nat) : Int)))]) ⟨rfl, rfl, rfl, rfl, trivial⟩
 refine loop_g (fun (m_ : Nat) a_ w_ => ∃ (k : Int), m_ = ((g.ow.length : Int) - k).toNat ∧ (Frm 125 a_ [(17, .int .i64 (k)), (16, .pointer (some ⟨eX.heap.size, 0, none⟩)), (15, .pointer (some ⟨eW.heap.size, 0, none⟩)), (6, .int .i64 (((g.ow.length : Nat) : Int)))]) ∧ (Ext w w_) ∧ (RdG w_ 0 w.heap.size Ag0 Ag1 Ag2 cg0 cg1 cg2 g) ∧ (RdT w_ 0 w.heap.size) ∧ (RdI w_ (dR.heap.size) bD.heap.size fK la) ∧ (RdI w_ (dR.heap.size) bD.heap.size iF lb) ∧ (RdI w_ (dR.heap.size) bD.heap.size iG ma) ∧ (RdI w_ (dR.heap.size) bD.heap.size iH mb) ∧ (RdI w_ (eE.heap.size) bE.heap.size fM lc) ∧ (RdI w_ (eE.heap.size) bE.heap.size iI ld) ∧ (RdI w_ (eE.heap.size) bE.heap.size iJ mc) ∧ (RdI w_ (eE.heap.size) bE.heap.size iK md) ∧ (Bx w_ (eW.heap.size) ((ofW la : List Int).map wV) 44) ∧ (Bx w_ (eX.heap.size) ((ofW lc : List Int).map wV) 44) ∧ (0 ≤ k) ∧ (k ≤ (g.ow.length : Int))) _ ⟨0, rfl, wA, aG, aC, aF, aR, aS, aT, aU, bF, bI, bJ, bK, gO, vW, (by omega), (by omega)⟩ ?_
 clear wA vZ; clear aC; clear aF; clear aR; clear aS; clear aT; clear aU; clear bF; clear bI; clear bJ; clear bK; clear gO; clear vW; clear aG
 intro m_ aCZ wB ⟨k, hm1381, wC, gB, hE, hF, hH, hI, hJ, hK, hL, hM, hN, hO, fN, fO, i1395, i1396⟩
 have := gB.size; have := fN.lt; have := fO.lt
 refine wp_seq ?_
 refine wp_seq ?_
 refine At.start ?_
 refine At.rd wC 3 [[], [], []] [(112, .bool (decide ((k : Int) < ((g.ow.length : Nat) : Int)))), (111, .int .i64 (((g.ow.length : Nat) : Int))), (110, .int .i64 (k))] [] (by kernel_rfl) trivial (fun aDa jF => ?_)
 clear wC
 refine At.done rfl ?_
 refine t_n ?_
 refine cond_S jF (t := decide ((k : Int) < ((g.ow.length : Nat) : Int))) rfl (fun oN => ?_) (fun oN => ?_)
 ·have aDb := of_decide_eq_true oN
  refine wp_skip ?_
  refine t_n ?_
  refine wp_seq ?_
  refine wp_block ?_
  refine wp_seq ?_
  obtain ⟨lE, oO⟩ : ∃ c : List (Addr × Value), c = ([] : List (Addr × Value)) ++ (blkC (eW.heap.size) ((ofW la : List Int).map wV) ++ blkC (eX.heap.size) ((ofW lc : List Int).map wV)) := ⟨_, rfl⟩
  have wD : HoldsC lE wB := by rw [oO]; exact (holdsA (show HoldsC [] wB from trivial) (holdsA (holds_blk fN) (holds_blk fO)))
  refine AtH.start lE 10 #[false, false, false, false, false, false, false, false, false, false] (by kernel_rfl) rfl rfl (fun aDc wE => ?_)
  have bS := gr_drew wE; have wF := wD.gr bS; have := bS.size; replace gB := gB.gn bS; replace hE := hE.gn bS; replace hF := hF.gn bS; replace hH := hH.gn bS; replace hI := hI.gn bS; replace hJ := hJ.gn bS; replace hK := hK.gn bS; replace hL := hL.gn bS; replace hM := hM.gn bS; replace hN := hN.gn bS; replace hO := hO.gn bS; replace fN := fN.gn bS; replace fO := fO.gn bS; clear bS wE wD
  refine AtH.rd (by kernel_rfl) (fun d v c a w h => by cases d <;> exact h) wF [0, 1, 3, 4, 5, 6, 7] [[.cs ((ofW la : List Int).map wV)], [], [.cs ((ofW lc : List Int).map wV)], [], [.as_ (.int .i64 (((g.ow.length : Nat) : Int) - 1))], [], [.as_ (.int .i64 ((((g.ow.length : Nat) : Int) - 1) - k))]] [(122, .int .i64 ((((g.ow.length : Nat) : Int) - 1) - k)), (121, .int .i64 (k)), (120, .int .i64 (((g.ow.length : Nat) : Int) - 1)), (119, .int .i64 (((g.ow.length : Nat) : Int))), (118, .agg ((ofW lc : List Int).map wV).toArray), (116, .int .i64 (k)), (115, .agg ((ofW la : List Int).map wV).toArray)] #[true, true, false, true, true, true, true, true, false, false] [(((ofW la : List Int).map wV).length = 4), (∀ (j : Nat) (v : Value), ((ofW la : List Int).map wV)[j]? = some v → ∃ j_ : Nat, lE[j_]? = some (((⟨eW.heap.size, 0, none⟩ : Addr).add j), v)), (((ofW lc : List Int).map wV).length = 4), (∀ (j : Nat) (v : Value), ((ofW lc : List Int).map wV)[j]? = some v → ∃ j_ : Nat, lE[j_]? = some (((⟨eX.heap.size, 0, none⟩ : Addr).add j), v)), ((.int .i64 (IntKind.i64.wrap (((g.ow.length : Nat) : Int) - 1)) : Value) = .int .i64 (((g.ow.length : Nat) : Int) - 1)), ((.int .i64 (IntKind.i64.wrap ((((g.ow.length : Nat) : Int) - 1) - k)) : Value) = .int .i64 ((((g.ow.length : Nat) : Int) - 1) - k))] 3 jF (by kernel_rfl) ⟨((List.length_map _).trans (okLen (ofW_ok _))), (fun j v hv => List.getElem?_of_mem (by rw [oO]; exact List.mem_append.2 (.inr (List.mem_append.2 (.inl (blkC_in hv)))))), ((List.length_map _).trans (okLen (ofW_ok _))), (fun j v hv => List.getElem?_of_mem (by rw [oO]; exact List.mem_append.2 (.inr (List.mem_append.2 (.inr (blkC_in hv)))))), (w64 (by omega) (by omega)), (w64 (by omega) (by omega)), trivial⟩ (fun aDd wG => ?_)
  clear jF
  refine AtH.all [2] 2 (by kernel_rfl) (by simp) ⟨?_, trivial⟩
  refine OneH.call wG 23 #[.agg ((ofW la : List Int).map wV).toArray, .int .i64 (k)] (some 117) #[true, true, true, true, true, true, true, true, false, false] (by kernel_rfl) (by kernel_rfl) (has_any (s := ofW la) (n := k) (ofW_ok _)) ?_
  rintro e_ aDe ⟨rfl, he⟩
  refine ⟨_, rfl, _, rfl, fun aDf wH => ?_⟩
  clear wG; have bT := gr_ext he; have wI := wF.gr bT; have := bT.size; replace gB := gB.gn bT; replace hE := hE.gn bT; replace hF := hF.gn bT; replace hH := hH.gn bT; replace hI := hI.gn bT; replace hJ := hJ.gn bT; replace hK := hK.gn bT; replace hL := hL.gn bT; replace hM := hM.gn bT; replace hN := hN.gn bT; replace hO := hO.gn bT; replace fN := fN.gn bT; replace fO := fO.gn bT; clear bT he
  refine ⟨wI, ?_⟩
  refine AtH.all [8] 1 (by kernel_rfl) (by simp) ⟨?_, trivial⟩
  refine OneH.call wH 23 #[.agg ((ofW lc : List Int).map wV).toArray, .int .i64 ((((g.ow.length : Nat) : Int) - 1) - k)] (some 123) #[true, true, true, true, true, true, true, true, true, false] (by kernel_rfl) (by kernel_rfl) (has_any (s := ofW lc) (n := (((g.ow.length : Nat) : Int) - 1) - k) (ofW_ok _)) ?_
  rintro e_ aDg ⟨rfl, he⟩
  refine ⟨_, rfl, _, rfl, fun aDh wJ => ?_⟩
  clear wH; have bU := gr_ext he; have oP := wI.gr bU; have := bU.size; replace gB := gB.gn bU; replace hE := hE.gn bU; replace hF := hF.gn bU; replace hH := hH.gn bU; replace hI := hI.gn bU; replace hJ := hJ.gn bU; replace hK := hK.gn bU; replace hL := hL.gn bU; replace hM := hM.gn bU; replace hN := hN.gn bU; replace hO := hO.gn bU; replace fN := fN.gn bU; replace fO := fO.gn bU; clear bU he
  refine ⟨oP, ?_⟩
  refine AtH.rd (by kernel_rfl) (fun d v c a w h => by cases d <;> exact h) oP [9] [[.as_ (.bool false)]] [(124, .bool false)] #[true, true, true, true, true, true, true, true, true, true] [((.bool (!((hasW (ofW la) k) == (hasW (ofW lc) ((((g.ow.length : Nat) : Int) - 1) - k)))) : Value) = .bool false)] 0 wJ (by kernel_rfl) ⟨(congrArg Value.bool (nbbx (moved_sol hR hMT hsA hsB k (by omega) (by omega)))), trivial⟩ (fun aDi oQ => ?_)
  clear wJ
  refine AtH.done (by kernel_rfl) ?_
  clear oP
  refine t_n ?_
  refine cond_F oQ rfl ?_
  refine wp_skip ?_
  refine b_n ?_
  refine t_n ?_
  refine At.start ?_
  refine At.rd oQ 3 [[], [.as_ (.int .i64 (k + 1))], []] [(17, .int .i64 (k + 1)), (114, .int .i64 (k + 1)), (113, .int .i64 (k))] [((.int .i64 (IntKind.i64.wrap (k + 1)) : Value) = .int .i64 (k + 1))] (by kernel_rfl) ⟨(w64 (by omega) (by omega)), trivial⟩ (fun aDj zQ => ?_)
  clear oQ
  refine At.done rfl ?_
  refine t_n ?_
  have zR := zQ.sub (r := [(17, .int .i64 (k + 1)), (16, .pointer (some ⟨eX.heap.size, 0, none⟩)), (15, .pointer (some ⟨eW.heap.size, 0, none⟩)), (6, .int .i64 (((g.ow.length : Nat) : Int)))]) ⟨rfl, rfl, rfl, rfl, trivial⟩
  exact ⟨_, (by omega), (k + 1), rfl, zR, gB, hE, hF, hH, hI, hJ, hK, hL, hM, hN, hO, fN, fO, (by omega), (by omega)⟩
 have aDk := of_decide_eq_false oN
 refine wp_exit ?_
 refine t_e ?_
 refine t_e ?_
 refine b_e ?_
 refine t_n ?_
 clear fN; clear fO
 refine wp_seq ?_
 refine At.start ?_
 refine At.rd jF 1 [[]] [(2, .bool true)] [] (by kernel_rfl) trivial (fun aDl zS => ?_)
 clear jF
 refine At.done rfl ?_
 refine t_n ?_
 refine wp_ret ?_
 refine ret_ zS [] [.bool true] [] (by kernel_rfl) trivial ?_
 exact ⟨rfl, gB⟩

end Go.Proofs.YtplpgfcjjnaigaaDoor
